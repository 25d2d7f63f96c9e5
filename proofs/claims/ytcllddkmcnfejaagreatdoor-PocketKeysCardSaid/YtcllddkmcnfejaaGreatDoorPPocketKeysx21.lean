-- written by this session's program wip/xp/xprint.py (it drives the kit's print and adds to it)
import Derived.Test.YtcllddkmcnfejaaGreatDoorPPocketKeysx0
import Derived.Test.YtcllddkmcnfejaaGreatDoorPPocketKeysx7
import Derived.Test.YtcllddkmcnfejaaGreatDoorPPocketKeysx12
import Derived.Test.YtcllddkmcnfejaaGreatDoorPPocketKeysx13
import Derived.Test.YtcllddkmcnfejaaGreatDoorPPocketKeysx14
import Derived.Test.YtcllddkmcnfejaaGreatDoorPPocketKeysx19
import Derived.Test.YtcllddkmcnfejaaGreatDoorPPocketKeysx20
namespace Go.Proofs.YtcllddkmcnfejaaGreatDoor.PPocketKeys
open Go.RowKit Go.Proofs.YtcllddkmcnfejaaGreatDoorW.PrintWords Go.Proofs.YtcllddkmcnfejaaGreatDoorW.PrintLast Go.Proofs.YtcllddkmcnfejaaGreatDoorW.PrintMore
attribute [local go_sem] max2_int min2_int max_two min_two max_three min_three max_four min_four
set_option linter.unusedVariables false
set_option linter.unusedSimpArgs false

/-! ### vendmeterref_TakenBy: function 51 -/
def vendmeterref_TakenBy.f (k : Nat) (a0_0 : Int) (a0_1 : Int) (a1 : Int) : Option (Int × Int × Int) := (vendmeterref_Judged.f k a0_0 a0_1 a1).bind fun t393 => (if t393 = 0 then (if a1 > a0_0 then ((vendmeterref_members.f k a0_0 a0_1).bind fun t394 => (if t394.length < 17592186044416 then ((vendmeterref_windowOf.f k a1 (t394 ++ [a1])).bind fun bt400 => (some (bt400.1, bt400.2, 0))) else (none))) else ((vendmeterref_members.f k a0_0 a0_1).bind fun t402 => (if t402.length < 17592186044416 then ((vendmeterref_windowOf.f k a0_0 (t402 ++ [a1])).bind fun bt408 => (some (bt408.1, bt408.2, 0))) else (none)))) else (some (0, 0, t393)))
theorem vendmeterref_TakenBy.mono : ∀ a0 a1 a2 k, LeO (vendmeterref_TakenBy.f k a0 a1 a2) (vendmeterref_TakenBy.f (k + 1) a0 a1 a2) := by
 intro a0 a1 a2 k
 unfold vendmeterref_TakenBy.f
 repeat' first
   | (with_reducible exact vendmeterref_Judged.mono _ _ _ _)
   | (with_reducible exact vendmeterref_members.mono _ _ _)
   | (with_reducible exact vendmeterref_windowOf.mono _ _ _)
   | (with_reducible exact LeO.refl _)
   | (with_reducible exact LeO.none _)
   | (with_reducible refine LeO.ite ?_ ?_)
   | (with_reducible refine LeO.bind ?_ (fun _ => ?_))
set_option maxHeartbeats 8000000 in
set_option maxRecDepth 100000 in
theorem vendmeterref_TakenBy.calls (k : Nat) (a0_0 : Int) (a0_1 : Int) (a1 : Int) (r1 : Int) (r2 : Int) (r3 : Int) (w : World) (h : vendmeterref_TakenBy.f k a0_0 a0_1 a1 = some (r1, r2, r3)) :
  Calls Tryz.prog 51 #[.agg #[.int .i64 a0_0, .int .u64 a0_1], .int .i64 a1] w fun e w' => e = .returned (.tuple #[.agg #[.int .i64 r1, .int .u64 r2], .int .i64 r3]) ∧ Below w.heap.size w w' := by
 have hu38 := Tryz.underlying38
 have HB := am (Below.refl w.heap.size w)
 have H : ((vendmeterref_Judged.f k a0_0 a0_1 a1).bind fun t393 => (if t393 = 0 then (if a1 > a0_0 then ((vendmeterref_members.f k a0_0 a0_1).bind fun t394 => (if t394.length < 17592186044416 then ((vendmeterref_windowOf.f k a1 (t394 ++ [a1])).bind fun bt400 => (some (bt400.1, bt400.2, 0))) else (none))) else ((vendmeterref_members.f k a0_0 a0_1).bind fun t402 => (if t402.length < 17592186044416 then ((vendmeterref_windowOf.f k a0_0 (t402 ++ [a1])).bind fun bt408 => (some (bt408.1, bt408.2, 0))) else (none)))) else (some (0, 0, t393)))) = some (r1, r2, r3) := h
 clear h
 replace H := Option.bind_eq_some_iff.mp H
 obtain ⟨t393, A30, H⟩ := H
 (try dsimp only at H)
 have A3 := am A30
 clear A30
 have HC4 := am H
 clear H
 go_enter Tryz.func51, Tryz.ntmps51
 go_upto_region 2 with (first | ((with_reducible refine gate_dst (N := 2) rfl ?_); refine czbox 2 #[.int .i64 a0_0, .int .u64 a0_1] 38 ?_; intro gb391 hg w5 hbox hb; have BK391 := am (hbox); have GW391 := czsz hg (czbl HB); have GE391 := czsz hg (czbl HB); replace HB := am (below_step (czbl HB) hb); clear hb hbox hg) | ((with_reducible refine gate_dst (N := 4) rfl ?_); refine czbox 4 #[.int .i64 0, .int .u64 0] 38 ?_; intro gb392 hg w6 hbox hb; have BK392 := am (hbox); have GW392 := czsz hg (czbl1 HB GE391); have GE392 := czsz hg (czbl1 HB GE391); have NB391_392 := czne BK391 hg; have NB392_391 := czen BK391 hg; replace BK391 := czbb BK391 hb; replace HB := am (below_step (czbl1 HB GE391) hb); clear hb hbox hg; have hnb7 := NB391_392.1; have hnc7 := NB392_391.1; obtain ⟨hcz8_0, hcz8_1⟩ := czc2 BK391.1; obtain ⟨hfz8_0, hfz8_1⟩ := czf2 BK391.1) | ((with_reducible refine gate_callee (f := 86) rfl ?_); refine czgo (some 11) Tryz.func86 #[.agg #[.int .i64 a0_0, .int .u64 a0_1], .int .i64 a1] ?_; (with_reducible refine (vendmeterref_Judged.calls k a0_0 a0_1 a1 t393 _ A3.out).mono ?_); rintro e w9 ⟨rfl, hb⟩; refine ⟨_, rfl, ?_⟩; replace BK391 := czbb BK391 hb; replace BK392 := czbb BK392 hb; replace HB := am (below_step (czbl2 HB GE391 GE392) hb); (try clear hb hb2 hk hi)))
 have H := HC4.out
 clear HC4
 revert H
 refine czei (fun c10b0 c10b1 H => ?_) (fun c10 c10b0 c10b1 H => ?_)
 ·
  by_cases c11 : a1 > a0_0
  ·
   rw [if_pos c11] at H
   have c11b0 : decide (a0_0 < a1) = true := decide_eq_true c11
   clear c11
   replace H := Option.bind_eq_some_iff.mp H
   obtain ⟨t394, A120, H⟩ := H
   (try dsimp only at H)
   have A12 := am A120
   clear A120
   by_cases c13 : t394.length < 17592186044416
   ·
    rw [if_pos c13] at H
    have LMc13 := am c13
    clear c13
    obtain ⟨y397, hy397⟩ : ∃ y_ : List Int, y_ = (t394 ++ [a1]) := ⟨_, rfl⟩
    replace H : ((vendmeterref_windowOf.f k a1 y397).bind fun bt400 => (some (bt400.1, bt400.2, 0))) = some (r1, r2, r3) := by first | (rw [hy397]; with_reducible exact H) | (have H2_ := (Option.bind_some _ _).symm.trans H; rw [hy397]; with_reducible exact H2_) | (have H2_ := (Option.bind_some _ _).symm.trans H; with_reducible exact H2_) | with_reducible exact H | (rw [hy397]; exact H) | exact H
    have Ny397 := am hy397
    clear hy397
    replace H := Option.bind_eq_some_iff.mp H
    obtain ⟨⟨t400, t401⟩, A140, H⟩ := H
    (try dsimp only at H)
    have A14 := am A140
    clear A140
    simp only [Option.some.injEq, Prod.mk.injEq] at H
    obtain ⟨rfl, rfl, rfl⟩ := H
    have hnb15 := NB391_392.1
    have hnc15 := NB392_391.1
    obtain ⟨hcz16_0, hcz16_1⟩ := czc2 BK391.1
    obtain ⟨hfz16_0, hfz16_1⟩ := czf2 BK391.1
    go_wp2_with (first | ((with_reducible refine gate_callee (f := 87) rfl ?_); refine czgo (some 23) Tryz.func87 #[.agg #[.int .i64 a0_0, .int .u64 a0_1]] ?_; (with_reducible refine (vendmeterref_members.calls k a0_0 a0_1 t394 _ A12.out).mono ?_); rintro e w17 ⟨v395, rfl, ho0, hb⟩; refine ⟨_, rfl, ?_⟩; have HO396 := am (Kd.R_lower ho0 (below_size (czbl2 HB GE391 GE392))); replace BK391 := czbb BK391 hb; replace BK392 := czbb BK392 hb; replace HB := am (below_step (czbl2 HB GE391 GE392) hb); (try clear hb hb2 hk hi ho0)) | ((with_reducible refine gate_builtin (b := .append) (xs := #[.tmp 23, .tmp 25]) rfl ?_); at_builtin; refine Kd.R_append (Kd.int .i64) (w0 := w) w.heap.size rfl (.tmp 23) (.tmp 25) 113 3 (.int .i64 0) 8 rfl Tryz.underlying113 info3 rfl (by decide) (by omega) v395 t394 a1 [.int .i64 a1] (fun _ => True) (fun _ => False) rfl rfl ?aP (fun _ hk => hk.elim) ?aF ?aO ?aB ?aS ?aL ?_; (case aP => exact rfl); (case aB => exact (czbl2 HB GE391 GE392)); (case aF => exact (fun _ _ => trivial)); (case aO => exact (czR HO396)); (case aS => exact (below_size (czbl2 HB GE391 GE392))); (case aL => have := LMc13.out; omega); intro v398 w18 ho hb hg hat; rw [← Ny397.out] at ho; have HO399 := am (ho); replace BK391 := am (blk_grown (g := gb391) (o := .cells #[.int .i64 a0_0, .int .u64 a0_1] 38 (0, 0)) (czbk BK391) hg (Kd.R_ne HO396.1 BK391.1 (by decide))); replace BK392 := am (blk_grown (g := gb392) (o := .cells #[.int .i64 0, .int .u64 0] 38 (0, 0)) (czbk BK392) hg (Kd.R_ne HO396.1 BK392.1 (by decide))); replace HB := am (hb); clear HO396; clear ho hb hg hat; obtain ⟨Ao19, co19, eo19⟩ := Kd.R_slice HO399.1; subst eo19) | ((with_reducible refine gate_callee (f := 88) rfl ?_); refine czgo (some 29) Tryz.func88 #[.int .i64 a1, .slice Ao19 y397.length co19] ?_; (with_reducible refine (vendmeterref_windowOf.calls k a1 _ _ y397 t400 t401 _ (czC HO399) ?side2 A14.out).mono ?_); (case side2 => exact (Kd.R_reads' HO399.1).2.1); rintro e w20 ⟨rfl, hb⟩; refine ⟨_, rfl, ?_⟩; replace HO399 := am (Kd.R_below (czR HO399) hb); replace BK391 := czbb BK391 hb; replace BK392 := czbb BK392 hb; replace HB := am (below_step (czbl2 HB GE391 GE392) hb); (try clear hb hb2 hk hi); obtain ⟨hcz21_0, hcz21_1⟩ := czc2 BK392.1; obtain ⟨hfz21_0, hfz21_1⟩ := czf2 BK392.1))
    refine bodyPost_ret (results_ct rfl _ _ gb392 38 #[.int .i64 t400, .int .u64 t401] (0, 0) _ rfl (by (with_reducible repeat (first | apply czxn | apply czxd | apply czxa)); refine blk_put (cs := #[.int .i64 t400, .int .u64 0]) ?_ 1 _ rfl; (with_reducible repeat (first | apply czxn | apply czxd | apply czxa)); refine blk_put (cs := #[.int .i64 0, .int .u64 0]) ?_ 0 _ rfl; (with_reducible repeat (first | apply czxn | apply czxd | apply czxa)); exact BK392.1) Tryz.underlying38 rfl (by kernel_rfl)) rfl ?_
    exact ⟨czeq, czbl2 HB GE391 GE392⟩
   ·
    rw [if_neg c13] at H
    exact absurd H (by simp)
  ·
   rw [if_neg c11] at H
   have c11b0 : decide (a0_0 < a1) = false := decide_eq_false c11
   clear c11
   replace H := Option.bind_eq_some_iff.mp H
   obtain ⟨t402, A220, H⟩ := H
   (try dsimp only at H)
   have A22 := am A220
   clear A220
   by_cases c23 : t402.length < 17592186044416
   ·
    rw [if_pos c23] at H
    have LMc23 := am c23
    clear c23
    obtain ⟨y405, hy405⟩ : ∃ y_ : List Int, y_ = (t402 ++ [a1]) := ⟨_, rfl⟩
    replace H : ((vendmeterref_windowOf.f k a0_0 y405).bind fun bt408 => (some (bt408.1, bt408.2, 0))) = some (r1, r2, r3) := by first | (rw [hy405]; with_reducible exact H) | (have H2_ := (Option.bind_some _ _).symm.trans H; rw [hy405]; with_reducible exact H2_) | (have H2_ := (Option.bind_some _ _).symm.trans H; with_reducible exact H2_) | with_reducible exact H | (rw [hy405]; exact H) | exact H
    have Ny405 := am hy405
    clear hy405
    replace H := Option.bind_eq_some_iff.mp H
    obtain ⟨⟨t408, t409⟩, A240, H⟩ := H
    (try dsimp only at H)
    have A24 := am A240
    clear A240
    simp only [Option.some.injEq, Prod.mk.injEq] at H
    obtain ⟨rfl, rfl, rfl⟩ := H
    have hnb25 := NB391_392.1
    have hnc25 := NB392_391.1
    obtain ⟨hcz26_0, hcz26_1⟩ := czc2 BK391.1
    obtain ⟨hfz26_0, hfz26_1⟩ := czf2 BK391.1
    go_wp2_with (first | ((with_reducible refine gate_callee (f := 87) rfl ?_); refine czgo (some 23) Tryz.func87 #[.agg #[.int .i64 a0_0, .int .u64 a0_1]] ?_; (with_reducible refine (vendmeterref_members.calls k a0_0 a0_1 t402 _ A22.out).mono ?_); rintro e w27 ⟨v403, rfl, ho0, hb⟩; refine ⟨_, rfl, ?_⟩; have HO404 := am (Kd.R_lower ho0 (below_size (czbl2 HB GE391 GE392))); replace BK391 := czbb BK391 hb; replace BK392 := czbb BK392 hb; replace HB := am (below_step (czbl2 HB GE391 GE392) hb); (try clear hb hb2 hk hi ho0)) | ((with_reducible refine gate_builtin (b := .append) (xs := #[.tmp 23, .tmp 25]) rfl ?_); at_builtin; refine Kd.R_append (Kd.int .i64) (w0 := w) w.heap.size rfl (.tmp 23) (.tmp 25) 113 3 (.int .i64 0) 8 rfl Tryz.underlying113 info3 rfl (by decide) (by omega) v403 t402 a1 [.int .i64 a1] (fun _ => True) (fun _ => False) rfl rfl ?aP (fun _ hk => hk.elim) ?aF ?aO ?aB ?aS ?aL ?_; (case aP => exact rfl); (case aB => exact (czbl2 HB GE391 GE392)); (case aF => exact (fun _ _ => trivial)); (case aO => exact (czR HO404)); (case aS => exact (below_size (czbl2 HB GE391 GE392))); (case aL => have := LMc23.out; omega); intro v406 w28 ho hb hg hat; rw [← Ny405.out] at ho; have HO407 := am (ho); replace BK391 := am (blk_grown (g := gb391) (o := .cells #[.int .i64 a0_0, .int .u64 a0_1] 38 (0, 0)) (czbk BK391) hg (Kd.R_ne HO404.1 BK391.1 (by decide))); replace BK392 := am (blk_grown (g := gb392) (o := .cells #[.int .i64 0, .int .u64 0] 38 (0, 0)) (czbk BK392) hg (Kd.R_ne HO404.1 BK392.1 (by decide))); replace HB := am (hb); clear HO404; clear ho hb hg hat; obtain ⟨Ao29, co29, eo29⟩ := Kd.R_slice HO407.1; subst eo29) | ((with_reducible refine gate_callee (f := 88) rfl ?_); refine czgo (some 29) Tryz.func88 #[.int .i64 a0_0, .slice Ao29 y405.length co29] ?_; (with_reducible refine (vendmeterref_windowOf.calls k a0_0 _ _ y405 t408 t409 _ (czC HO407) ?side2 A24.out).mono ?_); (case side2 => exact (Kd.R_reads' HO407.1).2.1); rintro e w30 ⟨rfl, hb⟩; refine ⟨_, rfl, ?_⟩; replace HO407 := am (Kd.R_below (czR HO407) hb); replace BK391 := czbb BK391 hb; replace BK392 := czbb BK392 hb; replace HB := am (below_step (czbl2 HB GE391 GE392) hb); (try clear hb hb2 hk hi); obtain ⟨hcz31_0, hcz31_1⟩ := czc2 BK392.1; obtain ⟨hfz31_0, hfz31_1⟩ := czf2 BK392.1))
    refine bodyPost_ret (results_ct rfl _ _ gb392 38 #[.int .i64 t408, .int .u64 t409] (0, 0) _ rfl (by (with_reducible repeat (first | apply czxn | apply czxd | apply czxa)); refine blk_put (cs := #[.int .i64 t408, .int .u64 0]) ?_ 1 _ rfl; (with_reducible repeat (first | apply czxn | apply czxd | apply czxa)); refine blk_put (cs := #[.int .i64 0, .int .u64 0]) ?_ 0 _ rfl; (with_reducible repeat (first | apply czxn | apply czxd | apply czxa)); exact BK392.1) Tryz.underlying38 rfl (by kernel_rfl)) rfl ?_
    exact ⟨czeq, czbl2 HB GE391 GE392⟩
   ·
    rw [if_neg c23] at H
    exact absurd H (by simp)
 ·
  simp only [Option.some.injEq, Prod.mk.injEq] at H
  obtain ⟨rfl, rfl, rfl⟩ := H
  have hnb32 := NB392_391.1
  have hnc32 := NB391_392.1
  obtain ⟨hcz33_0, hcz33_1⟩ := czc2 BK392.1
  obtain ⟨hfz33_0, hfz33_1⟩ := czf2 BK392.1
  go_wp2
  refine bodyPost_ret (results_ct rfl _ _ gb392 38 #[.int .i64 0, .int .u64 0] (0, 0) _ rfl (by (with_reducible repeat (first | apply czxn | apply czxd | apply czxa)); refine blk_put (cs := #[.int .i64 0, .int .u64 0]) ?_ 1 _ rfl; (with_reducible repeat (first | apply czxn | apply czxd | apply czxa)); refine blk_put (cs := #[.int .i64 0, .int .u64 0]) ?_ 0 _ rfl; (with_reducible repeat (first | apply czxn | apply czxd | apply czxa)); exact BK392.1) Tryz.underlying38 rfl (by kernel_rfl)) rfl ?_
  exact ⟨czeq, czbl2 HB GE391 GE392⟩

/-! ### vendmeterref_MeterKeyed: by hand -/
def vendmeterref_MeterKeyed.fin (me rev cr H b bad lock cls amt w1 w2 e : Int) : Int × Int × Int × Int × Int × Int × Int × Int × Int :=
 if e = 0 then (if cls = 0 then (if amt > wrap64 (99999999 - cr) then (me, rev, cr, H, b, bad, lock, 0, 15) else (me, rev, wrap64 (cr + amt), w1, w2, 0, lock, amt, 0)) else if cls = 2 then (if amt ≤ rev then (me, rev, cr, H, b, bad, lock, 0, 24) else (me, amt, cr, w1, w2, 0, lock, 0, 0)) else if cls = 1 then (me, rev, 0, w1, w2, 0, lock, 0, 0) else (me, rev, cr, w1, w2, 0, lock, 0, 0)) else (me, rev, cr, H, b, bad, lock, 0, e)
def vendmeterref_MeterKeyed.f (k : Nat) (me rev cr H b bad lock : Int) (l : List S55) (cls id amt tag : Int) : Option (Int × Int × Int × Int × Int × Int × Int × Int × Int) :=
 (vendmeterref_MeterMay.f k me rev cr H b bad lock).bind fun m => if m = true then ((vendmeterref_OracleMay.f k l).bind fun v => if v = true then ((vendmeterref_BodyOf.f k cls id amt tag).bind fun bd => if bd.2 = 0 then (if lock > 0 then some (me, rev, cr, H, b, bad, lock, 0, 10) else if cls = 3 then some (me, rev, cr, H, b, bad, lock, 0, 0) else ((vendmeterref_sellKey.f k me rev cr H b bad lock l bd.1 tag).bind fun s => if s = 1 then some (me, rev, cr, H, b, bad, lock, 0, 11) else if s = 2 then (if wrap64 (bad + 1) ≥ 5 then some (me, rev, cr, H, b, 0, 30, 0, 12) else some (me, rev, cr, H, b, wrap64 (bad + 1), lock, 0, 12)) else ((vendmeterref_TakenBy.f k H b id).bind fun t => some (vendmeterref_MeterKeyed.fin me rev cr H b bad lock cls amt t.1 t.2.1 t.2.2)))) else some (me, rev, cr, H, b, bad, lock, 0, bd.2)) else some (0, 0, 0, 0, 0, 0, 0, 0, 5)) else some (0, 0, 0, 0, 0, 0, 0, 0, 5)
theorem vendmeterref_MeterKeyed.mono : ∀ a0 a1 a2 a3 a4 a5 a6 a7 a8 a9 a10 a11 k, LeO (vendmeterref_MeterKeyed.f k a0 a1 a2 a3 a4 a5 a6 a7 a8 a9 a10 a11) (vendmeterref_MeterKeyed.f (k + 1) a0 a1 a2 a3 a4 a5 a6 a7 a8 a9 a10 a11) := by
 intro a0 a1 a2 a3 a4 a5 a6 a7 a8 a9 a10 a11 k
 unfold vendmeterref_MeterKeyed.f
 exact LeO.bind (vendmeterref_MeterMay.mono _ _ _ _ _ _ _ _) (fun _ => LeO.ite (LeO.bind (vendmeterref_OracleMay.mono _ _) (fun _ => LeO.ite (LeO.bind (vendmeterref_BodyOf.mono _ _ _ _ _) (fun _ => LeO.ite (LeO.ite (LeO.refl _) (LeO.ite (LeO.refl _) (LeO.bind (vendmeterref_sellKey.mono _ _ _ _ _ _ _ _ _ _ _) (fun _ => LeO.ite (LeO.refl _) (LeO.ite (LeO.refl _) (LeO.bind (vendmeterref_TakenBy.mono _ _ _ _) (fun _ => LeO.refl _))))))) (LeO.refl _))) (LeO.refl _))) (LeO.refl _))
set_option maxHeartbeats 16000000 in
set_option maxRecDepth 100000 in
theorem vendmeterref_MeterKeyed.calls (k : Nat) (me rev cr H b bad lock : Int) (A : Option Addr) (c : Nat) (l : List S55) (cls id amt tag : Int) (r1 r2 r3 r4 r5 r6 r7 r8 r9 : Int) (w : World) (hr0 : Kd.C k55 w A l.length l) (hc0 : l.length ≤ c) (h : vendmeterref_MeterKeyed.f k me rev cr H b bad lock l cls id amt tag = some (r1, r2, r3, r4, r5, r6, r7, r8, r9)) :
  Calls Tryz.prog 18 #[.agg #[.int .i64 me, .int .i64 rev, .int .i64 cr, .int .i64 H, .int .u64 b, .int .i64 bad, .int .i64 lock], .agg #[.slice A l.length c], .agg #[.int .i64 cls, .int .i64 id, .int .i64 amt, .int .i64 tag]] w fun e w' => e = .returned (.tuple #[.agg #[.int .i64 r1, .int .i64 r2, .int .i64 r3, .int .i64 r4, .int .u64 r5, .int .i64 r6, .int .i64 r7], .int .i64 r8, .int .i64 r9]) ∧ Below w.heap.size w w' := by
 have HR0 := am hr0
 have HC0 := am hc0
 have HB := am (Below.refl w.heap.size w)
 have hu40 := Tryz.underlying40
 have hu38 := Tryz.underlying38
 have hu43 := Tryz.underlying25
 have hu45 := Tryz.underlying44
 clear hr0 hc0
 unfold vendmeterref_MeterKeyed.f at h
 replace h := Option.bind_eq_some_iff.mp h
 obtain ⟨m, hm, h⟩ := h
 have HM := am hm
 clear hm
 by_cases c0 : m = true
 case neg =>
  rw [if_neg c0] at h
  simp only [Option.some.injEq, Prod.mk.injEq] at h
  obtain ⟨rfl, rfl, rfl, rfl, rfl, rfl, rfl, rfl, rfl⟩ := h
  replace c0 := Bool.eq_false_iff.mpr c0
  subst c0
  go_enter Tryz.func18, Tryz.ntmps18
  go_wp2_with (first | ((with_reducible refine gate_dst (N := 3) rfl ?_); refine czbox 3 #[.int .i64 me, .int .i64 rev, .int .i64 cr, .int .i64 H, .int .u64 b, .int .i64 bad, .int .i64 lock] 40 ?_; intro g1 hgq W1 hbox hb; have Gg1 := am (by rw [hgq]; exact below_size HB.1 : w.heap.size ≤ g1); replace HB := am (below_step HB.1 hb); have Bg1 := am hbox; clear hb hbox hgq; skip) | ((with_reducible refine gate_dst (N := 4) rfl ?_); refine czbox 4 #[.slice A l.length c] 25 ?_; intro g2 hgq W2 hbox hb; have Ng1g2 := am (by rw [hgq]; exact Nat.ne_of_lt (blk_lt Bg1.1) : g1 ≠ g2); have Gg2 := am (by rw [hgq]; exact below_size HB.1 : w.heap.size ≤ g2); replace Bg1 := am (blk_below Bg1.1 hb); replace HB := am (below_step HB.1 hb); have Bg2 := am hbox; clear hb hbox hgq; skip) | ((with_reducible refine gate_dst (N := 5) rfl ?_); refine czbox 5 #[.int .i64 cls, .int .i64 id, .int .i64 amt, .int .i64 tag] 44 ?_; intro g3 hgq W3 hbox hb; have Ng1g3 := am (by rw [hgq]; exact Nat.ne_of_lt (blk_lt Bg1.1) : g1 ≠ g3); have Ng2g3 := am (by rw [hgq]; exact Nat.ne_of_lt (blk_lt Bg2.1) : g2 ≠ g3); have Gg3 := am (by rw [hgq]; exact below_size HB.1 : w.heap.size ≤ g3); replace Bg1 := am (blk_below Bg1.1 hb); replace Bg2 := am (blk_below Bg2.1 hb); replace HB := am (below_step HB.1 hb); have Bg3 := am hbox; clear hb hbox hgq; skip) | ((with_reducible refine gate_dst (N := 6) rfl ?_); refine czbox 6 #[.int .i64 0, .int .i64 0, .int .i64 0, .int .i64 0, .int .u64 0, .int .i64 0, .int .i64 0] 40 ?_; intro g4 hgq W4 hbox hb; have Ng1g4 := am (by rw [hgq]; exact Nat.ne_of_lt (blk_lt Bg1.1) : g1 ≠ g4); have Ng2g4 := am (by rw [hgq]; exact Nat.ne_of_lt (blk_lt Bg2.1) : g2 ≠ g4); have Ng3g4 := am (by rw [hgq]; exact Nat.ne_of_lt (blk_lt Bg3.1) : g3 ≠ g4); have Gg4 := am (by rw [hgq]; exact below_size HB.1 : w.heap.size ≤ g4); replace Bg1 := am (blk_below Bg1.1 hb); replace Bg2 := am (blk_below Bg2.1 hb); replace Bg3 := am (blk_below Bg3.1 hb); replace HB := am (below_step HB.1 hb); have Bg4 := am hbox; clear hb hbox hgq; have xg10 : W4.cell? ⟨g1, 0, none⟩ = some (.int .i64 me) := (blk_cell Bg1.1 0).trans rfl; have xg11 : W4.cell? ⟨g1, 1, none⟩ = some (.int .i64 rev) := (blk_cell Bg1.1 1).trans rfl; have xg12 : W4.cell? ⟨g1, 2, none⟩ = some (.int .i64 cr) := (blk_cell Bg1.1 2).trans rfl; have xg13 : W4.cell? ⟨g1, 3, none⟩ = some (.int .i64 H) := (blk_cell Bg1.1 3).trans rfl; have xg14 : W4.cell? ⟨g1, 4, none⟩ = some (.int .u64 b) := (blk_cell Bg1.1 4).trans rfl; have xg15 : W4.cell? ⟨g1, 5, none⟩ = some (.int .i64 bad) := (blk_cell Bg1.1 5).trans rfl; have xg16 : W4.cell? ⟨g1, 6, none⟩ = some (.int .i64 lock) := (blk_cell Bg1.1 6).trans rfl; skip) | (go_at_call 48; refine (vendmeterref_MeterMay.calls k me rev cr H b bad lock false _ HM.1).mono ?_; rintro en wa ⟨rfl, hb1⟩; clear xg10 xg11 xg12 xg13 xg14 xg15 xg16; replace Bg1 := am (blk_below Bg1.1 hb1); replace Bg2 := am (blk_below Bg2.1 hb1); replace Bg3 := am (blk_below Bg3.1 hb1); replace Bg4 := am (blk_below Bg4.1 hb1); replace HB := am (below_step HB.1 hb1); have xg20 : wa.cell? ⟨g2, 0, none⟩ = some (.slice A l.length c) := (blk_cell Bg2.1 0).trans rfl; clear hb1) | ((with_reducible refine gate_store (t := 40) (p := 6) rfl ?_); refine seg.list rfl rfl 40 (.tmp 6) _ rfl 40 g4 0 #[.int .i64 0, .int .i64 0, .int .i64 0, .int .i64 0, .int .u64 0, .int .i64 0, .int .i64 0] #[.int .i64 0, .int .i64 0, .int .i64 0, .int .i64 0, .int .u64 0, .int .i64 0, .int .i64 0] [.int .i64 0, .int .i64 0, .int .i64 0, .int .i64 0, .int .u64 0, .int .i64 0, .int .i64 0] rfl rfl (by kernel_rfl) (by simp [Value.oneCell']) Bg4.1 (by simp) rfl ?_; intro W5 bx hgr; clear xg20; replace Bg1 := am (seg.far Bg1.1 hgr Ng1g4.1); replace Bg2 := am (seg.far Bg2.1 hgr Ng2g4.1); replace Bg3 := am (seg.far Bg3.1 hgr Ng3g4.1); replace HB := am (seg.below HB.1 hgr Gg4.1); replace Bg4 := am bx; clear bx hgr; skip))
  refine bodyPost_ret (results_list (rs := [.cell 6 40, .tmp 7, .tmp 8]) rfl (by simp) (.cell g4 40 #[.int .i64 0, .int .i64 0, .int .i64 0, .int .i64 0, .int .u64 0, .int .i64 0, .int .i64 0] (0, 0) _ rfl Bg4.1 Tryz.underlying40 rfl (by kernel_rfl) (.tmp (.tmp .nil)))) rfl ?_
  exact ⟨rfl, HB.1⟩
 rw [if_pos c0] at h
 subst c0
 replace h := Option.bind_eq_some_iff.mp h
 obtain ⟨v, hv, h⟩ := h
 have HV := am hv
 clear hv
 by_cases c1 : v = true
 case neg =>
  rw [if_neg c1] at h
  simp only [Option.some.injEq, Prod.mk.injEq] at h
  obtain ⟨rfl, rfl, rfl, rfl, rfl, rfl, rfl, rfl, rfl⟩ := h
  replace c1 := Bool.eq_false_iff.mpr c1
  subst c1
  go_enter Tryz.func18, Tryz.ntmps18
  go_wp2_with (first | ((with_reducible refine gate_dst (N := 3) rfl ?_); refine czbox 3 #[.int .i64 me, .int .i64 rev, .int .i64 cr, .int .i64 H, .int .u64 b, .int .i64 bad, .int .i64 lock] 40 ?_; intro g1 hgq W1 hbox hb; have Gg1 := am (by rw [hgq]; exact below_size HB.1 : w.heap.size ≤ g1); replace HB := am (below_step HB.1 hb); have Bg1 := am hbox; clear hb hbox hgq; skip) | ((with_reducible refine gate_dst (N := 4) rfl ?_); refine czbox 4 #[.slice A l.length c] 25 ?_; intro g2 hgq W2 hbox hb; have Ng1g2 := am (by rw [hgq]; exact Nat.ne_of_lt (blk_lt Bg1.1) : g1 ≠ g2); have Gg2 := am (by rw [hgq]; exact below_size HB.1 : w.heap.size ≤ g2); replace Bg1 := am (blk_below Bg1.1 hb); replace HB := am (below_step HB.1 hb); have Bg2 := am hbox; clear hb hbox hgq; skip) | ((with_reducible refine gate_dst (N := 5) rfl ?_); refine czbox 5 #[.int .i64 cls, .int .i64 id, .int .i64 amt, .int .i64 tag] 44 ?_; intro g3 hgq W3 hbox hb; have Ng1g3 := am (by rw [hgq]; exact Nat.ne_of_lt (blk_lt Bg1.1) : g1 ≠ g3); have Ng2g3 := am (by rw [hgq]; exact Nat.ne_of_lt (blk_lt Bg2.1) : g2 ≠ g3); have Gg3 := am (by rw [hgq]; exact below_size HB.1 : w.heap.size ≤ g3); replace Bg1 := am (blk_below Bg1.1 hb); replace Bg2 := am (blk_below Bg2.1 hb); replace HB := am (below_step HB.1 hb); have Bg3 := am hbox; clear hb hbox hgq; skip) | ((with_reducible refine gate_dst (N := 6) rfl ?_); refine czbox 6 #[.int .i64 0, .int .i64 0, .int .i64 0, .int .i64 0, .int .u64 0, .int .i64 0, .int .i64 0] 40 ?_; intro g4 hgq W4 hbox hb; have Ng1g4 := am (by rw [hgq]; exact Nat.ne_of_lt (blk_lt Bg1.1) : g1 ≠ g4); have Ng2g4 := am (by rw [hgq]; exact Nat.ne_of_lt (blk_lt Bg2.1) : g2 ≠ g4); have Ng3g4 := am (by rw [hgq]; exact Nat.ne_of_lt (blk_lt Bg3.1) : g3 ≠ g4); have Gg4 := am (by rw [hgq]; exact below_size HB.1 : w.heap.size ≤ g4); replace Bg1 := am (blk_below Bg1.1 hb); replace Bg2 := am (blk_below Bg2.1 hb); replace Bg3 := am (blk_below Bg3.1 hb); replace HB := am (below_step HB.1 hb); have Bg4 := am hbox; clear hb hbox hgq; have xg10 : W4.cell? ⟨g1, 0, none⟩ = some (.int .i64 me) := (blk_cell Bg1.1 0).trans rfl; have xg11 : W4.cell? ⟨g1, 1, none⟩ = some (.int .i64 rev) := (blk_cell Bg1.1 1).trans rfl; have xg12 : W4.cell? ⟨g1, 2, none⟩ = some (.int .i64 cr) := (blk_cell Bg1.1 2).trans rfl; have xg13 : W4.cell? ⟨g1, 3, none⟩ = some (.int .i64 H) := (blk_cell Bg1.1 3).trans rfl; have xg14 : W4.cell? ⟨g1, 4, none⟩ = some (.int .u64 b) := (blk_cell Bg1.1 4).trans rfl; have xg15 : W4.cell? ⟨g1, 5, none⟩ = some (.int .i64 bad) := (blk_cell Bg1.1 5).trans rfl; have xg16 : W4.cell? ⟨g1, 6, none⟩ = some (.int .i64 lock) := (blk_cell Bg1.1 6).trans rfl; skip) | (go_at_call 48; refine (vendmeterref_MeterMay.calls k me rev cr H b bad lock true _ HM.1).mono ?_; rintro en wa ⟨rfl, hb1⟩; clear xg10 xg11 xg12 xg13 xg14 xg15 xg16; replace Bg1 := am (blk_below Bg1.1 hb1); replace Bg2 := am (blk_below Bg2.1 hb1); replace Bg3 := am (blk_below Bg3.1 hb1); replace Bg4 := am (blk_below Bg4.1 hb1); replace HB := am (below_step HB.1 hb1); have xg20 : wa.cell? ⟨g2, 0, none⟩ = some (.slice A l.length c) := (blk_cell Bg2.1 0).trans rfl; clear hb1) | (go_at_call 17; refine (vendmeterref_OracleMay.calls k A c l false _ (Kd.C_below HR0.1 HB.1) HC0.1 HV.1).mono ?_; rintro en wb ⟨rfl, hb1⟩; clear xg20; replace Bg1 := am (blk_below Bg1.1 hb1); replace Bg2 := am (blk_below Bg2.1 hb1); replace Bg3 := am (blk_below Bg3.1 hb1); replace Bg4 := am (blk_below Bg4.1 hb1); replace HB := am (below_step HB.1 hb1); have xg30 : wb.cell? ⟨g3, 0, none⟩ = some (.int .i64 cls) := (blk_cell Bg3.1 0).trans rfl; have xg31 : wb.cell? ⟨g3, 1, none⟩ = some (.int .i64 id) := (blk_cell Bg3.1 1).trans rfl; have xg32 : wb.cell? ⟨g3, 2, none⟩ = some (.int .i64 amt) := (blk_cell Bg3.1 2).trans rfl; have xg33 : wb.cell? ⟨g3, 3, none⟩ = some (.int .i64 tag) := (blk_cell Bg3.1 3).trans rfl; clear hb1) | ((with_reducible refine gate_store (t := 40) (p := 6) rfl ?_); refine seg.list rfl rfl 40 (.tmp 6) _ rfl 40 g4 0 #[.int .i64 0, .int .i64 0, .int .i64 0, .int .i64 0, .int .u64 0, .int .i64 0, .int .i64 0] #[.int .i64 0, .int .i64 0, .int .i64 0, .int .i64 0, .int .u64 0, .int .i64 0, .int .i64 0] [.int .i64 0, .int .i64 0, .int .i64 0, .int .i64 0, .int .u64 0, .int .i64 0, .int .i64 0] rfl rfl (by kernel_rfl) (by simp [Value.oneCell']) Bg4.1 (by simp) rfl ?_; intro W5 bx hgr; clear xg30 xg31 xg32 xg33; replace Bg1 := am (seg.far Bg1.1 hgr Ng1g4.1); replace Bg2 := am (seg.far Bg2.1 hgr Ng2g4.1); replace Bg3 := am (seg.far Bg3.1 hgr Ng3g4.1); replace HB := am (seg.below HB.1 hgr Gg4.1); replace Bg4 := am bx; clear bx hgr; skip))
  refine bodyPost_ret (results_list (rs := [.cell 6 40, .tmp 7, .tmp 8]) rfl (by simp) (.cell g4 40 #[.int .i64 0, .int .i64 0, .int .i64 0, .int .i64 0, .int .u64 0, .int .i64 0, .int .i64 0] (0, 0) _ rfl Bg4.1 Tryz.underlying40 rfl (by kernel_rfl) (.tmp (.tmp .nil)))) rfl ?_
  exact ⟨rfl, HB.1⟩
 rw [if_pos c1] at h
 subst c1
 replace h := Option.bind_eq_some_iff.mp h
 obtain ⟨⟨bd, e⟩, hd, h⟩ := h
 have HD := am hd
 clear hd
 have HH := am h
 clear h
 go_enter Tryz.func18, Tryz.ntmps18
 go_upto_region 4 with (first | ((with_reducible refine gate_dst (N := 3) rfl ?_); refine czbox 3 #[.int .i64 me, .int .i64 rev, .int .i64 cr, .int .i64 H, .int .u64 b, .int .i64 bad, .int .i64 lock] 40 ?_; intro g1 hgq W1 hbox hb; have Gg1 := am (by rw [hgq]; exact below_size HB.1 : w.heap.size ≤ g1); replace HB := am (below_step HB.1 hb); have Bg1 := am hbox; clear hb hbox hgq; skip) | ((with_reducible refine gate_dst (N := 4) rfl ?_); refine czbox 4 #[.slice A l.length c] 25 ?_; intro g2 hgq W2 hbox hb; have Ng1g2 := am (by rw [hgq]; exact Nat.ne_of_lt (blk_lt Bg1.1) : g1 ≠ g2); have Gg2 := am (by rw [hgq]; exact below_size HB.1 : w.heap.size ≤ g2); replace Bg1 := am (blk_below Bg1.1 hb); replace HB := am (below_step HB.1 hb); have Bg2 := am hbox; clear hb hbox hgq; skip) | ((with_reducible refine gate_dst (N := 5) rfl ?_); refine czbox 5 #[.int .i64 cls, .int .i64 id, .int .i64 amt, .int .i64 tag] 44 ?_; intro g3 hgq W3 hbox hb; have Ng1g3 := am (by rw [hgq]; exact Nat.ne_of_lt (blk_lt Bg1.1) : g1 ≠ g3); have Ng2g3 := am (by rw [hgq]; exact Nat.ne_of_lt (blk_lt Bg2.1) : g2 ≠ g3); have Gg3 := am (by rw [hgq]; exact below_size HB.1 : w.heap.size ≤ g3); replace Bg1 := am (blk_below Bg1.1 hb); replace Bg2 := am (blk_below Bg2.1 hb); replace HB := am (below_step HB.1 hb); have Bg3 := am hbox; clear hb hbox hgq; skip) | ((with_reducible refine gate_dst (N := 6) rfl ?_); refine czbox 6 #[.int .i64 0, .int .i64 0, .int .i64 0, .int .i64 0, .int .u64 0, .int .i64 0, .int .i64 0] 40 ?_; intro g4 hgq W4 hbox hb; have Ng1g4 := am (by rw [hgq]; exact Nat.ne_of_lt (blk_lt Bg1.1) : g1 ≠ g4); have Ng2g4 := am (by rw [hgq]; exact Nat.ne_of_lt (blk_lt Bg2.1) : g2 ≠ g4); have Ng3g4 := am (by rw [hgq]; exact Nat.ne_of_lt (blk_lt Bg3.1) : g3 ≠ g4); have Gg4 := am (by rw [hgq]; exact below_size HB.1 : w.heap.size ≤ g4); replace Bg1 := am (blk_below Bg1.1 hb); replace Bg2 := am (blk_below Bg2.1 hb); replace Bg3 := am (blk_below Bg3.1 hb); replace HB := am (below_step HB.1 hb); have Bg4 := am hbox; clear hb hbox hgq; have xg10 : W4.cell? ⟨g1, 0, none⟩ = some (.int .i64 me) := (blk_cell Bg1.1 0).trans rfl; have xg11 : W4.cell? ⟨g1, 1, none⟩ = some (.int .i64 rev) := (blk_cell Bg1.1 1).trans rfl; have xg12 : W4.cell? ⟨g1, 2, none⟩ = some (.int .i64 cr) := (blk_cell Bg1.1 2).trans rfl; have xg13 : W4.cell? ⟨g1, 3, none⟩ = some (.int .i64 H) := (blk_cell Bg1.1 3).trans rfl; have xg14 : W4.cell? ⟨g1, 4, none⟩ = some (.int .u64 b) := (blk_cell Bg1.1 4).trans rfl; have xg15 : W4.cell? ⟨g1, 5, none⟩ = some (.int .i64 bad) := (blk_cell Bg1.1 5).trans rfl; have xg16 : W4.cell? ⟨g1, 6, none⟩ = some (.int .i64 lock) := (blk_cell Bg1.1 6).trans rfl; skip) | (go_at_call 48; refine (vendmeterref_MeterMay.calls k me rev cr H b bad lock true _ HM.1).mono ?_; rintro en wa ⟨rfl, hb1⟩; clear xg10 xg11 xg12 xg13 xg14 xg15 xg16; replace Bg1 := am (blk_below Bg1.1 hb1); replace Bg2 := am (blk_below Bg2.1 hb1); replace Bg3 := am (blk_below Bg3.1 hb1); replace Bg4 := am (blk_below Bg4.1 hb1); replace HB := am (below_step HB.1 hb1); have xg20 : wa.cell? ⟨g2, 0, none⟩ = some (.slice A l.length c) := (blk_cell Bg2.1 0).trans rfl; clear hb1) | (go_at_call 17; refine (vendmeterref_OracleMay.calls k A c l true _ (Kd.C_below HR0.1 HB.1) HC0.1 HV.1).mono ?_; rintro en wb ⟨rfl, hb1⟩; clear xg20; replace Bg1 := am (blk_below Bg1.1 hb1); replace Bg2 := am (blk_below Bg2.1 hb1); replace Bg3 := am (blk_below Bg3.1 hb1); replace Bg4 := am (blk_below Bg4.1 hb1); replace HB := am (below_step HB.1 hb1); have xg30 : wb.cell? ⟨g3, 0, none⟩ = some (.int .i64 cls) := (blk_cell Bg3.1 0).trans rfl; have xg31 : wb.cell? ⟨g3, 1, none⟩ = some (.int .i64 id) := (blk_cell Bg3.1 1).trans rfl; have xg32 : wb.cell? ⟨g3, 2, none⟩ = some (.int .i64 amt) := (blk_cell Bg3.1 2).trans rfl; have xg33 : wb.cell? ⟨g3, 3, none⟩ = some (.int .i64 tag) := (blk_cell Bg3.1 3).trans rfl; clear hb1) | (go_at_call 49; refine (vendmeterref_BodyOf.calls k cls id amt tag bd e _ HD.1).mono ?_; rintro en wc ⟨rfl, hb1⟩; clear xg30 xg31 xg32 xg33; replace Bg1 := am (blk_below Bg1.1 hb1); replace Bg2 := am (blk_below Bg2.1 hb1); replace Bg3 := am (blk_below Bg3.1 hb1); replace Bg4 := am (blk_below Bg4.1 hb1); replace HB := am (below_step HB.1 hb1); have xg10 : wc.cell? ⟨g1, 0, none⟩ = some (.int .i64 me) := (blk_cell Bg1.1 0).trans rfl; have xg11 : wc.cell? ⟨g1, 1, none⟩ = some (.int .i64 rev) := (blk_cell Bg1.1 1).trans rfl; have xg12 : wc.cell? ⟨g1, 2, none⟩ = some (.int .i64 cr) := (blk_cell Bg1.1 2).trans rfl; have xg13 : wc.cell? ⟨g1, 3, none⟩ = some (.int .i64 H) := (blk_cell Bg1.1 3).trans rfl; have xg14 : wc.cell? ⟨g1, 4, none⟩ = some (.int .u64 b) := (blk_cell Bg1.1 4).trans rfl; have xg15 : wc.cell? ⟨g1, 5, none⟩ = some (.int .i64 bad) := (blk_cell Bg1.1 5).trans rfl; have xg16 : wc.cell? ⟨g1, 6, none⟩ = some (.int .i64 lock) := (blk_cell Bg1.1 6).trans rfl; have xg20 : wc.cell? ⟨g2, 0, none⟩ = some (.slice A l.length c) := (blk_cell Bg2.1 0).trans rfl; have xg30 : wc.cell? ⟨g3, 0, none⟩ = some (.int .i64 cls) := (blk_cell Bg3.1 0).trans rfl; have xg33 : wc.cell? ⟨g3, 3, none⟩ = some (.int .i64 tag) := (blk_cell Bg3.1 3).trans rfl; clear hb1))
 have h := HH.1
 clear HH
 by_cases c2 : e = 0
 case neg =>
  rw [if_neg c2] at h
  simp only [Option.some.injEq, Prod.mk.injEq] at h
  obtain ⟨rfl, rfl, rfl, rfl, rfl, rfl, rfl, rfl, rfl⟩ := h
  have q2 : (e != 0) = true := bne_iff_ne.mpr c2
  clear c2
  go_wp2_with (first | ((with_reducible refine gate_store (t := 40) (p := 6) rfl ?_); refine seg.list rfl rfl 40 (.tmp 6) _ rfl 40 g4 0 #[.int .i64 0, .int .i64 0, .int .i64 0, .int .i64 0, .int .u64 0, .int .i64 0, .int .i64 0] #[.int .i64 me, .int .i64 rev, .int .i64 cr, .int .i64 H, .int .u64 b, .int .i64 bad, .int .i64 lock] [.int .i64 me, .int .i64 rev, .int .i64 cr, .int .i64 H, .int .u64 b, .int .i64 bad, .int .i64 lock] rfl rfl (by kernel_rfl) (by simp [Value.oneCell']) Bg4.1 (by simp) rfl ?_; intro W5 bx hgr; clear xg10 xg11 xg12 xg13 xg14 xg15 xg16 xg20 xg30 xg33; replace Bg1 := am (seg.far Bg1.1 hgr Ng1g4.1); replace Bg2 := am (seg.far Bg2.1 hgr Ng2g4.1); replace Bg3 := am (seg.far Bg3.1 hgr Ng3g4.1); replace HB := am (seg.below HB.1 hgr Gg4.1); replace Bg4 := am bx; clear bx hgr; skip))
  refine bodyPost_ret (results_list (rs := [.cell 6 40, .tmp 7, .tmp 8]) rfl (by simp) (.cell g4 40 #[.int .i64 me, .int .i64 rev, .int .i64 cr, .int .i64 H, .int .u64 b, .int .i64 bad, .int .i64 lock] (0, 0) _ rfl Bg4.1 Tryz.underlying40 rfl (by kernel_rfl) (.tmp (.tmp .nil)))) rfl ?_
  exact ⟨rfl, HB.1⟩
 rw [if_pos c2] at h
 have q2 : (e != 0) = false := bne_eq_false_iff_eq.mpr c2
 clear c2
 by_cases c3 : lock > 0
 ·
  rw [if_pos c3] at h
  simp only [Option.some.injEq, Prod.mk.injEq] at h
  obtain ⟨rfl, rfl, rfl, rfl, rfl, rfl, rfl, rfl, rfl⟩ := h
  have q3 := decide_eq_true c3
  clear c3
  go_wp2_with (first | ((with_reducible refine gate_store (t := 40) (p := 6) rfl ?_); refine seg.list rfl rfl 40 (.tmp 6) _ rfl 40 g4 0 #[.int .i64 0, .int .i64 0, .int .i64 0, .int .i64 0, .int .u64 0, .int .i64 0, .int .i64 0] #[.int .i64 me, .int .i64 rev, .int .i64 cr, .int .i64 H, .int .u64 b, .int .i64 bad, .int .i64 lock] [.int .i64 me, .int .i64 rev, .int .i64 cr, .int .i64 H, .int .u64 b, .int .i64 bad, .int .i64 lock] rfl rfl (by kernel_rfl) (by simp [Value.oneCell']) Bg4.1 (by simp) rfl ?_; intro W5 bx hgr; clear xg10 xg11 xg12 xg13 xg14 xg15 xg16 xg20 xg30 xg33; replace Bg1 := am (seg.far Bg1.1 hgr Ng1g4.1); replace Bg2 := am (seg.far Bg2.1 hgr Ng2g4.1); replace Bg3 := am (seg.far Bg3.1 hgr Ng3g4.1); replace HB := am (seg.below HB.1 hgr Gg4.1); replace Bg4 := am bx; clear bx hgr; skip))
  refine bodyPost_ret (results_list (rs := [.cell 6 40, .tmp 7, .tmp 8]) rfl (by simp) (.cell g4 40 #[.int .i64 me, .int .i64 rev, .int .i64 cr, .int .i64 H, .int .u64 b, .int .i64 bad, .int .i64 lock] (0, 0) _ rfl Bg4.1 Tryz.underlying40 rfl (by kernel_rfl) (.tmp (.tmp .nil)))) rfl ?_
  exact ⟨rfl, HB.1⟩
 rw [if_neg c3] at h
 have q3 := decide_eq_false c3
 clear c3
 by_cases c4 : cls = 3
 ·
  rw [if_pos c4] at h
  simp only [Option.some.injEq, Prod.mk.injEq] at h
  obtain ⟨rfl, rfl, rfl, rfl, rfl, rfl, rfl, rfl, rfl⟩ := h
  have q4 : (cls == 3) = true := beq_iff_eq.mpr c4
  clear c4
  go_wp2_with (first | ((with_reducible refine gate_store (t := 40) (p := 6) rfl ?_); refine seg.list rfl rfl 40 (.tmp 6) _ rfl 40 g4 0 #[.int .i64 0, .int .i64 0, .int .i64 0, .int .i64 0, .int .u64 0, .int .i64 0, .int .i64 0] #[.int .i64 me, .int .i64 rev, .int .i64 cr, .int .i64 H, .int .u64 b, .int .i64 bad, .int .i64 lock] [.int .i64 me, .int .i64 rev, .int .i64 cr, .int .i64 H, .int .u64 b, .int .i64 bad, .int .i64 lock] rfl rfl (by kernel_rfl) (by simp [Value.oneCell']) Bg4.1 (by simp) rfl ?_; intro W5 bx hgr; clear xg10 xg11 xg12 xg13 xg14 xg15 xg16 xg20 xg30 xg33; replace Bg1 := am (seg.far Bg1.1 hgr Ng1g4.1); replace Bg2 := am (seg.far Bg2.1 hgr Ng2g4.1); replace Bg3 := am (seg.far Bg3.1 hgr Ng3g4.1); replace HB := am (seg.below HB.1 hgr Gg4.1); replace Bg4 := am bx; clear bx hgr; skip))
  refine bodyPost_ret (results_list (rs := [.cell 6 40, .tmp 7, .tmp 8]) rfl (by simp) (.cell g4 40 #[.int .i64 me, .int .i64 rev, .int .i64 cr, .int .i64 H, .int .u64 b, .int .i64 bad, .int .i64 lock] (0, 0) _ rfl Bg4.1 Tryz.underlying40 rfl (by kernel_rfl) (.tmp (.tmp .nil)))) rfl ?_
  exact ⟨rfl, HB.1⟩
 rw [if_neg c4] at h
 have q4 : (cls == 3) = false := beq_eq_false_iff_ne.mpr c4
 clear c4
 replace h := Option.bind_eq_some_iff.mp h
 obtain ⟨s, hs, h⟩ := h
 have HS := am hs
 have HH := am h
 clear hs h
 go_upto_region 11 with (first | (go_at_call 50; refine (vendmeterref_sellKey.calls k me rev cr H b bad lock A c l bd tag s _ (Kd.C_below HR0.1 HB.1) HC0.1 HS.1).mono ?_; rintro en wd ⟨rfl, hb1⟩; clear xg10 xg11 xg12 xg13 xg14 xg15 xg16 xg20 xg30 xg33; replace Bg1 := am (blk_below Bg1.1 hb1); replace Bg2 := am (blk_below Bg2.1 hb1); replace Bg3 := am (blk_below Bg3.1 hb1); replace Bg4 := am (blk_below Bg4.1 hb1); replace HB := am (below_step HB.1 hb1); have xg10 : wd.cell? ⟨g1, 0, none⟩ = some (.int .i64 me) := (blk_cell Bg1.1 0).trans rfl; have xg11 : wd.cell? ⟨g1, 1, none⟩ = some (.int .i64 rev) := (blk_cell Bg1.1 1).trans rfl; have xg12 : wd.cell? ⟨g1, 2, none⟩ = some (.int .i64 cr) := (blk_cell Bg1.1 2).trans rfl; have xg13 : wd.cell? ⟨g1, 3, none⟩ = some (.int .i64 H) := (blk_cell Bg1.1 3).trans rfl; have xg14 : wd.cell? ⟨g1, 4, none⟩ = some (.int .u64 b) := (blk_cell Bg1.1 4).trans rfl; have xg15 : wd.cell? ⟨g1, 5, none⟩ = some (.int .i64 bad) := (blk_cell Bg1.1 5).trans rfl; have xg16 : wd.cell? ⟨g1, 6, none⟩ = some (.int .i64 lock) := (blk_cell Bg1.1 6).trans rfl; clear hb1))
 have h := HH.1
 clear HH
 by_cases c5 : s = 1
 ·
  rw [if_pos c5] at h
  simp only [Option.some.injEq, Prod.mk.injEq] at h
  obtain ⟨rfl, rfl, rfl, rfl, rfl, rfl, rfl, rfl, rfl⟩ := h
  have q5 : (s == 1) = true := beq_iff_eq.mpr c5
  clear c5
  go_wp2_with (first | ((with_reducible refine gate_store (t := 40) (p := 6) rfl ?_); refine seg.list rfl rfl 40 (.tmp 6) _ rfl 40 g4 0 #[.int .i64 0, .int .i64 0, .int .i64 0, .int .i64 0, .int .u64 0, .int .i64 0, .int .i64 0] #[.int .i64 me, .int .i64 rev, .int .i64 cr, .int .i64 H, .int .u64 b, .int .i64 bad, .int .i64 lock] [.int .i64 me, .int .i64 rev, .int .i64 cr, .int .i64 H, .int .u64 b, .int .i64 bad, .int .i64 lock] rfl rfl (by kernel_rfl) (by simp [Value.oneCell']) Bg4.1 (by simp) rfl ?_; intro W5 bx hgr; clear xg10 xg11 xg12 xg13 xg14 xg15 xg16; replace Bg1 := am (seg.far Bg1.1 hgr Ng1g4.1); replace Bg2 := am (seg.far Bg2.1 hgr Ng2g4.1); replace Bg3 := am (seg.far Bg3.1 hgr Ng3g4.1); replace HB := am (seg.below HB.1 hgr Gg4.1); replace Bg4 := am bx; clear bx hgr; skip))
  refine bodyPost_ret (results_list (rs := [.cell 6 40, .tmp 7, .tmp 8]) rfl (by simp) (.cell g4 40 #[.int .i64 me, .int .i64 rev, .int .i64 cr, .int .i64 H, .int .u64 b, .int .i64 bad, .int .i64 lock] (0, 0) _ rfl Bg4.1 Tryz.underlying40 rfl (by kernel_rfl) (.tmp (.tmp .nil)))) rfl ?_
  exact ⟨rfl, HB.1⟩
 rw [if_neg c5] at h
 have q5 : (s == 1) = false := beq_eq_false_iff_ne.mpr c5
 clear c5
 by_cases c6 : s = 2
 ·
  rw [if_pos c6] at h
  have q6 : (s == 2) = true := beq_iff_eq.mpr c6
  clear c6
  by_cases c7 : wrap64 (bad + 1) ≥ 5
  ·
   rw [if_pos c7] at h
   simp only [Option.some.injEq, Prod.mk.injEq] at h
   obtain ⟨rfl, rfl, rfl, rfl, rfl, rfl, rfl, rfl, rfl⟩ := h
   have q7 := decide_eq_true c7
   clear c7
   go_wp2_with (first | ((with_reducible refine gate_dst (N := 12) rfl ?_); refine czbox 12 #[.int .i64 0, .int .i64 0, .int .i64 0, .int .i64 0, .int .u64 0, .int .i64 0, .int .i64 0] 40 ?_; intro g5 hgq W5 hbox hb; clear xg10 xg11 xg12 xg13 xg14 xg15 xg16; have Ng1g5 := am (by rw [hgq]; exact Nat.ne_of_lt (blk_lt Bg1.1) : g1 ≠ g5); have Ng2g5 := am (by rw [hgq]; exact Nat.ne_of_lt (blk_lt Bg2.1) : g2 ≠ g5); have Ng3g5 := am (by rw [hgq]; exact Nat.ne_of_lt (blk_lt Bg3.1) : g3 ≠ g5); have Ng4g5 := am (by rw [hgq]; exact Nat.ne_of_lt (blk_lt Bg4.1) : g4 ≠ g5); have Gg5 := am (by rw [hgq]; exact below_size HB.1 : w.heap.size ≤ g5); replace Bg1 := am (blk_below Bg1.1 hb); replace Bg2 := am (blk_below Bg2.1 hb); replace Bg3 := am (blk_below Bg3.1 hb); replace Bg4 := am (blk_below Bg4.1 hb); replace HB := am (below_step HB.1 hb); have Bg5 := am hbox; clear hb hbox hgq; have xg10 : W5.cell? ⟨g1, 0, none⟩ = some (.int .i64 me) := (blk_cell Bg1.1 0).trans rfl; have xg11 : W5.cell? ⟨g1, 1, none⟩ = some (.int .i64 rev) := (blk_cell Bg1.1 1).trans rfl; have xg12 : W5.cell? ⟨g1, 2, none⟩ = some (.int .i64 cr) := (blk_cell Bg1.1 2).trans rfl; have xg13 : W5.cell? ⟨g1, 3, none⟩ = some (.int .i64 H) := (blk_cell Bg1.1 3).trans rfl; have xg14 : W5.cell? ⟨g1, 4, none⟩ = some (.int .u64 b) := (blk_cell Bg1.1 4).trans rfl; have xg15 : W5.cell? ⟨g1, 5, none⟩ = some (.int .i64 bad) := (blk_cell Bg1.1 5).trans rfl; have xg16 : W5.cell? ⟨g1, 6, none⟩ = some (.int .i64 lock) := (blk_cell Bg1.1 6).trans rfl; skip) | ((with_reducible refine gate_store (t := 40) (p := 12) rfl ?_); refine seg.list rfl rfl 40 (.tmp 12) _ rfl 40 g5 0 #[.int .i64 0, .int .i64 0, .int .i64 0, .int .i64 0, .int .u64 0, .int .i64 0, .int .i64 0] #[.int .i64 me, .int .i64 rev, .int .i64 cr, .int .i64 H, .int .u64 b, .int .i64 bad, .int .i64 lock] [.int .i64 me, .int .i64 rev, .int .i64 cr, .int .i64 H, .int .u64 b, .int .i64 bad, .int .i64 lock] rfl rfl (by kernel_rfl) (by simp [Value.oneCell']) Bg5.1 (by simp) rfl ?_; intro W6 bx hgr; clear xg10 xg11 xg12 xg13 xg14 xg15 xg16; replace Bg1 := am (seg.far Bg1.1 hgr Ng1g5.1); replace Bg2 := am (seg.far Bg2.1 hgr Ng2g5.1); replace Bg3 := am (seg.far Bg3.1 hgr Ng3g5.1); replace Bg4 := am (seg.far Bg4.1 hgr Ng4g5.1); replace HB := am (seg.below HB.1 hgr Gg5.1); replace Bg5 := am bx; clear bx hgr; have xg15 : W6.cell? ⟨g1, 5, none⟩ = some (.int .i64 bad) := (blk_cell Bg1.1 5).trans rfl; skip) | ((with_reducible refine gate_store (t := 3) (p := 56) rfl ?_); refine seg.list rfl rfl 3 (.tmp 56) _ rfl 40 g5 5 #[.int .i64 me, .int .i64 rev, .int .i64 cr, .int .i64 H, .int .u64 b, .int .i64 bad, .int .i64 lock] #[.int .i64 me, .int .i64 rev, .int .i64 cr, .int .i64 H, .int .u64 b, .int .i64 (wrap64 (bad + 1)), .int .i64 lock] [.int .i64 (wrap64 (bad + 1))] rfl rfl (by kernel_rfl) (by simp [Value.oneCell']) Bg5.1 (by simp) rfl ?_; intro W7 bx hgr; clear xg15; replace Bg1 := am (seg.far Bg1.1 hgr Ng1g5.1); replace Bg2 := am (seg.far Bg2.1 hgr Ng2g5.1); replace Bg3 := am (seg.far Bg3.1 hgr Ng3g5.1); replace Bg4 := am (seg.far Bg4.1 hgr Ng4g5.1); replace HB := am (seg.below HB.1 hgr Gg5.1); replace Bg5 := am bx; clear bx hgr; have xg50 : W7.cell? ⟨g5, 0, none⟩ = some (.int .i64 me) := (blk_cell Bg5.1 0).trans rfl; have xg51 : W7.cell? ⟨g5, 1, none⟩ = some (.int .i64 rev) := (blk_cell Bg5.1 1).trans rfl; have xg52 : W7.cell? ⟨g5, 2, none⟩ = some (.int .i64 cr) := (blk_cell Bg5.1 2).trans rfl; have xg53 : W7.cell? ⟨g5, 3, none⟩ = some (.int .i64 H) := (blk_cell Bg5.1 3).trans rfl; have xg54 : W7.cell? ⟨g5, 4, none⟩ = some (.int .u64 b) := (blk_cell Bg5.1 4).trans rfl; have xg55 : W7.cell? ⟨g5, 5, none⟩ = some (.int .i64 (wrap64 (bad + 1))) := (blk_cell Bg5.1 5).trans rfl; have xg56 : W7.cell? ⟨g5, 6, none⟩ = some (.int .i64 lock) := (blk_cell Bg5.1 6).trans rfl; skip) | ((with_reducible refine gate_store (t := 3) (p := 60) rfl ?_); refine seg.list rfl rfl 3 (.tmp 60) _ rfl 40 g5 5 #[.int .i64 me, .int .i64 rev, .int .i64 cr, .int .i64 H, .int .u64 b, .int .i64 (wrap64 (bad + 1)), .int .i64 lock] #[.int .i64 me, .int .i64 rev, .int .i64 cr, .int .i64 H, .int .u64 b, .int .i64 0, .int .i64 lock] [.int .i64 0] rfl rfl (by kernel_rfl) (by simp [Value.oneCell']) Bg5.1 (by simp) rfl ?_; intro W8 bx hgr; clear xg50 xg51 xg52 xg53 xg54 xg55 xg56; replace Bg1 := am (seg.far Bg1.1 hgr Ng1g5.1); replace Bg2 := am (seg.far Bg2.1 hgr Ng2g5.1); replace Bg3 := am (seg.far Bg3.1 hgr Ng3g5.1); replace Bg4 := am (seg.far Bg4.1 hgr Ng4g5.1); replace HB := am (seg.below HB.1 hgr Gg5.1); replace Bg5 := am bx; clear bx hgr; have xg50 : W8.cell? ⟨g5, 0, none⟩ = some (.int .i64 me) := (blk_cell Bg5.1 0).trans rfl; have xg51 : W8.cell? ⟨g5, 1, none⟩ = some (.int .i64 rev) := (blk_cell Bg5.1 1).trans rfl; have xg52 : W8.cell? ⟨g5, 2, none⟩ = some (.int .i64 cr) := (blk_cell Bg5.1 2).trans rfl; have xg53 : W8.cell? ⟨g5, 3, none⟩ = some (.int .i64 H) := (blk_cell Bg5.1 3).trans rfl; have xg54 : W8.cell? ⟨g5, 4, none⟩ = some (.int .u64 b) := (blk_cell Bg5.1 4).trans rfl; have xg55 : W8.cell? ⟨g5, 5, none⟩ = some (.int .i64 0) := (blk_cell Bg5.1 5).trans rfl; have xg56 : W8.cell? ⟨g5, 6, none⟩ = some (.int .i64 lock) := (blk_cell Bg5.1 6).trans rfl; skip) | ((with_reducible refine gate_store (t := 3) (p := 61) rfl ?_); refine seg.list rfl rfl 3 (.tmp 61) _ rfl 40 g5 6 #[.int .i64 me, .int .i64 rev, .int .i64 cr, .int .i64 H, .int .u64 b, .int .i64 0, .int .i64 lock] #[.int .i64 me, .int .i64 rev, .int .i64 cr, .int .i64 H, .int .u64 b, .int .i64 0, .int .i64 30] [.int .i64 30] rfl rfl (by kernel_rfl) (by simp [Value.oneCell']) Bg5.1 (by simp) rfl ?_; intro W9 bx hgr; clear xg50 xg51 xg52 xg53 xg54 xg55 xg56; replace Bg1 := am (seg.far Bg1.1 hgr Ng1g5.1); replace Bg2 := am (seg.far Bg2.1 hgr Ng2g5.1); replace Bg3 := am (seg.far Bg3.1 hgr Ng3g5.1); replace Bg4 := am (seg.far Bg4.1 hgr Ng4g5.1); replace HB := am (seg.below HB.1 hgr Gg5.1); replace Bg5 := am bx; clear bx hgr; have xg50 : W9.cell? ⟨g5, 0, none⟩ = some (.int .i64 me) := (blk_cell Bg5.1 0).trans rfl; have xg51 : W9.cell? ⟨g5, 1, none⟩ = some (.int .i64 rev) := (blk_cell Bg5.1 1).trans rfl; have xg52 : W9.cell? ⟨g5, 2, none⟩ = some (.int .i64 cr) := (blk_cell Bg5.1 2).trans rfl; have xg53 : W9.cell? ⟨g5, 3, none⟩ = some (.int .i64 H) := (blk_cell Bg5.1 3).trans rfl; have xg54 : W9.cell? ⟨g5, 4, none⟩ = some (.int .u64 b) := (blk_cell Bg5.1 4).trans rfl; have xg55 : W9.cell? ⟨g5, 5, none⟩ = some (.int .i64 0) := (blk_cell Bg5.1 5).trans rfl; have xg56 : W9.cell? ⟨g5, 6, none⟩ = some (.int .i64 30) := (blk_cell Bg5.1 6).trans rfl; skip) | ((with_reducible refine gate_store (t := 40) (p := 6) rfl ?_); refine seg.list rfl rfl 40 (.tmp 6) _ rfl 40 g4 0 #[.int .i64 0, .int .i64 0, .int .i64 0, .int .i64 0, .int .u64 0, .int .i64 0, .int .i64 0] #[.int .i64 me, .int .i64 rev, .int .i64 cr, .int .i64 H, .int .u64 b, .int .i64 0, .int .i64 30] [.int .i64 me, .int .i64 rev, .int .i64 cr, .int .i64 H, .int .u64 b, .int .i64 0, .int .i64 30] rfl rfl (by kernel_rfl) (by simp [Value.oneCell']) Bg4.1 (by simp) rfl ?_; intro W10 bx hgr; clear xg50 xg51 xg52 xg53 xg54 xg55 xg56; replace Bg1 := am (seg.far Bg1.1 hgr Ng1g4.1); replace Bg2 := am (seg.far Bg2.1 hgr Ng2g4.1); replace Bg3 := am (seg.far Bg3.1 hgr Ng3g4.1); replace Bg5 := am (seg.far Bg5.1 hgr (Ne.symm Ng4g5.1)); replace HB := am (seg.below HB.1 hgr Gg4.1); replace Bg4 := am bx; clear bx hgr; skip))
   refine bodyPost_ret (results_list (rs := [.cell 6 40, .tmp 7, .tmp 8]) rfl (by simp) (.cell g4 40 #[.int .i64 me, .int .i64 rev, .int .i64 cr, .int .i64 H, .int .u64 b, .int .i64 0, .int .i64 30] (0, 0) _ rfl Bg4.1 Tryz.underlying40 rfl (by kernel_rfl) (.tmp (.tmp .nil)))) rfl ?_
   exact ⟨rfl, HB.1⟩
  ·
   rw [if_neg c7] at h
   simp only [Option.some.injEq, Prod.mk.injEq] at h
   obtain ⟨rfl, rfl, rfl, rfl, rfl, rfl, rfl, rfl, rfl⟩ := h
   have q7 := decide_eq_false c7
   clear c7
   go_wp2_with (first | ((with_reducible refine gate_dst (N := 12) rfl ?_); refine czbox 12 #[.int .i64 0, .int .i64 0, .int .i64 0, .int .i64 0, .int .u64 0, .int .i64 0, .int .i64 0] 40 ?_; intro g5 hgq W5 hbox hb; clear xg10 xg11 xg12 xg13 xg14 xg15 xg16; have Ng1g5 := am (by rw [hgq]; exact Nat.ne_of_lt (blk_lt Bg1.1) : g1 ≠ g5); have Ng2g5 := am (by rw [hgq]; exact Nat.ne_of_lt (blk_lt Bg2.1) : g2 ≠ g5); have Ng3g5 := am (by rw [hgq]; exact Nat.ne_of_lt (blk_lt Bg3.1) : g3 ≠ g5); have Ng4g5 := am (by rw [hgq]; exact Nat.ne_of_lt (blk_lt Bg4.1) : g4 ≠ g5); have Gg5 := am (by rw [hgq]; exact below_size HB.1 : w.heap.size ≤ g5); replace Bg1 := am (blk_below Bg1.1 hb); replace Bg2 := am (blk_below Bg2.1 hb); replace Bg3 := am (blk_below Bg3.1 hb); replace Bg4 := am (blk_below Bg4.1 hb); replace HB := am (below_step HB.1 hb); have Bg5 := am hbox; clear hb hbox hgq; have xg10 : W5.cell? ⟨g1, 0, none⟩ = some (.int .i64 me) := (blk_cell Bg1.1 0).trans rfl; have xg11 : W5.cell? ⟨g1, 1, none⟩ = some (.int .i64 rev) := (blk_cell Bg1.1 1).trans rfl; have xg12 : W5.cell? ⟨g1, 2, none⟩ = some (.int .i64 cr) := (blk_cell Bg1.1 2).trans rfl; have xg13 : W5.cell? ⟨g1, 3, none⟩ = some (.int .i64 H) := (blk_cell Bg1.1 3).trans rfl; have xg14 : W5.cell? ⟨g1, 4, none⟩ = some (.int .u64 b) := (blk_cell Bg1.1 4).trans rfl; have xg15 : W5.cell? ⟨g1, 5, none⟩ = some (.int .i64 bad) := (blk_cell Bg1.1 5).trans rfl; have xg16 : W5.cell? ⟨g1, 6, none⟩ = some (.int .i64 lock) := (blk_cell Bg1.1 6).trans rfl; skip) | ((with_reducible refine gate_store (t := 40) (p := 12) rfl ?_); refine seg.list rfl rfl 40 (.tmp 12) _ rfl 40 g5 0 #[.int .i64 0, .int .i64 0, .int .i64 0, .int .i64 0, .int .u64 0, .int .i64 0, .int .i64 0] #[.int .i64 me, .int .i64 rev, .int .i64 cr, .int .i64 H, .int .u64 b, .int .i64 bad, .int .i64 lock] [.int .i64 me, .int .i64 rev, .int .i64 cr, .int .i64 H, .int .u64 b, .int .i64 bad, .int .i64 lock] rfl rfl (by kernel_rfl) (by simp [Value.oneCell']) Bg5.1 (by simp) rfl ?_; intro W6 bx hgr; clear xg10 xg11 xg12 xg13 xg14 xg15 xg16; replace Bg1 := am (seg.far Bg1.1 hgr Ng1g5.1); replace Bg2 := am (seg.far Bg2.1 hgr Ng2g5.1); replace Bg3 := am (seg.far Bg3.1 hgr Ng3g5.1); replace Bg4 := am (seg.far Bg4.1 hgr Ng4g5.1); replace HB := am (seg.below HB.1 hgr Gg5.1); replace Bg5 := am bx; clear bx hgr; have xg15 : W6.cell? ⟨g1, 5, none⟩ = some (.int .i64 bad) := (blk_cell Bg1.1 5).trans rfl; skip) | ((with_reducible refine gate_store (t := 3) (p := 56) rfl ?_); refine seg.list rfl rfl 3 (.tmp 56) _ rfl 40 g5 5 #[.int .i64 me, .int .i64 rev, .int .i64 cr, .int .i64 H, .int .u64 b, .int .i64 bad, .int .i64 lock] #[.int .i64 me, .int .i64 rev, .int .i64 cr, .int .i64 H, .int .u64 b, .int .i64 (wrap64 (bad + 1)), .int .i64 lock] [.int .i64 (wrap64 (bad + 1))] rfl rfl (by kernel_rfl) (by simp [Value.oneCell']) Bg5.1 (by simp) rfl ?_; intro W7 bx hgr; clear xg15; replace Bg1 := am (seg.far Bg1.1 hgr Ng1g5.1); replace Bg2 := am (seg.far Bg2.1 hgr Ng2g5.1); replace Bg3 := am (seg.far Bg3.1 hgr Ng3g5.1); replace Bg4 := am (seg.far Bg4.1 hgr Ng4g5.1); replace HB := am (seg.below HB.1 hgr Gg5.1); replace Bg5 := am bx; clear bx hgr; have xg50 : W7.cell? ⟨g5, 0, none⟩ = some (.int .i64 me) := (blk_cell Bg5.1 0).trans rfl; have xg51 : W7.cell? ⟨g5, 1, none⟩ = some (.int .i64 rev) := (blk_cell Bg5.1 1).trans rfl; have xg52 : W7.cell? ⟨g5, 2, none⟩ = some (.int .i64 cr) := (blk_cell Bg5.1 2).trans rfl; have xg53 : W7.cell? ⟨g5, 3, none⟩ = some (.int .i64 H) := (blk_cell Bg5.1 3).trans rfl; have xg54 : W7.cell? ⟨g5, 4, none⟩ = some (.int .u64 b) := (blk_cell Bg5.1 4).trans rfl; have xg55 : W7.cell? ⟨g5, 5, none⟩ = some (.int .i64 (wrap64 (bad + 1))) := (blk_cell Bg5.1 5).trans rfl; have xg56 : W7.cell? ⟨g5, 6, none⟩ = some (.int .i64 lock) := (blk_cell Bg5.1 6).trans rfl; skip) | ((with_reducible refine gate_store (t := 40) (p := 6) rfl ?_); refine seg.list rfl rfl 40 (.tmp 6) _ rfl 40 g4 0 #[.int .i64 0, .int .i64 0, .int .i64 0, .int .i64 0, .int .u64 0, .int .i64 0, .int .i64 0] #[.int .i64 me, .int .i64 rev, .int .i64 cr, .int .i64 H, .int .u64 b, .int .i64 (wrap64 (bad + 1)), .int .i64 lock] [.int .i64 me, .int .i64 rev, .int .i64 cr, .int .i64 H, .int .u64 b, .int .i64 (wrap64 (bad + 1)), .int .i64 lock] rfl rfl (by kernel_rfl) (by simp [Value.oneCell']) Bg4.1 (by simp) rfl ?_; intro W8 bx hgr; clear xg50 xg51 xg52 xg53 xg54 xg55 xg56; replace Bg1 := am (seg.far Bg1.1 hgr Ng1g4.1); replace Bg2 := am (seg.far Bg2.1 hgr Ng2g4.1); replace Bg3 := am (seg.far Bg3.1 hgr Ng3g4.1); replace Bg5 := am (seg.far Bg5.1 hgr (Ne.symm Ng4g5.1)); replace HB := am (seg.below HB.1 hgr Gg4.1); replace Bg4 := am bx; clear bx hgr; skip))
   refine bodyPost_ret (results_list (rs := [.cell 6 40, .tmp 7, .tmp 8]) rfl (by simp) (.cell g4 40 #[.int .i64 me, .int .i64 rev, .int .i64 cr, .int .i64 H, .int .u64 b, .int .i64 (wrap64 (bad + 1)), .int .i64 lock] (0, 0) _ rfl Bg4.1 Tryz.underlying40 rfl (by kernel_rfl) (.tmp (.tmp .nil)))) rfl ?_
   exact ⟨rfl, HB.1⟩
 rw [if_neg c6] at h
 have q6 : (s == 2) = false := beq_eq_false_iff_ne.mpr c6
 clear c6
 replace h := Option.bind_eq_some_iff.mp h
 obtain ⟨⟨w1, w2, w3⟩, hw, h⟩ := h
 have HW := am hw
 have HH := am h
 clear hw h
 go_upto_region 21 with (first | ((with_reducible refine gate_dst (N := 12) rfl ?_); refine czbox 12 #[.int .i64 0, .int .i64 0, .int .i64 0, .int .i64 0, .int .u64 0, .int .i64 0, .int .i64 0] 40 ?_; intro g5 hgq W5 hbox hb; clear xg10 xg11 xg12 xg13 xg14 xg15 xg16; have Ng1g5 := am (by rw [hgq]; exact Nat.ne_of_lt (blk_lt Bg1.1) : g1 ≠ g5); have Ng2g5 := am (by rw [hgq]; exact Nat.ne_of_lt (blk_lt Bg2.1) : g2 ≠ g5); have Ng3g5 := am (by rw [hgq]; exact Nat.ne_of_lt (blk_lt Bg3.1) : g3 ≠ g5); have Ng4g5 := am (by rw [hgq]; exact Nat.ne_of_lt (blk_lt Bg4.1) : g4 ≠ g5); have Gg5 := am (by rw [hgq]; exact below_size HB.1 : w.heap.size ≤ g5); replace Bg1 := am (blk_below Bg1.1 hb); replace Bg2 := am (blk_below Bg2.1 hb); replace Bg3 := am (blk_below Bg3.1 hb); replace Bg4 := am (blk_below Bg4.1 hb); replace HB := am (below_step HB.1 hb); have Bg5 := am hbox; clear hb hbox hgq; have xg10 : W5.cell? ⟨g1, 0, none⟩ = some (.int .i64 me) := (blk_cell Bg1.1 0).trans rfl; have xg11 : W5.cell? ⟨g1, 1, none⟩ = some (.int .i64 rev) := (blk_cell Bg1.1 1).trans rfl; have xg12 : W5.cell? ⟨g1, 2, none⟩ = some (.int .i64 cr) := (blk_cell Bg1.1 2).trans rfl; have xg13 : W5.cell? ⟨g1, 3, none⟩ = some (.int .i64 H) := (blk_cell Bg1.1 3).trans rfl; have xg14 : W5.cell? ⟨g1, 4, none⟩ = some (.int .u64 b) := (blk_cell Bg1.1 4).trans rfl; have xg15 : W5.cell? ⟨g1, 5, none⟩ = some (.int .i64 bad) := (blk_cell Bg1.1 5).trans rfl; have xg16 : W5.cell? ⟨g1, 6, none⟩ = some (.int .i64 lock) := (blk_cell Bg1.1 6).trans rfl; skip) | ((with_reducible refine gate_store (t := 40) (p := 12) rfl ?_); refine seg.list rfl rfl 40 (.tmp 12) _ rfl 40 g5 0 #[.int .i64 0, .int .i64 0, .int .i64 0, .int .i64 0, .int .u64 0, .int .i64 0, .int .i64 0] #[.int .i64 me, .int .i64 rev, .int .i64 cr, .int .i64 H, .int .u64 b, .int .i64 bad, .int .i64 lock] [.int .i64 me, .int .i64 rev, .int .i64 cr, .int .i64 H, .int .u64 b, .int .i64 bad, .int .i64 lock] rfl rfl (by kernel_rfl) (by simp [Value.oneCell']) Bg5.1 (by simp) rfl ?_; intro W6 bx hgr; clear xg10 xg11 xg12 xg13 xg14 xg15 xg16; replace Bg1 := am (seg.far Bg1.1 hgr Ng1g5.1); replace Bg2 := am (seg.far Bg2.1 hgr Ng2g5.1); replace Bg3 := am (seg.far Bg3.1 hgr Ng3g5.1); replace Bg4 := am (seg.far Bg4.1 hgr Ng4g5.1); replace HB := am (seg.below HB.1 hgr Gg5.1); replace Bg5 := am bx; clear bx hgr; have xg13 : W6.cell? ⟨g1, 3, none⟩ = some (.int .i64 H) := (blk_cell Bg1.1 3).trans rfl; have xg14 : W6.cell? ⟨g1, 4, none⟩ = some (.int .u64 b) := (blk_cell Bg1.1 4).trans rfl; have xg31 : W6.cell? ⟨g3, 1, none⟩ = some (.int .i64 id) := (blk_cell Bg3.1 1).trans rfl; skip) | (go_at_call 51; refine (vendmeterref_TakenBy.calls k H b id w1 w2 w3 _ HW.1).mono ?_; rintro en we ⟨rfl, hb1⟩; clear xg13 xg14 xg31; replace Bg1 := am (blk_below Bg1.1 hb1); replace Bg2 := am (blk_below Bg2.1 hb1); replace Bg3 := am (blk_below Bg3.1 hb1); replace Bg4 := am (blk_below Bg4.1 hb1); replace Bg5 := am (blk_below Bg5.1 hb1); replace HB := am (below_step HB.1 hb1); clear hb1) | ((with_reducible refine gate_dst (N := 13) rfl ?_); refine czbox 13 #[.int .i64 0, .int .u64 0] 38 ?_; intro g6 hgq W7 hbox hb; have Ng1g6 := am (by rw [hgq]; exact Nat.ne_of_lt (blk_lt Bg1.1) : g1 ≠ g6); have Ng2g6 := am (by rw [hgq]; exact Nat.ne_of_lt (blk_lt Bg2.1) : g2 ≠ g6); have Ng3g6 := am (by rw [hgq]; exact Nat.ne_of_lt (blk_lt Bg3.1) : g3 ≠ g6); have Ng4g6 := am (by rw [hgq]; exact Nat.ne_of_lt (blk_lt Bg4.1) : g4 ≠ g6); have Ng5g6 := am (by rw [hgq]; exact Nat.ne_of_lt (blk_lt Bg5.1) : g5 ≠ g6); have Gg6 := am (by rw [hgq]; exact below_size HB.1 : w.heap.size ≤ g6); replace Bg1 := am (blk_below Bg1.1 hb); replace Bg2 := am (blk_below Bg2.1 hb); replace Bg3 := am (blk_below Bg3.1 hb); replace Bg4 := am (blk_below Bg4.1 hb); replace Bg5 := am (blk_below Bg5.1 hb); replace HB := am (below_step HB.1 hb); have Bg6 := am hbox; clear hb hbox hgq; skip) | ((with_reducible refine gate_store (t := 38) (p := 13) rfl ?_); refine seg.list rfl rfl 38 (.tmp 13) _ rfl 38 g6 0 #[.int .i64 0, .int .u64 0] #[.int .i64 w1, .int .u64 w2] [.int .i64 w1, .int .u64 w2] rfl rfl (by kernel_rfl) (by simp [Value.oneCell']) Bg6.1 (by simp) rfl ?_; intro W8 bx hgr; replace Bg1 := am (seg.far Bg1.1 hgr Ng1g6.1); replace Bg2 := am (seg.far Bg2.1 hgr Ng2g6.1); replace Bg3 := am (seg.far Bg3.1 hgr Ng3g6.1); replace Bg4 := am (seg.far Bg4.1 hgr Ng4g6.1); replace Bg5 := am (seg.far Bg5.1 hgr Ng5g6.1); replace HB := am (seg.below HB.1 hgr Gg6.1); replace Bg6 := am bx; clear bx hgr; have xg10 : W8.cell? ⟨g1, 0, none⟩ = some (.int .i64 me) := (blk_cell Bg1.1 0).trans rfl; have xg11 : W8.cell? ⟨g1, 1, none⟩ = some (.int .i64 rev) := (blk_cell Bg1.1 1).trans rfl; have xg12 : W8.cell? ⟨g1, 2, none⟩ = some (.int .i64 cr) := (blk_cell Bg1.1 2).trans rfl; have xg13 : W8.cell? ⟨g1, 3, none⟩ = some (.int .i64 H) := (blk_cell Bg1.1 3).trans rfl; have xg14 : W8.cell? ⟨g1, 4, none⟩ = some (.int .u64 b) := (blk_cell Bg1.1 4).trans rfl; have xg15 : W8.cell? ⟨g1, 5, none⟩ = some (.int .i64 bad) := (blk_cell Bg1.1 5).trans rfl; have xg16 : W8.cell? ⟨g1, 6, none⟩ = some (.int .i64 lock) := (blk_cell Bg1.1 6).trans rfl; have xg30 : W8.cell? ⟨g3, 0, none⟩ = some (.int .i64 cls) := (blk_cell Bg3.1 0).trans rfl; have xg31 : W8.cell? ⟨g3, 1, none⟩ = some (.int .i64 id) := (blk_cell Bg3.1 1).trans rfl; have xg32 : W8.cell? ⟨g3, 2, none⟩ = some (.int .i64 amt) := (blk_cell Bg3.1 2).trans rfl; have xg33 : W8.cell? ⟨g3, 3, none⟩ = some (.int .i64 tag) := (blk_cell Bg3.1 3).trans rfl; have xg60 : W8.cell? ⟨g6, 0, none⟩ = some (.int .i64 w1) := (blk_cell Bg6.1 0).trans rfl; have xg61 : W8.cell? ⟨g6, 1, none⟩ = some (.int .u64 w2) := (blk_cell Bg6.1 1).trans rfl; skip))
 have h := HH.1
 clear HH
 unfold vendmeterref_MeterKeyed.fin at h
 try dsimp only at h
 by_cases d0 : w3 = 0
 case neg =>
  rw [if_neg d0] at h
  simp only [Option.some.injEq, Prod.mk.injEq] at h
  obtain ⟨rfl, rfl, rfl, rfl, rfl, rfl, rfl, rfl, rfl⟩ := h
  have q0 : (w3 != 0) = true := bne_iff_ne.mpr d0
  clear d0
  go_wp2_with (first | ((with_reducible refine gate_store (t := 40) (p := 6) rfl ?_); refine seg.list rfl rfl 40 (.tmp 6) _ rfl 40 g4 0 #[.int .i64 0, .int .i64 0, .int .i64 0, .int .i64 0, .int .u64 0, .int .i64 0, .int .i64 0] #[.int .i64 me, .int .i64 rev, .int .i64 cr, .int .i64 H, .int .u64 b, .int .i64 bad, .int .i64 lock] [.int .i64 me, .int .i64 rev, .int .i64 cr, .int .i64 H, .int .u64 b, .int .i64 bad, .int .i64 lock] rfl rfl (by kernel_rfl) (by simp [Value.oneCell']) Bg4.1 (by simp) rfl ?_; intro W9 bx hgr; clear xg10 xg11 xg12 xg13 xg14 xg15 xg16 xg30 xg31 xg32 xg33 xg60 xg61; replace Bg1 := am (seg.far Bg1.1 hgr Ng1g4.1); replace Bg2 := am (seg.far Bg2.1 hgr Ng2g4.1); replace Bg3 := am (seg.far Bg3.1 hgr Ng3g4.1); replace Bg5 := am (seg.far Bg5.1 hgr (Ne.symm Ng4g5.1)); replace Bg6 := am (seg.far Bg6.1 hgr (Ne.symm Ng4g6.1)); replace HB := am (seg.below HB.1 hgr Gg4.1); replace Bg4 := am bx; clear bx hgr; skip))
  refine bodyPost_ret (results_list (rs := [.cell 6 40, .tmp 7, .tmp 8]) rfl (by simp) (.cell g4 40 #[.int .i64 me, .int .i64 rev, .int .i64 cr, .int .i64 H, .int .u64 b, .int .i64 bad, .int .i64 lock] (0, 0) _ rfl Bg4.1 Tryz.underlying40 rfl (by kernel_rfl) (.tmp (.tmp .nil)))) rfl ?_
  exact ⟨rfl, HB.1⟩
 rw [if_pos d0] at h
 subst d0
 by_cases d1 : cls = 0
 ·
  rw [if_pos d1] at h
  have q1 : (cls == 0) = true := beq_iff_eq.mpr d1
  have q10 : (cls == 1) = false := beq_eq_false_iff_ne.mpr (by omega)
  have q9 : (cls == 2) = false := beq_eq_false_iff_ne.mpr (by omega)
  clear d1
  by_cases d2 : amt > wrap64 (99999999 - cr)
  ·
   rw [if_pos d2] at h
   simp only [Option.some.injEq, Prod.mk.injEq] at h
   obtain ⟨rfl, rfl, rfl, rfl, rfl, rfl, rfl, rfl, rfl⟩ := h
   have q8 := decide_eq_true d2
   clear d2
   go_wp2_with (first | ((with_reducible refine gate_store (t := 40) (p := 6) rfl ?_); refine seg.list rfl rfl 40 (.tmp 6) _ rfl 40 g4 0 #[.int .i64 0, .int .i64 0, .int .i64 0, .int .i64 0, .int .u64 0, .int .i64 0, .int .i64 0] #[.int .i64 me, .int .i64 rev, .int .i64 cr, .int .i64 H, .int .u64 b, .int .i64 bad, .int .i64 lock] [.int .i64 me, .int .i64 rev, .int .i64 cr, .int .i64 H, .int .u64 b, .int .i64 bad, .int .i64 lock] rfl rfl (by kernel_rfl) (by simp [Value.oneCell']) Bg4.1 (by simp) rfl ?_; intro W9 bx hgr; clear xg10 xg11 xg12 xg13 xg14 xg15 xg16 xg30 xg31 xg32 xg33 xg60 xg61; replace Bg1 := am (seg.far Bg1.1 hgr Ng1g4.1); replace Bg2 := am (seg.far Bg2.1 hgr Ng2g4.1); replace Bg3 := am (seg.far Bg3.1 hgr Ng3g4.1); replace Bg5 := am (seg.far Bg5.1 hgr (Ne.symm Ng4g5.1)); replace Bg6 := am (seg.far Bg6.1 hgr (Ne.symm Ng4g6.1)); replace HB := am (seg.below HB.1 hgr Gg4.1); replace Bg4 := am bx; clear bx hgr; skip))
   refine bodyPost_ret (results_list (rs := [.cell 6 40, .tmp 7, .tmp 8]) rfl (by simp) (.cell g4 40 #[.int .i64 me, .int .i64 rev, .int .i64 cr, .int .i64 H, .int .u64 b, .int .i64 bad, .int .i64 lock] (0, 0) _ rfl Bg4.1 Tryz.underlying40 rfl (by kernel_rfl) (.tmp (.tmp .nil)))) rfl ?_
   exact ⟨rfl, HB.1⟩
  ·
   rw [if_neg d2] at h
   simp only [Option.some.injEq, Prod.mk.injEq] at h
   obtain ⟨rfl, rfl, rfl, rfl, rfl, rfl, rfl, rfl, rfl⟩ := h
   have q8 := decide_eq_false d2
   clear d2
   go_wp2_with (first | ((with_reducible refine gate_store (t := 38) (p := 99) rfl ?_); refine seg.list rfl rfl 38 (.tmp 99) _ rfl 40 g5 3 #[.int .i64 me, .int .i64 rev, .int .i64 cr, .int .i64 H, .int .u64 b, .int .i64 bad, .int .i64 lock] #[.int .i64 me, .int .i64 rev, .int .i64 cr, .int .i64 w1, .int .u64 w2, .int .i64 bad, .int .i64 lock] [.int .i64 w1, .int .u64 w2] rfl rfl (by kernel_rfl) (by simp [Value.oneCell']) Bg5.1 (by simp) rfl ?_; intro W9 bx hgr; clear xg10 xg11 xg12 xg13 xg14 xg15 xg16 xg30 xg31 xg32 xg33 xg60 xg61; replace Bg1 := am (seg.far Bg1.1 hgr Ng1g5.1); replace Bg2 := am (seg.far Bg2.1 hgr Ng2g5.1); replace Bg3 := am (seg.far Bg3.1 hgr Ng3g5.1); replace Bg4 := am (seg.far Bg4.1 hgr Ng4g5.1); replace Bg6 := am (seg.far Bg6.1 hgr (Ne.symm Ng5g6.1)); replace HB := am (seg.below HB.1 hgr Gg5.1); replace Bg5 := am bx; clear bx hgr; have xg12 : W9.cell? ⟨g1, 2, none⟩ = some (.int .i64 cr) := (blk_cell Bg1.1 2).trans rfl; have xg30 : W9.cell? ⟨g3, 0, none⟩ = some (.int .i64 cls) := (blk_cell Bg3.1 0).trans rfl; have xg32 : W9.cell? ⟨g3, 2, none⟩ = some (.int .i64 amt) := (blk_cell Bg3.1 2).trans rfl; skip) | ((with_reducible refine gate_store (t := 3) (p := 100) rfl ?_); refine seg.list rfl rfl 3 (.tmp 100) _ rfl 40 g5 5 #[.int .i64 me, .int .i64 rev, .int .i64 cr, .int .i64 w1, .int .u64 w2, .int .i64 bad, .int .i64 lock] #[.int .i64 me, .int .i64 rev, .int .i64 cr, .int .i64 w1, .int .u64 w2, .int .i64 0, .int .i64 lock] [.int .i64 0] rfl rfl (by kernel_rfl) (by simp [Value.oneCell']) Bg5.1 (by simp) rfl ?_; intro W10 bx hgr; clear xg12 xg30 xg32; replace Bg1 := am (seg.far Bg1.1 hgr Ng1g5.1); replace Bg2 := am (seg.far Bg2.1 hgr Ng2g5.1); replace Bg3 := am (seg.far Bg3.1 hgr Ng3g5.1); replace Bg4 := am (seg.far Bg4.1 hgr Ng4g5.1); replace Bg6 := am (seg.far Bg6.1 hgr (Ne.symm Ng5g6.1)); replace HB := am (seg.below HB.1 hgr Gg5.1); replace Bg5 := am bx; clear bx hgr; have xg12 : W10.cell? ⟨g1, 2, none⟩ = some (.int .i64 cr) := (blk_cell Bg1.1 2).trans rfl; have xg30 : W10.cell? ⟨g3, 0, none⟩ = some (.int .i64 cls) := (blk_cell Bg3.1 0).trans rfl; have xg32 : W10.cell? ⟨g3, 2, none⟩ = some (.int .i64 amt) := (blk_cell Bg3.1 2).trans rfl; skip) | ((with_reducible refine gate_store (t := 3) (p := 109) rfl ?_); refine seg.list rfl rfl 3 (.tmp 109) _ rfl 40 g5 2 #[.int .i64 me, .int .i64 rev, .int .i64 cr, .int .i64 w1, .int .u64 w2, .int .i64 0, .int .i64 lock] #[.int .i64 me, .int .i64 rev, .int .i64 (wrap64 (cr + amt)), .int .i64 w1, .int .u64 w2, .int .i64 0, .int .i64 lock] [.int .i64 (wrap64 (cr + amt))] rfl rfl (by kernel_rfl) (by simp [Value.oneCell']) Bg5.1 (by simp) rfl ?_; intro W11 bx hgr; clear xg12 xg30 xg32; replace Bg1 := am (seg.far Bg1.1 hgr Ng1g5.1); replace Bg2 := am (seg.far Bg2.1 hgr Ng2g5.1); replace Bg3 := am (seg.far Bg3.1 hgr Ng3g5.1); replace Bg4 := am (seg.far Bg4.1 hgr Ng4g5.1); replace Bg6 := am (seg.far Bg6.1 hgr (Ne.symm Ng5g6.1)); replace HB := am (seg.below HB.1 hgr Gg5.1); replace Bg5 := am bx; clear bx hgr; have xg30 : W11.cell? ⟨g3, 0, none⟩ = some (.int .i64 cls) := (blk_cell Bg3.1 0).trans rfl; have xg32 : W11.cell? ⟨g3, 2, none⟩ = some (.int .i64 amt) := (blk_cell Bg3.1 2).trans rfl; have xg50 : W11.cell? ⟨g5, 0, none⟩ = some (.int .i64 me) := (blk_cell Bg5.1 0).trans rfl; have xg51 : W11.cell? ⟨g5, 1, none⟩ = some (.int .i64 rev) := (blk_cell Bg5.1 1).trans rfl; have xg52 : W11.cell? ⟨g5, 2, none⟩ = some (.int .i64 (wrap64 (cr + amt))) := (blk_cell Bg5.1 2).trans rfl; have xg53 : W11.cell? ⟨g5, 3, none⟩ = some (.int .i64 w1) := (blk_cell Bg5.1 3).trans rfl; have xg54 : W11.cell? ⟨g5, 4, none⟩ = some (.int .u64 w2) := (blk_cell Bg5.1 4).trans rfl; have xg55 : W11.cell? ⟨g5, 5, none⟩ = some (.int .i64 0) := (blk_cell Bg5.1 5).trans rfl; have xg56 : W11.cell? ⟨g5, 6, none⟩ = some (.int .i64 lock) := (blk_cell Bg5.1 6).trans rfl; skip) | ((with_reducible refine gate_store (t := 40) (p := 6) rfl ?_); refine seg.list rfl rfl 40 (.tmp 6) _ rfl 40 g4 0 #[.int .i64 0, .int .i64 0, .int .i64 0, .int .i64 0, .int .u64 0, .int .i64 0, .int .i64 0] #[.int .i64 me, .int .i64 rev, .int .i64 (wrap64 (cr + amt)), .int .i64 w1, .int .u64 w2, .int .i64 0, .int .i64 lock] [.int .i64 me, .int .i64 rev, .int .i64 (wrap64 (cr + amt)), .int .i64 w1, .int .u64 w2, .int .i64 0, .int .i64 lock] rfl rfl (by kernel_rfl) (by simp [Value.oneCell']) Bg4.1 (by simp) rfl ?_; intro W12 bx hgr; clear xg30 xg32 xg50 xg51 xg52 xg53 xg54 xg55 xg56; replace Bg1 := am (seg.far Bg1.1 hgr Ng1g4.1); replace Bg2 := am (seg.far Bg2.1 hgr Ng2g4.1); replace Bg3 := am (seg.far Bg3.1 hgr Ng3g4.1); replace Bg5 := am (seg.far Bg5.1 hgr (Ne.symm Ng4g5.1)); replace Bg6 := am (seg.far Bg6.1 hgr (Ne.symm Ng4g6.1)); replace HB := am (seg.below HB.1 hgr Gg4.1); replace Bg4 := am bx; clear bx hgr; skip))
   refine bodyPost_ret (results_list (rs := [.cell 6 40, .tmp 7, .tmp 8]) rfl (by simp) (.cell g4 40 #[.int .i64 me, .int .i64 rev, .int .i64 (wrap64 (cr + amt)), .int .i64 w1, .int .u64 w2, .int .i64 0, .int .i64 lock] (0, 0) _ rfl Bg4.1 Tryz.underlying40 rfl (by kernel_rfl) (.tmp (.tmp .nil)))) rfl ?_
   exact ⟨rfl, HB.1⟩
 rw [if_neg d1] at h
 have q1 : (cls == 0) = false := beq_eq_false_iff_ne.mpr d1
 clear d1
 by_cases d3 : cls = 2
 ·
  rw [if_pos d3] at h
  have q11 : (cls == 2) = true := beq_iff_eq.mpr d3
  have q9 : (cls == 1) = false := beq_eq_false_iff_ne.mpr (by omega)
  clear d3
  by_cases d2 : amt ≤ rev
  ·
   rw [if_pos d2] at h
   simp only [Option.some.injEq, Prod.mk.injEq] at h
   obtain ⟨rfl, rfl, rfl, rfl, rfl, rfl, rfl, rfl, rfl⟩ := h
   have q8 := decide_eq_true d2
   clear d2
   go_wp2_with (first | ((with_reducible refine gate_store (t := 40) (p := 6) rfl ?_); refine seg.list rfl rfl 40 (.tmp 6) _ rfl 40 g4 0 #[.int .i64 0, .int .i64 0, .int .i64 0, .int .i64 0, .int .u64 0, .int .i64 0, .int .i64 0] #[.int .i64 me, .int .i64 rev, .int .i64 cr, .int .i64 H, .int .u64 b, .int .i64 bad, .int .i64 lock] [.int .i64 me, .int .i64 rev, .int .i64 cr, .int .i64 H, .int .u64 b, .int .i64 bad, .int .i64 lock] rfl rfl (by kernel_rfl) (by simp [Value.oneCell']) Bg4.1 (by simp) rfl ?_; intro W9 bx hgr; clear xg10 xg11 xg12 xg13 xg14 xg15 xg16 xg30 xg31 xg32 xg33 xg60 xg61; replace Bg1 := am (seg.far Bg1.1 hgr Ng1g4.1); replace Bg2 := am (seg.far Bg2.1 hgr Ng2g4.1); replace Bg3 := am (seg.far Bg3.1 hgr Ng3g4.1); replace Bg5 := am (seg.far Bg5.1 hgr (Ne.symm Ng4g5.1)); replace Bg6 := am (seg.far Bg6.1 hgr (Ne.symm Ng4g6.1)); replace HB := am (seg.below HB.1 hgr Gg4.1); replace Bg4 := am bx; clear bx hgr; skip))
   refine bodyPost_ret (results_list (rs := [.cell 6 40, .tmp 7, .tmp 8]) rfl (by simp) (.cell g4 40 #[.int .i64 me, .int .i64 rev, .int .i64 cr, .int .i64 H, .int .u64 b, .int .i64 bad, .int .i64 lock] (0, 0) _ rfl Bg4.1 Tryz.underlying40 rfl (by kernel_rfl) (.tmp (.tmp .nil)))) rfl ?_
   exact ⟨rfl, HB.1⟩
  ·
   rw [if_neg d2] at h
   simp only [Option.some.injEq, Prod.mk.injEq] at h
   obtain ⟨rfl, rfl, rfl, rfl, rfl, rfl, rfl, rfl, rfl⟩ := h
   have q8 := decide_eq_false d2
   clear d2
   go_wp2_with (first | ((with_reducible refine gate_store (t := 38) (p := 99) rfl ?_); refine seg.list rfl rfl 38 (.tmp 99) _ rfl 40 g5 3 #[.int .i64 me, .int .i64 rev, .int .i64 cr, .int .i64 H, .int .u64 b, .int .i64 bad, .int .i64 lock] #[.int .i64 me, .int .i64 rev, .int .i64 cr, .int .i64 w1, .int .u64 w2, .int .i64 bad, .int .i64 lock] [.int .i64 w1, .int .u64 w2] rfl rfl (by kernel_rfl) (by simp [Value.oneCell']) Bg5.1 (by simp) rfl ?_; intro W9 bx hgr; clear xg10 xg11 xg12 xg13 xg14 xg15 xg16 xg30 xg31 xg32 xg33 xg60 xg61; replace Bg1 := am (seg.far Bg1.1 hgr Ng1g5.1); replace Bg2 := am (seg.far Bg2.1 hgr Ng2g5.1); replace Bg3 := am (seg.far Bg3.1 hgr Ng3g5.1); replace Bg4 := am (seg.far Bg4.1 hgr Ng4g5.1); replace Bg6 := am (seg.far Bg6.1 hgr (Ne.symm Ng5g6.1)); replace HB := am (seg.below HB.1 hgr Gg5.1); replace Bg5 := am bx; clear bx hgr; have xg12 : W9.cell? ⟨g1, 2, none⟩ = some (.int .i64 cr) := (blk_cell Bg1.1 2).trans rfl; have xg30 : W9.cell? ⟨g3, 0, none⟩ = some (.int .i64 cls) := (blk_cell Bg3.1 0).trans rfl; have xg32 : W9.cell? ⟨g3, 2, none⟩ = some (.int .i64 amt) := (blk_cell Bg3.1 2).trans rfl; skip) | ((with_reducible refine gate_store (t := 3) (p := 100) rfl ?_); refine seg.list rfl rfl 3 (.tmp 100) _ rfl 40 g5 5 #[.int .i64 me, .int .i64 rev, .int .i64 cr, .int .i64 w1, .int .u64 w2, .int .i64 bad, .int .i64 lock] #[.int .i64 me, .int .i64 rev, .int .i64 cr, .int .i64 w1, .int .u64 w2, .int .i64 0, .int .i64 lock] [.int .i64 0] rfl rfl (by kernel_rfl) (by simp [Value.oneCell']) Bg5.1 (by simp) rfl ?_; intro W10 bx hgr; clear xg12 xg30 xg32; replace Bg1 := am (seg.far Bg1.1 hgr Ng1g5.1); replace Bg2 := am (seg.far Bg2.1 hgr Ng2g5.1); replace Bg3 := am (seg.far Bg3.1 hgr Ng3g5.1); replace Bg4 := am (seg.far Bg4.1 hgr Ng4g5.1); replace Bg6 := am (seg.far Bg6.1 hgr (Ne.symm Ng5g6.1)); replace HB := am (seg.below HB.1 hgr Gg5.1); replace Bg5 := am bx; clear bx hgr; have xg12 : W10.cell? ⟨g1, 2, none⟩ = some (.int .i64 cr) := (blk_cell Bg1.1 2).trans rfl; have xg30 : W10.cell? ⟨g3, 0, none⟩ = some (.int .i64 cls) := (blk_cell Bg3.1 0).trans rfl; have xg32 : W10.cell? ⟨g3, 2, none⟩ = some (.int .i64 amt) := (blk_cell Bg3.1 2).trans rfl; skip) | ((with_reducible refine gate_store (t := 3) (p := 121) rfl ?_); refine seg.list rfl rfl 3 (.tmp 121) _ rfl 40 g5 1 #[.int .i64 me, .int .i64 rev, .int .i64 cr, .int .i64 w1, .int .u64 w2, .int .i64 0, .int .i64 lock] #[.int .i64 me, .int .i64 amt, .int .i64 cr, .int .i64 w1, .int .u64 w2, .int .i64 0, .int .i64 lock] [.int .i64 amt] rfl rfl (by kernel_rfl) (by simp [Value.oneCell']) Bg5.1 (by simp) rfl ?_; intro W11 bx hgr; clear xg12 xg30 xg32; replace Bg1 := am (seg.far Bg1.1 hgr Ng1g5.1); replace Bg2 := am (seg.far Bg2.1 hgr Ng2g5.1); replace Bg3 := am (seg.far Bg3.1 hgr Ng3g5.1); replace Bg4 := am (seg.far Bg4.1 hgr Ng4g5.1); replace Bg6 := am (seg.far Bg6.1 hgr (Ne.symm Ng5g6.1)); replace HB := am (seg.below HB.1 hgr Gg5.1); replace Bg5 := am bx; clear bx hgr; have xg30 : W11.cell? ⟨g3, 0, none⟩ = some (.int .i64 cls) := (blk_cell Bg3.1 0).trans rfl; have xg32 : W11.cell? ⟨g3, 2, none⟩ = some (.int .i64 amt) := (blk_cell Bg3.1 2).trans rfl; have xg50 : W11.cell? ⟨g5, 0, none⟩ = some (.int .i64 me) := (blk_cell Bg5.1 0).trans rfl; have xg51 : W11.cell? ⟨g5, 1, none⟩ = some (.int .i64 amt) := (blk_cell Bg5.1 1).trans rfl; have xg52 : W11.cell? ⟨g5, 2, none⟩ = some (.int .i64 cr) := (blk_cell Bg5.1 2).trans rfl; have xg53 : W11.cell? ⟨g5, 3, none⟩ = some (.int .i64 w1) := (blk_cell Bg5.1 3).trans rfl; have xg54 : W11.cell? ⟨g5, 4, none⟩ = some (.int .u64 w2) := (blk_cell Bg5.1 4).trans rfl; have xg55 : W11.cell? ⟨g5, 5, none⟩ = some (.int .i64 0) := (blk_cell Bg5.1 5).trans rfl; have xg56 : W11.cell? ⟨g5, 6, none⟩ = some (.int .i64 lock) := (blk_cell Bg5.1 6).trans rfl; skip) | ((with_reducible refine gate_store (t := 40) (p := 6) rfl ?_); refine seg.list rfl rfl 40 (.tmp 6) _ rfl 40 g4 0 #[.int .i64 0, .int .i64 0, .int .i64 0, .int .i64 0, .int .u64 0, .int .i64 0, .int .i64 0] #[.int .i64 me, .int .i64 amt, .int .i64 cr, .int .i64 w1, .int .u64 w2, .int .i64 0, .int .i64 lock] [.int .i64 me, .int .i64 amt, .int .i64 cr, .int .i64 w1, .int .u64 w2, .int .i64 0, .int .i64 lock] rfl rfl (by kernel_rfl) (by simp [Value.oneCell']) Bg4.1 (by simp) rfl ?_; intro W12 bx hgr; clear xg30 xg32 xg50 xg51 xg52 xg53 xg54 xg55 xg56; replace Bg1 := am (seg.far Bg1.1 hgr Ng1g4.1); replace Bg2 := am (seg.far Bg2.1 hgr Ng2g4.1); replace Bg3 := am (seg.far Bg3.1 hgr Ng3g4.1); replace Bg5 := am (seg.far Bg5.1 hgr (Ne.symm Ng4g5.1)); replace Bg6 := am (seg.far Bg6.1 hgr (Ne.symm Ng4g6.1)); replace HB := am (seg.below HB.1 hgr Gg4.1); replace Bg4 := am bx; clear bx hgr; skip))
   refine bodyPost_ret (results_list (rs := [.cell 6 40, .tmp 7, .tmp 8]) rfl (by simp) (.cell g4 40 #[.int .i64 me, .int .i64 amt, .int .i64 cr, .int .i64 w1, .int .u64 w2, .int .i64 0, .int .i64 lock] (0, 0) _ rfl Bg4.1 Tryz.underlying40 rfl (by kernel_rfl) (.tmp (.tmp .nil)))) rfl ?_
   exact ⟨rfl, HB.1⟩
 rw [if_neg d3] at h
 have q11 : (cls == 2) = false := beq_eq_false_iff_ne.mpr d3
 clear d3
 by_cases d4 : cls = 1
 ·
  rw [if_pos d4] at h
  simp only [Option.some.injEq, Prod.mk.injEq] at h
  obtain ⟨rfl, rfl, rfl, rfl, rfl, rfl, rfl, rfl, rfl⟩ := h
  have q8 : (cls == 1) = true := beq_iff_eq.mpr d4
  clear d4
  go_wp2_with (first | ((with_reducible refine gate_store (t := 38) (p := 99) rfl ?_); refine seg.list rfl rfl 38 (.tmp 99) _ rfl 40 g5 3 #[.int .i64 me, .int .i64 rev, .int .i64 cr, .int .i64 H, .int .u64 b, .int .i64 bad, .int .i64 lock] #[.int .i64 me, .int .i64 rev, .int .i64 cr, .int .i64 w1, .int .u64 w2, .int .i64 bad, .int .i64 lock] [.int .i64 w1, .int .u64 w2] rfl rfl (by kernel_rfl) (by simp [Value.oneCell']) Bg5.1 (by simp) rfl ?_; intro W9 bx hgr; clear xg10 xg11 xg12 xg13 xg14 xg15 xg16 xg30 xg31 xg32 xg33 xg60 xg61; replace Bg1 := am (seg.far Bg1.1 hgr Ng1g5.1); replace Bg2 := am (seg.far Bg2.1 hgr Ng2g5.1); replace Bg3 := am (seg.far Bg3.1 hgr Ng3g5.1); replace Bg4 := am (seg.far Bg4.1 hgr Ng4g5.1); replace Bg6 := am (seg.far Bg6.1 hgr (Ne.symm Ng5g6.1)); replace HB := am (seg.below HB.1 hgr Gg5.1); replace Bg5 := am bx; clear bx hgr; have xg12 : W9.cell? ⟨g1, 2, none⟩ = some (.int .i64 cr) := (blk_cell Bg1.1 2).trans rfl; have xg30 : W9.cell? ⟨g3, 0, none⟩ = some (.int .i64 cls) := (blk_cell Bg3.1 0).trans rfl; have xg32 : W9.cell? ⟨g3, 2, none⟩ = some (.int .i64 amt) := (blk_cell Bg3.1 2).trans rfl; skip) | ((with_reducible refine gate_store (t := 3) (p := 100) rfl ?_); refine seg.list rfl rfl 3 (.tmp 100) _ rfl 40 g5 5 #[.int .i64 me, .int .i64 rev, .int .i64 cr, .int .i64 w1, .int .u64 w2, .int .i64 bad, .int .i64 lock] #[.int .i64 me, .int .i64 rev, .int .i64 cr, .int .i64 w1, .int .u64 w2, .int .i64 0, .int .i64 lock] [.int .i64 0] rfl rfl (by kernel_rfl) (by simp [Value.oneCell']) Bg5.1 (by simp) rfl ?_; intro W10 bx hgr; clear xg12 xg30 xg32; replace Bg1 := am (seg.far Bg1.1 hgr Ng1g5.1); replace Bg2 := am (seg.far Bg2.1 hgr Ng2g5.1); replace Bg3 := am (seg.far Bg3.1 hgr Ng3g5.1); replace Bg4 := am (seg.far Bg4.1 hgr Ng4g5.1); replace Bg6 := am (seg.far Bg6.1 hgr (Ne.symm Ng5g6.1)); replace HB := am (seg.below HB.1 hgr Gg5.1); replace Bg5 := am bx; clear bx hgr; have xg12 : W10.cell? ⟨g1, 2, none⟩ = some (.int .i64 cr) := (blk_cell Bg1.1 2).trans rfl; have xg30 : W10.cell? ⟨g3, 0, none⟩ = some (.int .i64 cls) := (blk_cell Bg3.1 0).trans rfl; have xg32 : W10.cell? ⟨g3, 2, none⟩ = some (.int .i64 amt) := (blk_cell Bg3.1 2).trans rfl; skip) | ((with_reducible refine gate_store (t := 3) (p := 115) rfl ?_); refine seg.list rfl rfl 3 (.tmp 115) _ rfl 40 g5 2 #[.int .i64 me, .int .i64 rev, .int .i64 cr, .int .i64 w1, .int .u64 w2, .int .i64 0, .int .i64 lock] #[.int .i64 me, .int .i64 rev, .int .i64 0, .int .i64 w1, .int .u64 w2, .int .i64 0, .int .i64 lock] [.int .i64 0] rfl rfl (by kernel_rfl) (by simp [Value.oneCell']) Bg5.1 (by simp) rfl ?_; intro W11 bx hgr; clear xg12 xg30 xg32; replace Bg1 := am (seg.far Bg1.1 hgr Ng1g5.1); replace Bg2 := am (seg.far Bg2.1 hgr Ng2g5.1); replace Bg3 := am (seg.far Bg3.1 hgr Ng3g5.1); replace Bg4 := am (seg.far Bg4.1 hgr Ng4g5.1); replace Bg6 := am (seg.far Bg6.1 hgr (Ne.symm Ng5g6.1)); replace HB := am (seg.below HB.1 hgr Gg5.1); replace Bg5 := am bx; clear bx hgr; have xg30 : W11.cell? ⟨g3, 0, none⟩ = some (.int .i64 cls) := (blk_cell Bg3.1 0).trans rfl; have xg32 : W11.cell? ⟨g3, 2, none⟩ = some (.int .i64 amt) := (blk_cell Bg3.1 2).trans rfl; have xg50 : W11.cell? ⟨g5, 0, none⟩ = some (.int .i64 me) := (blk_cell Bg5.1 0).trans rfl; have xg51 : W11.cell? ⟨g5, 1, none⟩ = some (.int .i64 rev) := (blk_cell Bg5.1 1).trans rfl; have xg52 : W11.cell? ⟨g5, 2, none⟩ = some (.int .i64 0) := (blk_cell Bg5.1 2).trans rfl; have xg53 : W11.cell? ⟨g5, 3, none⟩ = some (.int .i64 w1) := (blk_cell Bg5.1 3).trans rfl; have xg54 : W11.cell? ⟨g5, 4, none⟩ = some (.int .u64 w2) := (blk_cell Bg5.1 4).trans rfl; have xg55 : W11.cell? ⟨g5, 5, none⟩ = some (.int .i64 0) := (blk_cell Bg5.1 5).trans rfl; have xg56 : W11.cell? ⟨g5, 6, none⟩ = some (.int .i64 lock) := (blk_cell Bg5.1 6).trans rfl; skip) | ((with_reducible refine gate_store (t := 40) (p := 6) rfl ?_); refine seg.list rfl rfl 40 (.tmp 6) _ rfl 40 g4 0 #[.int .i64 0, .int .i64 0, .int .i64 0, .int .i64 0, .int .u64 0, .int .i64 0, .int .i64 0] #[.int .i64 me, .int .i64 rev, .int .i64 0, .int .i64 w1, .int .u64 w2, .int .i64 0, .int .i64 lock] [.int .i64 me, .int .i64 rev, .int .i64 0, .int .i64 w1, .int .u64 w2, .int .i64 0, .int .i64 lock] rfl rfl (by kernel_rfl) (by simp [Value.oneCell']) Bg4.1 (by simp) rfl ?_; intro W12 bx hgr; clear xg30 xg32 xg50 xg51 xg52 xg53 xg54 xg55 xg56; replace Bg1 := am (seg.far Bg1.1 hgr Ng1g4.1); replace Bg2 := am (seg.far Bg2.1 hgr Ng2g4.1); replace Bg3 := am (seg.far Bg3.1 hgr Ng3g4.1); replace Bg5 := am (seg.far Bg5.1 hgr (Ne.symm Ng4g5.1)); replace Bg6 := am (seg.far Bg6.1 hgr (Ne.symm Ng4g6.1)); replace HB := am (seg.below HB.1 hgr Gg4.1); replace Bg4 := am bx; clear bx hgr; skip))
  refine bodyPost_ret (results_list (rs := [.cell 6 40, .tmp 7, .tmp 8]) rfl (by simp) (.cell g4 40 #[.int .i64 me, .int .i64 rev, .int .i64 0, .int .i64 w1, .int .u64 w2, .int .i64 0, .int .i64 lock] (0, 0) _ rfl Bg4.1 Tryz.underlying40 rfl (by kernel_rfl) (.tmp (.tmp .nil)))) rfl ?_
  exact ⟨rfl, HB.1⟩
 ·
  rw [if_neg d4] at h
  simp only [Option.some.injEq, Prod.mk.injEq] at h
  obtain ⟨rfl, rfl, rfl, rfl, rfl, rfl, rfl, rfl, rfl⟩ := h
  have q8 : (cls == 1) = false := beq_eq_false_iff_ne.mpr d4
  clear d4
  go_wp2_with (first | ((with_reducible refine gate_store (t := 38) (p := 99) rfl ?_); refine seg.list rfl rfl 38 (.tmp 99) _ rfl 40 g5 3 #[.int .i64 me, .int .i64 rev, .int .i64 cr, .int .i64 H, .int .u64 b, .int .i64 bad, .int .i64 lock] #[.int .i64 me, .int .i64 rev, .int .i64 cr, .int .i64 w1, .int .u64 w2, .int .i64 bad, .int .i64 lock] [.int .i64 w1, .int .u64 w2] rfl rfl (by kernel_rfl) (by simp [Value.oneCell']) Bg5.1 (by simp) rfl ?_; intro W9 bx hgr; clear xg10 xg11 xg12 xg13 xg14 xg15 xg16 xg30 xg31 xg32 xg33 xg60 xg61; replace Bg1 := am (seg.far Bg1.1 hgr Ng1g5.1); replace Bg2 := am (seg.far Bg2.1 hgr Ng2g5.1); replace Bg3 := am (seg.far Bg3.1 hgr Ng3g5.1); replace Bg4 := am (seg.far Bg4.1 hgr Ng4g5.1); replace Bg6 := am (seg.far Bg6.1 hgr (Ne.symm Ng5g6.1)); replace HB := am (seg.below HB.1 hgr Gg5.1); replace Bg5 := am bx; clear bx hgr; have xg12 : W9.cell? ⟨g1, 2, none⟩ = some (.int .i64 cr) := (blk_cell Bg1.1 2).trans rfl; have xg30 : W9.cell? ⟨g3, 0, none⟩ = some (.int .i64 cls) := (blk_cell Bg3.1 0).trans rfl; have xg32 : W9.cell? ⟨g3, 2, none⟩ = some (.int .i64 amt) := (blk_cell Bg3.1 2).trans rfl; skip) | ((with_reducible refine gate_store (t := 3) (p := 100) rfl ?_); refine seg.list rfl rfl 3 (.tmp 100) _ rfl 40 g5 5 #[.int .i64 me, .int .i64 rev, .int .i64 cr, .int .i64 w1, .int .u64 w2, .int .i64 bad, .int .i64 lock] #[.int .i64 me, .int .i64 rev, .int .i64 cr, .int .i64 w1, .int .u64 w2, .int .i64 0, .int .i64 lock] [.int .i64 0] rfl rfl (by kernel_rfl) (by simp [Value.oneCell']) Bg5.1 (by simp) rfl ?_; intro W10 bx hgr; clear xg12 xg30 xg32; replace Bg1 := am (seg.far Bg1.1 hgr Ng1g5.1); replace Bg2 := am (seg.far Bg2.1 hgr Ng2g5.1); replace Bg3 := am (seg.far Bg3.1 hgr Ng3g5.1); replace Bg4 := am (seg.far Bg4.1 hgr Ng4g5.1); replace Bg6 := am (seg.far Bg6.1 hgr (Ne.symm Ng5g6.1)); replace HB := am (seg.below HB.1 hgr Gg5.1); replace Bg5 := am bx; clear bx hgr; have xg30 : W10.cell? ⟨g3, 0, none⟩ = some (.int .i64 cls) := (blk_cell Bg3.1 0).trans rfl; have xg32 : W10.cell? ⟨g3, 2, none⟩ = some (.int .i64 amt) := (blk_cell Bg3.1 2).trans rfl; have xg50 : W10.cell? ⟨g5, 0, none⟩ = some (.int .i64 me) := (blk_cell Bg5.1 0).trans rfl; have xg51 : W10.cell? ⟨g5, 1, none⟩ = some (.int .i64 rev) := (blk_cell Bg5.1 1).trans rfl; have xg52 : W10.cell? ⟨g5, 2, none⟩ = some (.int .i64 cr) := (blk_cell Bg5.1 2).trans rfl; have xg53 : W10.cell? ⟨g5, 3, none⟩ = some (.int .i64 w1) := (blk_cell Bg5.1 3).trans rfl; have xg54 : W10.cell? ⟨g5, 4, none⟩ = some (.int .u64 w2) := (blk_cell Bg5.1 4).trans rfl; have xg55 : W10.cell? ⟨g5, 5, none⟩ = some (.int .i64 0) := (blk_cell Bg5.1 5).trans rfl; have xg56 : W10.cell? ⟨g5, 6, none⟩ = some (.int .i64 lock) := (blk_cell Bg5.1 6).trans rfl; skip) | ((with_reducible refine gate_store (t := 40) (p := 6) rfl ?_); refine seg.list rfl rfl 40 (.tmp 6) _ rfl 40 g4 0 #[.int .i64 0, .int .i64 0, .int .i64 0, .int .i64 0, .int .u64 0, .int .i64 0, .int .i64 0] #[.int .i64 me, .int .i64 rev, .int .i64 cr, .int .i64 w1, .int .u64 w2, .int .i64 0, .int .i64 lock] [.int .i64 me, .int .i64 rev, .int .i64 cr, .int .i64 w1, .int .u64 w2, .int .i64 0, .int .i64 lock] rfl rfl (by kernel_rfl) (by simp [Value.oneCell']) Bg4.1 (by simp) rfl ?_; intro W11 bx hgr; clear xg30 xg32 xg50 xg51 xg52 xg53 xg54 xg55 xg56; replace Bg1 := am (seg.far Bg1.1 hgr Ng1g4.1); replace Bg2 := am (seg.far Bg2.1 hgr Ng2g4.1); replace Bg3 := am (seg.far Bg3.1 hgr Ng3g4.1); replace Bg5 := am (seg.far Bg5.1 hgr (Ne.symm Ng4g5.1)); replace Bg6 := am (seg.far Bg6.1 hgr (Ne.symm Ng4g6.1)); replace HB := am (seg.below HB.1 hgr Gg4.1); replace Bg4 := am bx; clear bx hgr; skip))
  refine bodyPost_ret (results_list (rs := [.cell 6 40, .tmp 7, .tmp 8]) rfl (by simp) (.cell g4 40 #[.int .i64 me, .int .i64 rev, .int .i64 cr, .int .i64 w1, .int .u64 w2, .int .i64 0, .int .i64 lock] (0, 0) _ rfl Bg4.1 Tryz.underlying40 rfl (by kernel_rfl) (.tmp (.tmp .nil)))) rfl ?_
  exact ⟨rfl, HB.1⟩

/-! ### vendmeterref_MeterWorded: function 52 -/
def vendmeterref_MeterWorded.f (k : Nat) (a0_0 : Int) (a0_1 : Int) (a0_2 : Int) (a0_3 : Int) (a0_4 : Int) (a0_5 : Int) (a0_6 : Int) : Option (List Int × Int) := (vendmeterref_MeterMay.f k a0_0 a0_1 a0_2 a0_3 a0_4 a0_5 a0_6).bind fun t411 => (if t411 = true then (some ((([(a0_2) % 4294967296, (wrap64 (a0_0 + (wrap64 (256 * (wrap64 (a0_1 + (wrap64 (256 * (wrap64 (a0_5 + (wrap64 (256 * a0_6)))))))))))) % 4294967296, (a0_3) % 4294967296, (Int.tmod a0_4 4294967296) % 4294967296, (IntKind.u64.wrap (Int.tdiv a0_4 4294967296)) % 4294967296] : List Int)), 0)) else (some (([] : List Int), 5)))
theorem vendmeterref_MeterWorded.mono : ∀ a0 a1 a2 a3 a4 a5 a6 k, LeO (vendmeterref_MeterWorded.f k a0 a1 a2 a3 a4 a5 a6) (vendmeterref_MeterWorded.f (k + 1) a0 a1 a2 a3 a4 a5 a6) := by
 intro a0 a1 a2 a3 a4 a5 a6 k
 unfold vendmeterref_MeterWorded.f
 repeat' first
   | (with_reducible exact vendmeterref_MeterMay.mono _ _ _ _ _ _ _ _)
   | (with_reducible exact LeO.refl _)
   | (with_reducible exact LeO.none _)
   | (with_reducible refine LeO.ite ?_ ?_)
   | (with_reducible refine LeO.bind ?_ (fun _ => ?_))
set_option maxHeartbeats 8000000 in
set_option maxRecDepth 100000 in
theorem vendmeterref_MeterWorded.calls (k : Nat) (a0_0 : Int) (a0_1 : Int) (a0_2 : Int) (a0_3 : Int) (a0_4 : Int) (a0_5 : Int) (a0_6 : Int) (r1 : List Int) (r2 : Int) (w : World) (h : vendmeterref_MeterWorded.f k a0_0 a0_1 a0_2 a0_3 a0_4 a0_5 a0_6 = some (r1, r2)) :
  Calls Tryz.prog 52 #[.agg #[.int .i64 a0_0, .int .i64 a0_1, .int .i64 a0_2, .int .i64 a0_3, .int .u64 a0_4, .int .i64 a0_5, .int .i64 a0_6]] w fun e w' => ∃ v0_ : Value, e = .returned (.tuple #[v0_, .int .i64 r2]) ∧ Kd.R (Kd.int .u32) 51 w' w.heap.size (fun _ => True) v0_ r1 ∧ Below w.heap.size w w' := by
 have hu40 := Tryz.underlying40
 have HB := am (Below.refl w.heap.size w)
 have H : ((vendmeterref_MeterMay.f k a0_0 a0_1 a0_2 a0_3 a0_4 a0_5 a0_6).bind fun t411 => (if t411 = true then (some ((([(a0_2) % 4294967296, (wrap64 (a0_0 + (wrap64 (256 * (wrap64 (a0_1 + (wrap64 (256 * (wrap64 (a0_5 + (wrap64 (256 * a0_6)))))))))))) % 4294967296, (a0_3) % 4294967296, (Int.tmod a0_4 4294967296) % 4294967296, (IntKind.u64.wrap (Int.tdiv a0_4 4294967296)) % 4294967296] : List Int)), 0)) else (some (([] : List Int), 5)))) = some (r1, r2) := h
 clear h
 replace H := Option.bind_eq_some_iff.mp H
 obtain ⟨t411, A20, H⟩ := H
 (try dsimp only at H)
 have A2 := am A20
 clear A20
 by_cases c3 : t411 = true
 ·
  subst c3
  have H1 : (some ((([(a0_2) % 4294967296, (wrap64 (a0_0 + (wrap64 (256 * (wrap64 (a0_1 + (wrap64 (256 * (wrap64 (a0_5 + (wrap64 (256 * a0_6)))))))))))) % 4294967296, (a0_3) % 4294967296, (Int.tmod a0_4 4294967296) % 4294967296, (IntKind.u64.wrap (Int.tdiv a0_4 4294967296)) % 4294967296] : List Int)), 0)) = some (r1, r2) := by rw [if_pos rfl] at H; exact H
  clear H
  have H := H1
  clear H1
  obtain ⟨y412, hy412⟩ : ∃ y_ : List Int, y_ = (([(a0_2) % 4294967296, (wrap64 (a0_0 + (wrap64 (256 * (wrap64 (a0_1 + (wrap64 (256 * (wrap64 (a0_5 + (wrap64 (256 * a0_6)))))))))))) % 4294967296, (a0_3) % 4294967296, (Int.tmod a0_4 4294967296) % 4294967296, (IntKind.u64.wrap (Int.tdiv a0_4 4294967296)) % 4294967296] : List Int)) := ⟨_, rfl⟩
  replace H : (some (y412, 0)) = some (r1, r2) := by first | (rw [hy412]; with_reducible exact H) | (have H2_ := (Option.bind_some _ _).symm.trans H; rw [hy412]; with_reducible exact H2_) | (have H2_ := (Option.bind_some _ _).symm.trans H; with_reducible exact H2_) | with_reducible exact H | (rw [hy412]; exact H) | exact H
  have Ny412 := am hy412
  clear hy412
  simp only [Option.some.injEq, Prod.mk.injEq] at H
  obtain ⟨rfl, rfl⟩ := H
  go_enter Tryz.func52, Tryz.ntmps52
  go_wp2_with (first | ((with_reducible refine gate_dst (N := 1) rfl ?_); refine czbox 1 #[.int .i64 a0_0, .int .i64 a0_1, .int .i64 a0_2, .int .i64 a0_3, .int .u64 a0_4, .int .i64 a0_5, .int .i64 a0_6] 40 ?_; intro gb410 hg w4 hbox hb; have BK410 := am (hbox); have GW410 := czsz hg (czbl HB); have GE410 := czsz hg (czbl HB); replace HB := am (below_step (czbl HB) hb); clear hb hbox hg; obtain ⟨hcz5_0, hcz5_1, hcz5_2, hcz5_3, hcz5_4, hcz5_5, hcz5_6⟩ := czc7 BK410.1) | ((with_reducible refine gate_callee (f := 48) rfl ?_); refine czgo (some 8) Tryz.func48 #[.agg #[.int .i64 a0_0, .int .i64 a0_1, .int .i64 a0_2, .int .i64 a0_3, .int .u64 a0_4, .int .i64 a0_5, .int .i64 a0_6]] ?_; (with_reducible refine (vendmeterref_MeterMay.calls k a0_0 a0_1 a0_2 a0_3 a0_4 a0_5 a0_6 true _ A2.out).mono ?_); rintro e w6 ⟨rfl, hb⟩; refine ⟨_, rfl, ?_⟩; replace BK410 := czbb BK410 hb; replace HB := am (below_step (czbl1 HB GE410) hb); (try clear hb hb2 hk hi); obtain ⟨hcz7_0, hcz7_1, hcz7_2, hcz7_3, hcz7_4, hcz7_5, hcz7_6⟩ := czc7 BK410.1) | ((with_reducible refine gate_dst (N := 45) rfl ?_); refine Kd.R_lit (Kd.int .u32) _ 51 ?hg (N := 45) ?hd (xs := ([(a0_2) % 4294967296, (wrap64 (a0_0 + (wrap64 (256 * (wrap64 (a0_1 + (wrap64 (256 * (wrap64 (a0_5 + (wrap64 (256 * a0_6)))))))))))) % 4294967296, (a0_3) % 4294967296, (Int.tmod a0_4 4294967296) % 4294967296, (IntKind.u64.wrap (Int.tdiv a0_4 4294967296)) % 4294967296] : List Int)) (inner := [.int .u32 ((a0_2) % 4294967296), .int .u32 ((wrap64 (a0_0 + (wrap64 (256 * (wrap64 (a0_1 + (wrap64 (256 * (wrap64 (a0_5 + (wrap64 (256 * a0_6)))))))))))) % 4294967296), .int .u32 ((a0_3) % 4294967296), .int .u32 ((Int.tmod a0_4 4294967296) % 4294967296), .int .u32 ((IntKind.u64.wrap (Int.tdiv a0_4 4294967296)) % 4294967296)]) (ok := fun _ => True) (okp := fun _ => True) ?hr ?hp (fun _ hk => hk) trivial (Below.refl _ _) (Nat.le_refl _) (by simp) ?_; (case hd => rfl); (case hg => rfl); (case hr => first | (go_simp; done) | (go_simp; rfl)); (case hp => exact (Reps.one (show Kd.M (Kd.int .u32) _ _ _ ((a0_2) % 4294967296) [.int .u32 ((a0_2) % 4294967296)] from rfl) (Reps.one (show Kd.M (Kd.int .u32) _ _ _ ((wrap64 (a0_0 + (wrap64 (256 * (wrap64 (a0_1 + (wrap64 (256 * (wrap64 (a0_5 + (wrap64 (256 * a0_6)))))))))))) % 4294967296) [.int .u32 ((wrap64 (a0_0 + (wrap64 (256 * (wrap64 (a0_1 + (wrap64 (256 * (wrap64 (a0_5 + (wrap64 (256 * a0_6)))))))))))) % 4294967296)] from rfl) (Reps.one (show Kd.M (Kd.int .u32) _ _ _ ((a0_3) % 4294967296) [.int .u32 ((a0_3) % 4294967296)] from rfl) (Reps.one (show Kd.M (Kd.int .u32) _ _ _ ((Int.tmod a0_4 4294967296) % 4294967296) [.int .u32 ((Int.tmod a0_4 4294967296) % 4294967296)] from rfl) (Reps.one (show Kd.M (Kd.int .u32) _ _ _ ((IntKind.u64.wrap (Int.tdiv a0_4 4294967296)) % 4294967296) [.int .u32 ((IntKind.u64.wrap (Int.tdiv a0_4 4294967296)) % 4294967296)] from rfl) (Reps.none _ _))))))); intro v413 w8 ho9 hb hg_ hnew_; clear hg_ hnew_; (first | rw [← Ny412.out] at ho9 | (simp only [Int.reduceToNat] at ho9; rw [← Ny412.out] at ho9)); have HO414 := am (Kd.R_lower ho9 (below_size (czbl1 HB GE410))); replace BK410 := czbb BK410 hb; replace HB := am (below_step (czbl1 HB GE410) hb); clear hb ho9))
  go_ret2
  exact ⟨_, czeq, czR HO414, czbl1 HB GE410⟩
 ·
  replace c3 := Bool.eq_false_iff.mpr c3
  subst c3
  have H1 : (some (([] : List Int), 5)) = some (r1, r2) := by rw [if_neg (show ¬ (false = true) by decide)] at H; exact H
  clear H
  have H := H1
  clear H1
  simp only [Option.some.injEq, Prod.mk.injEq] at H
  obtain ⟨rfl, rfl⟩ := H
  go_enter Tryz.func52, Tryz.ntmps52
  go_wp2_with (first | ((with_reducible refine gate_dst (N := 1) rfl ?_); refine czbox 1 #[.int .i64 a0_0, .int .i64 a0_1, .int .i64 a0_2, .int .i64 a0_3, .int .u64 a0_4, .int .i64 a0_5, .int .i64 a0_6] 40 ?_; intro gb410 hg w10 hbox hb; have BK410 := am (hbox); have GW410 := czsz hg (czbl HB); have GE410 := czsz hg (czbl HB); replace HB := am (below_step (czbl HB) hb); clear hb hbox hg; obtain ⟨hcz11_0, hcz11_1, hcz11_2, hcz11_3, hcz11_4, hcz11_5, hcz11_6⟩ := czc7 BK410.1) | ((with_reducible refine gate_callee (f := 48) rfl ?_); refine czgo (some 8) Tryz.func48 #[.agg #[.int .i64 a0_0, .int .i64 a0_1, .int .i64 a0_2, .int .i64 a0_3, .int .u64 a0_4, .int .i64 a0_5, .int .i64 a0_6]] ?_; (with_reducible refine (vendmeterref_MeterMay.calls k a0_0 a0_1 a0_2 a0_3 a0_4 a0_5 a0_6 false _ A2.out).mono ?_); rintro e w12 ⟨rfl, hb⟩; refine ⟨_, rfl, ?_⟩; replace BK410 := czbb BK410 hb; replace HB := am (below_step (czbl1 HB GE410) hb); (try clear hb hb2 hk hi)))
  go_ret2
  exact ⟨_, czeq, by first | exact Kd.R_nil _ _ _ _ _ | exact Kd.N_nil _ _ _ _ _ | exact Kd.V_nil _ _ _ _ _ | exact Kd.Q_nil _ _ _ _ _ | exact Kd.S_nil _ _ _ _ _, czbl1 HB GE410⟩

/-! ### vendmeterref_Differs: function 53 -/
mutual
def vendmeterref_Differs.j0 : Nat → List Int → List Int → Bool → Option ((List (S53)) × Int)
 | 0, _, _, _ => none
 | k + 1, x0, x1, x18 => if x18 = true then (some (([] : List (S53)), 1)) else (vendmeterref_Differs.l0 k x0 x1 ([] : List (S53)) 0)
def vendmeterref_Differs.l0 : Nat → List Int → List Int → List (S53) → Int → Option ((List (S53)) × Int)
 | 0, _, _, _, _ => none
 | k + 1, x0, x1, x6, x7 => if x7 < (x0.length : Int) then (if 0 ≤ x7 then (if x7 < (x1.length : Int) then (if (rd x0 x7) = (rd x1 x7) then (vendmeterref_Differs.l0 k x0 x1 x6 (wrap64 (x7 + 1))) else (if x6.length < 8796093022208 then (vendmeterref_Differs.l0 k x0 x1 (x6 ++ [(⟨x7, rd x1 x7⟩ : S53)]) (wrap64 (x7 + 1))) else (none))) else (none)) else (none)) else (some (x6, 0))
end
def vendmeterref_Differs.f (k : Nat) (l0 : List Int) (l1 : List Int) : Option ((List (S53)) × Int) := (vendmeterref_In.f (l0.length : Int) 1 2048).bind fun t415 => (if t415 = true then (vendmeterref_Differs.j0 k l0 l1 ((l0.length : Int) != (l1.length : Int))) else (vendmeterref_Differs.j0 k l0 l1 true))
theorem vendmeterref_Differs.mono_l : ∀ k, (∀ y0 y1 y2, LeO (vendmeterref_Differs.j0 k y0 y1 y2) (vendmeterref_Differs.j0 (k + 1) y0 y1 y2)) ∧ (∀ y0 y1 y2 y3, LeO (vendmeterref_Differs.l0 k y0 y1 y2 y3) (vendmeterref_Differs.l0 (k + 1) y0 y1 y2 y3))
 | 0 => ⟨fun _ _ _ r h => by simp [vendmeterref_Differs.j0] at h, fun _ _ _ _ r h => by simp [vendmeterref_Differs.l0] at h⟩
 | k + 1 => by
  obtain ⟨ih0, ih1⟩ := vendmeterref_Differs.mono_l k
  refine ⟨?_, ?_⟩
  ·
   intro y0 y1 y2
   unfold vendmeterref_Differs.j0
   repeat' first
   | (with_reducible exact ih0 _ _ _)
   | (with_reducible exact ih1 _ _ _ _)
   | (with_reducible exact LeO.refl _)
   | (with_reducible exact LeO.none _)
   | (with_reducible refine LeO.ite ?_ ?_)
   | (with_reducible refine LeO.bind ?_ (fun _ => ?_))
  ·
   intro y0 y1 y2 y3
   unfold vendmeterref_Differs.l0
   repeat' first
   | (with_reducible exact ih0 _ _ _)
   | (with_reducible exact ih1 _ _ _ _)
   | (with_reducible exact LeO.refl _)
   | (with_reducible exact LeO.none _)
   | (with_reducible refine LeO.ite ?_ ?_)
   | (with_reducible refine LeO.bind ?_ (fun _ => ?_))
theorem vendmeterref_Differs.mono : ∀ a0 a1 k, LeO (vendmeterref_Differs.f k a0 a1) (vendmeterref_Differs.f (k + 1) a0 a1) := by
 intro a0 a1 k
 obtain ⟨ih0, ih1⟩ := vendmeterref_Differs.mono_l k
 unfold vendmeterref_Differs.f
 repeat' first
   | (with_reducible exact ih0 _ _ _)
   | (with_reducible exact ih1 _ _ _ _)
   | (with_reducible exact LeO.refl _)
   | (with_reducible exact LeO.none _)
   | (with_reducible refine LeO.ite ?_ ?_)
   | (with_reducible refine LeO.bind ?_ (fun _ => ?_))
set_option maxHeartbeats 8000000 in
set_option maxRecDepth 100000 in
theorem vendmeterref_Differs.calls (k : Nat) (A0 : Option Addr) (c0 : Nat) (l0 : List Int) (A1 : Option Addr) (c1 : Nat) (l1 : List Int) (r1 : List (S53)) (r2 : Int) (w : World) (hr0 : Kd.C (Kd.int .u32) w A0 l0.length l0) (hc0 : l0.length ≤ c0) (hr1 : Kd.C (Kd.int .u32) w A1 l1.length l1) (hc1 : l1.length ≤ c1) (h : vendmeterref_Differs.f k l0 l1 = some (r1, r2)) :
  Calls Tryz.prog 53 #[.slice A0 l0.length c0, .slice A1 l1.length c1] w fun e w' => ∃ v0_ : Value, e = .returned (.tuple #[v0_, .int .i64 r2]) ∧ Kd.R k53 53 w' w.heap.size (fun _ => True) v0_ r1 ∧ Below w.heap.size w w' := by
 have hu53 := Tryz.underlying53
 have HR0 := am hr0
 have HC0 := am hc0
 clear hr0 hc0
 have HR1 := am hr1
 have HC1 := am hc1
 clear hr1 hc1
 have HB := am (Below.refl w.heap.size w)
 have H : ((vendmeterref_In.f (l0.length : Int) 1 2048).bind fun t415 => (if t415 = true then (vendmeterref_Differs.j0 k l0 l1 ((l0.length : Int) != (l1.length : Int))) else (vendmeterref_Differs.j0 k l0 l1 true))) = some (r1, r2) := h
 clear h
 have HC3 := am H
 clear H
 go_enter Tryz.func53, Tryz.ntmps53
 go_upto_region 1 with (fail)
 repeat (go_quiet (fail); go_upto_region 1 with (fail))
 go_cut [18] (fun v18 wc => ∃ (kq : Nat) (x18_2 : Bool), v18 = .bool x18_2 ∧ Aside0 (vendmeterref_Differs.j0 kq l0 l1 x18_2 = some (r1, r2)) ∧ Aside0 (kq ≤ k) ∧ Aside0 (Below w.heap.size w wc))
 case first =>
  have H := HC3.out
  clear HC3
  replace H := Option.bind_eq_some_iff.mp H
  obtain ⟨t415, A40, H⟩ := H
  (try dsimp only at H)
  have A4 := am A40
  clear A40
  by_cases c5 : t415 = true
  ·
   subst c5
   have H1 : (vendmeterref_Differs.j0 k l0 l1 ((l0.length : Int) != (l1.length : Int))) = some (r1, r2) := by rw [if_pos rfl] at H; exact H
   clear H
   have H := H1
   clear H1
   have H' := am H
   clear H
   go_wp2_with (first | (go_at_call 84; (with_reducible refine (vendmeterref_In.calls (l0.length : Int) 1 2048 true _ A4.out).mono ?_); rintro e w' ⟨rfl, ⟨nd, rfl⟩⟩; (try first | exact ⟨rfl, _, World.drewN_drewN _ _ _⟩ | exact ⟨rfl, _, Eq.trans (World.drewN_drewN _ _ _) (congrArg (World.drewN _) (Nat.add_assoc _ _ _))⟩)))
   repeat (go_quiet (first | (go_at_call 84; (with_reducible refine (vendmeterref_In.calls (l0.length : Int) 1 2048 true _ A4.out).mono ?_); rintro e w' ⟨rfl, ⟨nd, rfl⟩⟩; (try first | exact ⟨rfl, _, World.drewN_drewN _ _ _⟩ | exact ⟨rfl, _, Eq.trans (World.drewN_drewN _ _ _) (congrArg (World.drewN _) (Nat.add_assoc _ _ _))⟩))); try go_wp2_with (first | (go_at_call 84; (with_reducible refine (vendmeterref_In.calls (l0.length : Int) 1 2048 true _ A4.out).mono ?_); rintro e w' ⟨rfl, ⟨nd, rfl⟩⟩; (try first | exact ⟨rfl, _, World.drewN_drewN _ _ _⟩ | exact ⟨rfl, _, Eq.trans (World.drewN_drewN _ _ _) (congrArg (World.drewN _) (Nat.add_assoc _ _ _))⟩))))
   go_meet
   case rel => exact ⟨_, (((l0.length : Int) != (l1.length : Int))), czr, H', ⟨by first | omega | exact Nat.le_refl _⟩, ⟨czbl HB⟩⟩
  ·
   replace c5 := Bool.eq_false_iff.mpr c5
   subst c5
   have H1 : (vendmeterref_Differs.j0 k l0 l1 true) = some (r1, r2) := by rw [if_neg (show ¬ (false = true) by decide)] at H; exact H
   clear H
   have H := H1
   clear H1
   have H' := am H
   clear H
   go_wp2_with (first | (go_at_call 84; (with_reducible refine (vendmeterref_In.calls (l0.length : Int) 1 2048 false _ A4.out).mono ?_); rintro e w' ⟨rfl, ⟨nd, rfl⟩⟩; (try first | exact ⟨rfl, _, World.drewN_drewN _ _ _⟩ | exact ⟨rfl, _, Eq.trans (World.drewN_drewN _ _ _) (congrArg (World.drewN _) (Nat.add_assoc _ _ _))⟩)))
   repeat (go_quiet (first | (go_at_call 84; (with_reducible refine (vendmeterref_In.calls (l0.length : Int) 1 2048 false _ A4.out).mono ?_); rintro e w' ⟨rfl, ⟨nd, rfl⟩⟩; (try first | exact ⟨rfl, _, World.drewN_drewN _ _ _⟩ | exact ⟨rfl, _, Eq.trans (World.drewN_drewN _ _ _) (congrArg (World.drewN _) (Nat.add_assoc _ _ _))⟩))); try go_wp2_with (first | (go_at_call 84; (with_reducible refine (vendmeterref_In.calls (l0.length : Int) 1 2048 false _ A4.out).mono ?_); rintro e w' ⟨rfl, ⟨nd, rfl⟩⟩; (try first | exact ⟨rfl, _, World.drewN_drewN _ _ _⟩ | exact ⟨rfl, _, Eq.trans (World.drewN_drewN _ _ _) (congrArg (World.drewN _) (Nat.add_assoc _ _ _))⟩))))
   go_meet
   case rel => exact ⟨_, (true), czr, H', ⟨by first | omega | exact Nat.le_refl _⟩, ⟨czbl HB⟩⟩
 case rest =>
  clear HC3
  try clear c1
  try clear p2
  try clear c5
  obtain ⟨kq, x18_2, rfl, HA, HJ2, HB⟩ := hcut
  cases kq with
  | zero => exact absurd HA.out (by simp [vendmeterref_Differs.j0])
  | succ kj2 =>
   have H := HA.out
   clear HA
   simp only [vendmeterref_Differs.j0] at H
   by_cases c6 : x18_2 = true
   ·
    subst c6
    have H1 : (some (([] : List (S53)), 1)) = some (r1, r2) := by rw [if_pos rfl] at H; exact H
    clear H
    have H := H1
    clear H1
    simp only [Option.some.injEq, Prod.mk.injEq] at H
    obtain ⟨rfl, rfl⟩ := H
    go_wp2
    repeat (go_quiet (fail); try go_wp2)
    go_ret2
    exact ⟨_, czeq, by first | exact Kd.R_nil _ _ _ _ _ | exact Kd.N_nil _ _ _ _ _ | exact Kd.V_nil _ _ _ _ _ | exact Kd.Q_nil _ _ _ _ _ | exact Kd.S_nil _ _ _ _ _, czbl HB⟩
   ·
    replace c6 := Bool.eq_false_iff.mpr c6
    subst c6
    have H1 : (vendmeterref_Differs.l0 kj2 l0 l1 ([] : List (S53)) 0) = some (r1, r2) := by rw [if_neg (show ¬ (false = true) by decide)] at H; exact H
    clear H
    have H := H1
    clear H1
    have H' := am H
    clear H
    go_wp2
    repeat (go_quiet (fail); try go_wp2)
    go_loopg [6, 7] kj2 (fun kq v6 v7 w' => ∃ (x6_2 : List (S53)) (x7_2 : Int), v7 = .int .i64 x7_2 ∧ Aside0 (vendmeterref_Differs.l0 kq l0 l1 x6_2 x7_2 = some (r1, r2)) ∧ Aside0 (kq ≤ kj2) ∧ Aside0 (Kd.R k53 53 w' w.heap.size (fun _ => True) v6 x6_2) ∧ Aside0 (Below w.heap.size w w'))
    case atStart => exact ⟨(([] : List (S53))), (0), czr, H', ⟨Nat.le_refl _⟩, ⟨by first | exact Kd.R_nil _ _ _ _ _ | exact Kd.N_nil _ _ _ _ _ | exact Kd.V_nil _ _ _ _ _ | exact Kd.Q_nil _ _ _ _ _ | exact Kd.S_nil _ _ _ _ _⟩, ⟨czbl HB⟩⟩
    case round =>
     clear H'
     try clear c1
     try clear p2
     try clear c5
     try clear c6
     try clear p2
     obtain ⟨x6_2, x7_2, rfl, HA, HK2, HO_6, HB⟩ := hrel
     cases gk with
     | zero => exact absurd HA.out (by simp [vendmeterref_Differs.l0])
     | succ k2 =>
      have H := HA.out
      clear HA
      simp only [vendmeterref_Differs.l0] at H
      revert H
      refine czif (fun c7b0 H => ?_) (fun c7b0 H => ?_)
      ·
       by_cases c8 : 0 ≤ x7_2
       ·
        rw [if_pos c8] at H
        have c8b0 : decide (0 ≤ x7_2) = true := decide_eq_true c8
        clear c8
        by_cases c9 : x7_2 < (l1.length : Int)
        ·
         rw [if_pos c9] at H
         have c9b0 : decide (x7_2 < (l1.length : Int)) = true := decide_eq_true c9
         clear c9
         revert H
         refine czei (fun c10b0 c10b1 H => ?_) (fun c10 c10b0 c10b1 H => ?_)
         ·
          have H' := am H
          clear H
          have p416 : 0 ≤ (x7_2 : Int) := czd
          have q416 : x7_2 < (l0.length : Int) := czd
          obtain ⟨ad416, e416, hx416_0⟩ := Kd.at_int HR0.out x7_2 p416 q416
          cases e416
          replace hx416_0 := (HB.1.cell (World.block_lt_of_cell? w _ hx416_0)).trans hx416_0
          replace p416 := eq_true p416
          replace q416 := eq_true q416
          have p417 : 0 ≤ (x7_2 : Int) := czd
          have q417 : x7_2 < (l1.length : Int) := czd
          obtain ⟨ad417, e417, hx417_0⟩ := Kd.at_int HR1.out x7_2 p417 q417
          cases e417
          replace hx417_0 := (HB.1.cell (World.block_lt_of_cell? w _ hx417_0)).trans hx417_0
          replace p417 := eq_true p417
          replace q417 := eq_true q417
          go_wp2
          repeat (go_quiet (fail); try go_wp2)
          go_roundg k2
          case measure => have := HJ2.out; have := HK2.out; omega
          case rel => exact ⟨(x6_2), (wrap64 (x7_2 + 1)), czr, H', ⟨by have := HJ2.out; have := HK2.out; omega⟩, ⟨czR HO_6⟩, ⟨czbl HB⟩⟩
         ·
          by_cases c11 : x6_2.length < 8796093022208
          ·
           rw [if_pos c11] at H
           have LMc11 := am c11
           clear c11
           obtain ⟨y419, hy419⟩ : ∃ y_ : List (S53), y_ = (x6_2 ++ [(⟨x7_2, rd l1 x7_2⟩ : S53)]) := ⟨_, rfl⟩
           replace H : (vendmeterref_Differs.l0 k2 l0 l1 y419 (wrap64 (x7_2 + 1))) = some (r1, r2) := by first | (rw [hy419]; with_reducible exact H) | (have H2_ := (Option.bind_some _ _).symm.trans H; rw [hy419]; with_reducible exact H2_) | (have H2_ := (Option.bind_some _ _).symm.trans H; with_reducible exact H2_) | with_reducible exact H | (rw [hy419]; exact H) | exact H
           have Ny419 := am hy419
           clear hy419
           have H' := am H
           clear H
           have p416 : 0 ≤ (x7_2 : Int) := czd
           have q416 : x7_2 < (l0.length : Int) := czd
           obtain ⟨ad416, e416, hx416_0⟩ := Kd.at_int HR0.out x7_2 p416 q416
           cases e416
           replace hx416_0 := (HB.1.cell (World.block_lt_of_cell? w _ hx416_0)).trans hx416_0
           replace p416 := eq_true p416
           replace q416 := eq_true q416
           have p417 : 0 ≤ (x7_2 : Int) := czd
           have q417 : x7_2 < (l1.length : Int) := czd
           obtain ⟨ad417, e417, hx417_0⟩ := Kd.at_int HR1.out x7_2 p417 q417
           cases e417
           replace hx417_0 := (HB.1.cell (World.block_lt_of_cell? w _ hx417_0)).trans hx417_0
           replace p417 := eq_true p417
           replace q417 := eq_true q417
           have p418 : 0 ≤ (x7_2 : Int) := czd
           have q418 : x7_2 < (l1.length : Int) := czd
           obtain ⟨ad418, e418, hx418_0⟩ := Kd.at_int HR1.out x7_2 p418 q418
           obtain rfl : ad417 = ad418 := (by injection e418)
           replace hx418_0 := (HB.1.cell (World.block_lt_of_cell? w _ hx418_0)).trans hx418_0
           replace p418 := eq_true p418
           replace q418 := eq_true q418
           go_wp2_with (first | ((with_reducible refine gate_builtin (b := .append) (xs := #[.tmp 34, .tmp 41]) rfl ?_); (try (refine gate_guard (by rfl) ?_; dsimp only)); at_builtin; refine Kd.R_append k53 (w0 := w) w.heap.size rfl (.tmp 34) (.tmp 41) 28 53 (.agg #[(.int .i64 0), (.int .u32 0)]) 16 rfl Tryz.underlying28 info53 rfl (by decide) (by omega) u6 x6_2 (⟨x7_2, rd l1 x7_2⟩ : S53) [.int .i64 x7_2, .int .u32 (rd l1 x7_2)] (fun _ => True) (fun _ => False) rfl rfl ?aP (fun _ hk => hk.elim) ?aF ?aO ?aB ?aS ?aL ?_; (case aP => exact k53_mkM _ _ _ (⟨x7_2, rd l1 x7_2⟩ : S53)); (case aB => exact (czbl HB)); (case aF => exact (fun _ _ => trivial)); (case aO => exact (czR HO_6)); (case aS => exact (below_size (czbl HB))); (case aL => have := LMc11.out; omega); intro v420 w12 ho hb hg hat; rw [← Ny419.out] at ho; have HO421 := am (ho); replace HB := am (hb); clear HO_6; clear ho hb hg hat))
           repeat (go_quiet (first | ((with_reducible refine gate_builtin (b := .append) (xs := #[.tmp 34, .tmp 41]) rfl ?_); (try (refine gate_guard (by rfl) ?_; dsimp only)); at_builtin; refine Kd.R_append k53 (w0 := w) w.heap.size rfl (.tmp 34) (.tmp 41) 28 53 (.agg #[(.int .i64 0), (.int .u32 0)]) 16 rfl Tryz.underlying28 info53 rfl (by decide) (by omega) u6 x6_2 (⟨x7_2, rd l1 x7_2⟩ : S53) [.int .i64 x7_2, .int .u32 (rd l1 x7_2)] (fun _ => True) (fun _ => False) rfl rfl ?aP (fun _ hk => hk.elim) ?aF ?aO ?aB ?aS ?aL ?_; (case aP => exact k53_mkM _ _ _ (⟨x7_2, rd l1 x7_2⟩ : S53)); (case aB => exact (czbl HB)); (case aF => exact (fun _ _ => trivial)); (case aO => exact (czR HO_6)); (case aS => exact (below_size (czbl HB))); (case aL => have := LMc11.out; omega); intro v420 w12 ho hb hg hat; rw [← Ny419.out] at ho; have HO421 := am (ho); replace HB := am (hb); clear HO_6; clear ho hb hg hat)); try go_wp2_with (first | ((with_reducible refine gate_builtin (b := .append) (xs := #[.tmp 34, .tmp 41]) rfl ?_); (try (refine gate_guard (by rfl) ?_; dsimp only)); at_builtin; refine Kd.R_append k53 (w0 := w) w.heap.size rfl (.tmp 34) (.tmp 41) 28 53 (.agg #[(.int .i64 0), (.int .u32 0)]) 16 rfl Tryz.underlying28 info53 rfl (by decide) (by omega) u6 x6_2 (⟨x7_2, rd l1 x7_2⟩ : S53) [.int .i64 x7_2, .int .u32 (rd l1 x7_2)] (fun _ => True) (fun _ => False) rfl rfl ?aP (fun _ hk => hk.elim) ?aF ?aO ?aB ?aS ?aL ?_; (case aP => exact k53_mkM _ _ _ (⟨x7_2, rd l1 x7_2⟩ : S53)); (case aB => exact (czbl HB)); (case aF => exact (fun _ _ => trivial)); (case aO => exact (czR HO_6)); (case aS => exact (below_size (czbl HB))); (case aL => have := LMc11.out; omega); intro v420 w12 ho hb hg hat; rw [← Ny419.out] at ho; have HO421 := am (ho); replace HB := am (hb); clear HO_6; clear ho hb hg hat)))
           go_roundg k2
           case measure => have := HJ2.out; have := HK2.out; omega
           case rel => exact ⟨(y419), (wrap64 (x7_2 + 1)), czr, H', ⟨by have := HJ2.out; have := HK2.out; omega⟩, ⟨czR HO421⟩, ⟨czbl HB⟩⟩
          ·
           rw [if_neg c11] at H
           exact absurd H (by simp)
        ·
         rw [if_neg c9] at H
         exact absurd H (by simp)
       ·
        rw [if_neg c8] at H
        exact absurd H (by simp)
      ·
       simp only [Option.some.injEq, Prod.mk.injEq] at H
       obtain ⟨rfl, rfl⟩ := H
       go_wp2
       repeat (go_quiet (fail); try go_wp2)
       go_ret2
       exact ⟨_, czeq, czR HO_6, czbl HB⟩

end Go.Proofs.YtcllddkmcnfejaaGreatDoor.PPocketKeys
