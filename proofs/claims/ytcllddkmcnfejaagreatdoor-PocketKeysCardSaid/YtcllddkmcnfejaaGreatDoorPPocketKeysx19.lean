-- written by this session's program wip/xp/xprint.py (it drives the kit's print and adds to it)
import Derived.Test.YtcllddkmcnfejaaGreatDoorPPocketKeysx0
import Derived.Test.YtcllddkmcnfejaaGreatDoorPPocketKeysx12
import Derived.Test.YtcllddkmcnfejaaGreatDoorPPocketKeysx17
namespace Go.Proofs.YtcllddkmcnfejaaGreatDoor.PPocketKeys
open Go.RowKit Go.Proofs.YtcllddkmcnfejaaGreatDoorW.PrintWords Go.Proofs.YtcllddkmcnfejaaGreatDoorW.PrintLast Go.Proofs.YtcllddkmcnfejaaGreatDoorW.PrintMore
attribute [local go_sem] max2_int min2_int max_two min_two max_three min_three max_four min_four
set_option linter.unusedVariables false
set_option linter.unusedSimpArgs false
set_option maxHeartbeats 8000000
set_option maxRecDepth 100000

/-! ### vendmeterref_PairMay: function 46 -/
def vendmeterref_PairMay.f (a0_0 : Int) (a0_1 : Int) (a0_2 : Int) (a0_3 : Int) : Option (Bool) := (vendmeterref_In.f a0_0 0 49).bind fun t363 => (if t363 = true then ((vendmeterref_In.f a0_1 0 15).bind fun t364 => (if t364 = true then ((vendmeterref_In.f a0_2 0 8796093022207).bind fun t365 => (if t365 = true then ((vendmeterref_In.f a0_3 0 65535).bind fun t366 => (some t366)) else (some false))) else (some false))) else (some false))
theorem vendmeterref_PairMay.calls (a0_0 : Int) (a0_1 : Int) (a0_2 : Int) (a0_3 : Int) (r : Bool) (w : World) (h : vendmeterref_PairMay.f a0_0 a0_1 a0_2 a0_3 = some r) :
  Calls Tryz.prog 46 #[.agg #[.int .i64 a0_0, .int .i64 a0_1, .int .i64 a0_2, .int .i64 a0_3]] w fun e w' => e = .returned (.bool r) ∧ Below w.heap.size w w' := by
 have hu55 := Tryz.underlying55
 have HB := am (Below.refl w.heap.size w)
 have H : ((vendmeterref_In.f a0_0 0 49).bind fun t363 => (if t363 = true then ((vendmeterref_In.f a0_1 0 15).bind fun t364 => (if t364 = true then ((vendmeterref_In.f a0_2 0 8796093022207).bind fun t365 => (if t365 = true then ((vendmeterref_In.f a0_3 0 65535).bind fun t366 => (some t366)) else (some false))) else (some false))) else (some false))) = some r := h
 clear h
 replace H := Option.bind_eq_some_iff.mp H
 obtain ⟨t363, A20, H⟩ := H
 (try dsimp only at H)
 have A2 := am A20
 clear A20
 by_cases c3 : t363 = true
 ·
  subst c3
  have H1 : ((vendmeterref_In.f a0_1 0 15).bind fun t364 => (if t364 = true then ((vendmeterref_In.f a0_2 0 8796093022207).bind fun t365 => (if t365 = true then ((vendmeterref_In.f a0_3 0 65535).bind fun t366 => (some t366)) else (some false))) else (some false))) = some r := by rw [if_pos rfl] at H; exact H
  clear H
  have H := H1
  clear H1
  replace H := Option.bind_eq_some_iff.mp H
  obtain ⟨t364, A40, H⟩ := H
  (try dsimp only at H)
  have A4 := am A40
  clear A40
  by_cases c5 : t364 = true
  ·
   subst c5
   have H1 : ((vendmeterref_In.f a0_2 0 8796093022207).bind fun t365 => (if t365 = true then ((vendmeterref_In.f a0_3 0 65535).bind fun t366 => (some t366)) else (some false))) = some r := by rw [if_pos rfl] at H; exact H
   clear H
   have H := H1
   clear H1
   replace H := Option.bind_eq_some_iff.mp H
   obtain ⟨t365, A60, H⟩ := H
   (try dsimp only at H)
   have A6 := am A60
   clear A60
   by_cases c7 : t365 = true
   ·
    subst c7
    have H1 : ((vendmeterref_In.f a0_3 0 65535).bind fun t366 => (some t366)) = some r := by rw [if_pos rfl] at H; exact H
    clear H
    have H := H1
    clear H1
    replace H := Option.bind_eq_some_iff.mp H
    obtain ⟨t366, A80, H⟩ := H
    (try dsimp only at H)
    have A8 := am A80
    clear A80
    obtain rfl := Option.some.inj H
    go_enter Tryz.func46, Tryz.ntmps46
    go_wp2_with (first | ((with_reducible refine gate_dst (N := 1) rfl ?_); refine czbox 1 #[.int .i64 a0_0, .int .i64 a0_1, .int .i64 a0_2, .int .i64 a0_3] 55 ?_; intro gb362 hg w9 hbox hb; have BK362 := am (hbox); have GW362 := czsz hg (czbl HB); have GE362 := czsz hg (czbl HB); replace HB := am (below_step (czbl HB) hb); clear hb hbox hg; obtain ⟨hcz10_0, hcz10_1, hcz10_2, hcz10_3⟩ := czc4 BK362.1) | ((with_reducible refine gate_callee (f := 84) rfl ?_); refine czgo (some 5) Tryz.func84 #[.int .i64 a0_0, .int .i64 0, .int .i64 49] ?_; (with_reducible refine (vendmeterref_In.calls a0_0 0 49 true _ A2.out).mono ?_); rintro e w' ⟨rfl, ⟨nd, rfl⟩⟩; refine ⟨_, rfl, ?_⟩) | (go_at_call 84; (with_reducible refine (vendmeterref_In.calls a0_1 0 15 true _ A4.out).mono ?_); rintro e w' ⟨rfl, ⟨nd, rfl⟩⟩) | (go_at_call 84; (with_reducible refine (vendmeterref_In.calls a0_2 0 8796093022207 true _ A6.out).mono ?_); rintro e w' ⟨rfl, ⟨nd, rfl⟩⟩) | (go_at_call 84; (with_reducible refine (vendmeterref_In.calls a0_3 0 65535 t366 _ A8.out).mono ?_); rintro e w' ⟨rfl, ⟨nd, rfl⟩⟩))
    go_ret
    exact ⟨czeq, czbl1 HB GE362⟩
   ·
    replace c7 := Bool.eq_false_iff.mpr c7
    subst c7
    have H1 : (some false) = some r := by rw [if_neg (show ¬ (false = true) by decide)] at H; exact H
    clear H
    have H := H1
    clear H1
    obtain rfl := Option.some.inj H
    go_enter Tryz.func46, Tryz.ntmps46
    go_wp2_with (first | ((with_reducible refine gate_dst (N := 1) rfl ?_); refine czbox 1 #[.int .i64 a0_0, .int .i64 a0_1, .int .i64 a0_2, .int .i64 a0_3] 55 ?_; intro gb362 hg w11 hbox hb; have BK362 := am (hbox); have GW362 := czsz hg (czbl HB); have GE362 := czsz hg (czbl HB); replace HB := am (below_step (czbl HB) hb); clear hb hbox hg; obtain ⟨hcz12_0, hcz12_1, hcz12_2, hcz12_3⟩ := czc4 BK362.1) | ((with_reducible refine gate_callee (f := 84) rfl ?_); refine czgo (some 5) Tryz.func84 #[.int .i64 a0_0, .int .i64 0, .int .i64 49] ?_; (with_reducible refine (vendmeterref_In.calls a0_0 0 49 true _ A2.out).mono ?_); rintro e w' ⟨rfl, ⟨nd, rfl⟩⟩; refine ⟨_, rfl, ?_⟩) | (go_at_call 84; (with_reducible refine (vendmeterref_In.calls a0_1 0 15 true _ A4.out).mono ?_); rintro e w' ⟨rfl, ⟨nd, rfl⟩⟩) | (go_at_call 84; (with_reducible refine (vendmeterref_In.calls a0_2 0 8796093022207 false _ A6.out).mono ?_); rintro e w' ⟨rfl, ⟨nd, rfl⟩⟩))
    go_ret
    exact ⟨czeq, czbl1 HB GE362⟩
  ·
   replace c5 := Bool.eq_false_iff.mpr c5
   subst c5
   have H1 : (some false) = some r := by rw [if_neg (show ¬ (false = true) by decide)] at H; exact H
   clear H
   have H := H1
   clear H1
   obtain rfl := Option.some.inj H
   go_enter Tryz.func46, Tryz.ntmps46
   go_wp2_with (first | ((with_reducible refine gate_dst (N := 1) rfl ?_); refine czbox 1 #[.int .i64 a0_0, .int .i64 a0_1, .int .i64 a0_2, .int .i64 a0_3] 55 ?_; intro gb362 hg w13 hbox hb; have BK362 := am (hbox); have GW362 := czsz hg (czbl HB); have GE362 := czsz hg (czbl HB); replace HB := am (below_step (czbl HB) hb); clear hb hbox hg; obtain ⟨hcz14_0, hcz14_1, hcz14_2, hcz14_3⟩ := czc4 BK362.1) | ((with_reducible refine gate_callee (f := 84) rfl ?_); refine czgo (some 5) Tryz.func84 #[.int .i64 a0_0, .int .i64 0, .int .i64 49] ?_; (with_reducible refine (vendmeterref_In.calls a0_0 0 49 true _ A2.out).mono ?_); rintro e w' ⟨rfl, ⟨nd, rfl⟩⟩; refine ⟨_, rfl, ?_⟩) | (go_at_call 84; (with_reducible refine (vendmeterref_In.calls a0_1 0 15 false _ A4.out).mono ?_); rintro e w' ⟨rfl, ⟨nd, rfl⟩⟩))
   go_ret
   exact ⟨czeq, czbl1 HB GE362⟩
 ·
  replace c3 := Bool.eq_false_iff.mpr c3
  subst c3
  have H1 : (some false) = some r := by rw [if_neg (show ¬ (false = true) by decide)] at H; exact H
  clear H
  have H := H1
  clear H1
  obtain rfl := Option.some.inj H
  go_enter Tryz.func46, Tryz.ntmps46
  go_wp2_with (first | ((with_reducible refine gate_dst (N := 1) rfl ?_); refine czbox 1 #[.int .i64 a0_0, .int .i64 a0_1, .int .i64 a0_2, .int .i64 a0_3] 55 ?_; intro gb362 hg w15 hbox hb; have BK362 := am (hbox); have GW362 := czsz hg (czbl HB); have GE362 := czsz hg (czbl HB); replace HB := am (below_step (czbl HB) hb); clear hb hbox hg; obtain ⟨hcz16_0, hcz16_1, hcz16_2, hcz16_3⟩ := czc4 BK362.1) | ((with_reducible refine gate_callee (f := 84) rfl ?_); refine czgo (some 5) Tryz.func84 #[.int .i64 a0_0, .int .i64 0, .int .i64 49] ?_; (with_reducible refine (vendmeterref_In.calls a0_0 0 49 false _ A2.out).mono ?_); rintro e w' ⟨rfl, ⟨nd, rfl⟩⟩; refine ⟨_, rfl, ?_⟩))
  go_ret
  exact ⟨czeq, czbl1 HB GE362⟩

/-! ### vendmeterref_tagged: function 47 -/
def vendmeterref_tagged.l0 : Nat → Int → Int → Int → Int → List (S55) → Option (Int)
 | 0, _, _, _, _, _ => none
 | k + 1, x1, x2, x3, x9, x368000 => if x9 < (x368000.length : Int) then (if 0 ≤ x9 then (if ((rd_T55 x368000 x9).f0) = x1 then (if ((rd_T55 x368000 x9).f1) = x2 then (if ((rd_T55 x368000 x9).f2) = x3 then (some x9) else (vendmeterref_tagged.l0 k x1 x2 x3 (wrap64 (x9 + 1)) x368000)) else (vendmeterref_tagged.l0 k x1 x2 x3 (wrap64 (x9 + 1)) x368000)) else (vendmeterref_tagged.l0 k x1 x2 x3 (wrap64 (x9 + 1)) x368000)) else (none)) else (some (-1))
def vendmeterref_tagged.f (k : Nat) (l0_0 : List (S55)) (a1 : Int) (a2 : Int) (a3 : Int) : Option (Int) := vendmeterref_tagged.l0 k a1 a2 a3 0 l0_0
theorem vendmeterref_tagged.mono_l : ∀ k, (∀ y0 y1 y2 y3 y4, LeO (vendmeterref_tagged.l0 k y0 y1 y2 y3 y4) (vendmeterref_tagged.l0 (k + 1) y0 y1 y2 y3 y4))
 | 0 => fun _ _ _ _ _ r h => by simp [vendmeterref_tagged.l0] at h
 | k + 1 => by
  have ih0 := vendmeterref_tagged.mono_l k
  ·
   intro y0 y1 y2 y3 y4
   unfold vendmeterref_tagged.l0
   repeat' first
   | (with_reducible exact ih0 _ _ _ _ _)
   | (with_reducible exact LeO.refl _)
   | (with_reducible exact LeO.none _)
   | (with_reducible refine LeO.ite ?_ ?_)
   | (with_reducible refine LeO.bind ?_ (fun _ => ?_))
theorem vendmeterref_tagged.mono : ∀ a0 a1 a2 a3 k, LeO (vendmeterref_tagged.f k a0 a1 a2 a3) (vendmeterref_tagged.f (k + 1) a0 a1 a2 a3) := by
 intro a0 a1 a2 a3 k
 have ih0 := vendmeterref_tagged.mono_l k
 unfold vendmeterref_tagged.f
 repeat' first
   | (with_reducible exact ih0 _ _ _ _ _)
   | (with_reducible exact LeO.refl _)
   | (with_reducible exact LeO.none _)
   | (with_reducible refine LeO.ite ?_ ?_)
   | (with_reducible refine LeO.bind ?_ (fun _ => ?_))
theorem vendmeterref_tagged.calls (k : Nat) (A0_0 : Option Addr) (c0_0 : Nat) (l0_0 : List (S55)) (a1 : Int) (a2 : Int) (a3 : Int) (r : Int) (w : World) (hr0_0 : Kd.C k55 w A0_0 l0_0.length l0_0) (hc0_0 : l0_0.length ≤ c0_0) (h : vendmeterref_tagged.f k l0_0 a1 a2 a3 = some r) :
  Calls Tryz.prog 47 #[.agg #[.slice A0_0 l0_0.length c0_0], .int .i64 a1, .int .i64 a2, .int .i64 a3] w fun e w' => e = .returned (.int .i64 r) ∧ Below w.heap.size w w' := by
 have hu25 := Tryz.underlying25
 have hu55 := Tryz.underlying55
 have HR0_0 := am hr0_0
 have HC0_0 := am hc0_0
 clear hr0_0 hc0_0
 have HB := am (Below.refl w.heap.size w)
 have H : (vendmeterref_tagged.l0 k a1 a2 a3 0 l0_0) = some r := h
 clear h
 have H' := am H
 clear H
 go_enter Tryz.func47, Tryz.ntmps47
 go_wp2_with (first | ((with_reducible refine gate_dst (N := 4) rfl ?_); refine czbox 4 #[.slice A0_0 l0_0.length c0_0] 25 ?_; intro gb367 hg w5 hbox hb; have BK367 := am (hbox); have GW367 := czsz hg (czbl HB); have GE367 := czsz hg (czbl HB); replace HB := am (below_step (czbl HB) hb); clear hb hbox hg))
 go_loopg [9] k (fun kq v9 w' => ∃ (x9_1 : Int), v9 = .int .i64 x9_1 ∧ Aside0 (vendmeterref_tagged.l0 kq a1 a2 a3 x9_1 l0_0 = some r) ∧ Aside0 (kq ≤ k) ∧ Aside0 (w'.heap[gb367]? = some (.cells #[(.slice A0_0 l0_0.length c0_0)] 25 (0, 0))) ∧ Aside0 (Below w.heap.size w w'))
 case atStart => exact ⟨(0), czr, H', ⟨Nat.le_refl _⟩, ⟨czbk BK367⟩, ⟨czbl1 HB GE367⟩⟩
 case round =>
  clear H'
  try clear p2
  try clear c4
  obtain ⟨x9_1, rfl, HA, HK1, BK367, HB⟩ := hrel
  cases gk with
  | zero => exact absurd HA.out (by simp [vendmeterref_tagged.l0])
  | succ k1 =>
   have H := HA.out
   clear HA
   simp only [vendmeterref_tagged.l0] at H
   revert H
   refine czif (fun c6b0 H => ?_) (fun c6b0 H => ?_)
   ·
    by_cases c7 : 0 ≤ x9_1
    ·
     rw [if_pos c7] at H
     have c7b0 : decide (0 ≤ x9_1) = true := decide_eq_true c7
     clear c7
     have HC8 := am H
     clear H
     have hcz9_0 : wr.cell? ⟨gb367, 0, none⟩ = some (.slice A0_0 l0_0.length c0_0) := (blk_cell BK367.1 0).trans rfl
     have hfz9_0 := blk_frozen BK367.1 0
     have p368 : 0 ≤ (x9_1 : Int) := czd
     have q368 : x9_1 < (l0_0.length : Int) := czd
     obtain ⟨ad368, e368, hx368_0, hx368_1, hx368_2, hx368_3⟩ := at_T55 HR0_0.out x9_1 p368 q368
     cases e368
     replace hx368_0 := (HB.1.cell (World.block_lt_of_cell? w _ hx368_0)).trans hx368_0
     replace hx368_1 := (HB.1.cell (World.block_lt_of_cell? w _ hx368_1)).trans hx368_1
     replace hx368_2 := (HB.1.cell (World.block_lt_of_cell? w _ hx368_2)).trans hx368_2
     replace hx368_3 := (HB.1.cell (World.block_lt_of_cell? w _ hx368_3)).trans hx368_3
     replace p368 := eq_true p368
     replace q368 := eq_true q368
     go_upto_region 5 with (first | ((with_reducible refine gate_dst (N := 10) rfl ?_); refine czbox 10 #[.int .i64 0, .int .i64 0, .int .i64 0, .int .i64 0] 55 ?_; intro gb369 hg w10 hbox hb; have BK369 := am (hbox); have GW369 := czsz hg (czbl1 HB GE367); have GE369 := czsz hg (czbl1 HB GE367); have NB367_369 := czne BK367 hg; have NB369_367 := czen BK367 hg; replace BK367 := czbb BK367 hb; replace HB := am (below_step (czbl1 HB GE367) hb); clear hb hbox hg; have hnb11 := NB369_367.1; have hnc11 := NB367_369.1; obtain ⟨hcz12_0, hcz12_1, hcz12_2, hcz12_3⟩ := czc4 BK369.1; obtain ⟨hfz12_0, hfz12_1, hfz12_2, hfz12_3⟩ := czf4 BK369.1))
     have H := HC8.out
     clear HC8
     revert H
     refine czei (fun c13b0 c13b1 H => ?_) (fun c13 c13b0 c13b1 H => ?_)
     ·
      revert H
      refine czei (fun c14b0 c14b1 H => ?_) (fun c14 c14b0 c14b1 H => ?_)
      ·
       revert H
       refine czei (fun c15b0 c15b1 H => ?_) (fun c15 c15b0 c15b1 H => ?_)
       ·
        obtain rfl := Option.some.inj H
        have hnb16 := NB369_367.1
        have hnc16 := NB367_369.1
        obtain ⟨hcz17_0, hcz17_1, hcz17_2, hcz17_3⟩ := czc4 BK369.1
        obtain ⟨hfz17_0, hfz17_1, hfz17_2, hfz17_3⟩ := czf4 BK369.1
        go_wp2
        go_ret
        exact ⟨czeq, czbl2 HB GE367 GE369⟩
       ·
        have H' := am H
        clear H
        have hnb18 := NB369_367.1
        have hnc18 := NB367_369.1
        obtain ⟨hcz19_0, hcz19_1, hcz19_2, hcz19_3⟩ := czc4 BK369.1
        obtain ⟨hfz19_0, hfz19_1, hfz19_2, hfz19_3⟩ := czf4 BK369.1
        go_wp2
        go_roundg k1
        case measure => have := HK1.out; omega
        case rel => exact ⟨(wrap64 (x9_1 + 1)), czr, H', ⟨by have := HK1.out; omega⟩, ⟨by (with_reducible repeat (first | apply czxn | apply czxd | apply czxa)); refine blk_far ?_ NB367_369.1 _; (with_reducible repeat (first | apply czxn | apply czxd | apply czxa)); refine blk_far ?_ NB367_369.1 _; (with_reducible repeat (first | apply czxn | apply czxd | apply czxa)); refine blk_far ?_ NB367_369.1 _; (with_reducible repeat (first | apply czxn | apply czxd | apply czxa)); refine blk_far ?_ NB367_369.1 _; (with_reducible repeat (first | apply czxn | apply czxd | apply czxa)); exact BK367.1⟩, ⟨czbl2 HB GE367 GE369⟩⟩
      ·
       have H' := am H
       clear H
       have hnb20 := NB369_367.1
       have hnc20 := NB367_369.1
       obtain ⟨hcz21_0, hcz21_1, hcz21_2, hcz21_3⟩ := czc4 BK369.1
       obtain ⟨hfz21_0, hfz21_1, hfz21_2, hfz21_3⟩ := czf4 BK369.1
       go_wp2
       go_roundg k1
       case measure => have := HK1.out; omega
       case rel => exact ⟨(wrap64 (x9_1 + 1)), czr, H', ⟨by have := HK1.out; omega⟩, ⟨by (with_reducible repeat (first | apply czxn | apply czxd | apply czxa)); refine blk_far ?_ NB367_369.1 _; (with_reducible repeat (first | apply czxn | apply czxd | apply czxa)); refine blk_far ?_ NB367_369.1 _; (with_reducible repeat (first | apply czxn | apply czxd | apply czxa)); refine blk_far ?_ NB367_369.1 _; (with_reducible repeat (first | apply czxn | apply czxd | apply czxa)); refine blk_far ?_ NB367_369.1 _; (with_reducible repeat (first | apply czxn | apply czxd | apply czxa)); exact BK367.1⟩, ⟨czbl2 HB GE367 GE369⟩⟩
     ·
      have H' := am H
      clear H
      have hnb22 := NB369_367.1
      have hnc22 := NB367_369.1
      obtain ⟨hcz23_0, hcz23_1, hcz23_2, hcz23_3⟩ := czc4 BK369.1
      obtain ⟨hfz23_0, hfz23_1, hfz23_2, hfz23_3⟩ := czf4 BK369.1
      go_wp2
      go_roundg k1
      case measure => have := HK1.out; omega
      case rel => exact ⟨(wrap64 (x9_1 + 1)), czr, H', ⟨by have := HK1.out; omega⟩, ⟨by (with_reducible repeat (first | apply czxn | apply czxd | apply czxa)); refine blk_far ?_ NB367_369.1 _; (with_reducible repeat (first | apply czxn | apply czxd | apply czxa)); refine blk_far ?_ NB367_369.1 _; (with_reducible repeat (first | apply czxn | apply czxd | apply czxa)); refine blk_far ?_ NB367_369.1 _; (with_reducible repeat (first | apply czxn | apply czxd | apply czxa)); refine blk_far ?_ NB367_369.1 _; (with_reducible repeat (first | apply czxn | apply czxd | apply czxa)); exact BK367.1⟩, ⟨czbl2 HB GE367 GE369⟩⟩
    ·
     rw [if_neg c7] at H
     exact absurd H (by simp)
   ·
    obtain rfl := Option.some.inj H
    have hcz24_0 : wr.cell? ⟨gb367, 0, none⟩ = some (.slice A0_0 l0_0.length c0_0) := (blk_cell BK367.1 0).trans rfl
    have hfz24_0 := blk_frozen BK367.1 0
    go_wp2
    go_ret
    exact ⟨czeq, czbl1 HB GE367⟩

/-! ### vendmeterref_OracleMay: function 17 -/
def vendmeterref_OracleMay.l0 : Nat → Int → List (S55) → Option (Bool)
 | 0, _, _ => none
 | k + 1, x3, x371000 => if x3 < (x371000.length : Int) then (if 0 ≤ x3 then ((vendmeterref_PairMay.f ((rd_T55 x371000 x3).f0) ((rd_T55 x371000 x3).f1) ((rd_T55 x371000 x3).f2) ((rd_T55 x371000 x3).f3)).bind fun t373 => (if t373 = true then ((vendmeterref_tagged.f k x371000 ((rd_T55 x371000 x3).f0) ((rd_T55 x371000 x3).f1) ((rd_T55 x371000 x3).f2)).bind fun t374 => (if t374 = x3 then (vendmeterref_OracleMay.l0 k (wrap64 (x3 + 1)) x371000) else (some false))) else (some false))) else (none)) else (some true)
def vendmeterref_OracleMay.f (k : Nat) (l0_0 : List (S55)) : Option (Bool) := if (l0_0.length : Int) > 500 then (some false) else (vendmeterref_OracleMay.l0 k 0 l0_0)
theorem vendmeterref_OracleMay.mono_l : ∀ k, (∀ y0 y1, LeO (vendmeterref_OracleMay.l0 k y0 y1) (vendmeterref_OracleMay.l0 (k + 1) y0 y1))
 | 0 => fun _ _ r h => by simp [vendmeterref_OracleMay.l0] at h
 | k + 1 => by
  have ih0 := vendmeterref_OracleMay.mono_l k
  ·
   intro y0 y1
   unfold vendmeterref_OracleMay.l0
   repeat' first
   | (with_reducible exact ih0 _ _)
   | (with_reducible exact vendmeterref_tagged.mono _ _ _ _ _)
   | (with_reducible exact LeO.refl _)
   | (with_reducible exact LeO.none _)
   | (with_reducible refine LeO.ite ?_ ?_)
   | (with_reducible refine LeO.bind ?_ (fun _ => ?_))
theorem vendmeterref_OracleMay.mono : ∀ a0 k, LeO (vendmeterref_OracleMay.f k a0) (vendmeterref_OracleMay.f (k + 1) a0) := by
 intro a0 k
 have ih0 := vendmeterref_OracleMay.mono_l k
 unfold vendmeterref_OracleMay.f
 repeat' first
   | (with_reducible exact ih0 _ _)
   | (with_reducible exact vendmeterref_tagged.mono _ _ _ _ _)
   | (with_reducible exact LeO.refl _)
   | (with_reducible exact LeO.none _)
   | (with_reducible refine LeO.ite ?_ ?_)
   | (with_reducible refine LeO.bind ?_ (fun _ => ?_))
theorem vendmeterref_OracleMay.calls (k : Nat) (A0_0 : Option Addr) (c0_0 : Nat) (l0_0 : List (S55)) (r : Bool) (w : World) (hr0_0 : Kd.C k55 w A0_0 l0_0.length l0_0) (hc0_0 : l0_0.length ≤ c0_0) (h : vendmeterref_OracleMay.f k l0_0 = some r) :
  Calls Tryz.prog 17 #[.agg #[.slice A0_0 l0_0.length c0_0]] w fun e w' => e = .returned (.bool r) ∧ Below w.heap.size w w' := by
 have hu25 := Tryz.underlying25
 have hu55 := Tryz.underlying55
 have HR0_0 := am hr0_0
 have HC0_0 := am hc0_0
 clear hr0_0 hc0_0
 have HB := am (Below.refl w.heap.size w)
 have H : (if (l0_0.length : Int) > 500 then (some false) else (vendmeterref_OracleMay.l0 k 0 l0_0)) = some r := h
 clear h
 have HC2 := am H
 clear H
 go_enter Tryz.func17, Tryz.ntmps17
 go_upto_region 1 with (first | ((with_reducible refine gate_dst (N := 1) rfl ?_); refine czbox 1 #[.slice A0_0 l0_0.length c0_0] 25 ?_; intro gb370 hg w3 hbox hb; have BK370 := am (hbox); have GW370 := czsz hg (czbl HB); have GE370 := czsz hg (czbl HB); replace HB := am (below_step (czbl HB) hb); clear hb hbox hg))
 have H := HC2.out
 clear HC2
 by_cases c4 : (l0_0.length : Int) > 500
 ·
  rw [if_pos c4] at H
  have c4b0 : decide (500 < (l0_0.length : Int)) = true := decide_eq_true c4
  have c4b1 : decide (500 < l0_0.length) = true := decide_eq_true (by omega)
  clear c4
  obtain rfl := Option.some.inj H
  have hcz5_0 : w3.cell? ⟨gb370, 0, none⟩ = some (.slice A0_0 l0_0.length c0_0) := (blk_cell BK370.1 0).trans rfl
  have hfz5_0 := blk_frozen BK370.1 0
  go_wp2
  go_ret
  exact ⟨czeq, czbl1 HB GE370⟩
 ·
  rw [if_neg c4] at H
  have c4b0 : decide (500 < (l0_0.length : Int)) = false := decide_eq_false c4
  have c4b1 : decide (500 < l0_0.length) = false := decide_eq_false (by omega)
  clear c4
  have H' := am H
  clear H
  have hcz6_0 : w3.cell? ⟨gb370, 0, none⟩ = some (.slice A0_0 l0_0.length c0_0) := (blk_cell BK370.1 0).trans rfl
  have hfz6_0 := blk_frozen BK370.1 0
  go_wp2
  go_loopg [3] k (fun kq v3 w' => ∃ (x3_1 : Int), v3 = .int .i64 x3_1 ∧ Aside0 (vendmeterref_OracleMay.l0 kq x3_1 l0_0 = some r) ∧ Aside0 (kq ≤ k) ∧ Aside0 (w'.heap[gb370]? = some (.cells #[(.slice A0_0 l0_0.length c0_0)] 25 (0, 0))) ∧ Aside0 (Below w.heap.size w w'))
  case atStart => exact ⟨(0), czr, H', ⟨Nat.le_refl _⟩, ⟨czbk BK370⟩, ⟨czbl1 HB GE370⟩⟩
  case round =>
   clear H'
   try clear c1
   try clear p2
   try clear c4
   try clear c4b0
   try clear c4b1
   try clear hcz5_0
   try clear hcz6_0
   try clear hfz5_0
   try clear hfz6_0
   obtain ⟨x3_1, rfl, HA, HK1, BK370, HB⟩ := hrel
   cases gk with
   | zero => exact absurd HA.out (by simp [vendmeterref_OracleMay.l0])
   | succ k1 =>
    have H := HA.out
    clear HA
    simp only [vendmeterref_OracleMay.l0] at H
    revert H
    refine czif (fun c7b0 H => ?_) (fun c7b0 H => ?_)
    ·
     by_cases c8 : 0 ≤ x3_1
     ·
      rw [if_pos c8] at H
      have c8b0 : decide (0 ≤ x3_1) = true := decide_eq_true c8
      clear c8
      replace H := Option.bind_eq_some_iff.mp H
      obtain ⟨t373, A90, H⟩ := H
      (try dsimp only at H)
      have A9 := am A90
      clear A90
      by_cases c10 : t373 = true
      ·
       subst c10
       have H1 : ((vendmeterref_tagged.f k1 l0_0 ((rd_T55 l0_0 x3_1).f0) ((rd_T55 l0_0 x3_1).f1) ((rd_T55 l0_0 x3_1).f2)).bind fun t374 => (if t374 = x3_1 then (vendmeterref_OracleMay.l0 k1 (wrap64 (x3_1 + 1)) l0_0) else (some false))) = some r := by rw [if_pos rfl] at H; exact H
       clear H
       have H := H1
       clear H1
       replace H := Option.bind_eq_some_iff.mp H
       obtain ⟨t374, A110, H⟩ := H
       (try dsimp only at H)
       have A11 := am A110
       clear A110
       have HC12 := am H
       clear H
       have hcz13_0 : wr.cell? ⟨gb370, 0, none⟩ = some (.slice A0_0 l0_0.length c0_0) := (blk_cell BK370.1 0).trans rfl
       have hfz13_0 := blk_frozen BK370.1 0
       have p371 : 0 ≤ (x3_1 : Int) := czd
       have q371 : x3_1 < (l0_0.length : Int) := czd
       obtain ⟨ad371, e371, hx371_0, hx371_1, hx371_2, hx371_3⟩ := at_T55 HR0_0.out x3_1 p371 q371
       cases e371
       replace hx371_0 := (HB.1.cell (World.block_lt_of_cell? w _ hx371_0)).trans hx371_0
       replace hx371_1 := (HB.1.cell (World.block_lt_of_cell? w _ hx371_1)).trans hx371_1
       replace hx371_2 := (HB.1.cell (World.block_lt_of_cell? w _ hx371_2)).trans hx371_2
       replace hx371_3 := (HB.1.cell (World.block_lt_of_cell? w _ hx371_3)).trans hx371_3
       replace p371 := eq_true p371
       replace q371 := eq_true q371
       go_upto_region 7 with (first | ((with_reducible refine gate_dst (N := 4) rfl ?_); refine czbox 4 #[.int .i64 0, .int .i64 0, .int .i64 0, .int .i64 0] 55 ?_; intro gb372 hg w14 hbox hb; have BK372 := am (hbox); have GW372 := czsz hg (czbl1 HB GE370); have GE372 := czsz hg (czbl1 HB GE370); have NB370_372 := czne BK370 hg; have NB372_370 := czen BK370 hg; replace BK370 := czbb BK370 hb; replace HB := am (below_step (czbl1 HB GE370) hb); clear hb hbox hg; have hnb15 := NB372_370.1; have hnc15 := NB370_372.1; obtain ⟨hcz16_0, hcz16_1, hcz16_2, hcz16_3⟩ := czc4 BK372.1; obtain ⟨hfz16_0, hfz16_1, hfz16_2, hfz16_3⟩ := czf4 BK372.1))
       have H := HC12.out
       clear HC12
       revert H
       refine czei (fun c17b0 c17b1 H => ?_) (fun c17 c17b0 c17b1 H => ?_)
       ·
        have H' := am H
        clear H
        have hnb18 := NB372_370.1
        have hnc18 := NB370_372.1
        obtain ⟨hcz19_0, hcz19_1, hcz19_2, hcz19_3⟩ := czc4 BK372.1
        obtain ⟨hfz19_0, hfz19_1, hfz19_2, hfz19_3⟩ := czf4 BK372.1
        go_wp2_with (first | ((with_reducible refine gate_callee (f := 46) rfl ?_); refine czgo (some 22) Tryz.func46 #[.agg #[.int .i64 ((rd_T55 l0_0 x3_1).f0), .int .i64 ((rd_T55 l0_0 x3_1).f1), .int .i64 ((rd_T55 l0_0 x3_1).f2), .int .i64 ((rd_T55 l0_0 x3_1).f3)]] ?_; (with_reducible refine (vendmeterref_PairMay.calls ((rd_T55 l0_0 x3_1).f0) ((rd_T55 l0_0 x3_1).f1) ((rd_T55 l0_0 x3_1).f2) ((rd_T55 l0_0 x3_1).f3) true _ A9.out).mono ?_); rintro e w20 ⟨rfl, hb⟩; refine ⟨_, rfl, ?_⟩; replace BK370 := am (blk_below (g := gb370) (o := .cells #[.slice (some ad371) l0_0.length c0_0] 25 (0, 0)) (by (with_reducible repeat (first | apply czxn | apply czxd | apply czxa)); refine blk_far ?_ NB370_372.1 _; (with_reducible repeat (first | apply czxn | apply czxd | apply czxa)); refine blk_far ?_ NB370_372.1 _; (with_reducible repeat (first | apply czxn | apply czxd | apply czxa)); refine blk_far ?_ NB370_372.1 _; (with_reducible repeat (first | apply czxn | apply czxd | apply czxa)); refine blk_far ?_ NB370_372.1 _; (with_reducible repeat (first | apply czxn | apply czxd | apply czxa)); exact BK370.1) hb); replace BK372 := am (blk_below (g := gb372) (o := .cells #[.int .i64 ((rd_T55 l0_0 x3_1).f0), .int .i64 ((rd_T55 l0_0 x3_1).f1), .int .i64 ((rd_T55 l0_0 x3_1).f2), .int .i64 ((rd_T55 l0_0 x3_1).f3)] 55 (0, 0)) (by (with_reducible repeat (first | apply czxn | apply czxd | apply czxa)); refine blk_put (cs := #[.int .i64 ((rd_T55 l0_0 x3_1).f0), .int .i64 ((rd_T55 l0_0 x3_1).f1), .int .i64 ((rd_T55 l0_0 x3_1).f2), .int .i64 0]) ?_ 3 _ rfl; (with_reducible repeat (first | apply czxn | apply czxd | apply czxa)); refine blk_put (cs := #[.int .i64 ((rd_T55 l0_0 x3_1).f0), .int .i64 ((rd_T55 l0_0 x3_1).f1), .int .i64 0, .int .i64 0]) ?_ 2 _ rfl; (with_reducible repeat (first | apply czxn | apply czxd | apply czxa)); refine blk_put (cs := #[.int .i64 ((rd_T55 l0_0 x3_1).f0), .int .i64 0, .int .i64 0, .int .i64 0]) ?_ 1 _ rfl; (with_reducible repeat (first | apply czxn | apply czxd | apply czxa)); refine blk_put (cs := #[.int .i64 0, .int .i64 0, .int .i64 0, .int .i64 0]) ?_ 0 _ rfl; (with_reducible repeat (first | apply czxn | apply czxd | apply czxa)); exact BK372.1) hb); replace HB := am (below_step (czbl2 HB GE370 GE372) hb); (try clear hb hb2 hk hi); have hcz21_0 : w20.cell? ⟨gb370, 0, none⟩ = some (.slice (some ad371) l0_0.length c0_0) := (blk_cell BK370.1 0).trans rfl; have hfz21_0 := blk_frozen BK370.1 0; obtain ⟨hcz22_0, hcz22_1, hcz22_2, hcz22_3⟩ := czc4 BK372.1; obtain ⟨hfz22_0, hfz22_1, hfz22_2, hfz22_3⟩ := czf4 BK372.1) | (go_at_call 47; (with_reducible refine (vendmeterref_tagged.calls k1 _ _ l0_0 ((rd_T55 l0_0 x3_1).f0) ((rd_T55 l0_0 x3_1).f1) ((rd_T55 l0_0 x3_1).f2) t374 _ ?side1 ?side2 A11.out).mono ?_); (case side1 => repeat (first | exact (Kd.C_below HR0_0.out HB.1) | (with_reducible refine Kd.C_alloc ?_ _) | (with_reducible refine Kd.C_drewN ?_ _) | (with_reducible refine Kd.C_drew ?_))); (case side2 => exact HC0_0.out); rintro e w23 ⟨rfl, hb⟩; replace BK370 := czbb BK370 hb; replace BK372 := czbb BK372 hb; replace HB := am (below_step (czbl2 HB GE370 GE372) hb); (try clear hb hb2 hk hi)))
        go_roundg k1
        case measure => have := HK1.out; omega
        case rel => exact ⟨(wrap64 (x3_1 + 1)), czr, H', ⟨by have := HK1.out; omega⟩, ⟨czbk BK370⟩, ⟨czbl2 HB GE370 GE372⟩⟩
       ·
        obtain rfl := Option.some.inj H
        have hnb24 := NB372_370.1
        have hnc24 := NB370_372.1
        obtain ⟨hcz25_0, hcz25_1, hcz25_2, hcz25_3⟩ := czc4 BK372.1
        obtain ⟨hfz25_0, hfz25_1, hfz25_2, hfz25_3⟩ := czf4 BK372.1
        go_wp2_with (first | ((with_reducible refine gate_callee (f := 46) rfl ?_); refine czgo (some 22) Tryz.func46 #[.agg #[.int .i64 ((rd_T55 l0_0 x3_1).f0), .int .i64 ((rd_T55 l0_0 x3_1).f1), .int .i64 ((rd_T55 l0_0 x3_1).f2), .int .i64 ((rd_T55 l0_0 x3_1).f3)]] ?_; (with_reducible refine (vendmeterref_PairMay.calls ((rd_T55 l0_0 x3_1).f0) ((rd_T55 l0_0 x3_1).f1) ((rd_T55 l0_0 x3_1).f2) ((rd_T55 l0_0 x3_1).f3) true _ A9.out).mono ?_); rintro e w26 ⟨rfl, hb⟩; refine ⟨_, rfl, ?_⟩; replace BK370 := am (blk_below (g := gb370) (o := .cells #[.slice (some ad371) l0_0.length c0_0] 25 (0, 0)) (by (with_reducible repeat (first | apply czxn | apply czxd | apply czxa)); refine blk_far ?_ NB370_372.1 _; (with_reducible repeat (first | apply czxn | apply czxd | apply czxa)); refine blk_far ?_ NB370_372.1 _; (with_reducible repeat (first | apply czxn | apply czxd | apply czxa)); refine blk_far ?_ NB370_372.1 _; (with_reducible repeat (first | apply czxn | apply czxd | apply czxa)); refine blk_far ?_ NB370_372.1 _; (with_reducible repeat (first | apply czxn | apply czxd | apply czxa)); exact BK370.1) hb); replace BK372 := am (blk_below (g := gb372) (o := .cells #[.int .i64 ((rd_T55 l0_0 x3_1).f0), .int .i64 ((rd_T55 l0_0 x3_1).f1), .int .i64 ((rd_T55 l0_0 x3_1).f2), .int .i64 ((rd_T55 l0_0 x3_1).f3)] 55 (0, 0)) (by (with_reducible repeat (first | apply czxn | apply czxd | apply czxa)); refine blk_put (cs := #[.int .i64 ((rd_T55 l0_0 x3_1).f0), .int .i64 ((rd_T55 l0_0 x3_1).f1), .int .i64 ((rd_T55 l0_0 x3_1).f2), .int .i64 0]) ?_ 3 _ rfl; (with_reducible repeat (first | apply czxn | apply czxd | apply czxa)); refine blk_put (cs := #[.int .i64 ((rd_T55 l0_0 x3_1).f0), .int .i64 ((rd_T55 l0_0 x3_1).f1), .int .i64 0, .int .i64 0]) ?_ 2 _ rfl; (with_reducible repeat (first | apply czxn | apply czxd | apply czxa)); refine blk_put (cs := #[.int .i64 ((rd_T55 l0_0 x3_1).f0), .int .i64 0, .int .i64 0, .int .i64 0]) ?_ 1 _ rfl; (with_reducible repeat (first | apply czxn | apply czxd | apply czxa)); refine blk_put (cs := #[.int .i64 0, .int .i64 0, .int .i64 0, .int .i64 0]) ?_ 0 _ rfl; (with_reducible repeat (first | apply czxn | apply czxd | apply czxa)); exact BK372.1) hb); replace HB := am (below_step (czbl2 HB GE370 GE372) hb); (try clear hb hb2 hk hi); have hcz27_0 : w26.cell? ⟨gb370, 0, none⟩ = some (.slice (some ad371) l0_0.length c0_0) := (blk_cell BK370.1 0).trans rfl; have hfz27_0 := blk_frozen BK370.1 0; obtain ⟨hcz28_0, hcz28_1, hcz28_2, hcz28_3⟩ := czc4 BK372.1; obtain ⟨hfz28_0, hfz28_1, hfz28_2, hfz28_3⟩ := czf4 BK372.1) | (go_at_call 47; (with_reducible refine (vendmeterref_tagged.calls k1 _ _ l0_0 ((rd_T55 l0_0 x3_1).f0) ((rd_T55 l0_0 x3_1).f1) ((rd_T55 l0_0 x3_1).f2) t374 _ ?side1 ?side2 A11.out).mono ?_); (case side1 => repeat (first | exact (Kd.C_below HR0_0.out HB.1) | (with_reducible refine Kd.C_alloc ?_ _) | (with_reducible refine Kd.C_drewN ?_ _) | (with_reducible refine Kd.C_drew ?_))); (case side2 => exact HC0_0.out); rintro e w29 ⟨rfl, hb⟩; replace BK370 := czbb BK370 hb; replace BK372 := czbb BK372 hb; replace HB := am (below_step (czbl2 HB GE370 GE372) hb); (try clear hb hb2 hk hi)))
        go_ret
        exact ⟨czeq, czbl2 HB GE370 GE372⟩
      ·
       replace c10 := Bool.eq_false_iff.mpr c10
       subst c10
       have H1 : (some false) = some r := by rw [if_neg (show ¬ (false = true) by decide)] at H; exact H
       clear H
       have H := H1
       clear H1
       obtain rfl := Option.some.inj H
       have hcz30_0 : wr.cell? ⟨gb370, 0, none⟩ = some (.slice A0_0 l0_0.length c0_0) := (blk_cell BK370.1 0).trans rfl
       have hfz30_0 := blk_frozen BK370.1 0
       have p371 : 0 ≤ (x3_1 : Int) := czd
       have q371 : x3_1 < (l0_0.length : Int) := czd
       obtain ⟨ad371, e371, hx371_0, hx371_1, hx371_2, hx371_3⟩ := at_T55 HR0_0.out x3_1 p371 q371
       cases e371
       replace hx371_0 := (HB.1.cell (World.block_lt_of_cell? w _ hx371_0)).trans hx371_0
       replace hx371_1 := (HB.1.cell (World.block_lt_of_cell? w _ hx371_1)).trans hx371_1
       replace hx371_2 := (HB.1.cell (World.block_lt_of_cell? w _ hx371_2)).trans hx371_2
       replace hx371_3 := (HB.1.cell (World.block_lt_of_cell? w _ hx371_3)).trans hx371_3
       replace p371 := eq_true p371
       replace q371 := eq_true q371
       go_wp2_with (first | ((with_reducible refine gate_dst (N := 4) rfl ?_); refine czbox 4 #[.int .i64 0, .int .i64 0, .int .i64 0, .int .i64 0] 55 ?_; intro gb372 hg w31 hbox hb; have BK372 := am (hbox); have GW372 := czsz hg (czbl1 HB GE370); have GE372 := czsz hg (czbl1 HB GE370); have NB370_372 := czne BK370 hg; have NB372_370 := czen BK370 hg; replace BK370 := czbb BK370 hb; replace HB := am (below_step (czbl1 HB GE370) hb); clear hb hbox hg; have hnb32 := NB372_370.1; have hnc32 := NB370_372.1; obtain ⟨hcz33_0, hcz33_1, hcz33_2, hcz33_3⟩ := czc4 BK372.1; obtain ⟨hfz33_0, hfz33_1, hfz33_2, hfz33_3⟩ := czf4 BK372.1) | ((with_reducible refine gate_callee (f := 46) rfl ?_); refine czgo (some 22) Tryz.func46 #[.agg #[.int .i64 ((rd_T55 l0_0 x3_1).f0), .int .i64 ((rd_T55 l0_0 x3_1).f1), .int .i64 ((rd_T55 l0_0 x3_1).f2), .int .i64 ((rd_T55 l0_0 x3_1).f3)]] ?_; (with_reducible refine (vendmeterref_PairMay.calls ((rd_T55 l0_0 x3_1).f0) ((rd_T55 l0_0 x3_1).f1) ((rd_T55 l0_0 x3_1).f2) ((rd_T55 l0_0 x3_1).f3) false _ A9.out).mono ?_); rintro e w34 ⟨rfl, hb⟩; refine ⟨_, rfl, ?_⟩; replace BK370 := am (blk_below (g := gb370) (o := .cells #[.slice (some ad371) l0_0.length c0_0] 25 (0, 0)) (by (with_reducible repeat (first | apply czxn | apply czxd | apply czxa)); refine blk_far ?_ NB370_372.1 _; (with_reducible repeat (first | apply czxn | apply czxd | apply czxa)); refine blk_far ?_ NB370_372.1 _; (with_reducible repeat (first | apply czxn | apply czxd | apply czxa)); refine blk_far ?_ NB370_372.1 _; (with_reducible repeat (first | apply czxn | apply czxd | apply czxa)); refine blk_far ?_ NB370_372.1 _; (with_reducible repeat (first | apply czxn | apply czxd | apply czxa)); exact BK370.1) hb); replace BK372 := am (blk_below (g := gb372) (o := .cells #[.int .i64 ((rd_T55 l0_0 x3_1).f0), .int .i64 ((rd_T55 l0_0 x3_1).f1), .int .i64 ((rd_T55 l0_0 x3_1).f2), .int .i64 ((rd_T55 l0_0 x3_1).f3)] 55 (0, 0)) (by (with_reducible repeat (first | apply czxn | apply czxd | apply czxa)); refine blk_put (cs := #[.int .i64 ((rd_T55 l0_0 x3_1).f0), .int .i64 ((rd_T55 l0_0 x3_1).f1), .int .i64 ((rd_T55 l0_0 x3_1).f2), .int .i64 0]) ?_ 3 _ rfl; (with_reducible repeat (first | apply czxn | apply czxd | apply czxa)); refine blk_put (cs := #[.int .i64 ((rd_T55 l0_0 x3_1).f0), .int .i64 ((rd_T55 l0_0 x3_1).f1), .int .i64 0, .int .i64 0]) ?_ 2 _ rfl; (with_reducible repeat (first | apply czxn | apply czxd | apply czxa)); refine blk_put (cs := #[.int .i64 ((rd_T55 l0_0 x3_1).f0), .int .i64 0, .int .i64 0, .int .i64 0]) ?_ 1 _ rfl; (with_reducible repeat (first | apply czxn | apply czxd | apply czxa)); refine blk_put (cs := #[.int .i64 0, .int .i64 0, .int .i64 0, .int .i64 0]) ?_ 0 _ rfl; (with_reducible repeat (first | apply czxn | apply czxd | apply czxa)); exact BK372.1) hb); replace HB := am (below_step (czbl2 HB GE370 GE372) hb); (try clear hb hb2 hk hi)))
       go_ret
       exact ⟨czeq, czbl2 HB GE370 GE372⟩
     ·
      rw [if_neg c8] at H
      exact absurd H (by simp)
    ·
     obtain rfl := Option.some.inj H
     have hcz35_0 : wr.cell? ⟨gb370, 0, none⟩ = some (.slice A0_0 l0_0.length c0_0) := (blk_cell BK370.1 0).trans rfl
     have hfz35_0 := blk_frozen BK370.1 0
     go_wp2
     go_ret
     exact ⟨czeq, czbl1 HB GE370⟩

/-! ### vendmeterref_BodyOf: function 49 -/
def vendmeterref_BodyOf.f (k : Nat) (a0_0 : Int) (a0_1 : Int) (a0_2 : Int) (a0_3 : Int) : Option (Int × Int) := (vendmeterref_TokenFault.f k a0_0 a0_1 a0_2 a0_3).bind fun t376 => (if t376 = 0 then (some (wrap64 ((wrap64 ((wrap64 (a0_0 * 2199023255552)) + (wrap64 (a0_1 * 2097152)))) + a0_2), 0)) else (some (0, t376)))
theorem vendmeterref_BodyOf.mono : ∀ a0 a1 a2 a3 k, LeO (vendmeterref_BodyOf.f k a0 a1 a2 a3) (vendmeterref_BodyOf.f (k + 1) a0 a1 a2 a3) := by
 intro a0 a1 a2 a3 k
 unfold vendmeterref_BodyOf.f
 repeat' first
   | (with_reducible exact vendmeterref_TokenFault.mono _ _ _ _ _)
   | (with_reducible exact LeO.refl _)
   | (with_reducible exact LeO.none _)
   | (with_reducible refine LeO.ite ?_ ?_)
   | (with_reducible refine LeO.bind ?_ (fun _ => ?_))
theorem vendmeterref_BodyOf.calls (k : Nat) (a0_0 : Int) (a0_1 : Int) (a0_2 : Int) (a0_3 : Int) (r1 : Int) (r2 : Int) (w : World) (h : vendmeterref_BodyOf.f k a0_0 a0_1 a0_2 a0_3 = some (r1, r2)) :
  Calls Tryz.prog 49 #[.agg #[.int .i64 a0_0, .int .i64 a0_1, .int .i64 a0_2, .int .i64 a0_3]] w fun e w' => e = .returned (.tuple #[.int .i64 r1, .int .i64 r2]) ∧ Below w.heap.size w w' := by
 have hu44 := Tryz.underlying44
 have HB := am (Below.refl w.heap.size w)
 have H : ((vendmeterref_TokenFault.f k a0_0 a0_1 a0_2 a0_3).bind fun t376 => (if t376 = 0 then (some (wrap64 ((wrap64 ((wrap64 (a0_0 * 2199023255552)) + (wrap64 (a0_1 * 2097152)))) + a0_2), 0)) else (some (0, t376)))) = some (r1, r2) := h
 clear h
 replace H := Option.bind_eq_some_iff.mp H
 obtain ⟨t376, A20, H⟩ := H
 (try dsimp only at H)
 have A2 := am A20
 clear A20
 have HC3 := am H
 clear H
 go_enter Tryz.func49, Tryz.ntmps49
 go_upto_region 2 with (first | ((with_reducible refine gate_dst (N := 1) rfl ?_); refine czbox 1 #[.int .i64 a0_0, .int .i64 a0_1, .int .i64 a0_2, .int .i64 a0_3] 44 ?_; intro gb375 hg w4 hbox hb; have BK375 := am (hbox); have GW375 := czsz hg (czbl HB); have GE375 := czsz hg (czbl HB); replace HB := am (below_step (czbl HB) hb); clear hb hbox hg; obtain ⟨hcz5_0, hcz5_1, hcz5_2, hcz5_3⟩ := czc4 BK375.1) | ((with_reducible refine gate_callee (f := 45) rfl ?_); refine czgo (some 6) Tryz.func45 #[.agg #[.int .i64 a0_0, .int .i64 a0_1, .int .i64 a0_2, .int .i64 a0_3]] ?_; (with_reducible refine (vendmeterref_TokenFault.calls k a0_0 a0_1 a0_2 a0_3 t376 _ A2.out).mono ?_); rintro e w6 ⟨rfl, hb⟩; refine ⟨_, rfl, ?_⟩; replace BK375 := czbb BK375 hb; replace HB := am (below_step (czbl1 HB GE375) hb); (try clear hb hb2 hk hi)))
 have H := HC3.out
 clear HC3
 revert H
 refine czei (fun c7b0 c7b1 H => ?_) (fun c7 c7b0 c7b1 H => ?_)
 ·
  simp only [Option.some.injEq, Prod.mk.injEq] at H
  obtain ⟨rfl, rfl⟩ := H
  obtain ⟨hcz8_0, hcz8_1, hcz8_2, hcz8_3⟩ := czc4 BK375.1
  go_wp2
  go_ret2
  exact ⟨czeq, czbl1 HB GE375⟩
 ·
  simp only [Option.some.injEq, Prod.mk.injEq] at H
  obtain ⟨rfl, rfl⟩ := H
  go_wp2
  go_ret2
  exact ⟨czeq, czbl1 HB GE375⟩

end Go.Proofs.YtcllddkmcnfejaaGreatDoor.PPocketKeys
