-- written by this session's program wip/xp/xprint.py (it drives the kit's print and adds to it)
import Derived.Test.YtcllddkmcnfejaaGreatDoorPPocketKeysx0
import Derived.Test.YtcllddkmcnfejaaGreatDoorPPocketKeysx7
import Derived.Test.YtcllddkmcnfejaaGreatDoorPPocketKeysx13
import Derived.Test.YtcllddkmcnfejaaGreatDoorPPocketKeysx14
namespace Go.Proofs.YtcllddkmcnfejaaGreatDoor.PPocketKeys
open Go.RowKit Go.Proofs.YtcllddkmcnfejaaGreatDoorW.PrintWords Go.Proofs.YtcllddkmcnfejaaGreatDoorW.PrintLast Go.Proofs.YtcllddkmcnfejaaGreatDoorW.PrintMore
attribute [local go_sem] max2_int min2_int max_two min_two max_three min_three max_four min_four
set_option linter.unusedVariables false
set_option linter.unusedSimpArgs false
set_option maxHeartbeats 8000000
set_option maxRecDepth 100000

/-! ### vendmeterref_MeterRead: by hand -/
theorem vendmeterref_MeterRead.word {w : World} {A : Option Addr} {n : Nat} {xs : List Int} (h : Kd.C (Kd.int .u32) w A n xs) (i : Nat) (h1 : i < n) : ∃ ad, A = some ad ∧ w.cell? (ad.add i) = some (.int .u32 (rd xs (i : Int))) := by
 obtain ⟨ad, c, e, hl, hK, hc⟩ := Kd.C_get h 0 (i : Int) (by omega) (by omega)
 obtain rfl : c = [.int .u32 (xs.getD (i : Int).toNat 0)] := hK
 have := hc 0 _ rfl
 simp only [show (Kd.int IntKind.u32).sz = 1 from rfl, Int.toNat_natCast, Nat.mul_one, Nat.add_zero] at this
 exact ⟨ad, e, this⟩
def vendmeterref_MeterRead.f (k : Nat) (l0 : List Int) : Option (Int × Int × Int × Int × Int × Int × Int × Int) := if (l0.length : Int) = 5 then (if 1 < (l0.length : Int) then (if 0 < (l0.length : Int) then (if 2 < (l0.length : Int) then (if 4 < (l0.length : Int) then (if 3 < (l0.length : Int) then ((vendmeterref_MeterMay.f k (Int.tmod (wrap64 (rd l0 1)) 256) (Int.tmod (wrap64 (Int.tdiv (wrap64 (rd l0 1)) 256)) 256) (wrap64 (rd l0 0)) (wrap64 (rd l0 2)) (IntKind.u64.wrap ((IntKind.u64.wrap ((IntKind.u64.wrap (rd l0 4)) * 4294967296)) + (IntKind.u64.wrap (rd l0 3)))) (Int.tmod (wrap64 (Int.tdiv (wrap64 (rd l0 1)) 65536)) 256) (wrap64 (Int.tdiv (wrap64 (rd l0 1)) 16777216))).bind fun t241 => (if t241 = true then (some (Int.tmod (wrap64 (rd l0 1)) 256, Int.tmod (wrap64 (Int.tdiv (wrap64 (rd l0 1)) 256)) 256, wrap64 (rd l0 0), wrap64 (rd l0 2), IntKind.u64.wrap ((IntKind.u64.wrap ((IntKind.u64.wrap (rd l0 4)) * 4294967296)) + (IntKind.u64.wrap (rd l0 3))), Int.tmod (wrap64 (Int.tdiv (wrap64 (rd l0 1)) 65536)) 256, wrap64 (Int.tdiv (wrap64 (rd l0 1)) 16777216), 0)) else (some (0, 0, 0, 0, 0, 0, 0, 5)))) else (none)) else (none)) else (none)) else (none)) else (none)) else (some (0, 0, 0, 0, 0, 0, 0, 1))
theorem vendmeterref_MeterRead.mono : ∀ a0 k, LeO (vendmeterref_MeterRead.f k a0) (vendmeterref_MeterRead.f (k + 1) a0) := by
 intro a0 k
 unfold vendmeterref_MeterRead.f
 exact LeO.ite (LeO.ite (LeO.ite (LeO.ite (LeO.ite (LeO.ite (LeO.bind (vendmeterref_MeterMay.mono _ _ _ _ _ _ _ _) (fun _ => LeO.refl _)) (LeO.refl _)) (LeO.refl _)) (LeO.refl _)) (LeO.refl _)) (LeO.refl _)) (LeO.refl _)
theorem vendmeterref_MeterRead.calls (k : Nat) (A0 : Option Addr) (c0 : Nat) (l0 : List Int) (r1 : Int) (r2 : Int) (r3 : Int) (r4 : Int) (r5 : Int) (r6 : Int) (r7 : Int) (r8 : Int) (w : World) (hr0 : Kd.C (Kd.int .u32) w A0 l0.length l0) (hc0 : l0.length ≤ c0) (h : vendmeterref_MeterRead.f k l0 = some (r1, r2, r3, r4, r5, r6, r7, r8)) :
  Calls Tryz.prog 36 #[.slice A0 l0.length c0] w fun e w' => e = .returned (.tuple #[.agg #[.int .i64 r1, .int .i64 r2, .int .i64 r3, .int .i64 r4, .int .u64 r5, .int .i64 r6, .int .i64 r7], .int .i64 r8]) ∧ Below w.heap.size w w' := by
 have hu40 := Tryz.underlying40
 have hu38 := Tryz.underlying38
 have HR0 := am hr0
 have HC0 := am hc0
 clear hr0 hc0
 have HB := am (Below.refl w.heap.size w)
 unfold vendmeterref_MeterRead.f at h
 by_cases c1 : (l0.length : Int) = 5
 ·
  rw [if_pos c1, if_pos (by omega), if_pos (by omega), if_pos (by omega), if_pos (by omega), if_pos (by omega)] at h
  have c5 : l0.length = 5 := by omega
  obtain ⟨ad, rfl, x0⟩ := vendmeterref_MeterRead.word HR0.out 0 (by omega)
  obtain ⟨_, e1, x1⟩ := vendmeterref_MeterRead.word HR0.out 1 (by omega)
  cases e1
  obtain ⟨_, e1, x2⟩ := vendmeterref_MeterRead.word HR0.out 2 (by omega)
  cases e1
  obtain ⟨_, e1, x3⟩ := vendmeterref_MeterRead.word HR0.out 3 (by omega)
  cases e1
  obtain ⟨_, e1, x4⟩ := vendmeterref_MeterRead.word HR0.out 4 (by omega)
  cases e1
  rw [c5]
  have X0 : Aside0 (w.cell? ad = some (.int .u32 (rd l0 0))) := ⟨by simpa [Addr.add] using x0⟩
  have X1 : Aside0 (w.cell? ⟨ad.block, ad.off + 1, none⟩ = some (.int .u32 (rd l0 1))) := ⟨by simpa [Addr.add] using x1⟩
  have X2 : Aside0 (w.cell? ⟨ad.block, ad.off + 2, none⟩ = some (.int .u32 (rd l0 2))) := ⟨by simpa [Addr.add] using x2⟩
  have X3 : Aside0 (w.cell? ⟨ad.block, ad.off + 3, none⟩ = some (.int .u32 (rd l0 3))) := ⟨by simpa [Addr.add] using x3⟩
  have X4 : Aside0 (w.cell? ⟨ad.block, ad.off + 4, none⟩ = some (.int .u32 (rd l0 4))) := ⟨by simpa [Addr.add] using x4⟩
  clear x0 x1 x2 x3 x4 c1 c5
  obtain ⟨t, hm, h⟩ := Option.bind_eq_some_iff.mp h
  have HM := am hm
  clear hm
  by_cases h1 : t = true
  ·
   rw [if_pos h1] at h
   subst h1
   simp only [Option.some.injEq, Prod.mk.injEq] at h
   obtain ⟨rfl, rfl, rfl, rfl, rfl, rfl, rfl, rfl⟩ := h
   go_enter Tryz.func36, Tryz.ntmps36
   go_wp2_with (first | ((with_reducible refine gate_dst (N := 2) rfl ?_); refine czbox 2 #[.int .i64 0, .int .i64 0, .int .i64 0, .int .i64 0, .int .u64 0, .int .i64 0, .int .i64 0] 40 ?_; intro g1 hgq W1 hbox hb; have Gg1 := am (by rw [hgq]; exact below_size HB.out : w.heap.size ≤ g1); have HB_ := am (below_step HB.out hb); clear HB; have HB := HB_; clear HB_; have Bg1 := am hbox; clear hb hbox hgq; have y0 := pw_cell_below HB.out X0.out; have y1 := pw_cell_below HB.out X1.out; have y2 := pw_cell_below HB.out X2.out; have y3 := pw_cell_below HB.out X3.out; have y4 := pw_cell_below HB.out X4.out; skip) | ((with_reducible refine gate_dst (N := 5) rfl ?_); refine czbox 5 #[.int .i64 0, .int .i64 0, .int .i64 0, .int .i64 0, .int .u64 0, .int .i64 0, .int .i64 0] 40 ?_; intro g2 hgq W2 hbox hb; have Ng1g2 := am (by rw [hgq]; exact Nat.ne_of_lt (blk_lt Bg1.out) : g1 ≠ g2); have Gg2 := am (by rw [hgq]; exact below_size HB.out : w.heap.size ≤ g2); have Bg1_ := am (blk_below Bg1.out hb); have HB_ := am (below_step HB.out hb); clear Bg1 HB; have Bg1 := Bg1_; clear Bg1_; have HB := HB_; clear HB_; have Bg2 := am hbox; clear hb hbox hgq; clear y0 y1 y2 y3 y4; have y0 := pw_cell_below HB.out X0.out; have y1 := pw_cell_below HB.out X1.out; have y2 := pw_cell_below HB.out X2.out; have y3 := pw_cell_below HB.out X3.out; have y4 := pw_cell_below HB.out X4.out; skip) | ((with_reducible refine gate_store (t := 40) (p := 5) rfl ?_); refine seg.list rfl rfl 40 (.tmp 5) _ rfl 40 g2 0 #[.int .i64 0, .int .i64 0, .int .i64 0, .int .i64 0, .int .u64 0, .int .i64 0, .int .i64 0] #[.int .i64 (Int.tmod (wrap64 (rd l0 1)) 256), .int .i64 (Int.tmod (wrap64 (Int.tdiv (wrap64 (rd l0 1)) 256)) 256), .int .i64 (wrap64 (rd l0 0)), .int .i64 0, .int .u64 0, .int .i64 (Int.tmod (wrap64 (Int.tdiv (wrap64 (rd l0 1)) 65536)) 256), .int .i64 (wrap64 (Int.tdiv (wrap64 (rd l0 1)) 16777216))] [.int .i64 (Int.tmod (wrap64 (rd l0 1)) 256), .int .i64 (Int.tmod (wrap64 (Int.tdiv (wrap64 (rd l0 1)) 256)) 256), .int .i64 (wrap64 (rd l0 0)), .int .i64 0, .int .u64 0, .int .i64 (Int.tmod (wrap64 (Int.tdiv (wrap64 (rd l0 1)) 65536)) 256), .int .i64 (wrap64 (Int.tdiv (wrap64 (rd l0 1)) 16777216))] rfl rfl (by kernel_rfl) (by simp [Value.oneCell']) Bg2.out (by simp) rfl ?_; intro W3 bx hgr; have Bg1_ := am (seg.far Bg1.out hgr Ng1g2.out); have HB_ := am (seg.below HB.out hgr Gg2.out); clear Bg1 HB; have Bg1 := Bg1_; clear Bg1_; have HB := HB_; clear HB_; clear Bg2; have Bg2 := am bx; clear bx hgr; clear y0 y1 y2 y3 y4; have y0 := pw_cell_below HB.out X0.out; have y1 := pw_cell_below HB.out X1.out; have y2 := pw_cell_below HB.out X2.out; have y3 := pw_cell_below HB.out X3.out; have y4 := pw_cell_below HB.out X4.out; skip))
   refine start_ (n := 17) (S := fun w' => w'.cell? ⟨ad.block, ad.off + 2, none⟩ = some (.int .u32 (rd l0 2)) ∧ w'.cell? ⟨ad.block, ad.off + 4, none⟩ = some (.int .u32 (rd l0 4)) ∧ w'.cell? ⟨ad.block, ad.off + 3, none⟩ = some (.int .u32 (rd l0 3))) (ds := [16]) #[false, false, false, false, false, false, false, false, false, false, false, false, false, false, false, false, false] (by kernel_rfl) rfl rfl ⟨y2, y4, y3⟩ (fun hHeld => ?_)
   refine czpp 0 29 ?_
   refine czpp 1 30 ?_
   refine czpp 4 33 ?_
   refine czpp 5 34 ?_
   refine czpp 9 38 ?_
   refine czpp 10 39 ?_
   refine cztk 2 31 ?_
   refine czpp 3 32 ?_
   refine cztk 6 35 ?_
   refine czpp 7 36 ?_
   refine czpp 8 37 ?_
   refine cztk 11 40 ?_
   refine czpp 12 41 ?_
   refine czpp 13 42 ?_
   refine czpp 14 43 ?_
   refine czpp 15 44 ?_
   refine last_ (i := 16) (N := none) #[true, true, true, true, true, true, true, true, true, true, true, true, true, true, true, true, true] rfl rfl (by kernel_rfl) (by decide) (fun K hK => ?_)
   refine seg.step (by rfl) rfl 38 (.tmp 44) _ (by rfl) 40 g2 3 #[.int .i64 (Int.tmod (wrap64 (rd l0 1)) 256), .int .i64 (Int.tmod (wrap64 (Int.tdiv (wrap64 (rd l0 1)) 256)) 256), .int .i64 (wrap64 (rd l0 0)), .int .i64 0, .int .u64 0, .int .i64 (Int.tmod (wrap64 (Int.tdiv (wrap64 (rd l0 1)) 65536)) 256), .int .i64 (wrap64 (Int.tdiv (wrap64 (rd l0 1)) 16777216))] #[.int .i64 (Int.tmod (wrap64 (rd l0 1)) 256), .int .i64 (Int.tmod (wrap64 (Int.tdiv (wrap64 (rd l0 1)) 256)) 256), .int .i64 (wrap64 (rd l0 0)), .int .i64 (wrap64 (rd l0 2)), .int .u64 (IntKind.u64.wrap ((IntKind.u64.wrap ((IntKind.u64.wrap (rd l0 4)) * 4294967296)) + (IntKind.u64.wrap (rd l0 3)))), .int .i64 (Int.tmod (wrap64 (Int.tdiv (wrap64 (rd l0 1)) 65536)) 256), .int .i64 (wrap64 (Int.tdiv (wrap64 (rd l0 1)) 16777216))] [.int .i64 (wrap64 (rd l0 2)), .int .u64 (IntKind.u64.wrap ((IntKind.u64.wrap ((IntKind.u64.wrap (rd l0 4)) * 4294967296)) + (IntKind.u64.wrap (rd l0 3))))] (by rfl) (by rfl) (by kernel_rfl) (by simp [Value.oneCell']) (blk_drew Bg2.out) (by simp) rfl ?_
   intro W4 bx hgr
   have Bg1_ := am (seg.far (blk_drew Bg1.out) hgr Ng1g2.out)
   have HB_ := am (seg.below (below_drew1 HB.out) hgr Gg2.out)
   clear Bg1 HB
   have Bg1 := Bg1_
   clear Bg1_
   have HB := HB_
   clear HB_
   clear Bg2
   have Bg2 := am bx
   clear bx hgr
   have xg20 : W4.cell? ⟨g2, 0, none⟩ = some (.int .i64 (Int.tmod (wrap64 (rd l0 1)) 256)) := (blk_cell Bg2.out 0).trans rfl
   have xg21 : W4.cell? ⟨g2, 1, none⟩ = some (.int .i64 (Int.tmod (wrap64 (Int.tdiv (wrap64 (rd l0 1)) 256)) 256)) := (blk_cell Bg2.out 1).trans rfl
   have xg22 : W4.cell? ⟨g2, 2, none⟩ = some (.int .i64 (wrap64 (rd l0 0))) := (blk_cell Bg2.out 2).trans rfl
   have xg23 : W4.cell? ⟨g2, 3, none⟩ = some (.int .i64 (wrap64 (rd l0 2))) := (blk_cell Bg2.out 3).trans rfl
   have xg24 : W4.cell? ⟨g2, 4, none⟩ = some (.int .u64 (IntKind.u64.wrap ((IntKind.u64.wrap ((IntKind.u64.wrap (rd l0 4)) * 4294967296)) + (IntKind.u64.wrap (rd l0 3))))) := (blk_cell Bg2.out 4).trans rfl
   have xg25 : W4.cell? ⟨g2, 5, none⟩ = some (.int .i64 (Int.tmod (wrap64 (Int.tdiv (wrap64 (rd l0 1)) 65536)) 256)) := (blk_cell Bg2.out 5).trans rfl
   have xg26 : W4.cell? ⟨g2, 6, none⟩ = some (.int .i64 (wrap64 (Int.tdiv (wrap64 (rd l0 1)) 16777216))) := (blk_cell Bg2.out 6).trans rfl
   refine hK.out _ _ ?_
   clear hK K
   refine done_ (by kernel_rfl) ?_
   go_wp2_with (first | (go_at_call 48; refine (vendmeterref_MeterMay.calls k (Int.tmod (wrap64 (rd l0 1)) 256) (Int.tmod (wrap64 (Int.tdiv (wrap64 (rd l0 1)) 256)) 256) (wrap64 (rd l0 0)) (wrap64 (rd l0 2)) (IntKind.u64.wrap ((IntKind.u64.wrap ((IntKind.u64.wrap (rd l0 4)) * 4294967296)) + (IntKind.u64.wrap (rd l0 3)))) (Int.tmod (wrap64 (Int.tdiv (wrap64 (rd l0 1)) 65536)) 256) (wrap64 (Int.tdiv (wrap64 (rd l0 1)) 16777216)) true _ HM.out).mono ?_; rintro e wa ⟨rfl, hb1⟩; clear xg20 xg21 xg22 xg23 xg24 xg25 xg26; have Bg1_ := am (blk_below Bg1.out hb1); have Bg2_ := am (blk_below Bg2.out hb1); have HB_ := am (below_step HB.out hb1); clear Bg1 Bg2 HB; have Bg1 := Bg1_; clear Bg1_; have Bg2 := Bg2_; clear Bg2_; have HB := HB_; clear HB_; have xg20 : wa.cell? ⟨g2, 0, none⟩ = some (.int .i64 (Int.tmod (wrap64 (rd l0 1)) 256)) := (blk_cell Bg2.out 0).trans rfl; have xg21 : wa.cell? ⟨g2, 1, none⟩ = some (.int .i64 (Int.tmod (wrap64 (Int.tdiv (wrap64 (rd l0 1)) 256)) 256)) := (blk_cell Bg2.out 1).trans rfl; have xg22 : wa.cell? ⟨g2, 2, none⟩ = some (.int .i64 (wrap64 (rd l0 0))) := (blk_cell Bg2.out 2).trans rfl; have xg23 : wa.cell? ⟨g2, 3, none⟩ = some (.int .i64 (wrap64 (rd l0 2))) := (blk_cell Bg2.out 3).trans rfl; have xg24 : wa.cell? ⟨g2, 4, none⟩ = some (.int .u64 (IntKind.u64.wrap ((IntKind.u64.wrap ((IntKind.u64.wrap (rd l0 4)) * 4294967296)) + (IntKind.u64.wrap (rd l0 3))))) := (blk_cell Bg2.out 4).trans rfl; have xg25 : wa.cell? ⟨g2, 5, none⟩ = some (.int .i64 (Int.tmod (wrap64 (Int.tdiv (wrap64 (rd l0 1)) 65536)) 256)) := (blk_cell Bg2.out 5).trans rfl; have xg26 : wa.cell? ⟨g2, 6, none⟩ = some (.int .i64 (wrap64 (Int.tdiv (wrap64 (rd l0 1)) 16777216))) := (blk_cell Bg2.out 6).trans rfl; clear hb1) | ((with_reducible refine gate_store (t := 40) (p := 2) rfl ?_); refine seg.list rfl rfl 40 (.tmp 2) _ rfl 40 g1 0 #[.int .i64 0, .int .i64 0, .int .i64 0, .int .i64 0, .int .u64 0, .int .i64 0, .int .i64 0] #[.int .i64 (Int.tmod (wrap64 (rd l0 1)) 256), .int .i64 (Int.tmod (wrap64 (Int.tdiv (wrap64 (rd l0 1)) 256)) 256), .int .i64 (wrap64 (rd l0 0)), .int .i64 (wrap64 (rd l0 2)), .int .u64 (IntKind.u64.wrap ((IntKind.u64.wrap ((IntKind.u64.wrap (rd l0 4)) * 4294967296)) + (IntKind.u64.wrap (rd l0 3)))), .int .i64 (Int.tmod (wrap64 (Int.tdiv (wrap64 (rd l0 1)) 65536)) 256), .int .i64 (wrap64 (Int.tdiv (wrap64 (rd l0 1)) 16777216))] [.int .i64 (Int.tmod (wrap64 (rd l0 1)) 256), .int .i64 (Int.tmod (wrap64 (Int.tdiv (wrap64 (rd l0 1)) 256)) 256), .int .i64 (wrap64 (rd l0 0)), .int .i64 (wrap64 (rd l0 2)), .int .u64 (IntKind.u64.wrap ((IntKind.u64.wrap ((IntKind.u64.wrap (rd l0 4)) * 4294967296)) + (IntKind.u64.wrap (rd l0 3)))), .int .i64 (Int.tmod (wrap64 (Int.tdiv (wrap64 (rd l0 1)) 65536)) 256), .int .i64 (wrap64 (Int.tdiv (wrap64 (rd l0 1)) 16777216))] rfl rfl (by kernel_rfl) (by simp [Value.oneCell']) Bg1.out (by simp) rfl ?_; intro W5 bx hgr; clear xg20 xg21 xg22 xg23 xg24 xg25 xg26; have Bg2_ := am (seg.far Bg2.out hgr (Ne.symm Ng1g2.out)); have HB_ := am (seg.below HB.out hgr Gg1.out); clear Bg2 HB; have Bg2 := Bg2_; clear Bg2_; have HB := HB_; clear HB_; clear Bg1; have Bg1 := am bx; clear bx hgr; skip))
   refine bodyPost_ret (results_list (rs := [.cell 2 40, .tmp 3]) rfl (by simp) (.cell g1 40 #[.int .i64 (Int.tmod (wrap64 (rd l0 1)) 256), .int .i64 (Int.tmod (wrap64 (Int.tdiv (wrap64 (rd l0 1)) 256)) 256), .int .i64 (wrap64 (rd l0 0)), .int .i64 (wrap64 (rd l0 2)), .int .u64 (IntKind.u64.wrap ((IntKind.u64.wrap ((IntKind.u64.wrap (rd l0 4)) * 4294967296)) + (IntKind.u64.wrap (rd l0 3)))), .int .i64 (Int.tmod (wrap64 (Int.tdiv (wrap64 (rd l0 1)) 65536)) 256), .int .i64 (wrap64 (Int.tdiv (wrap64 (rd l0 1)) 16777216))] (0, 0) _ rfl Bg1.out Tryz.underlying40 rfl (by kernel_rfl) (.tmp .nil))) rfl ?_
   exact ⟨rfl, HB.out⟩
  ·
   rw [if_neg h1] at h
   replace h1 := Bool.eq_false_iff.mpr h1
   subst h1
   simp only [Option.some.injEq, Prod.mk.injEq] at h
   obtain ⟨rfl, rfl, rfl, rfl, rfl, rfl, rfl, rfl⟩ := h
   go_enter Tryz.func36, Tryz.ntmps36
   go_wp2_with (first | ((with_reducible refine gate_dst (N := 2) rfl ?_); refine czbox 2 #[.int .i64 0, .int .i64 0, .int .i64 0, .int .i64 0, .int .u64 0, .int .i64 0, .int .i64 0] 40 ?_; intro g1 hgq W1 hbox hb; have Gg1 := am (by rw [hgq]; exact below_size HB.out : w.heap.size ≤ g1); have HB_ := am (below_step HB.out hb); clear HB; have HB := HB_; clear HB_; have Bg1 := am hbox; clear hb hbox hgq; have y0 := pw_cell_below HB.out X0.out; have y1 := pw_cell_below HB.out X1.out; have y2 := pw_cell_below HB.out X2.out; have y3 := pw_cell_below HB.out X3.out; have y4 := pw_cell_below HB.out X4.out; skip) | ((with_reducible refine gate_dst (N := 5) rfl ?_); refine czbox 5 #[.int .i64 0, .int .i64 0, .int .i64 0, .int .i64 0, .int .u64 0, .int .i64 0, .int .i64 0] 40 ?_; intro g2 hgq W2 hbox hb; have Ng1g2 := am (by rw [hgq]; exact Nat.ne_of_lt (blk_lt Bg1.out) : g1 ≠ g2); have Gg2 := am (by rw [hgq]; exact below_size HB.out : w.heap.size ≤ g2); have Bg1_ := am (blk_below Bg1.out hb); have HB_ := am (below_step HB.out hb); clear Bg1 HB; have Bg1 := Bg1_; clear Bg1_; have HB := HB_; clear HB_; have Bg2 := am hbox; clear hb hbox hgq; clear y0 y1 y2 y3 y4; have y0 := pw_cell_below HB.out X0.out; have y1 := pw_cell_below HB.out X1.out; have y2 := pw_cell_below HB.out X2.out; have y3 := pw_cell_below HB.out X3.out; have y4 := pw_cell_below HB.out X4.out; skip) | ((with_reducible refine gate_store (t := 40) (p := 5) rfl ?_); refine seg.list rfl rfl 40 (.tmp 5) _ rfl 40 g2 0 #[.int .i64 0, .int .i64 0, .int .i64 0, .int .i64 0, .int .u64 0, .int .i64 0, .int .i64 0] #[.int .i64 (Int.tmod (wrap64 (rd l0 1)) 256), .int .i64 (Int.tmod (wrap64 (Int.tdiv (wrap64 (rd l0 1)) 256)) 256), .int .i64 (wrap64 (rd l0 0)), .int .i64 0, .int .u64 0, .int .i64 (Int.tmod (wrap64 (Int.tdiv (wrap64 (rd l0 1)) 65536)) 256), .int .i64 (wrap64 (Int.tdiv (wrap64 (rd l0 1)) 16777216))] [.int .i64 (Int.tmod (wrap64 (rd l0 1)) 256), .int .i64 (Int.tmod (wrap64 (Int.tdiv (wrap64 (rd l0 1)) 256)) 256), .int .i64 (wrap64 (rd l0 0)), .int .i64 0, .int .u64 0, .int .i64 (Int.tmod (wrap64 (Int.tdiv (wrap64 (rd l0 1)) 65536)) 256), .int .i64 (wrap64 (Int.tdiv (wrap64 (rd l0 1)) 16777216))] rfl rfl (by kernel_rfl) (by simp [Value.oneCell']) Bg2.out (by simp) rfl ?_; intro W3 bx hgr; have Bg1_ := am (seg.far Bg1.out hgr Ng1g2.out); have HB_ := am (seg.below HB.out hgr Gg2.out); clear Bg1 HB; have Bg1 := Bg1_; clear Bg1_; have HB := HB_; clear HB_; clear Bg2; have Bg2 := am bx; clear bx hgr; clear y0 y1 y2 y3 y4; have y0 := pw_cell_below HB.out X0.out; have y1 := pw_cell_below HB.out X1.out; have y2 := pw_cell_below HB.out X2.out; have y3 := pw_cell_below HB.out X3.out; have y4 := pw_cell_below HB.out X4.out; skip))
   refine start_ (n := 17) (S := fun w' => w'.cell? ⟨ad.block, ad.off + 2, none⟩ = some (.int .u32 (rd l0 2)) ∧ w'.cell? ⟨ad.block, ad.off + 4, none⟩ = some (.int .u32 (rd l0 4)) ∧ w'.cell? ⟨ad.block, ad.off + 3, none⟩ = some (.int .u32 (rd l0 3))) (ds := [16]) #[false, false, false, false, false, false, false, false, false, false, false, false, false, false, false, false, false] (by kernel_rfl) rfl rfl ⟨y2, y4, y3⟩ (fun hHeld => ?_)
   refine czpp 0 29 ?_
   refine czpp 1 30 ?_
   refine czpp 4 33 ?_
   refine czpp 5 34 ?_
   refine czpp 9 38 ?_
   refine czpp 10 39 ?_
   refine cztk 2 31 ?_
   refine czpp 3 32 ?_
   refine cztk 6 35 ?_
   refine czpp 7 36 ?_
   refine czpp 8 37 ?_
   refine cztk 11 40 ?_
   refine czpp 12 41 ?_
   refine czpp 13 42 ?_
   refine czpp 14 43 ?_
   refine czpp 15 44 ?_
   refine last_ (i := 16) (N := none) #[true, true, true, true, true, true, true, true, true, true, true, true, true, true, true, true, true] rfl rfl (by kernel_rfl) (by decide) (fun K hK => ?_)
   refine seg.step (by rfl) rfl 38 (.tmp 44) _ (by rfl) 40 g2 3 #[.int .i64 (Int.tmod (wrap64 (rd l0 1)) 256), .int .i64 (Int.tmod (wrap64 (Int.tdiv (wrap64 (rd l0 1)) 256)) 256), .int .i64 (wrap64 (rd l0 0)), .int .i64 0, .int .u64 0, .int .i64 (Int.tmod (wrap64 (Int.tdiv (wrap64 (rd l0 1)) 65536)) 256), .int .i64 (wrap64 (Int.tdiv (wrap64 (rd l0 1)) 16777216))] #[.int .i64 (Int.tmod (wrap64 (rd l0 1)) 256), .int .i64 (Int.tmod (wrap64 (Int.tdiv (wrap64 (rd l0 1)) 256)) 256), .int .i64 (wrap64 (rd l0 0)), .int .i64 (wrap64 (rd l0 2)), .int .u64 (IntKind.u64.wrap ((IntKind.u64.wrap ((IntKind.u64.wrap (rd l0 4)) * 4294967296)) + (IntKind.u64.wrap (rd l0 3)))), .int .i64 (Int.tmod (wrap64 (Int.tdiv (wrap64 (rd l0 1)) 65536)) 256), .int .i64 (wrap64 (Int.tdiv (wrap64 (rd l0 1)) 16777216))] [.int .i64 (wrap64 (rd l0 2)), .int .u64 (IntKind.u64.wrap ((IntKind.u64.wrap ((IntKind.u64.wrap (rd l0 4)) * 4294967296)) + (IntKind.u64.wrap (rd l0 3))))] (by rfl) (by rfl) (by kernel_rfl) (by simp [Value.oneCell']) (blk_drew Bg2.out) (by simp) rfl ?_
   intro W4 bx hgr
   have Bg1_ := am (seg.far (blk_drew Bg1.out) hgr Ng1g2.out)
   have HB_ := am (seg.below (below_drew1 HB.out) hgr Gg2.out)
   clear Bg1 HB
   have Bg1 := Bg1_
   clear Bg1_
   have HB := HB_
   clear HB_
   clear Bg2
   have Bg2 := am bx
   clear bx hgr
   have xg20 : W4.cell? ⟨g2, 0, none⟩ = some (.int .i64 (Int.tmod (wrap64 (rd l0 1)) 256)) := (blk_cell Bg2.out 0).trans rfl
   have xg21 : W4.cell? ⟨g2, 1, none⟩ = some (.int .i64 (Int.tmod (wrap64 (Int.tdiv (wrap64 (rd l0 1)) 256)) 256)) := (blk_cell Bg2.out 1).trans rfl
   have xg22 : W4.cell? ⟨g2, 2, none⟩ = some (.int .i64 (wrap64 (rd l0 0))) := (blk_cell Bg2.out 2).trans rfl
   have xg23 : W4.cell? ⟨g2, 3, none⟩ = some (.int .i64 (wrap64 (rd l0 2))) := (blk_cell Bg2.out 3).trans rfl
   have xg24 : W4.cell? ⟨g2, 4, none⟩ = some (.int .u64 (IntKind.u64.wrap ((IntKind.u64.wrap ((IntKind.u64.wrap (rd l0 4)) * 4294967296)) + (IntKind.u64.wrap (rd l0 3))))) := (blk_cell Bg2.out 4).trans rfl
   have xg25 : W4.cell? ⟨g2, 5, none⟩ = some (.int .i64 (Int.tmod (wrap64 (Int.tdiv (wrap64 (rd l0 1)) 65536)) 256)) := (blk_cell Bg2.out 5).trans rfl
   have xg26 : W4.cell? ⟨g2, 6, none⟩ = some (.int .i64 (wrap64 (Int.tdiv (wrap64 (rd l0 1)) 16777216))) := (blk_cell Bg2.out 6).trans rfl
   refine hK.out _ _ ?_
   clear hK K
   refine done_ (by kernel_rfl) ?_
   go_wp2_with (first | (go_at_call 48; refine (vendmeterref_MeterMay.calls k (Int.tmod (wrap64 (rd l0 1)) 256) (Int.tmod (wrap64 (Int.tdiv (wrap64 (rd l0 1)) 256)) 256) (wrap64 (rd l0 0)) (wrap64 (rd l0 2)) (IntKind.u64.wrap ((IntKind.u64.wrap ((IntKind.u64.wrap (rd l0 4)) * 4294967296)) + (IntKind.u64.wrap (rd l0 3)))) (Int.tmod (wrap64 (Int.tdiv (wrap64 (rd l0 1)) 65536)) 256) (wrap64 (Int.tdiv (wrap64 (rd l0 1)) 16777216)) false _ HM.out).mono ?_; rintro e wa ⟨rfl, hb1⟩; clear xg20 xg21 xg22 xg23 xg24 xg25 xg26; have Bg1_ := am (blk_below Bg1.out hb1); have Bg2_ := am (blk_below Bg2.out hb1); have HB_ := am (below_step HB.out hb1); clear Bg1 Bg2 HB; have Bg1 := Bg1_; clear Bg1_; have Bg2 := Bg2_; clear Bg2_; have HB := HB_; clear HB_; have xg20 : wa.cell? ⟨g2, 0, none⟩ = some (.int .i64 (Int.tmod (wrap64 (rd l0 1)) 256)) := (blk_cell Bg2.out 0).trans rfl; have xg21 : wa.cell? ⟨g2, 1, none⟩ = some (.int .i64 (Int.tmod (wrap64 (Int.tdiv (wrap64 (rd l0 1)) 256)) 256)) := (blk_cell Bg2.out 1).trans rfl; have xg22 : wa.cell? ⟨g2, 2, none⟩ = some (.int .i64 (wrap64 (rd l0 0))) := (blk_cell Bg2.out 2).trans rfl; have xg23 : wa.cell? ⟨g2, 3, none⟩ = some (.int .i64 (wrap64 (rd l0 2))) := (blk_cell Bg2.out 3).trans rfl; have xg24 : wa.cell? ⟨g2, 4, none⟩ = some (.int .u64 (IntKind.u64.wrap ((IntKind.u64.wrap ((IntKind.u64.wrap (rd l0 4)) * 4294967296)) + (IntKind.u64.wrap (rd l0 3))))) := (blk_cell Bg2.out 4).trans rfl; have xg25 : wa.cell? ⟨g2, 5, none⟩ = some (.int .i64 (Int.tmod (wrap64 (Int.tdiv (wrap64 (rd l0 1)) 65536)) 256)) := (blk_cell Bg2.out 5).trans rfl; have xg26 : wa.cell? ⟨g2, 6, none⟩ = some (.int .i64 (wrap64 (Int.tdiv (wrap64 (rd l0 1)) 16777216))) := (blk_cell Bg2.out 6).trans rfl; clear hb1) | ((with_reducible refine gate_store (t := 40) (p := 2) rfl ?_); refine seg.list rfl rfl 40 (.tmp 2) _ rfl 40 g1 0 #[.int .i64 0, .int .i64 0, .int .i64 0, .int .i64 0, .int .u64 0, .int .i64 0, .int .i64 0] #[.int .i64 0, .int .i64 0, .int .i64 0, .int .i64 0, .int .u64 0, .int .i64 0, .int .i64 0] [.int .i64 0, .int .i64 0, .int .i64 0, .int .i64 0, .int .u64 0, .int .i64 0, .int .i64 0] rfl rfl (by kernel_rfl) (by simp [Value.oneCell']) Bg1.out (by simp) rfl ?_; intro W5 bx hgr; clear xg20 xg21 xg22 xg23 xg24 xg25 xg26; have Bg2_ := am (seg.far Bg2.out hgr (Ne.symm Ng1g2.out)); have HB_ := am (seg.below HB.out hgr Gg1.out); clear Bg2 HB; have Bg2 := Bg2_; clear Bg2_; have HB := HB_; clear HB_; clear Bg1; have Bg1 := am bx; clear bx hgr; skip))
   refine bodyPost_ret (results_list (rs := [.cell 2 40, .tmp 3]) rfl (by simp) (.cell g1 40 #[.int .i64 0, .int .i64 0, .int .i64 0, .int .i64 0, .int .u64 0, .int .i64 0, .int .i64 0] (0, 0) _ rfl Bg1.out Tryz.underlying40 rfl (by kernel_rfl) (.tmp .nil))) rfl ?_
   exact ⟨rfl, HB.out⟩
 ·
  rw [if_neg c1] at h
  simp only [Option.some.injEq, Prod.mk.injEq] at h
  obtain ⟨rfl, rfl, rfl, rfl, rfl, rfl, rfl, rfl⟩ := h
  have q1 : ((l0.length : Int) != 5) = true := bne_iff_ne.mpr c1
  clear c1
  go_enter Tryz.func36, Tryz.ntmps36
  go_wp2_with (first | ((with_reducible refine gate_dst (N := 2) rfl ?_); refine czbox 2 #[.int .i64 0, .int .i64 0, .int .i64 0, .int .i64 0, .int .u64 0, .int .i64 0, .int .i64 0] 40 ?_; intro g1 hgq W1 hbox hb; have Gg1 := am (by rw [hgq]; exact below_size HB.out : w.heap.size ≤ g1); have HB_ := am (below_step HB.out hb); clear HB; have HB := HB_; clear HB_; have Bg1 := am hbox; clear hb hbox hgq; skip) | ((with_reducible refine gate_store (t := 40) (p := 2) rfl ?_); refine seg.list rfl rfl 40 (.tmp 2) _ rfl 40 g1 0 #[.int .i64 0, .int .i64 0, .int .i64 0, .int .i64 0, .int .u64 0, .int .i64 0, .int .i64 0] #[.int .i64 0, .int .i64 0, .int .i64 0, .int .i64 0, .int .u64 0, .int .i64 0, .int .i64 0] [.int .i64 0, .int .i64 0, .int .i64 0, .int .i64 0, .int .u64 0, .int .i64 0, .int .i64 0] rfl rfl (by kernel_rfl) (by simp [Value.oneCell']) Bg1.out (by simp) rfl ?_; intro W2 bx hgr; have HB_ := am (seg.below HB.out hgr Gg1.out); clear HB; have HB := HB_; clear HB_; clear Bg1; have Bg1 := am bx; clear bx hgr; skip))
  refine bodyPost_ret (results_list (rs := [.cell 2 40, .tmp 3]) rfl (by simp) (.cell g1 40 #[.int .i64 0, .int .i64 0, .int .i64 0, .int .i64 0, .int .u64 0, .int .i64 0, .int .i64 0] (0, 0) _ rfl Bg1.out Tryz.underlying40 rfl (by kernel_rfl) (.tmp .nil))) rfl ?_
  exact ⟨rfl, HB.out⟩

/-! ### vendmeterref_Booted: function 15 -/
def vendmeterref_Booted.f (k : Nat) (l0 : List Int) : Option (Int × Int × Int × Int × Int × Int × Int × Int) := (vendmeterref_SlotLoaded.f k l0 5).bind fun bt265 => (if bt265.2 = 0 then ((vendmeterref_MeterRead.f k bt265.1).bind fun bt269 => (some (bt269.1, bt269.2.1, bt269.2.2.1, bt269.2.2.2.1, bt269.2.2.2.2.1, bt269.2.2.2.2.2.1, bt269.2.2.2.2.2.2.1, bt269.2.2.2.2.2.2.2))) else (some (0, 0, 0, 0, 0, 0, 0, bt265.2)))
theorem vendmeterref_Booted.mono : ∀ a0 k, LeO (vendmeterref_Booted.f k a0) (vendmeterref_Booted.f (k + 1) a0) := by
 intro a0 k
 unfold vendmeterref_Booted.f
 repeat' first
   | (with_reducible exact vendmeterref_MeterRead.mono _ _)
   | (with_reducible exact vendmeterref_SlotLoaded.mono _ _ _)
   | (with_reducible exact LeO.refl _)
   | (with_reducible exact LeO.none _)
   | (with_reducible refine LeO.ite ?_ ?_)
   | (with_reducible refine LeO.bind ?_ (fun _ => ?_))
theorem vendmeterref_Booted.calls (k : Nat) (A0 : Option Addr) (c0 : Nat) (l0 : List Int) (r1 : Int) (r2 : Int) (r3 : Int) (r4 : Int) (r5 : Int) (r6 : Int) (r7 : Int) (r8 : Int) (w : World) (hr0 : Kd.C (Kd.int .u32) w A0 l0.length l0) (hc0 : l0.length ≤ c0) (h : vendmeterref_Booted.f k l0 = some (r1, r2, r3, r4, r5, r6, r7, r8)) :
  Calls Tryz.prog 15 #[.slice A0 l0.length c0] w fun e w' => e = .returned (.tuple #[.agg #[.int .i64 r1, .int .i64 r2, .int .i64 r3, .int .i64 r4, .int .u64 r5, .int .i64 r6, .int .i64 r7], .int .i64 r8]) ∧ Below w.heap.size w w' := by
 have hu40 := Tryz.underlying40
 have HR0 := am hr0
 have HC0 := am hc0
 clear hr0 hc0
 have HB := am (Below.refl w.heap.size w)
 have H : ((vendmeterref_SlotLoaded.f k l0 5).bind fun bt265 => (if bt265.2 = 0 then ((vendmeterref_MeterRead.f k bt265.1).bind fun bt269 => (some (bt269.1, bt269.2.1, bt269.2.2.1, bt269.2.2.2.1, bt269.2.2.2.2.1, bt269.2.2.2.2.2.1, bt269.2.2.2.2.2.2.1, bt269.2.2.2.2.2.2.2))) else (some (0, 0, 0, 0, 0, 0, 0, bt265.2)))) = some (r1, r2, r3, r4, r5, r6, r7, r8) := h
 clear h
 replace H := Option.bind_eq_some_iff.mp H
 obtain ⟨⟨t265, t266⟩, A20, H⟩ := H
 (try dsimp only at H)
 have A2 := am A20
 clear A20
 have HC3 := am H
 clear H
 go_enter Tryz.func15, Tryz.ntmps15
 go_upto_region 2 with (first | ((with_reducible refine gate_dst (N := 2) rfl ?_); refine czbox 2 #[.int .i64 0, .int .i64 0, .int .i64 0, .int .i64 0, .int .u64 0, .int .i64 0, .int .i64 0] 40 ?_; intro gb264 hg w4 hbox hb; have BK264 := am (hbox); have GW264 := czsz hg (czbl HB); have GE264 := czsz hg (czbl HB); replace HB := am (below_step (czbl HB) hb); clear hb hbox hg) | ((with_reducible refine gate_callee (f := 35) rfl ?_); refine czgo (some 10) Tryz.func35 #[.slice A0 l0.length c0, .int .i64 5] ?_; (with_reducible refine (vendmeterref_SlotLoaded.calls k _ _ l0 5 t265 t266 _ ?side1 ?side2 A2.out).mono ?_); (case side1 => repeat (first | exact (Kd.C_below HR0.out HB.1) | (with_reducible refine Kd.C_alloc ?_ _) | (with_reducible refine Kd.C_drewN ?_ _) | (with_reducible refine Kd.C_drew ?_))); (case side2 => exact HC0.out); rintro e w5 ⟨v267, rfl, ho0, hb⟩; refine ⟨_, rfl, ?_⟩; have HO268 := am (Kd.R_lower ho0 (below_size (czbl1 HB GE264))); replace BK264 := czbb BK264 hb; replace HB := am (below_step (czbl1 HB GE264) hb); (try clear hb hb2 hk hi ho0)))
 have H := HC3.out
 clear HC3
 revert H
 refine czei (fun c6b0 c6b1 H => ?_) (fun c6 c6b0 c6b1 H => ?_)
 ·
  replace H := Option.bind_eq_some_iff.mp H
  obtain ⟨⟨t269, t270, t271, t272, t273, t274, t275, t276⟩, A70, H⟩ := H
  (try dsimp only at H)
  have A7 := am A70
  clear A70
  simp only [Option.some.injEq, Prod.mk.injEq] at H
  obtain ⟨rfl, rfl, rfl, rfl, rfl, rfl, rfl, rfl⟩ := H
  obtain ⟨Ao8, co8, eo8⟩ := Kd.R_slice HO268.1
  subst eo8
  go_wp2_with (first | ((with_reducible refine gate_callee (f := 36) rfl ?_); refine czgo (some 19) Tryz.func36 #[.slice Ao8 t265.length co8] ?_; (with_reducible refine (vendmeterref_MeterRead.calls k _ _ t265 t269 t270 t271 t272 t273 t274 t275 t276 _ (czC HO268) ?side2 A7.out).mono ?_); (case side2 => exact (Kd.R_reads' HO268.1).2.1); rintro e w9 ⟨rfl, hb⟩; refine ⟨_, rfl, ?_⟩; replace HO268 := am (Kd.R_below (czR HO268) hb); replace BK264 := czbb BK264 hb; replace HB := am (below_step (czbl1 HB GE264) hb); (try clear hb hb2 hk hi)) | ((with_reducible refine gate_dst (N := 6) rfl ?_); refine czbox 6 #[.int .i64 0, .int .i64 0, .int .i64 0, .int .i64 0, .int .u64 0, .int .i64 0, .int .i64 0] 40 ?_; intro gb277 hg w10 hbox hb; have BK277 := am (hbox); have GW277 := czsz hg (czbl1 HB GE264); have GE277 := czsz hg (czbl1 HB GE264); have NB264_277 := czne BK264 hg; have NB277_264 := czen BK264 hg; replace HO268 := am (Kd.R_below (czR HO268) hb); replace BK264 := czbb BK264 hb; replace HB := am (below_step (czbl1 HB GE264) hb); clear hb hbox hg; have hnb11 := NB277_264.1; have hnc11 := NB264_277.1; obtain ⟨hcz12_0, hcz12_1, hcz12_2, hcz12_3, hcz12_4, hcz12_5, hcz12_6⟩ := czc7 BK277.1; obtain ⟨hfz12_0, hfz12_1, hfz12_2, hfz12_3, hfz12_4, hfz12_5, hfz12_6⟩ := czf7 BK277.1; obtain ⟨hcz13_0, hcz13_1, hcz13_2, hcz13_3, hcz13_4, hcz13_5, hcz13_6⟩ := czc7 BK264.1; obtain ⟨hfz13_0, hfz13_1, hfz13_2, hfz13_3, hfz13_4, hfz13_5, hfz13_6⟩ := czf7 BK264.1))
  refine bodyPost_ret (results_ct rfl _ _ gb264 40 #[.int .i64 t269, .int .i64 t270, .int .i64 t271, .int .i64 t272, .int .u64 t273, .int .i64 t274, .int .i64 t275] (0, 0) _ rfl (by (with_reducible repeat (first | apply czxn | apply czxd | apply czxa)); refine blk_put (cs := #[.int .i64 t269, .int .i64 t270, .int .i64 t271, .int .i64 t272, .int .u64 t273, .int .i64 t274, .int .i64 0]) ?_ 6 _ rfl; (with_reducible repeat (first | apply czxn | apply czxd | apply czxa)); refine blk_put (cs := #[.int .i64 t269, .int .i64 t270, .int .i64 t271, .int .i64 t272, .int .u64 t273, .int .i64 0, .int .i64 0]) ?_ 5 _ rfl; (with_reducible repeat (first | apply czxn | apply czxd | apply czxa)); refine blk_put (cs := #[.int .i64 t269, .int .i64 t270, .int .i64 t271, .int .i64 t272, .int .u64 0, .int .i64 0, .int .i64 0]) ?_ 4 _ rfl; (with_reducible repeat (first | apply czxn | apply czxd | apply czxa)); refine blk_put (cs := #[.int .i64 t269, .int .i64 t270, .int .i64 t271, .int .i64 0, .int .u64 0, .int .i64 0, .int .i64 0]) ?_ 3 _ rfl; (with_reducible repeat (first | apply czxn | apply czxd | apply czxa)); refine blk_put (cs := #[.int .i64 t269, .int .i64 t270, .int .i64 0, .int .i64 0, .int .u64 0, .int .i64 0, .int .i64 0]) ?_ 2 _ rfl; (with_reducible repeat (first | apply czxn | apply czxd | apply czxa)); refine blk_put (cs := #[.int .i64 t269, .int .i64 0, .int .i64 0, .int .i64 0, .int .u64 0, .int .i64 0, .int .i64 0]) ?_ 1 _ rfl; (with_reducible repeat (first | apply czxn | apply czxd | apply czxa)); refine blk_put (cs := #[.int .i64 0, .int .i64 0, .int .i64 0, .int .i64 0, .int .u64 0, .int .i64 0, .int .i64 0]) ?_ 0 _ rfl; (with_reducible repeat (first | apply czxn | apply czxd | apply czxa)); refine blk_far ?_ NB264_277.1 _; (with_reducible repeat (first | apply czxn | apply czxd | apply czxa)); refine blk_far ?_ NB264_277.1 _; (with_reducible repeat (first | apply czxn | apply czxd | apply czxa)); refine blk_far ?_ NB264_277.1 _; (with_reducible repeat (first | apply czxn | apply czxd | apply czxa)); refine blk_far ?_ NB264_277.1 _; (with_reducible repeat (first | apply czxn | apply czxd | apply czxa)); refine blk_far ?_ NB264_277.1 _; (with_reducible repeat (first | apply czxn | apply czxd | apply czxa)); refine blk_far ?_ NB264_277.1 _; (with_reducible repeat (first | apply czxn | apply czxd | apply czxa)); refine blk_far ?_ NB264_277.1 _; (with_reducible repeat (first | apply czxn | apply czxd | apply czxa)); exact BK264.1) Tryz.underlying40 rfl (by kernel_rfl)) rfl ?_
  exact ⟨czeq, czbl2 HB GE264 GE277⟩
 ·
  simp only [Option.some.injEq, Prod.mk.injEq] at H
  obtain ⟨rfl, rfl, rfl, rfl, rfl, rfl, rfl, rfl⟩ := H
  obtain ⟨hcz14_0, hcz14_1, hcz14_2, hcz14_3, hcz14_4, hcz14_5, hcz14_6⟩ := czc7 BK264.1
  obtain ⟨hfz14_0, hfz14_1, hfz14_2, hfz14_3, hfz14_4, hfz14_5, hfz14_6⟩ := czf7 BK264.1
  go_wp2
  refine bodyPost_ret (results_ct rfl _ _ gb264 40 #[.int .i64 0, .int .i64 0, .int .i64 0, .int .i64 0, .int .u64 0, .int .i64 0, .int .i64 0] (0, 0) _ rfl (by (with_reducible repeat (first | apply czxn | apply czxd | apply czxa)); refine blk_put (cs := #[.int .i64 0, .int .i64 0, .int .i64 0, .int .i64 0, .int .u64 0, .int .i64 0, .int .i64 0]) ?_ 6 _ rfl; (with_reducible repeat (first | apply czxn | apply czxd | apply czxa)); refine blk_put (cs := #[.int .i64 0, .int .i64 0, .int .i64 0, .int .i64 0, .int .u64 0, .int .i64 0, .int .i64 0]) ?_ 5 _ rfl; (with_reducible repeat (first | apply czxn | apply czxd | apply czxa)); refine blk_put (cs := #[.int .i64 0, .int .i64 0, .int .i64 0, .int .i64 0, .int .u64 0, .int .i64 0, .int .i64 0]) ?_ 4 _ rfl; (with_reducible repeat (first | apply czxn | apply czxd | apply czxa)); refine blk_put (cs := #[.int .i64 0, .int .i64 0, .int .i64 0, .int .i64 0, .int .u64 0, .int .i64 0, .int .i64 0]) ?_ 3 _ rfl; (with_reducible repeat (first | apply czxn | apply czxd | apply czxa)); refine blk_put (cs := #[.int .i64 0, .int .i64 0, .int .i64 0, .int .i64 0, .int .u64 0, .int .i64 0, .int .i64 0]) ?_ 2 _ rfl; (with_reducible repeat (first | apply czxn | apply czxd | apply czxa)); refine blk_put (cs := #[.int .i64 0, .int .i64 0, .int .i64 0, .int .i64 0, .int .u64 0, .int .i64 0, .int .i64 0]) ?_ 1 _ rfl; (with_reducible repeat (first | apply czxn | apply czxd | apply czxa)); refine blk_put (cs := #[.int .i64 0, .int .i64 0, .int .i64 0, .int .i64 0, .int .u64 0, .int .i64 0, .int .i64 0]) ?_ 0 _ rfl; (with_reducible repeat (first | apply czxn | apply czxd | apply czxa)); exact BK264.1) Tryz.underlying40 rfl (by kernel_rfl)) rfl ?_
  exact ⟨czeq, czbl1 HB GE264⟩

/-! ### vendmeterref_Digit: function 37 -/
def vendmeterref_Digit.f (a0 : Int) : Option (Bool) := if a0 ≥ 48 then (some (decide (a0 ≤ 57))) else (some false)
theorem vendmeterref_Digit.calls (a0 : Int) (r : Bool) (w : World) (h : vendmeterref_Digit.f a0 = some r) :
  Calls Tryz.prog 37 #[.int .u8 a0] w fun e w' => e = .returned (.bool r) ∧ Drawn0 w w' := by
 have H : (if a0 ≥ 48 then (some (decide (a0 ≤ 57))) else (some false)) = some r := h
 clear h
 by_cases c2 : a0 ≥ 48
 ·
  rw [if_pos c2] at H
  have c2b0 : decide (48 ≤ a0) = true := decide_eq_true c2
  clear c2
  obtain rfl := Option.some.inj H
  go_enter Tryz.func37, Tryz.ntmps37
  go_wp2
  go_ret
  exact ⟨by first | rfl | (simp; done) | (simp [*]; done), by repeat (first | exact Drawn0.refl _ | apply Drawn0.step)⟩
 ·
  rw [if_neg c2] at H
  have c2b0 : decide (48 ≤ a0) = false := decide_eq_false c2
  clear c2
  obtain rfl := Option.some.inj H
  go_enter Tryz.func37, Tryz.ntmps37
  go_wp2
  go_ret
  exact ⟨by first | rfl | (simp; done) | (simp [*]; done), by repeat (first | exact Drawn0.refl _ | apply Drawn0.step)⟩

-- NOT PRINTED: function 77 (vendmeterbig_Int_give)

/-! ### vendmeterbig_trim: function 103 -/
def vendmeterbig_trim.l0 : Nat → List Int → Int → Option (List Int)
 | 0, _, _ => none
 | k + 1, x0, x3 => if x3 > 0 then (if 0 ≤ (wrap64 (x3 - 1)) then (if (wrap64 (x3 - 1)) < (x0.length : Int) then (if (rd x0 (wrap64 (x3 - 1))) = 0 then (vendmeterbig_trim.l0 k x0 (wrap64 (x3 - 1))) else (if 0 ≤ x3 then (if x3 ≤ (x0.length : Int) then (some (x0.take (x3 : Int).toNat)) else (none)) else (none))) else (none)) else (none)) else (if 0 ≤ x3 then (if x3 ≤ (x0.length : Int) then (some (x0.take (x3 : Int).toNat)) else (none)) else (none))
def vendmeterbig_trim.f (k : Nat) (l0 : List Int) : Option (List Int) := vendmeterbig_trim.l0 k l0 (l0.length : Int)
theorem vendmeterbig_trim.mono_l : ∀ k, (∀ y0 y1, LeO (vendmeterbig_trim.l0 k y0 y1) (vendmeterbig_trim.l0 (k + 1) y0 y1))
 | 0 => fun _ _ r h => by simp [vendmeterbig_trim.l0] at h
 | k + 1 => by
  have ih0 := vendmeterbig_trim.mono_l k
  ·
   intro y0 y1
   unfold vendmeterbig_trim.l0
   repeat' first
   | (with_reducible exact ih0 _ _)
   | (with_reducible exact LeO.refl _)
   | (with_reducible exact LeO.none _)
   | (with_reducible refine LeO.ite ?_ ?_)
   | (with_reducible refine LeO.bind ?_ (fun _ => ?_))
theorem vendmeterbig_trim.mono : ∀ a0 k, LeO (vendmeterbig_trim.f k a0) (vendmeterbig_trim.f (k + 1) a0) := by
 intro a0 k
 have ih0 := vendmeterbig_trim.mono_l k
 unfold vendmeterbig_trim.f
 repeat' first
   | (with_reducible exact ih0 _ _)
   | (with_reducible exact LeO.refl _)
   | (with_reducible exact LeO.none _)
   | (with_reducible refine LeO.ite ?_ ?_)
   | (with_reducible refine LeO.bind ?_ (fun _ => ?_))
theorem vendmeterbig_trim.calls (k : Nat) (P0_ : Nat → Prop) (u9000_ : Value) (l0 : List Int) (r : List Int) (w0 w : World) (hB : Below w0.heap.size w0 w) (ho0 : Kd.R (Kd.int .u32) 51 w w0.heap.size P0_ u9000_ l0) (h : vendmeterbig_trim.f k l0 = some r) :
  Calls Tryz.prog 103 #[u9000_] w fun e w' => ∃ v0_ : Value, e = .returned (v0_) ∧ Kd.R (Kd.int .u32) 51 w' w0.heap.size (fun k_ => (P0_ k_ ∨ w.heap.size ≤ k_)) v0_ r ∧ Below w0.heap.size w0 w' ∧ Kept w w' (fun k_ => P0_ k_) := by
 have HO0 := am (show Kd.R (Kd.int .u32) 51 w w0.heap.size (fun k_ => (P0_ k_ ∨ w.heap.size ≤ k_)) u9000_ l0 from Kd.R_mono ho0 (fun k_ hk => (.inl hk)))
 have HK := am (Kept.refl w (fun k_ => P0_ k_))
 have HW0 := am hB.size
 have HB := am hB
 clear hB
 have H : (vendmeterbig_trim.l0 k l0 (l0.length : Int)) = some r := h
 clear h
 have H' := am H
 clear H
 obtain ⟨Ao2, co2, eo2⟩ := Kd.R_slice HO0.1
 subst eo2
 go_enter Tryz.func103, Tryz.ntmps103
 go_wp2
 go_loopg [3] k (fun kq v3 w' => ∃ (x3_1 : Int), v3 = .int .i64 x3_1 ∧ Aside0 (vendmeterbig_trim.l0 kq l0 x3_1 = some r) ∧ Aside0 (kq ≤ k) ∧ Aside0 (Kd.R (Kd.int .u32) 51 w' w0.heap.size (fun k_ => (P0_ k_ ∨ w.heap.size ≤ k_)) (.slice Ao2 l0.length co2) l0) ∧ Aside0 (Kept w w' (fun k_ => P0_ k_)) ∧ Aside0 (Below w0.heap.size w0 w'))
 case atStart => exact ⟨((l0.length : Int)), czr, H', ⟨Nat.le_refl _⟩, ⟨czR HO0⟩, ⟨by repeat (first | (with_reducible first | exact HK.out | apply Kept.alloc | apply Kept.drewN | apply Kept.drew) | exact HK.out)⟩, ⟨czbl HB⟩⟩
 case round =>
  clear H'
  try clear c1
  try clear p2
  obtain ⟨x3_1, rfl, HA, HK1, HO_0, HK, HB⟩ := hrel
  cases gk with
  | zero => exact absurd HA.out (by simp [vendmeterbig_trim.l0])
  | succ k1 =>
   have H := HA.out
   clear HA
   simp only [vendmeterbig_trim.l0] at H
   by_cases c3 : x3_1 > 0
   ·
    rw [if_pos c3] at H
    have c3b0 : decide (0 < x3_1) = true := decide_eq_true c3
    clear c3
    obtain ⟨ji4, hji4⟩ : ∃ j_ : Int, (wrap64 (x3_1 - 1)) = j_ := ⟨_, rfl⟩
    replace H : (if 0 ≤ (ji4) then (if (ji4) < (l0.length : Int) then (if (rd l0 (ji4)) = 0 then (vendmeterbig_trim.l0 k1 l0 ji4) else (if 0 ≤ x3_1 then (if x3_1 ≤ (l0.length : Int) then (some (l0.take (x3_1 : Int).toNat)) else (none)) else (none))) else (none)) else (none)) = some r := by first | (rw [hji4] at H; exact H) | (simp only [hji4] at H ⊢; exact H)
    have hji4w : (IntKind.i64.wrap (x3_1 - 1)) = ji4 := (i64_w _).trans hji4
    by_cases c5 : 0 ≤ (ji4)
    ·
     rw [if_pos c5] at H
     have c5b0 : decide (0 ≤ (ji4)) = true := decide_eq_true c5
     clear c5
     by_cases c6 : (ji4) < (l0.length : Int)
     ·
      rw [if_pos c6] at H
      have c6b0 : decide ((ji4) < (l0.length : Int)) = true := decide_eq_true c6
      clear c6
      revert H
      refine czei (fun c7b0 c7b1 H => ?_) (fun c7 c7b0 c7b1 H => ?_)
      ·
       have H' := am H
       clear H
       have p278 : 0 ≤ ((ji4) : Int) := czd
       have q278 : (ji4) < (l0.length : Int) := czd
       obtain ⟨ad278, e278, hx278_0⟩ := Kd.at_int (Kd.R_reads' HO_0.out).2.2 (ji4) p278 q278
       cases e278
       replace p278 := eq_true p278
       replace q278 := eq_true q278
       go_wp2
       go_roundg k1
       case measure => have := HK1.out; omega
       case rel => exact ⟨(ji4), (by first | rfl | (simp; done) | (simp only [← hji4] <;> (first | rfl | simp)) | (simp [*]; done)), H', ⟨by have := HK1.out; omega⟩, ⟨czR HO_0⟩, ⟨by repeat (first | (with_reducible first | exact HK.out | apply Kept.alloc | apply Kept.drewN | apply Kept.drew) | exact HK.out)⟩, ⟨czbl HB⟩⟩
      ·
       by_cases c8 : 0 ≤ x3_1
       ·
        rw [if_pos c8] at H
        have c8b0 := eq_true c8
        have c8b1 : decide (0 ≤ x3_1) = true := decide_eq_true c8
        clear c8
        by_cases c9 : x3_1 ≤ (l0.length : Int)
        ·
         rw [if_pos c9] at H
         have c9b0 := eq_true c9
         have c9b1 : decide (x3_1 ≤ (l0.length : Int)) = true := decide_eq_true c9
         clear c9
         obtain ⟨y279, hy279⟩ : ∃ y_ : List Int, y_ = (l0.take (x3_1 : Int).toNat) := ⟨_, rfl⟩
         replace H : (some y279) = some r := by first | (rw [hy279]; with_reducible exact H) | (have H2_ := (Option.bind_some _ _).symm.trans H; rw [hy279]; with_reducible exact H2_) | (have H2_ := (Option.bind_some _ _).symm.trans H; with_reducible exact H2_) | with_reducible exact H | (rw [hy279]; exact H) | exact H
         have Ny279 := am hy279
         clear hy279
         obtain rfl := Option.some.inj H
         have p278 : 0 ≤ ((ji4) : Int) := czd
         have q278 : (ji4) < (l0.length : Int) := czd
         obtain ⟨ad278, e278, hx278_0⟩ := Kd.at_int (Kd.R_reads' HO_0.out).2.2 (ji4) p278 q278
         cases e278
         replace p278 := eq_true p278
         replace q278 := eq_true q278
         have q10 : (x3_1 : Int) ≤ ((l0.length : Int) : Int) := czd
         obtain ⟨i010, hi010, _, hsz10, _⟩ := info_parts info51
         have hcut10 := cut_to (P := Tryz.prog) 22 51 .i64 Tryz.underlying22 hi010 (some ad278) l0.length co2 x3_1 (czd) q10 (Kd.R_reads' HO_0.out).2.1
         have hr10 := Kd.R_take (m := (x3_1 : Int).toNat) HO_0.out (by omega)
         have hy10 : y279.length = (x3_1 : Int).toNat := (by rw [Ny279.out, List.length_take]; omega)
         rw [← Ny279.out] at hr10
         rw [← hy10] at hr10 hcut10
         clear hy10 hi010 hsz10 HO_0
         have HO281 := am hr10
         clear hr10
         replace q10 := eq_true q10
         go_wp2
         go_ret
         exact ⟨_, by first | rfl | (simp [errW_none, errW_some] <;> rfl) | (simp only [← hji4]; first | rfl | (simp [errW_none, errW_some] <;> rfl)) | (simp [*, errW_none, errW_some] <;> rfl), czR HO281, czbl HB, by repeat (first | (with_reducible first | exact HK.out | apply Kept.alloc | apply Kept.drewN | apply Kept.drew) | exact HK.out)⟩
        ·
         rw [if_neg c9] at H
         exact absurd H (by simp)
       ·
        rw [if_neg c8] at H
        exact absurd H (by simp)
     ·
      rw [if_neg c6] at H
      exact absurd H (by simp)
    ·
     rw [if_neg c5] at H
     exact absurd H (by simp)
   ·
    rw [if_neg c3] at H
    have c3b0 : decide (0 < x3_1) = false := decide_eq_false c3
    clear c3
    by_cases c11 : 0 ≤ x3_1
    ·
     rw [if_pos c11] at H
     have c11b0 := eq_true c11
     have c11b1 : decide (0 ≤ x3_1) = true := decide_eq_true c11
     clear c11
     by_cases c12 : x3_1 ≤ (l0.length : Int)
     ·
      rw [if_pos c12] at H
      have c12b0 := eq_true c12
      have c12b1 : decide (x3_1 ≤ (l0.length : Int)) = true := decide_eq_true c12
      clear c12
      obtain ⟨y282, hy282⟩ : ∃ y_ : List Int, y_ = (l0.take (x3_1 : Int).toNat) := ⟨_, rfl⟩
      replace H : (some y282) = some r := by first | (rw [hy282]; with_reducible exact H) | (have H2_ := (Option.bind_some _ _).symm.trans H; rw [hy282]; with_reducible exact H2_) | (have H2_ := (Option.bind_some _ _).symm.trans H; with_reducible exact H2_) | with_reducible exact H | (rw [hy282]; exact H) | exact H
      have Ny282 := am hy282
      clear hy282
      obtain rfl := Option.some.inj H
      have q13 : (x3_1 : Int) ≤ ((l0.length : Int) : Int) := czd
      obtain ⟨i013, hi013, _, hsz13, _⟩ := info_parts info51
      have hcut13 := cut_to (P := Tryz.prog) 22 51 .i64 Tryz.underlying22 hi013 Ao2 l0.length co2 x3_1 (czd) q13 (Kd.R_reads' HO_0.out).2.1
      have hr13 := Kd.R_take (m := (x3_1 : Int).toNat) HO_0.out (by omega)
      have hy13 : y282.length = (x3_1 : Int).toNat := (by rw [Ny282.out, List.length_take]; omega)
      rw [← Ny282.out] at hr13
      rw [← hy13] at hr13 hcut13
      clear hy13 hi013 hsz13 HO_0
      have HO284 := am hr13
      clear hr13
      replace q13 := eq_true q13
      go_wp2
      go_ret
      exact ⟨_, czeq, czR HO284, czbl HB, by repeat (first | (with_reducible first | exact HK.out | apply Kept.alloc | apply Kept.drewN | apply Kept.drew) | exact HK.out)⟩
     ·
      rw [if_neg c12] at H
      exact absurd H (by simp)
    ·
     rw [if_neg c11] at H
     exact absurd H (by simp)

/-! ### vendmeterbig_mul stands in bw.A, bw.B -/

-- NOT PRINTED: function 38 (vendmeterbig_Int_Mul)

/-! ### vendmeterbig_words: function 104 -/
def vendmeterbig_words.f (k : Nat) (a0 : Int) : Option (List Int) := (vendmeterbig_trim.f k (([(a0) % 4294967296, (a0 / 4294967296) % 4294967296] : List Int))).bind fun t288 => (some t288)
theorem vendmeterbig_words.mono : ∀ a0 k, LeO (vendmeterbig_words.f k a0) (vendmeterbig_words.f (k + 1) a0) := by
 intro a0 k
 unfold vendmeterbig_words.f
 repeat' first
   | (with_reducible exact vendmeterbig_trim.mono _ _)
   | (with_reducible exact LeO.refl _)
   | (with_reducible exact LeO.none _)
   | (with_reducible refine LeO.ite ?_ ?_)
   | (with_reducible refine LeO.bind ?_ (fun _ => ?_))
theorem vendmeterbig_words.calls (k : Nat) (a0 : Int) (r : List Int) (w : World) (h : vendmeterbig_words.f k a0 = some r) :
  Calls Tryz.prog 104 #[.int .u64 a0] w fun e w' => ∃ v0_ : Value, e = .returned (v0_) ∧ Kd.R (Kd.int .u32) 51 w' w.heap.size (fun _ => True) v0_ r ∧ Below w.heap.size w w' := by
 have HB := am (Below.refl w.heap.size w)
 have H : ((vendmeterbig_trim.f k (([(a0) % 4294967296, (a0 / 4294967296) % 4294967296] : List Int))).bind fun t288 => (some t288)) = some r := h
 clear h
 obtain ⟨y285, hy285⟩ : ∃ y_ : List Int, y_ = (([(a0) % 4294967296, (a0 / 4294967296) % 4294967296] : List Int)) := ⟨_, rfl⟩
 replace H : ((vendmeterbig_trim.f k y285).bind fun t288 => (some t288)) = some r := by first | (rw [hy285]; with_reducible exact H) | (have H2_ := (Option.bind_some _ _).symm.trans H; rw [hy285]; with_reducible exact H2_) | (have H2_ := (Option.bind_some _ _).symm.trans H; with_reducible exact H2_) | with_reducible exact H | (rw [hy285]; exact H) | exact H
 have Ny285 := am hy285
 clear hy285
 replace H := Option.bind_eq_some_iff.mp H
 obtain ⟨t288, A20, H⟩ := H
 (try dsimp only at H)
 have A2 := am A20
 clear A20
 obtain rfl := Option.some.inj H
 go_enter Tryz.func104, Tryz.ntmps104
 go_wp2_with (first | ((with_reducible refine gate_dst (N := 8) rfl ?_); refine Kd.R_lit (Kd.int .u32) _ 51 ?hg (N := 8) ?hd (xs := ([(a0) % 4294967296, (a0 / 4294967296) % 4294967296] : List Int)) (inner := [.int .u32 ((a0) % 4294967296), .int .u32 ((a0 / 4294967296) % 4294967296)]) (ok := fun _ => True) (okp := fun _ => True) ?hr ?hp (fun _ hk => hk) trivial (Below.refl _ _) (Nat.le_refl _) (by simp) ?_; (case hd => rfl); (case hg => rfl); (case hr => first | (go_simp; done) | (go_simp; rfl)); (case hp => exact (Reps.one (show Kd.M (Kd.int .u32) _ _ _ ((a0) % 4294967296) [.int .u32 ((a0) % 4294967296)] from rfl) (Reps.one (show Kd.M (Kd.int .u32) _ _ _ ((a0 / 4294967296) % 4294967296) [.int .u32 ((a0 / 4294967296) % 4294967296)] from rfl) (Reps.none _ _)))); intro v286 w3 ho4 hb hg_ hnew_; clear hg_ hnew_; (first | rw [← Ny285.out] at ho4 | (simp only [Int.reduceToNat] at ho4; rw [← Ny285.out] at ho4)); have HO287 := am (Kd.R_lower ho4 (below_size (czbl HB))); replace HB := am (below_step (czbl HB) hb); clear hb ho4; obtain ⟨Ao5, co5, eo5⟩ := Kd.R_slice HO287.1; subst eo5) | ((with_reducible refine gate_callee (f := 103) rfl ?_); refine czgo (some 9) Tryz.func103 #[.slice Ao5 y285.length co5] ?_; (with_reducible refine (vendmeterbig_trim.calls k (fun k_ => some k_ = (.slice Ao5 y285.length co5 : Value).ownBlock) (.slice Ao5 y285.length co5) y285 t288 w _ ?side1 ?side2 A2.out).mono ?_); (case side1 => repeat (first | (with_reducible first | exact HB.1 | apply below_alloc | apply pw_below_drewN | apply below_drew1) | exact HB.1)); (case side2 => exact Kd.R_tight rfl HO287.1); rintro e w6 ⟨v289, rfl, ho0, hb, hkp⟩; refine ⟨_, rfl, ?_⟩; have HO290 := am (Kd.R_mono (ok' := fun k_ => True) ho0 (fun k_ hk_ => trivial)); replace HB := am (hb); clear HO287; (try clear hb hkp ho0)))
 go_ret
 exact ⟨_, czeq, czR HO290, czbl HB⟩

-- NOT PRINTED: function 79 (vendmeterbig_Int_SetInt64)

-- NOT PRINTED: function 39 (vendmeterbig_NewInt)

-- NOT PRINTED: function 105 (vendmeterbig_add)

end Go.Proofs.YtcllddkmcnfejaaGreatDoor.PPocketKeys
