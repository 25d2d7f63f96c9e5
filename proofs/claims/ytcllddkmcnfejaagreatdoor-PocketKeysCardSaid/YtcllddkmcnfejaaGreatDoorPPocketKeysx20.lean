-- written by this session's program wip/xp/xprint.py (it drives the kit's print and adds to it)
import Derived.Test.YtcllddkmcnfejaaGreatDoorPPocketKeysx0
import Derived.Test.YtcllddkmcnfejaaGreatDoorPPocketKeysx12
import Derived.Test.YtcllddkmcnfejaaGreatDoorPPocketKeysx13
import Derived.Test.YtcllddkmcnfejaaGreatDoorPPocketKeysx14
namespace Go.Proofs.YtcllddkmcnfejaaGreatDoor.PPocketKeys
open Go.RowKit Go.Proofs.YtcllddkmcnfejaaGreatDoorW.PrintWords Go.Proofs.YtcllddkmcnfejaaGreatDoorW.PrintLast Go.Proofs.YtcllddkmcnfejaaGreatDoorW.PrintMore
attribute [local go_sem] max2_int min2_int max_two min_two max_three min_three max_four min_four
set_option linter.unusedVariables false
set_option linter.unusedSimpArgs false
set_option maxHeartbeats 8000000
set_option maxRecDepth 100000

/-! ### vendmeterref_sellKey: function 50 -/
mutual
def vendmeterref_sellKey.l0 : Nat → Int → Int → Int → Int → Int → Int → Int → Int → Int → Int → Int → List (S55) → Option (Int)
 | 0, _, _, _, _, _, _, _, _, _, _, _, _ => none
 | k + 1, x2, x3, x9, x10, x378000, x378001, x378002, x378003, x378004, x378005, x378006, x379000 => if x10 < (x379000.length : Int) then (if 0 ≤ x10 then (if ((rd_T55 x379000 x10).f0) = x378000 then (if ((rd_T55 x379000 x10).f2) = x2 then (if ((rd_T55 x379000 x10).f3) = x3 then (vendmeterref_sellKey.j1 k x2 x3 x9 x10 (decide (((rd_T55 x379000 x10).f1) > x378001)) x378000 x378001 x378002 x378003 x378004 x378005 x378006 x379000 ((rd_T55 x379000 x10).f0) ((rd_T55 x379000 x10).f1) ((rd_T55 x379000 x10).f2) ((rd_T55 x379000 x10).f3)) else (vendmeterref_sellKey.j1 k x2 x3 x9 x10 true x378000 x378001 x378002 x378003 x378004 x378005 x378006 x379000 ((rd_T55 x379000 x10).f0) ((rd_T55 x379000 x10).f1) ((rd_T55 x379000 x10).f2) ((rd_T55 x379000 x10).f3))) else (vendmeterref_sellKey.j1 k x2 x3 x9 x10 true x378000 x378001 x378002 x378003 x378004 x378005 x378006 x379000 ((rd_T55 x379000 x10).f0) ((rd_T55 x379000 x10).f1) ((rd_T55 x379000 x10).f2) ((rd_T55 x379000 x10).f3))) else (vendmeterref_sellKey.j1 k x2 x3 x9 x10 true x378000 x378001 x378002 x378003 x378004 x378005 x378006 x379000 ((rd_T55 x379000 x10).f0) ((rd_T55 x379000 x10).f1) ((rd_T55 x379000 x10).f2) ((rd_T55 x379000 x10).f3))) else (none)) else (some x9)
def vendmeterref_sellKey.j1 : Nat → Int → Int → Int → Int → Bool → Int → Int → Int → Int → Int → Int → Int → List (S55) → Int → Int → Int → Int → Option (Int)
 | 0, _, _, _, _, _, _, _, _, _, _, _, _, _, _, _, _, _ => none
 | k + 1, x2, x3, x9, x10, x47, x378000, x378001, x378002, x378003, x378004, x378005, x378006, x379000, x381000, x381001, x381002, x381003 => if x47 = true then (vendmeterref_sellKey.l0 k x2 x3 x9 (wrap64 (x10 + 1)) x378000 x378001 x378002 x378003 x378004 x378005 x378006 x379000) else (if x381001 = x378001 then (some 0) else (vendmeterref_sellKey.l0 k x2 x3 1 (wrap64 (x10 + 1)) x378000 x378001 x378002 x378003 x378004 x378005 x378006 x379000))
end
def vendmeterref_sellKey.f (k : Nat) (a0_0 : Int) (a0_1 : Int) (a0_2 : Int) (a0_3 : Int) (a0_4 : Int) (a0_5 : Int) (a0_6 : Int) (l1_0 : List (S55)) (a2 : Int) (a3 : Int) : Option (Int) := vendmeterref_sellKey.l0 k a2 a3 2 0 a0_0 a0_1 a0_2 a0_3 a0_4 a0_5 a0_6 l1_0
theorem vendmeterref_sellKey.mono_l : ∀ k, (∀ y0 y1 y2 y3 y4 y5 y6 y7 y8 y9 y10 y11, LeO (vendmeterref_sellKey.l0 k y0 y1 y2 y3 y4 y5 y6 y7 y8 y9 y10 y11) (vendmeterref_sellKey.l0 (k + 1) y0 y1 y2 y3 y4 y5 y6 y7 y8 y9 y10 y11)) ∧ (∀ y0 y1 y2 y3 y4 y5 y6 y7 y8 y9 y10 y11 y12 y13 y14 y15 y16, LeO (vendmeterref_sellKey.j1 k y0 y1 y2 y3 y4 y5 y6 y7 y8 y9 y10 y11 y12 y13 y14 y15 y16) (vendmeterref_sellKey.j1 (k + 1) y0 y1 y2 y3 y4 y5 y6 y7 y8 y9 y10 y11 y12 y13 y14 y15 y16))
 | 0 => ⟨fun _ _ _ _ _ _ _ _ _ _ _ _ r h => by simp [vendmeterref_sellKey.l0] at h, fun _ _ _ _ _ _ _ _ _ _ _ _ _ _ _ _ _ r h => by simp [vendmeterref_sellKey.j1] at h⟩
 | k + 1 => by
  obtain ⟨ih0, ih1⟩ := vendmeterref_sellKey.mono_l k
  refine ⟨?_, ?_⟩
  ·
   intro y0 y1 y2 y3 y4 y5 y6 y7 y8 y9 y10 y11
   unfold vendmeterref_sellKey.l0
   repeat' first
   | (with_reducible exact ih0 _ _ _ _ _ _ _ _ _ _ _ _)
   | (with_reducible exact ih1 _ _ _ _ _ _ _ _ _ _ _ _ _ _ _ _ _)
   | (with_reducible exact LeO.refl _)
   | (with_reducible exact LeO.none _)
   | (with_reducible refine LeO.ite ?_ ?_)
   | (with_reducible refine LeO.bind ?_ (fun _ => ?_))
  ·
   intro y0 y1 y2 y3 y4 y5 y6 y7 y8 y9 y10 y11 y12 y13 y14 y15 y16
   unfold vendmeterref_sellKey.j1
   repeat' first
   | (with_reducible exact ih0 _ _ _ _ _ _ _ _ _ _ _ _)
   | (with_reducible exact ih1 _ _ _ _ _ _ _ _ _ _ _ _ _ _ _ _ _)
   | (with_reducible exact LeO.refl _)
   | (with_reducible exact LeO.none _)
   | (with_reducible refine LeO.ite ?_ ?_)
   | (with_reducible refine LeO.bind ?_ (fun _ => ?_))
theorem vendmeterref_sellKey.mono : ∀ a0 a1 a2 a3 a4 a5 a6 a7 a8 a9 k, LeO (vendmeterref_sellKey.f k a0 a1 a2 a3 a4 a5 a6 a7 a8 a9) (vendmeterref_sellKey.f (k + 1) a0 a1 a2 a3 a4 a5 a6 a7 a8 a9) := by
 intro a0 a1 a2 a3 a4 a5 a6 a7 a8 a9 k
 obtain ⟨ih0, ih1⟩ := vendmeterref_sellKey.mono_l k
 unfold vendmeterref_sellKey.f
 repeat' first
   | (with_reducible exact ih0 _ _ _ _ _ _ _ _ _ _ _ _)
   | (with_reducible exact ih1 _ _ _ _ _ _ _ _ _ _ _ _ _ _ _ _ _)
   | (with_reducible exact LeO.refl _)
   | (with_reducible exact LeO.none _)
   | (with_reducible refine LeO.ite ?_ ?_)
   | (with_reducible refine LeO.bind ?_ (fun _ => ?_))
theorem vendmeterref_sellKey.calls (k : Nat) (a0_0 : Int) (a0_1 : Int) (a0_2 : Int) (a0_3 : Int) (a0_4 : Int) (a0_5 : Int) (a0_6 : Int) (A1_0 : Option Addr) (c1_0 : Nat) (l1_0 : List (S55)) (a2 : Int) (a3 : Int) (r : Int) (w : World) (hr1_0 : Kd.C k55 w A1_0 l1_0.length l1_0) (hc1_0 : l1_0.length ≤ c1_0) (h : vendmeterref_sellKey.f k a0_0 a0_1 a0_2 a0_3 a0_4 a0_5 a0_6 l1_0 a2 a3 = some r) :
  Calls Tryz.prog 50 #[.agg #[.int .i64 a0_0, .int .i64 a0_1, .int .i64 a0_2, .int .i64 a0_3, .int .u64 a0_4, .int .i64 a0_5, .int .i64 a0_6], .agg #[.slice A1_0 l1_0.length c1_0], .int .i64 a2, .int .i64 a3] w fun e w' => e = .returned (.int .i64 r) ∧ Below w.heap.size w w' := by
 have hu40 := Tryz.underlying40
 have hu25 := Tryz.underlying25
 have hu55 := Tryz.underlying55
 have HR1_0 := am hr1_0
 have HC1_0 := am hc1_0
 clear hr1_0 hc1_0
 have HB := am (Below.refl w.heap.size w)
 have H : (vendmeterref_sellKey.l0 k a2 a3 2 0 a0_0 a0_1 a0_2 a0_3 a0_4 a0_5 a0_6 l1_0) = some r := h
 clear h
 have H' := am H
 clear H
 go_enter Tryz.func50, Tryz.ntmps50
 go_wp2_with (first | ((with_reducible refine gate_dst (N := 4) rfl ?_); refine czbox 4 #[.int .i64 a0_0, .int .i64 a0_1, .int .i64 a0_2, .int .i64 a0_3, .int .u64 a0_4, .int .i64 a0_5, .int .i64 a0_6] 40 ?_; intro gb377 hg w5 hbox hb; have BK377 := am (hbox); have GW377 := czsz hg (czbl HB); have GE377 := czsz hg (czbl HB); replace HB := am (below_step (czbl HB) hb); clear hb hbox hg) | ((with_reducible refine gate_dst (N := 5) rfl ?_); refine czbox 5 #[.slice A1_0 l1_0.length c1_0] 25 ?_; intro gb378 hg w6 hbox hb; have BK378 := am (hbox); have GW378 := czsz hg (czbl1 HB GE377); have GE378 := czsz hg (czbl1 HB GE377); have NB377_378 := czne BK377 hg; have NB378_377 := czen BK377 hg; replace BK377 := czbb BK377 hb; replace HB := am (below_step (czbl1 HB GE377) hb); clear hb hbox hg))
 go_loopg [9, 10] k (fun kq v9 v10 w' => ∃ (x9_1 : Int) (x10_1 : Int), v9 = .int .i64 x9_1 ∧ v10 = .int .i64 x10_1 ∧ Aside0 (vendmeterref_sellKey.l0 kq a2 a3 x9_1 x10_1 a0_0 a0_1 a0_2 a0_3 a0_4 a0_5 a0_6 l1_0 = some r) ∧ Aside0 (kq ≤ k) ∧ Aside0 (w'.heap[gb377]? = some (.cells #[.int .i64 a0_0, .int .i64 a0_1, .int .i64 a0_2, .int .i64 a0_3, .int .u64 a0_4, .int .i64 a0_5, .int .i64 a0_6] 40 (0, 0))) ∧ Aside0 (w'.heap[gb378]? = some (.cells #[(.slice A1_0 l1_0.length c1_0)] 25 (0, 0))) ∧ Aside0 (Below w.heap.size w w'))
 case atStart => exact ⟨(2), (0), czr, czr, H', ⟨Nat.le_refl _⟩, ⟨czbk BK377⟩, ⟨czbk BK378⟩, ⟨czbl2 HB GE377 GE378⟩⟩
 case round =>
  clear H'
  try clear c1
  try clear p2
  try clear c5
  obtain ⟨x9_1, x10_1, rfl, rfl, HA, HK1, BK377, BK378, HB⟩ := hrel
  cases gk with
  | zero => exact absurd HA.out (by simp [vendmeterref_sellKey.l0])
  | succ k1 =>
   have H := HA.out
   clear HA
   simp only [vendmeterref_sellKey.l0] at H
   revert H
   refine czif (fun c7b0 H => ?_) (fun c7b0 H => ?_)
   ·
    by_cases c8 : 0 ≤ x10_1
    ·
     rw [if_pos c8] at H
     have c8b0 : decide (0 ≤ x10_1) = true := decide_eq_true c8
     clear c8
     have HC9 := am H
     clear H
     have hnb10 := NB378_377.1
     have hnc10 := NB377_378.1
     have hcz11_0 : wr.cell? ⟨gb378, 0, none⟩ = some (.slice A1_0 l1_0.length c1_0) := (blk_cell BK378.1 0).trans rfl
     have hfz11_0 := blk_frozen BK378.1 0
     have p379 : 0 ≤ (x10_1 : Int) := czd
     have q379 : x10_1 < (l1_0.length : Int) := czd
     obtain ⟨ad379, e379, hx379_0, hx379_1, hx379_2, hx379_3⟩ := at_T55 HR1_0.out x10_1 p379 q379
     cases e379
     replace hx379_0 := (HB.1.cell (World.block_lt_of_cell? w _ hx379_0)).trans hx379_0
     replace hx379_1 := (HB.1.cell (World.block_lt_of_cell? w _ hx379_1)).trans hx379_1
     replace hx379_2 := (HB.1.cell (World.block_lt_of_cell? w _ hx379_2)).trans hx379_2
     replace hx379_3 := (HB.1.cell (World.block_lt_of_cell? w _ hx379_3)).trans hx379_3
     replace p379 := eq_true p379
     replace q379 := eq_true q379
     go_upto_region 6 with (first | ((with_reducible refine gate_dst (N := 11) rfl ?_); refine czbox 11 #[.int .i64 0, .int .i64 0, .int .i64 0, .int .i64 0] 55 ?_; intro gb380 hg w12 hbox hb; have BK380 := am (hbox); have GW380 := czsz hg (czbl2 HB GE377 GE378); have GE380 := czsz hg (czbl2 HB GE377 GE378); have NB377_380 := czne BK377 hg; have NB380_377 := czen BK377 hg; have NB378_380 := czne BK378 hg; have NB380_378 := czen BK378 hg; replace BK377 := czbb BK377 hb; replace BK378 := czbb BK378 hb; replace HB := am (below_step (czbl2 HB GE377 GE378) hb); clear hb hbox hg; have hnb13 := NB380_377.1; have hnc13 := NB377_380.1; have hnb14 := NB380_378.1; have hnc14 := NB378_380.1; obtain ⟨hcz15_0, hcz15_1, hcz15_2, hcz15_3⟩ := czc4 BK380.1; obtain ⟨hfz15_0, hfz15_1, hfz15_2, hfz15_3⟩ := czf4 BK380.1))
     (try simp only [Act.put, List.setIfInBounds_toArray, List.set_cons_zero, List.set_cons_succ])
     go_cut [47] (fun v47 wc => ∃ (kq : Nat) (x47_8 : Bool), v47 = .bool x47_8 ∧ Aside0 (vendmeterref_sellKey.j1 kq a2 a3 x9_1 x10_1 x47_8 a0_0 a0_1 a0_2 a0_3 a0_4 a0_5 a0_6 l1_0 ((rd_T55 l1_0 x10_1).f0) ((rd_T55 l1_0 x10_1).f1) ((rd_T55 l1_0 x10_1).f2) ((rd_T55 l1_0 x10_1).f3) = some r) ∧ Aside0 (kq ≤ k1) ∧ Aside0 (wc.heap[gb377]? = some (.cells #[.int .i64 a0_0, .int .i64 a0_1, .int .i64 a0_2, .int .i64 a0_3, .int .u64 a0_4, .int .i64 a0_5, .int .i64 a0_6] 40 (0, 0))) ∧ Aside0 (wc.heap[gb378]? = some (.cells #[(.slice (some ad379) l1_0.length c1_0)] 25 (0, 0))) ∧ Aside0 (wc.heap[gb380]? = some (.cells #[.int .i64 ((rd_T55 l1_0 x10_1).f0), .int .i64 ((rd_T55 l1_0 x10_1).f1), .int .i64 ((rd_T55 l1_0 x10_1).f2), .int .i64 ((rd_T55 l1_0 x10_1).f3)] 55 (0, 0))) ∧ Aside0 (Below w.heap.size w wc))
     case first =>
      have H := HC9.out
      clear HC9
      revert H
      refine czei (fun c16b0 c16b1 H => ?_) (fun c16 c16b0 c16b1 H => ?_)
      ·
       (first | rw [c16b0] | (simp only [i64_w, i32_w]; rw [c16b0]) | skip)
       revert H
       refine czei (fun c17b0 c17b1 H => ?_) (fun c17 c17b0 c17b1 H => ?_)
       ·
        revert H
        refine czei (fun c18b0 c18b1 H => ?_) (fun c18 c18b0 c18b1 H => ?_)
        ·
         have H' := am H
         clear H
         have hnb19 := NB380_377.1
         have hnc19 := NB377_380.1
         have hnb20 := NB380_378.1
         have hnc20 := NB378_380.1
         obtain ⟨hcz21_0, hcz21_1, hcz21_2, hcz21_3⟩ := czc4 BK380.1
         obtain ⟨hfz21_0, hfz21_1, hfz21_2, hfz21_3⟩ := czf4 BK380.1
         have hnb22 := NB377_378.1
         have hnc22 := NB378_377.1
         obtain ⟨hcz23_0, hcz23_1, hcz23_2, hcz23_3, hcz23_4, hcz23_5, hcz23_6⟩ := czc7 BK377.1
         obtain ⟨hfz23_0, hfz23_1, hfz23_2, hfz23_3, hfz23_4, hfz23_5, hfz23_6⟩ := czf7 BK377.1
         go_wp2
         go_meet
         case rel => exact ⟨_, (decide (((rd_T55 l1_0 x10_1).f1) > a0_1)), czr, H', ⟨by have := HK1.out; first | omega | exact Nat.le_refl _⟩, ⟨by (with_reducible repeat (first | apply czxn | apply czxd | apply czxa)); refine blk_far ?_ NB377_380.1 _; (with_reducible repeat (first | apply czxn | apply czxd | apply czxa)); refine blk_far ?_ NB377_380.1 _; (with_reducible repeat (first | apply czxn | apply czxd | apply czxa)); refine blk_far ?_ NB377_380.1 _; (with_reducible repeat (first | apply czxn | apply czxd | apply czxa)); refine blk_far ?_ NB377_380.1 _; (with_reducible repeat (first | apply czxn | apply czxd | apply czxa)); exact BK377.1⟩, ⟨by (with_reducible repeat (first | apply czxn | apply czxd | apply czxa)); refine blk_far ?_ NB378_380.1 _; (with_reducible repeat (first | apply czxn | apply czxd | apply czxa)); refine blk_far ?_ NB378_380.1 _; (with_reducible repeat (first | apply czxn | apply czxd | apply czxa)); refine blk_far ?_ NB378_380.1 _; (with_reducible repeat (first | apply czxn | apply czxd | apply czxa)); refine blk_far ?_ NB378_380.1 _; (with_reducible repeat (first | apply czxn | apply czxd | apply czxa)); exact BK378.1⟩, ⟨by (with_reducible repeat (first | apply czxn | apply czxd | apply czxa)); refine blk_put (cs := #[.int .i64 ((rd_T55 l1_0 x10_1).f0), .int .i64 ((rd_T55 l1_0 x10_1).f1), .int .i64 ((rd_T55 l1_0 x10_1).f2), .int .i64 0]) ?_ 3 _ rfl; (with_reducible repeat (first | apply czxn | apply czxd | apply czxa)); refine blk_put (cs := #[.int .i64 ((rd_T55 l1_0 x10_1).f0), .int .i64 ((rd_T55 l1_0 x10_1).f1), .int .i64 0, .int .i64 0]) ?_ 2 _ rfl; (with_reducible repeat (first | apply czxn | apply czxd | apply czxa)); refine blk_put (cs := #[.int .i64 ((rd_T55 l1_0 x10_1).f0), .int .i64 0, .int .i64 0, .int .i64 0]) ?_ 1 _ rfl; (with_reducible repeat (first | apply czxn | apply czxd | apply czxa)); refine blk_put (cs := #[.int .i64 0, .int .i64 0, .int .i64 0, .int .i64 0]) ?_ 0 _ rfl; (with_reducible repeat (first | apply czxn | apply czxd | apply czxa)); exact BK380.1⟩, ⟨czbl3 HB GE377 GE378 GE380⟩⟩
        ·
         have H' := am H
         clear H
         have hnb24 := NB380_377.1
         have hnc24 := NB377_380.1
         have hnb25 := NB380_378.1
         have hnc25 := NB378_380.1
         obtain ⟨hcz26_0, hcz26_1, hcz26_2, hcz26_3⟩ := czc4 BK380.1
         obtain ⟨hfz26_0, hfz26_1, hfz26_2, hfz26_3⟩ := czf4 BK380.1
         have hnb27 := NB377_378.1
         have hnc27 := NB378_377.1
         obtain ⟨hcz28_0, hcz28_1, hcz28_2, hcz28_3, hcz28_4, hcz28_5, hcz28_6⟩ := czc7 BK377.1
         obtain ⟨hfz28_0, hfz28_1, hfz28_2, hfz28_3, hfz28_4, hfz28_5, hfz28_6⟩ := czf7 BK377.1
         go_wp2
         go_meet
         case rel => exact ⟨_, (true), czr, H', ⟨by have := HK1.out; first | omega | exact Nat.le_refl _⟩, ⟨by (with_reducible repeat (first | apply czxn | apply czxd | apply czxa)); refine blk_far ?_ NB377_380.1 _; (with_reducible repeat (first | apply czxn | apply czxd | apply czxa)); refine blk_far ?_ NB377_380.1 _; (with_reducible repeat (first | apply czxn | apply czxd | apply czxa)); refine blk_far ?_ NB377_380.1 _; (with_reducible repeat (first | apply czxn | apply czxd | apply czxa)); refine blk_far ?_ NB377_380.1 _; (with_reducible repeat (first | apply czxn | apply czxd | apply czxa)); exact BK377.1⟩, ⟨by (with_reducible repeat (first | apply czxn | apply czxd | apply czxa)); refine blk_far ?_ NB378_380.1 _; (with_reducible repeat (first | apply czxn | apply czxd | apply czxa)); refine blk_far ?_ NB378_380.1 _; (with_reducible repeat (first | apply czxn | apply czxd | apply czxa)); refine blk_far ?_ NB378_380.1 _; (with_reducible repeat (first | apply czxn | apply czxd | apply czxa)); refine blk_far ?_ NB378_380.1 _; (with_reducible repeat (first | apply czxn | apply czxd | apply czxa)); exact BK378.1⟩, ⟨by (with_reducible repeat (first | apply czxn | apply czxd | apply czxa)); refine blk_put (cs := #[.int .i64 ((rd_T55 l1_0 x10_1).f0), .int .i64 ((rd_T55 l1_0 x10_1).f1), .int .i64 ((rd_T55 l1_0 x10_1).f2), .int .i64 0]) ?_ 3 _ rfl; (with_reducible repeat (first | apply czxn | apply czxd | apply czxa)); refine blk_put (cs := #[.int .i64 ((rd_T55 l1_0 x10_1).f0), .int .i64 ((rd_T55 l1_0 x10_1).f1), .int .i64 0, .int .i64 0]) ?_ 2 _ rfl; (with_reducible repeat (first | apply czxn | apply czxd | apply czxa)); refine blk_put (cs := #[.int .i64 ((rd_T55 l1_0 x10_1).f0), .int .i64 0, .int .i64 0, .int .i64 0]) ?_ 1 _ rfl; (with_reducible repeat (first | apply czxn | apply czxd | apply czxa)); refine blk_put (cs := #[.int .i64 0, .int .i64 0, .int .i64 0, .int .i64 0]) ?_ 0 _ rfl; (with_reducible repeat (first | apply czxn | apply czxd | apply czxa)); exact BK380.1⟩, ⟨czbl3 HB GE377 GE378 GE380⟩⟩
       ·
        have H' := am H
        clear H
        have hnb29 := NB380_377.1
        have hnc29 := NB377_380.1
        have hnb30 := NB380_378.1
        have hnc30 := NB378_380.1
        obtain ⟨hcz31_0, hcz31_1, hcz31_2, hcz31_3⟩ := czc4 BK380.1
        obtain ⟨hfz31_0, hfz31_1, hfz31_2, hfz31_3⟩ := czf4 BK380.1
        have hnb32 := NB377_378.1
        have hnc32 := NB378_377.1
        obtain ⟨hcz33_0, hcz33_1, hcz33_2, hcz33_3, hcz33_4, hcz33_5, hcz33_6⟩ := czc7 BK377.1
        obtain ⟨hfz33_0, hfz33_1, hfz33_2, hfz33_3, hfz33_4, hfz33_5, hfz33_6⟩ := czf7 BK377.1
        go_wp2
        go_meet
        case rel => exact ⟨_, (true), czr, H', ⟨by have := HK1.out; first | omega | exact Nat.le_refl _⟩, ⟨by (with_reducible repeat (first | apply czxn | apply czxd | apply czxa)); refine blk_far ?_ NB377_380.1 _; (with_reducible repeat (first | apply czxn | apply czxd | apply czxa)); refine blk_far ?_ NB377_380.1 _; (with_reducible repeat (first | apply czxn | apply czxd | apply czxa)); refine blk_far ?_ NB377_380.1 _; (with_reducible repeat (first | apply czxn | apply czxd | apply czxa)); refine blk_far ?_ NB377_380.1 _; (with_reducible repeat (first | apply czxn | apply czxd | apply czxa)); exact BK377.1⟩, ⟨by (with_reducible repeat (first | apply czxn | apply czxd | apply czxa)); refine blk_far ?_ NB378_380.1 _; (with_reducible repeat (first | apply czxn | apply czxd | apply czxa)); refine blk_far ?_ NB378_380.1 _; (with_reducible repeat (first | apply czxn | apply czxd | apply czxa)); refine blk_far ?_ NB378_380.1 _; (with_reducible repeat (first | apply czxn | apply czxd | apply czxa)); refine blk_far ?_ NB378_380.1 _; (with_reducible repeat (first | apply czxn | apply czxd | apply czxa)); exact BK378.1⟩, ⟨by (with_reducible repeat (first | apply czxn | apply czxd | apply czxa)); refine blk_put (cs := #[.int .i64 ((rd_T55 l1_0 x10_1).f0), .int .i64 ((rd_T55 l1_0 x10_1).f1), .int .i64 ((rd_T55 l1_0 x10_1).f2), .int .i64 0]) ?_ 3 _ rfl; (with_reducible repeat (first | apply czxn | apply czxd | apply czxa)); refine blk_put (cs := #[.int .i64 ((rd_T55 l1_0 x10_1).f0), .int .i64 ((rd_T55 l1_0 x10_1).f1), .int .i64 0, .int .i64 0]) ?_ 2 _ rfl; (with_reducible repeat (first | apply czxn | apply czxd | apply czxa)); refine blk_put (cs := #[.int .i64 ((rd_T55 l1_0 x10_1).f0), .int .i64 0, .int .i64 0, .int .i64 0]) ?_ 1 _ rfl; (with_reducible repeat (first | apply czxn | apply czxd | apply czxa)); refine blk_put (cs := #[.int .i64 0, .int .i64 0, .int .i64 0, .int .i64 0]) ?_ 0 _ rfl; (with_reducible repeat (first | apply czxn | apply czxd | apply czxa)); exact BK380.1⟩, ⟨czbl3 HB GE377 GE378 GE380⟩⟩
      ·
       (first | rw [c16b0] | (simp only [i64_w, i32_w]; rw [c16b0]) | skip)
       have H' := am H
       clear H
       have hnb34 := NB380_377.1
       have hnc34 := NB377_380.1
       have hnb35 := NB380_378.1
       have hnc35 := NB378_380.1
       obtain ⟨hcz36_0, hcz36_1, hcz36_2, hcz36_3⟩ := czc4 BK380.1
       obtain ⟨hfz36_0, hfz36_1, hfz36_2, hfz36_3⟩ := czf4 BK380.1
       have hnb37 := NB377_378.1
       have hnc37 := NB378_377.1
       obtain ⟨hcz38_0, hcz38_1, hcz38_2, hcz38_3, hcz38_4, hcz38_5, hcz38_6⟩ := czc7 BK377.1
       obtain ⟨hfz38_0, hfz38_1, hfz38_2, hfz38_3, hfz38_4, hfz38_5, hfz38_6⟩ := czf7 BK377.1
       go_wp2
       go_meet
       case rel => exact ⟨_, (true), czr, H', ⟨by have := HK1.out; first | omega | exact Nat.le_refl _⟩, ⟨by (with_reducible repeat (first | apply czxn | apply czxd | apply czxa)); refine blk_far ?_ NB377_380.1 _; (with_reducible repeat (first | apply czxn | apply czxd | apply czxa)); refine blk_far ?_ NB377_380.1 _; (with_reducible repeat (first | apply czxn | apply czxd | apply czxa)); refine blk_far ?_ NB377_380.1 _; (with_reducible repeat (first | apply czxn | apply czxd | apply czxa)); refine blk_far ?_ NB377_380.1 _; (with_reducible repeat (first | apply czxn | apply czxd | apply czxa)); exact BK377.1⟩, ⟨by (with_reducible repeat (first | apply czxn | apply czxd | apply czxa)); refine blk_far ?_ NB378_380.1 _; (with_reducible repeat (first | apply czxn | apply czxd | apply czxa)); refine blk_far ?_ NB378_380.1 _; (with_reducible repeat (first | apply czxn | apply czxd | apply czxa)); refine blk_far ?_ NB378_380.1 _; (with_reducible repeat (first | apply czxn | apply czxd | apply czxa)); refine blk_far ?_ NB378_380.1 _; (with_reducible repeat (first | apply czxn | apply czxd | apply czxa)); exact BK378.1⟩, ⟨by (with_reducible repeat (first | apply czxn | apply czxd | apply czxa)); refine blk_put (cs := #[.int .i64 ((rd_T55 l1_0 x10_1).f0), .int .i64 ((rd_T55 l1_0 x10_1).f1), .int .i64 ((rd_T55 l1_0 x10_1).f2), .int .i64 0]) ?_ 3 _ rfl; (with_reducible repeat (first | apply czxn | apply czxd | apply czxa)); refine blk_put (cs := #[.int .i64 ((rd_T55 l1_0 x10_1).f0), .int .i64 ((rd_T55 l1_0 x10_1).f1), .int .i64 0, .int .i64 0]) ?_ 2 _ rfl; (with_reducible repeat (first | apply czxn | apply czxd | apply czxa)); refine blk_put (cs := #[.int .i64 ((rd_T55 l1_0 x10_1).f0), .int .i64 0, .int .i64 0, .int .i64 0]) ?_ 1 _ rfl; (with_reducible repeat (first | apply czxn | apply czxd | apply czxa)); refine blk_put (cs := #[.int .i64 0, .int .i64 0, .int .i64 0, .int .i64 0]) ?_ 0 _ rfl; (with_reducible repeat (first | apply czxn | apply czxd | apply czxa)); exact BK380.1⟩, ⟨czbl3 HB GE377 GE378 GE380⟩⟩
     case rest =>
      clear HC9
      try clear c1
      try clear c2
      try clear p2
      try clear c3
      try clear p3
      try clear q3
      try clear hx3
      try clear c5
      try clear c7
      try clear c7b0
      try clear c8
      try clear c8b0
      try clear c10
      try clear c13
      try clear c14
      try clear c16
      try clear c16b0
      try clear c16b1
      try clear c17
      try clear c17b0
      try clear c17b1
      try clear c18
      try clear c18b0
      try clear c18b1
      try clear c19
      try clear c20
      try clear c22
      try clear c24
      try clear c25
      try clear c27
      try clear c29
      try clear c30
      try clear c32
      try clear c34
      try clear c35
      try clear c37
      try clear p37
      try clear q37
      try clear hx37
      try clear hcz11_0
      try clear hcz15_0
      try clear hcz15_1
      try clear hcz15_2
      try clear hcz15_3
      try clear hcz21_0
      try clear hcz21_1
      try clear hcz21_2
      try clear hcz21_3
      try clear hcz23_0
      try clear hcz23_1
      try clear hcz23_2
      try clear hcz23_3
      try clear hcz23_4
      try clear hcz23_5
      try clear hcz23_6
      try clear hcz26_0
      try clear hcz26_1
      try clear hcz26_2
      try clear hcz26_3
      try clear hcz28_0
      try clear hcz28_1
      try clear hcz28_2
      try clear hcz28_3
      try clear hcz28_4
      try clear hcz28_5
      try clear hcz28_6
      try clear hcz31_0
      try clear hcz31_1
      try clear hcz31_2
      try clear hcz31_3
      try clear hcz33_0
      try clear hcz33_1
      try clear hcz33_2
      try clear hcz33_3
      try clear hcz33_4
      try clear hcz33_5
      try clear hcz33_6
      try clear hcz36_0
      try clear hcz36_1
      try clear hcz36_2
      try clear hcz36_3
      try clear hcz38_0
      try clear hcz38_1
      try clear hcz38_2
      try clear hcz38_3
      try clear hcz38_4
      try clear hcz38_5
      try clear hcz38_6
      try clear hfz11_0
      try clear hfz15_0
      try clear hfz15_1
      try clear hfz15_2
      try clear hfz15_3
      try clear hfz21_0
      try clear hfz21_1
      try clear hfz21_2
      try clear hfz21_3
      try clear hfz23_0
      try clear hfz23_1
      try clear hfz23_2
      try clear hfz23_3
      try clear hfz23_4
      try clear hfz23_5
      try clear hfz23_6
      try clear hfz26_0
      try clear hfz26_1
      try clear hfz26_2
      try clear hfz26_3
      try clear hfz28_0
      try clear hfz28_1
      try clear hfz28_2
      try clear hfz28_3
      try clear hfz28_4
      try clear hfz28_5
      try clear hfz28_6
      try clear hfz31_0
      try clear hfz31_1
      try clear hfz31_2
      try clear hfz31_3
      try clear hfz33_0
      try clear hfz33_1
      try clear hfz33_2
      try clear hfz33_3
      try clear hfz33_4
      try clear hfz33_5
      try clear hfz33_6
      try clear hfz36_0
      try clear hfz36_1
      try clear hfz36_2
      try clear hfz36_3
      try clear hfz38_0
      try clear hfz38_1
      try clear hfz38_2
      try clear hfz38_3
      try clear hfz38_4
      try clear hfz38_5
      try clear hfz38_6
      try clear hx379_0
      try clear hx379_1
      try clear hx379_2
      try clear hx379_3
      try clear p2
      try clear p379
      try clear q379
      obtain ⟨kq, x47_8, rfl, HA, HJ8, BK377, BK378, BK380, HB⟩ := hcut
      cases kq with
      | zero => exact absurd HA.out (by simp [vendmeterref_sellKey.j1])
      | succ kj8 =>
       have H := HA.out
       clear HA
       simp only [vendmeterref_sellKey.j1] at H
       by_cases c39 : x47_8 = true
       ·
        subst c39
        have H1 : (vendmeterref_sellKey.l0 kj8 a2 a3 x9_1 (wrap64 (x10_1 + 1)) a0_0 a0_1 a0_2 a0_3 a0_4 a0_5 a0_6 l1_0) = some r := by rw [if_pos rfl] at H; exact H
        clear H
        have H := H1
        clear H1
        have H' := am H
        clear H
        go_wp2
        go_roundg kj8
        case measure => have := HK1.out; have := HJ8.out; omega
        case rel => exact ⟨(x9_1), (wrap64 (x10_1 + 1)), czr, czr, H', ⟨by have := HK1.out; have := HJ8.out; omega⟩, ⟨czbk BK377⟩, ⟨czbk BK378⟩, ⟨czbl3 HB GE377 GE378 GE380⟩⟩
       ·
        replace c39 := Bool.eq_false_iff.mpr c39
        subst c39
        have H1 : (if ((rd_T55 l1_0 x10_1).f1) = a0_1 then (some 0) else (vendmeterref_sellKey.l0 kj8 a2 a3 1 (wrap64 (x10_1 + 1)) a0_0 a0_1 a0_2 a0_3 a0_4 a0_5 a0_6 l1_0)) = some r := by rw [if_neg (show ¬ (false = true) by decide)] at H; exact H
        clear H
        have H := H1
        clear H1
        revert H
        refine czei (fun c40b0 c40b1 H => ?_) (fun c40 c40b0 c40b1 H => ?_)
        ·
         obtain rfl := Option.some.inj H
         have hnb41 := NB380_377.1
         have hnc41 := NB377_380.1
         have hnb42 := NB380_378.1
         have hnc42 := NB378_380.1
         obtain ⟨hcz43_0, hcz43_1, hcz43_2, hcz43_3⟩ := czc4 BK380.1
         obtain ⟨hfz43_0, hfz43_1, hfz43_2, hfz43_3⟩ := czf4 BK380.1
         have hnb44 := NB377_378.1
         have hnc44 := NB378_377.1
         obtain ⟨hcz45_0, hcz45_1, hcz45_2, hcz45_3, hcz45_4, hcz45_5, hcz45_6⟩ := czc7 BK377.1
         obtain ⟨hfz45_0, hfz45_1, hfz45_2, hfz45_3, hfz45_4, hfz45_5, hfz45_6⟩ := czf7 BK377.1
         go_wp2
         go_ret
         exact ⟨czeq, czbl3 HB GE377 GE378 GE380⟩
        ·
         have H' := am H
         clear H
         have hnb46 := NB380_377.1
         have hnc46 := NB377_380.1
         have hnb47 := NB380_378.1
         have hnc47 := NB378_380.1
         obtain ⟨hcz48_0, hcz48_1, hcz48_2, hcz48_3⟩ := czc4 BK380.1
         obtain ⟨hfz48_0, hfz48_1, hfz48_2, hfz48_3⟩ := czf4 BK380.1
         have hnb49 := NB377_378.1
         have hnc49 := NB378_377.1
         obtain ⟨hcz50_0, hcz50_1, hcz50_2, hcz50_3, hcz50_4, hcz50_5, hcz50_6⟩ := czc7 BK377.1
         obtain ⟨hfz50_0, hfz50_1, hfz50_2, hfz50_3, hfz50_4, hfz50_5, hfz50_6⟩ := czf7 BK377.1
         go_wp2
         go_roundg kj8
         case measure => have := HK1.out; have := HJ8.out; omega
         case rel => exact ⟨(1), (wrap64 (x10_1 + 1)), czr, czr, H', ⟨by have := HK1.out; have := HJ8.out; omega⟩, ⟨czbk BK377⟩, ⟨czbk BK378⟩, ⟨czbl3 HB GE377 GE378 GE380⟩⟩
    ·
     rw [if_neg c8] at H
     exact absurd H (by simp)
   ·
    obtain rfl := Option.some.inj H
    have hnb51 := NB378_377.1
    have hnc51 := NB377_378.1
    have hcz52_0 : wr.cell? ⟨gb378, 0, none⟩ = some (.slice A1_0 l1_0.length c1_0) := (blk_cell BK378.1 0).trans rfl
    have hfz52_0 := blk_frozen BK378.1 0
    go_wp2
    go_ret
    exact ⟨czeq, czbl2 HB GE377 GE378⟩

/-! ### vendmeterref_Judged: function 86 -/
def vendmeterref_Judged.l0 : Nat → Int → List Int → Int → Option (Int)
 | 0, _, _, _ => none
 | k + 1, x1, x5, x6 => if x6 < (x5.length : Int) then (if 0 ≤ x6 then (if (rd x5 x6) = x1 then (some 14) else (vendmeterref_Judged.l0 k x1 x5 (wrap64 (x6 + 1)))) else (none)) else (some 0)
def vendmeterref_Judged.f (k : Nat) (a0_0 : Int) (a0_1 : Int) (a1 : Int) : Option (Int) := (vendmeterref_WindowMay.f k a0_0 a0_1).bind fun t382 => (if t382 = true then ((vendmeterref_In.f a1 1 1048575).bind fun t383 => (if t383 = true then (if a1 ≤ (wrap64 (a0_0 - 64)) then (some 13) else ((vendmeterref_members.f k a0_0 a0_1).bind fun t384 => (vendmeterref_Judged.l0 k a1 t384 0))) else (some 2))) else (some 5))
theorem vendmeterref_Judged.mono_l : ∀ k, (∀ y0 y1 y2, LeO (vendmeterref_Judged.l0 k y0 y1 y2) (vendmeterref_Judged.l0 (k + 1) y0 y1 y2))
 | 0 => fun _ _ _ r h => by simp [vendmeterref_Judged.l0] at h
 | k + 1 => by
  have ih0 := vendmeterref_Judged.mono_l k
  ·
   intro y0 y1 y2
   unfold vendmeterref_Judged.l0
   repeat' first
   | (with_reducible exact ih0 _ _ _)
   | (with_reducible exact vendmeterref_WindowMay.mono _ _ _)
   | (with_reducible exact vendmeterref_members.mono _ _ _)
   | (with_reducible exact LeO.refl _)
   | (with_reducible exact LeO.none _)
   | (with_reducible refine LeO.ite ?_ ?_)
   | (with_reducible refine LeO.bind ?_ (fun _ => ?_))
theorem vendmeterref_Judged.mono : ∀ a0 a1 a2 k, LeO (vendmeterref_Judged.f k a0 a1 a2) (vendmeterref_Judged.f (k + 1) a0 a1 a2) := by
 intro a0 a1 a2 k
 have ih0 := vendmeterref_Judged.mono_l k
 unfold vendmeterref_Judged.f
 repeat' first
   | (with_reducible exact ih0 _ _ _)
   | (with_reducible exact vendmeterref_WindowMay.mono _ _ _)
   | (with_reducible exact vendmeterref_members.mono _ _ _)
   | (with_reducible exact LeO.refl _)
   | (with_reducible exact LeO.none _)
   | (with_reducible refine LeO.ite ?_ ?_)
   | (with_reducible refine LeO.bind ?_ (fun _ => ?_))
theorem vendmeterref_Judged.calls (k : Nat) (a0_0 : Int) (a0_1 : Int) (a1 : Int) (r : Int) (w : World) (h : vendmeterref_Judged.f k a0_0 a0_1 a1 = some r) :
  Calls Tryz.prog 86 #[.agg #[.int .i64 a0_0, .int .u64 a0_1], .int .i64 a1] w fun e w' => e = .returned (.int .i64 r) ∧ Below w.heap.size w w' := by
 have hu38 := Tryz.underlying38
 have HB := am (Below.refl w.heap.size w)
 have H : ((vendmeterref_WindowMay.f k a0_0 a0_1).bind fun t382 => (if t382 = true then ((vendmeterref_In.f a1 1 1048575).bind fun t383 => (if t383 = true then (if a1 ≤ (wrap64 (a0_0 - 64)) then (some 13) else ((vendmeterref_members.f k a0_0 a0_1).bind fun t384 => (vendmeterref_Judged.l0 k a1 t384 0))) else (some 2))) else (some 5))) = some r := h
 clear h
 replace H := Option.bind_eq_some_iff.mp H
 obtain ⟨t382, A30, H⟩ := H
 (try dsimp only at H)
 have A3 := am A30
 clear A30
 by_cases c4 : t382 = true
 ·
  subst c4
  have H1 : ((vendmeterref_In.f a1 1 1048575).bind fun t383 => (if t383 = true then (if a1 ≤ (wrap64 (a0_0 - 64)) then (some 13) else ((vendmeterref_members.f k a0_0 a0_1).bind fun t384 => (vendmeterref_Judged.l0 k a1 t384 0))) else (some 2))) = some r := by rw [if_pos rfl] at H; exact H
  clear H
  have H := H1
  clear H1
  replace H := Option.bind_eq_some_iff.mp H
  obtain ⟨t383, A50, H⟩ := H
  (try dsimp only at H)
  have A5 := am A50
  clear A50
  by_cases c6 : t383 = true
  ·
   subst c6
   have H1 : (if a1 ≤ (wrap64 (a0_0 - 64)) then (some 13) else ((vendmeterref_members.f k a0_0 a0_1).bind fun t384 => (vendmeterref_Judged.l0 k a1 t384 0))) = some r := by rw [if_pos rfl] at H; exact H
   clear H
   have H := H1
   clear H1
   have HC7 := am H
   clear H
   go_enter Tryz.func86, Tryz.ntmps86
   go_upto_region 5 with (first | ((with_reducible refine gate_dst (N := 2) rfl ?_); refine czbox 2 #[.int .i64 a0_0, .int .u64 a0_1] 38 ?_; intro gb381 hg w8 hbox hb; have BK381 := am (hbox); have GW381 := czsz hg (czbl HB); have GE381 := czsz hg (czbl HB); replace HB := am (below_step (czbl HB) hb); clear hb hbox hg; obtain ⟨hcz9_0, hcz9_1⟩ := czc2 BK381.1) | ((with_reducible refine gate_callee (f := 85) rfl ?_); refine czgo (some 8) Tryz.func85 #[.agg #[.int .i64 a0_0, .int .u64 a0_1]] ?_; (with_reducible refine (vendmeterref_WindowMay.calls k a0_0 a0_1 true _ A3.out).mono ?_); rintro e w10 ⟨rfl, hb⟩; refine ⟨_, rfl, ?_⟩; replace BK381 := czbb BK381 hb; replace HB := am (below_step (czbl1 HB GE381) hb); (try clear hb hb2 hk hi)) | ((with_reducible refine gate_callee (f := 84) rfl ?_); refine czgo (some 11) Tryz.func84 #[.int .i64 a1, .int .i64 1, .int .i64 1048575] ?_; (with_reducible refine (vendmeterref_In.calls a1 1 1048575 true _ A5.out).mono ?_); rintro e w' ⟨rfl, ⟨nd, rfl⟩⟩; refine ⟨_, rfl, ?_⟩))
   have H := HC7.out
   clear HC7
   revert H
   refine czif (fun c11b0 H => ?_) (fun c11b0 H => ?_)
   ·
    obtain rfl := Option.some.inj H
    obtain ⟨hcz12_0, hcz12_1⟩ := czc2 BK381.1
    go_wp2
    go_ret
    exact ⟨czeq, czbl1 HB GE381⟩
   ·
    replace H := Option.bind_eq_some_iff.mp H
    obtain ⟨t384, A130, H⟩ := H
    (try dsimp only at H)
    have A13 := am A130
    clear A130
    have H' := am H
    clear H
    obtain ⟨hcz14_0, hcz14_1⟩ := czc2 BK381.1
    go_wp2_with (first | ((with_reducible refine gate_callee (f := 87) rfl ?_); refine czgo (some 19) Tryz.func87 #[.agg #[.int .i64 a0_0, .int .u64 a0_1]] ?_; (with_reducible refine (vendmeterref_members.calls k a0_0 a0_1 t384 _ A13.out).mono ?_); rintro e w15 ⟨v385, rfl, ho0, hb⟩; refine ⟨_, rfl, ?_⟩; have HO386 := am (Kd.R_lower ho0 (below_size (czbl1 HB GE381))); replace BK381 := czbb BK381 hb; replace HB := am (below_step (czbl1 HB GE381) hb); (try clear hb hb2 hk hi ho0)))
    go_loopg [6] k (fun kq v6 w' => ∃ (x6_1 : Int), v6 = .int .i64 x6_1 ∧ Aside0 (vendmeterref_Judged.l0 kq a1 t384 x6_1 = some r) ∧ Aside0 (kq ≤ k) ∧ Aside0 (Kd.R (Kd.int .i64) 3 w' w.heap.size (fun _ => True) v385 t384) ∧ Aside0 (w'.heap[gb381]? = some (.cells #[.int .i64 a0_0, .int .u64 a0_1] 38 (0, 0))) ∧ Aside0 (Below w.heap.size w w'))
    case atStart => exact ⟨(0), czr, H', ⟨Nat.le_refl _⟩, ⟨czR HO386⟩, ⟨czbk BK381⟩, ⟨czbl1 HB GE381⟩⟩
    case round =>
     clear H'
     try clear c1
     try clear p2
     try clear c4
     try clear c6
     try clear p6
     try clear c8
     try clear c11
     try clear c11b0
     try clear hcz12_0
     try clear hcz12_1
     try clear hcz14_0
     try clear hcz14_1
     try clear hcz9_0
     try clear hcz9_1
     try clear hfz12_0
     try clear hfz12_1
     try clear hfz14_0
     try clear hfz14_1
     try clear hfz9_0
     try clear hfz9_1
     obtain ⟨x6_1, rfl, HA, HK1, HO_5, BK381, HB⟩ := hrel
     cases gk with
     | zero => exact absurd HA.out (by simp [vendmeterref_Judged.l0])
     | succ k1 =>
      have H := HA.out
      clear HA
      simp only [vendmeterref_Judged.l0] at H
      revert H
      refine czif (fun c16b0 H => ?_) (fun c16b0 H => ?_)
      ·
       by_cases c17 : 0 ≤ x6_1
       ·
        rw [if_pos c17] at H
        have c17b0 : decide (0 ≤ x6_1) = true := decide_eq_true c17
        clear c17
        revert H
        refine czei (fun c18b0 c18b1 H => ?_) (fun c18 c18b0 c18b1 H => ?_)
        ·
         obtain rfl := Option.some.inj H
         obtain ⟨Ao19, co19, eo19⟩ := Kd.R_slice HO_5.out
         subst eo19
         have p387 : 0 ≤ (x6_1 : Int) := czd
         have q387 : x6_1 < (t384.length : Int) := czd
         obtain ⟨ad387, e387, hx387_0⟩ := Kd.at_int (Kd.R_reads' HO_5.out).2.2 x6_1 p387 q387
         cases e387
         replace p387 := eq_true p387
         replace q387 := eq_true q387
         go_wp2
         go_ret
         exact ⟨czeq, czbl1 HB GE381⟩
        ·
         have H' := am H
         clear H
         obtain ⟨Ao20, co20, eo20⟩ := Kd.R_slice HO_5.out
         subst eo20
         have p387 : 0 ≤ (x6_1 : Int) := czd
         have q387 : x6_1 < (t384.length : Int) := czd
         obtain ⟨ad387, e387, hx387_0⟩ := Kd.at_int (Kd.R_reads' HO_5.out).2.2 x6_1 p387 q387
         cases e387
         replace p387 := eq_true p387
         replace q387 := eq_true q387
         go_wp2
         go_roundg k1
         case measure => have := HK1.out; omega
         case rel => exact ⟨(wrap64 (x6_1 + 1)), czr, H', ⟨by have := HK1.out; omega⟩, ⟨czR HO_5⟩, ⟨czbk BK381⟩, ⟨czbl1 HB GE381⟩⟩
       ·
        rw [if_neg c17] at H
        exact absurd H (by simp)
      ·
       obtain rfl := Option.some.inj H
       obtain ⟨Ao21, co21, eo21⟩ := Kd.R_slice HO_5.out
       subst eo21
       go_wp2
       go_ret
       exact ⟨czeq, czbl1 HB GE381⟩
  ·
   replace c6 := Bool.eq_false_iff.mpr c6
   subst c6
   have H1 : (some 2) = some r := by rw [if_neg (show ¬ (false = true) by decide)] at H; exact H
   clear H
   have H := H1
   clear H1
   obtain rfl := Option.some.inj H
   go_enter Tryz.func86, Tryz.ntmps86
   go_wp2_with (first | ((with_reducible refine gate_dst (N := 2) rfl ?_); refine czbox 2 #[.int .i64 a0_0, .int .u64 a0_1] 38 ?_; intro gb381 hg w22 hbox hb; have BK381 := am (hbox); have GW381 := czsz hg (czbl HB); have GE381 := czsz hg (czbl HB); replace HB := am (below_step (czbl HB) hb); clear hb hbox hg; obtain ⟨hcz23_0, hcz23_1⟩ := czc2 BK381.1) | ((with_reducible refine gate_callee (f := 85) rfl ?_); refine czgo (some 8) Tryz.func85 #[.agg #[.int .i64 a0_0, .int .u64 a0_1]] ?_; (with_reducible refine (vendmeterref_WindowMay.calls k a0_0 a0_1 true _ A3.out).mono ?_); rintro e w24 ⟨rfl, hb⟩; refine ⟨_, rfl, ?_⟩; replace BK381 := czbb BK381 hb; replace HB := am (below_step (czbl1 HB GE381) hb); (try clear hb hb2 hk hi)) | ((with_reducible refine gate_callee (f := 84) rfl ?_); refine czgo (some 11) Tryz.func84 #[.int .i64 a1, .int .i64 1, .int .i64 1048575] ?_; (with_reducible refine (vendmeterref_In.calls a1 1 1048575 false _ A5.out).mono ?_); rintro e w' ⟨rfl, ⟨nd, rfl⟩⟩; refine ⟨_, rfl, ?_⟩))
   go_ret
   exact ⟨czeq, czbl1 HB GE381⟩
 ·
  replace c4 := Bool.eq_false_iff.mpr c4
  subst c4
  have H1 : (some 5) = some r := by rw [if_neg (show ¬ (false = true) by decide)] at H; exact H
  clear H
  have H := H1
  clear H1
  obtain rfl := Option.some.inj H
  go_enter Tryz.func86, Tryz.ntmps86
  go_wp2_with (first | ((with_reducible refine gate_dst (N := 2) rfl ?_); refine czbox 2 #[.int .i64 a0_0, .int .u64 a0_1] 38 ?_; intro gb381 hg w25 hbox hb; have BK381 := am (hbox); have GW381 := czsz hg (czbl HB); have GE381 := czsz hg (czbl HB); replace HB := am (below_step (czbl HB) hb); clear hb hbox hg; obtain ⟨hcz26_0, hcz26_1⟩ := czc2 BK381.1) | ((with_reducible refine gate_callee (f := 85) rfl ?_); refine czgo (some 8) Tryz.func85 #[.agg #[.int .i64 a0_0, .int .u64 a0_1]] ?_; (with_reducible refine (vendmeterref_WindowMay.calls k a0_0 a0_1 false _ A3.out).mono ?_); rintro e w27 ⟨rfl, hb⟩; refine ⟨_, rfl, ?_⟩; replace BK381 := czbb BK381 hb; replace HB := am (below_step (czbl1 HB GE381) hb); (try clear hb hb2 hk hi)))
  go_ret
  exact ⟨czeq, czbl1 HB GE381⟩

/-! ### vendmeterref_windowOf: function 88 -/
mutual
def vendmeterref_windowOf.l0 : Nat → Int → List Int → Int → Int → Int → Option (Int × Int)
 | 0, _, _, _, _, _ => none
 | k + 1, x0, x1, x6, x390000, x390001 => if x6 ≥ 0 then (vendmeterref_windowOf.l1 k x0 x1 x6 0 x390000 (IntKind.u64.wrap (2 * x390001))) else (some (x390000, x390001))
def vendmeterref_windowOf.l1 : Nat → Int → List Int → Int → Int → Int → Int → Option (Int × Int)
 | 0, _, _, _, _, _, _ => none
 | k + 1, x0, x1, x6, x7, x390000, x390001 => if x7 < (x1.length : Int) then (if 0 ≤ x7 then (if (rd x1 x7) = (wrap64 (x0 - x6)) then (vendmeterref_windowOf.l1 k x0 x1 x6 (wrap64 (x7 + 1)) x390000 (IntKind.u64.wrap (x390001 + 1))) else (vendmeterref_windowOf.l1 k x0 x1 x6 (wrap64 (x7 + 1)) x390000 x390001)) else (none)) else (vendmeterref_windowOf.l0 k x0 x1 (wrap64 (x6 - 1)) x390000 x390001)
end
def vendmeterref_windowOf.f (k : Nat) (a0 : Int) (l1 : List Int) : Option (Int × Int) := vendmeterref_windowOf.l0 k a0 l1 63 a0 0
theorem vendmeterref_windowOf.mono_l : ∀ k, (∀ y0 y1 y2 y3 y4, LeO (vendmeterref_windowOf.l0 k y0 y1 y2 y3 y4) (vendmeterref_windowOf.l0 (k + 1) y0 y1 y2 y3 y4)) ∧ (∀ y0 y1 y2 y3 y4 y5, LeO (vendmeterref_windowOf.l1 k y0 y1 y2 y3 y4 y5) (vendmeterref_windowOf.l1 (k + 1) y0 y1 y2 y3 y4 y5))
 | 0 => ⟨fun _ _ _ _ _ r h => by simp [vendmeterref_windowOf.l0] at h, fun _ _ _ _ _ _ r h => by simp [vendmeterref_windowOf.l1] at h⟩
 | k + 1 => by
  obtain ⟨ih0, ih1⟩ := vendmeterref_windowOf.mono_l k
  refine ⟨?_, ?_⟩
  ·
   intro y0 y1 y2 y3 y4
   unfold vendmeterref_windowOf.l0
   repeat' first
   | (with_reducible exact ih0 _ _ _ _ _)
   | (with_reducible exact ih1 _ _ _ _ _ _)
   | (with_reducible exact LeO.refl _)
   | (with_reducible exact LeO.none _)
   | (with_reducible refine LeO.ite ?_ ?_)
   | (with_reducible refine LeO.bind ?_ (fun _ => ?_))
  ·
   intro y0 y1 y2 y3 y4 y5
   unfold vendmeterref_windowOf.l1
   repeat' first
   | (with_reducible exact ih0 _ _ _ _ _)
   | (with_reducible exact ih1 _ _ _ _ _ _)
   | (with_reducible exact LeO.refl _)
   | (with_reducible exact LeO.none _)
   | (with_reducible refine LeO.ite ?_ ?_)
   | (with_reducible refine LeO.bind ?_ (fun _ => ?_))
theorem vendmeterref_windowOf.mono : ∀ a0 a1 k, LeO (vendmeterref_windowOf.f k a0 a1) (vendmeterref_windowOf.f (k + 1) a0 a1) := by
 intro a0 a1 k
 obtain ⟨ih0, ih1⟩ := vendmeterref_windowOf.mono_l k
 unfold vendmeterref_windowOf.f
 repeat' first
   | (with_reducible exact ih0 _ _ _ _ _)
   | (with_reducible exact ih1 _ _ _ _ _ _)
   | (with_reducible exact LeO.refl _)
   | (with_reducible exact LeO.none _)
   | (with_reducible refine LeO.ite ?_ ?_)
   | (with_reducible refine LeO.bind ?_ (fun _ => ?_))
theorem vendmeterref_windowOf.calls (k : Nat) (a0 : Int) (A1 : Option Addr) (c1 : Nat) (l1 : List Int) (r1 : Int) (r2 : Int) (w : World) (hr1 : Kd.C (Kd.int .i64) w A1 l1.length l1) (hc1 : l1.length ≤ c1) (h : vendmeterref_windowOf.f k a0 l1 = some (r1, r2)) :
  Calls Tryz.prog 88 #[.int .i64 a0, .slice A1 l1.length c1] w fun e w' => e = .returned (.agg #[.int .i64 r1, .int .u64 r2]) ∧ Below w.heap.size w w' := by
 have hu38 := Tryz.underlying38
 have HR1 := am hr1
 have HC1 := am hc1
 clear hr1 hc1
 have HB := am (Below.refl w.heap.size w)
 have H : (vendmeterref_windowOf.l0 k a0 l1 63 a0 0) = some (r1, r2) := h
 clear h
 have H' := am H
 clear H
 go_enter Tryz.func88, Tryz.ntmps88
 go_wp2_with (first | ((with_reducible refine gate_dst (N := 4) rfl ?_); refine czbox 4 #[.int .i64 0, .int .u64 0] 38 ?_; intro gb388 hg w3 hbox hb; have BK388 := am (hbox); have GW388 := czsz hg (czbl HB); have GE388 := czsz hg (czbl HB); replace HB := am (below_step (czbl HB) hb); clear hb hbox hg) | ((with_reducible refine gate_dst (N := 5) rfl ?_); refine czbox 5 #[.int .i64 0, .int .u64 0] 38 ?_; intro gb389 hg w4 hbox hb; have BK389 := am (hbox); have GW389 := czsz hg (czbl1 HB GE388); have GE389 := czsz hg (czbl1 HB GE388); have NB388_389 := czne BK388 hg; have NB389_388 := czen BK388 hg; replace BK388 := czbb BK388 hb; replace HB := am (below_step (czbl1 HB GE388) hb); clear hb hbox hg; have hnb5 := NB389_388.1; have hnc5 := NB388_389.1; obtain ⟨hcz6_0, hcz6_1⟩ := czc2 BK389.1; obtain ⟨hfz6_0, hfz6_1⟩ := czf2 BK389.1))
 go_loopg [6] k (fun kq v6 w' => ∃ (x6_1 : Int) (x390001_1 : Int), v6 = .int .i64 x6_1 ∧ Aside0 (vendmeterref_windowOf.l0 kq a0 l1 x6_1 a0 x390001_1 = some (r1, r2)) ∧ Aside0 (kq ≤ k) ∧ Aside0 (w'.heap[gb388]? = some (.cells #[.int .i64 0, .int .u64 0] 38 (0, 0))) ∧ Aside0 (w'.heap[gb389]? = some (.cells #[.int .i64 a0, .int .u64 x390001_1] 38 (0, 0))) ∧ Aside0 (Below w.heap.size w w'))
 case atStart => exact ⟨(63), (0), czr, H', ⟨Nat.le_refl _⟩, ⟨by (with_reducible repeat (first | apply czxn | apply czxd | apply czxa)); refine blk_far ?_ NB388_389.1 _; (with_reducible repeat (first | apply czxn | apply czxd | apply czxa)); refine blk_far ?_ NB388_389.1 _; (with_reducible repeat (first | apply czxn | apply czxd | apply czxa)); exact BK388.1⟩, ⟨by (with_reducible repeat (first | apply czxn | apply czxd | apply czxa)); refine blk_put (cs := #[.int .i64 a0, .int .u64 0]) ?_ 1 _ rfl; (with_reducible repeat (first | apply czxn | apply czxd | apply czxa)); refine blk_put (cs := #[.int .i64 0, .int .u64 0]) ?_ 0 _ rfl; (with_reducible repeat (first | apply czxn | apply czxd | apply czxa)); exact BK389.1⟩, ⟨czbl2 HB GE388 GE389⟩⟩
 case round =>
  clear H'
  try clear c1
  try clear p2
  try clear c5
  try clear hcz6_0
  try clear hcz6_1
  try clear hfz6_0
  try clear hfz6_1
  obtain ⟨x6_1, x390001_1, rfl, HA, HK1, BK388, BK389, HB⟩ := hrel
  cases gk with
  | zero => exact absurd HA.out (by simp [vendmeterref_windowOf.l0])
  | succ k1 =>
   have H := HA.out
   clear HA
   simp only [vendmeterref_windowOf.l0] at H
   by_cases c7 : x6_1 ≥ 0
   ·
    rw [if_pos c7] at H
    have c7b0 : decide (0 ≤ x6_1) = true := decide_eq_true c7
    clear c7
    have H' := am H
    clear H
    have hnb8 := NB389_388.1
    have hnc8 := NB388_389.1
    obtain ⟨hcz9_0, hcz9_1⟩ := czc2 BK389.1
    obtain ⟨hfz9_0, hfz9_1⟩ := czf2 BK389.1
    go_wp2
    go_loopg [7] k1 (fun kq v7 w' => ∃ (x7_2 : Int) (x390001_2 : Int), v7 = .int .i64 x7_2 ∧ Aside0 (vendmeterref_windowOf.l1 kq a0 l1 x6_1 x7_2 a0 x390001_2 = some (r1, r2)) ∧ Aside0 (kq ≤ k1) ∧ Aside0 (w'.heap[gb388]? = some (.cells #[.int .i64 0, .int .u64 0] 38 (0, 0))) ∧ Aside0 (w'.heap[gb389]? = some (.cells #[.int .i64 a0, .int .u64 x390001_2] 38 (0, 0))) ∧ Aside0 (Below w.heap.size w w'))
    case atStart => exact ⟨(0), (IntKind.u64.wrap (2 * x390001_1)), czr, H', ⟨Nat.le_refl _⟩, ⟨by (with_reducible repeat (first | apply czxn | apply czxd | apply czxa)); refine blk_far ?_ NB388_389.1 _; (with_reducible repeat (first | apply czxn | apply czxd | apply czxa)); exact BK388.1⟩, ⟨by (with_reducible repeat (first | apply czxn | apply czxd | apply czxa)); refine blk_put (cs := #[.int .i64 a0, .int .u64 x390001_1]) ?_ 1 _ rfl; (with_reducible repeat (first | apply czxn | apply czxd | apply czxa)); exact BK389.1⟩, ⟨czbl2 HB GE388 GE389⟩⟩
    case round =>
     clear H'
     try clear c1
     try clear p2
     try clear c5
     try clear c7
     try clear c7b0
     try clear c8
     try clear hcz6_0
     try clear hcz6_1
     try clear hcz9_0
     try clear hcz9_1
     try clear hfz6_0
     try clear hfz6_1
     try clear hfz9_0
     try clear hfz9_1
     try clear p2
     obtain ⟨x7_2, x390001_2, rfl, HA, HK2, BK388, BK389, HB⟩ := hrel
     cases gk with
     | zero => exact absurd HA.out (by simp [vendmeterref_windowOf.l1])
     | succ k2 =>
      have H := HA.out
      clear HA
      simp only [vendmeterref_windowOf.l1] at H
      revert H
      refine czif (fun c10b0 H => ?_) (fun c10b0 H => ?_)
      ·
       by_cases c11 : 0 ≤ x7_2
       ·
        rw [if_pos c11] at H
        have c11b0 : decide (0 ≤ x7_2) = true := decide_eq_true c11
        clear c11
        revert H
        refine czei (fun c12b0 c12b1 H => ?_) (fun c12 c12b0 c12b1 H => ?_)
        ·
         have H' := am H
         clear H
         have p390 : 0 ≤ (x7_2 : Int) := czd
         have q390 : x7_2 < (l1.length : Int) := czd
         obtain ⟨ad390, e390, hx390_0⟩ := Kd.at_int HR1.out x7_2 p390 q390
         cases e390
         replace hx390_0 := (HB.1.cell (World.block_lt_of_cell? w _ hx390_0)).trans hx390_0
         replace p390 := eq_true p390
         replace q390 := eq_true q390
         have hnb13 := NB389_388.1
         have hnc13 := NB388_389.1
         obtain ⟨hcz14_0, hcz14_1⟩ := czc2 BK389.1
         obtain ⟨hfz14_0, hfz14_1⟩ := czf2 BK389.1
         go_wp2
         go_roundg k2
         case measure => have := HK1.out; have := HK2.out; omega
         case rel => exact ⟨(wrap64 (x7_2 + 1)), (IntKind.u64.wrap (x390001_2 + 1)), czr, H', ⟨by have := HK1.out; have := HK2.out; omega⟩, ⟨by (with_reducible repeat (first | apply czxn | apply czxd | apply czxa)); refine blk_far ?_ NB388_389.1 _; (with_reducible repeat (first | apply czxn | apply czxd | apply czxa)); exact BK388.1⟩, ⟨by (with_reducible repeat (first | apply czxn | apply czxd | apply czxa)); refine blk_put (cs := #[.int .i64 a0, .int .u64 x390001_2]) ?_ 1 _ rfl; (with_reducible repeat (first | apply czxn | apply czxd | apply czxa)); exact BK389.1⟩, ⟨czbl2 HB GE388 GE389⟩⟩
        ·
         have H' := am H
         clear H
         have p390 : 0 ≤ (x7_2 : Int) := czd
         have q390 : x7_2 < (l1.length : Int) := czd
         obtain ⟨ad390, e390, hx390_0⟩ := Kd.at_int HR1.out x7_2 p390 q390
         cases e390
         replace hx390_0 := (HB.1.cell (World.block_lt_of_cell? w _ hx390_0)).trans hx390_0
         replace p390 := eq_true p390
         replace q390 := eq_true q390
         go_wp2
         go_roundg k2
         case measure => have := HK1.out; have := HK2.out; omega
         case rel => exact ⟨(wrap64 (x7_2 + 1)), (x390001_2), czr, H', ⟨by have := HK1.out; have := HK2.out; omega⟩, ⟨czbk BK388⟩, ⟨czbk BK389⟩, ⟨czbl2 HB GE388 GE389⟩⟩
       ·
        rw [if_neg c11] at H
        exact absurd H (by simp)
      ·
       have H' := am H
       clear H
       go_wp2
       go_roundg k2
       case measure => have := HK1.out; have := HK2.out; omega
       case rel => exact ⟨(wrap64 (x6_1 - 1)), (x390001_2), czr, H', ⟨by have := HK1.out; have := HK2.out; omega⟩, ⟨czbk BK388⟩, ⟨czbk BK389⟩, ⟨czbl2 HB GE388 GE389⟩⟩
   ·
    rw [if_neg c7] at H
    have c7b0 : decide (0 ≤ x6_1) = false := decide_eq_false c7
    clear c7
    simp only [Option.some.injEq, Prod.mk.injEq] at H
    obtain ⟨rfl, rfl⟩ := H
    have hnb15 := NB389_388.1
    have hnc15 := NB388_389.1
    obtain ⟨hcz16_0, hcz16_1⟩ := czc2 BK389.1
    obtain ⟨hfz16_0, hfz16_1⟩ := czf2 BK389.1
    obtain ⟨hcz17_0, hcz17_1⟩ := czc2 BK388.1
    obtain ⟨hfz17_0, hfz17_1⟩ := czf2 BK388.1
    go_wp2
    refine bodyPost_ret (results_cell_row rfl _ _ gb388 38 #[.int .i64 a0, .int .u64 x390001_1] (0, 0) _ rfl (by (with_reducible repeat (first | apply czxn | apply czxd | apply czxa)); refine blk_put (cs := #[.int .i64 a0, .int .u64 0]) ?_ 1 _ rfl; (with_reducible repeat (first | apply czxn | apply czxd | apply czxa)); refine blk_put (cs := #[.int .i64 0, .int .u64 0]) ?_ 0 _ rfl; (with_reducible repeat (first | apply czxn | apply czxd | apply czxa)); exact BK388.1) Tryz.underlying38 rfl (by kernel_rfl)) rfl ?_
    exact ⟨czeq, czbl2 HB GE388 GE389⟩

end Go.Proofs.YtcllddkmcnfejaaGreatDoor.PPocketKeys
