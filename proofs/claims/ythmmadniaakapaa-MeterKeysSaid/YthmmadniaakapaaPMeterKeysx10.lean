-- written by this session's program wip/xp/xprint.py (it drives the kit's print and adds to it)
import Derived.Test.YthmmadniaakapaaPMeterKeysx0
import Derived.Test.YthmmadniaakapaaPMeterKeysx7
namespace Go.Proofs.Ythmmadniaakapaa.PMeterKeys
open Go.RowKit Go.Proofs.YthmmadniaakapaaW.PrintWords Go.Proofs.YthmmadniaakapaaW.PrintLast Go.Proofs.YthmmadniaakapaaW.PrintMore
attribute [local go_sem] max2_int min2_int max_two min_two max_three min_three max_four min_four   -- for this text's walks alone
set_option linter.unusedVariables false
set_option linter.unusedSimpArgs false

/-! ### vendmeterref_sellKey: function 70 -/
theorem xa70 {w : World} {g : Nat} {o : Obj} (h : w.heap[g]? = some o) (o' : Obj) : (w.alloc o').heap[g]? = some o := blk_alloc h o'
theorem xd70 {w : World} {g : Nat} {o : Obj} (h : w.heap[g]? = some o) : w.drew.heap[g]? = some o := blk_drew h
theorem xn70 {w : World} {g : Nat} {o : Obj} (h : w.heap[g]? = some o) (n : Nat) : (w.drewN n).heap[g]? = some o := blk_drewN h n
mutual
def vendmeterref_sellKey.l0 : Nat → Int → Int → Int → Int → Int → Int → Int → Int → Int → Int → Int → List (S118) → Option (Int)
  | 0, _, _, _, _, _, _, _, _, _, _, _, _ => none
  | k + 1, x2, x3, x9, x10, x186000, x186001, x186002, x186003, x186004, x186005, x186006, x187000 => if x10 < (x187000.length : Int) then (if 0 ≤ x10 then (if ((rd_T118 x187000 x10).f0) = x186000 then (if ((rd_T118 x187000 x10).f2) = x2 then (if ((rd_T118 x187000 x10).f3) = x3 then (vendmeterref_sellKey.j1 k x2 x3 x9 x10 (decide (((rd_T118 x187000 x10).f1) > x186001)) x186000 x186001 x186002 x186003 x186004 x186005 x186006 x187000 ((rd_T118 x187000 x10).f0) ((rd_T118 x187000 x10).f1) ((rd_T118 x187000 x10).f2) ((rd_T118 x187000 x10).f3)) else (vendmeterref_sellKey.j1 k x2 x3 x9 x10 true x186000 x186001 x186002 x186003 x186004 x186005 x186006 x187000 ((rd_T118 x187000 x10).f0) ((rd_T118 x187000 x10).f1) ((rd_T118 x187000 x10).f2) ((rd_T118 x187000 x10).f3))) else (vendmeterref_sellKey.j1 k x2 x3 x9 x10 true x186000 x186001 x186002 x186003 x186004 x186005 x186006 x187000 ((rd_T118 x187000 x10).f0) ((rd_T118 x187000 x10).f1) ((rd_T118 x187000 x10).f2) ((rd_T118 x187000 x10).f3))) else (vendmeterref_sellKey.j1 k x2 x3 x9 x10 true x186000 x186001 x186002 x186003 x186004 x186005 x186006 x187000 ((rd_T118 x187000 x10).f0) ((rd_T118 x187000 x10).f1) ((rd_T118 x187000 x10).f2) ((rd_T118 x187000 x10).f3))) else (none)) else (some x9)
def vendmeterref_sellKey.j1 : Nat → Int → Int → Int → Int → Bool → Int → Int → Int → Int → Int → Int → Int → List (S118) → Int → Int → Int → Int → Option (Int)
  | 0, _, _, _, _, _, _, _, _, _, _, _, _, _, _, _, _, _ => none
  | k + 1, x2, x3, x9, x10, x47, x186000, x186001, x186002, x186003, x186004, x186005, x186006, x187000, x189000, x189001, x189002, x189003 => if x47 = true then (vendmeterref_sellKey.l0 k x2 x3 x9 (wrap64 (x10 + 1)) x186000 x186001 x186002 x186003 x186004 x186005 x186006 x187000) else (if x189001 = x186001 then (some 0) else (vendmeterref_sellKey.l0 k x2 x3 1 (wrap64 (x10 + 1)) x186000 x186001 x186002 x186003 x186004 x186005 x186006 x187000))
end
def vendmeterref_sellKey.f (k : Nat) (a0_0 : Int) (a0_1 : Int) (a0_2 : Int) (a0_3 : Int) (a0_4 : Int) (a0_5 : Int) (a0_6 : Int) (l1_0 : List (S118)) (a2 : Int) (a3 : Int) : Option (Int) := vendmeterref_sellKey.l0 k a2 a3 2 0 a0_0 a0_1 a0_2 a0_3 a0_4 a0_5 a0_6 l1_0
theorem vendmeterref_sellKey.mono_l : ∀ k, (∀ y0 y1 y2 y3 y4 y5 y6 y7 y8 y9 y10 y11, LeO (vendmeterref_sellKey.l0 k y0 y1 y2 y3 y4 y5 y6 y7 y8 y9 y10 y11) (vendmeterref_sellKey.l0 (k + 1) y0 y1 y2 y3 y4 y5 y6 y7 y8 y9 y10 y11)) ∧ (∀ y0 y1 y2 y3 y4 y5 y6 y7 y8 y9 y10 y11 y12 y13 y14 y15 y16, LeO (vendmeterref_sellKey.j1 k y0 y1 y2 y3 y4 y5 y6 y7 y8 y9 y10 y11 y12 y13 y14 y15 y16) (vendmeterref_sellKey.j1 (k + 1) y0 y1 y2 y3 y4 y5 y6 y7 y8 y9 y10 y11 y12 y13 y14 y15 y16))
  | 0 => ⟨fun _ _ _ _ _ _ _ _ _ _ _ _ r h => by simp [vendmeterref_sellKey.l0] at h, fun _ _ _ _ _ _ _ _ _ _ _ _ _ _ _ _ _ r h => by simp [vendmeterref_sellKey.j1] at h⟩
  | k + 1 => by
    obtain ⟨ih0, ih1⟩ := vendmeterref_sellKey.mono_l k
    refine ⟨?_, ?_⟩
    · intro y0 y1 y2 y3 y4 y5 y6 y7 y8 y9 y10 y11
      unfold vendmeterref_sellKey.l0
      repeat' first
      | (with_reducible exact ih0 _ _ _ _ _ _ _ _ _ _ _ _)
      | (with_reducible exact ih1 _ _ _ _ _ _ _ _ _ _ _ _ _ _ _ _ _)
      | (with_reducible exact LeO.refl _)
      | (with_reducible exact LeO.none _)
      | (with_reducible refine LeO.ite ?_ ?_)
      | (with_reducible refine LeO.bind ?_ (fun _ => ?_))
      | exact ih0 _ _ _ _ _ _ _ _ _ _ _ _
      | exact ih1 _ _ _ _ _ _ _ _ _ _ _ _ _ _ _ _ _
      | exact LeO.none _
      | refine LeO.ite ?_ ?_
      | refine LeO.bind ?_ (fun _ => ?_)
    · intro y0 y1 y2 y3 y4 y5 y6 y7 y8 y9 y10 y11 y12 y13 y14 y15 y16
      unfold vendmeterref_sellKey.j1
      repeat' first
      | (with_reducible exact ih0 _ _ _ _ _ _ _ _ _ _ _ _)
      | (with_reducible exact ih1 _ _ _ _ _ _ _ _ _ _ _ _ _ _ _ _ _)
      | (with_reducible exact LeO.refl _)
      | (with_reducible exact LeO.none _)
      | (with_reducible refine LeO.ite ?_ ?_)
      | (with_reducible refine LeO.bind ?_ (fun _ => ?_))
      | exact ih0 _ _ _ _ _ _ _ _ _ _ _ _
      | exact ih1 _ _ _ _ _ _ _ _ _ _ _ _ _ _ _ _ _
      | exact LeO.none _
      | refine LeO.ite ?_ ?_
      | refine LeO.bind ?_ (fun _ => ?_)
theorem vendmeterref_sellKey.mono : ∀ a0 a1 a2 a3 a4 a5 a6 a7 a8 a9 k, LeO (vendmeterref_sellKey.f k a0 a1 a2 a3 a4 a5 a6 a7 a8 a9) (vendmeterref_sellKey.f (k + 1) a0 a1 a2 a3 a4 a5 a6 a7 a8 a9) := by
  intro a0 a1 a2 a3 a4 a5 a6 a7 a8 a9 k
  obtain ⟨ih0, ih1⟩ := vendmeterref_sellKey.mono_l k
  unfold vendmeterref_sellKey.f
  repeat' first
      | (with_reducible exact ih0 _ _ _ _ _ _ _ _ _ _ _ _)
      | (with_reducible exact ih1 _ _ _ _ _ _ _ _ _ _ _ _ _ _ _ _ _)
      | (with_reducible exact LeO.refl _)
      | (with_reducible exact LeO.none _)
      | (with_reducible refine LeO.ite ?_ ?_)
      | (with_reducible refine LeO.bind ?_ (fun _ => ?_))
      | exact ih0 _ _ _ _ _ _ _ _ _ _ _ _
      | exact ih1 _ _ _ _ _ _ _ _ _ _ _ _ _ _ _ _ _
      | exact LeO.none _
      | refine LeO.ite ?_ ?_
      | refine LeO.bind ?_ (fun _ => ?_)
set_option maxHeartbeats 8000000 in
set_option maxRecDepth 100000 in
theorem vendmeterref_sellKey.calls (k : Nat) (a0_0 : Int) (a0_1 : Int) (a0_2 : Int) (a0_3 : Int) (a0_4 : Int) (a0_5 : Int) (a0_6 : Int) (A1_0 : Option Addr) (c1_0 : Nat) (l1_0 : List (S118)) (a2 : Int) (a3 : Int) (r : Int) (w : World) (hr1_0 : Kd.C k118 w A1_0 l1_0.length l1_0) (hc1_0 : l1_0.length ≤ c1_0) (h : vendmeterref_sellKey.f k a0_0 a0_1 a0_2 a0_3 a0_4 a0_5 a0_6 l1_0 a2 a3 = some r) :
    Calls Try.prog 70 #[.agg #[.int .i64 a0_0, .int .i64 a0_1, .int .i64 a0_2, .int .i64 a0_3, .int .u64 a0_4, .int .i64 a0_5, .int .i64 a0_6], .agg #[.slice A1_0 l1_0.length c1_0], .int .i64 a2, .int .i64 a3] w fun e w' => e = .returned (.int .i64 r) ∧ Below w.heap.size w w' := by
  have hu40 := Try.underlying40
  have hu43 := Try.underlying43
  have hu118 := Try.underlying118
  have HR1_0 := Aside0.mk hr1_0
  have HC1_0 := Aside0.mk hc1_0
  clear hr1_0 hc1_0
  have HB := Aside0.mk (Below.refl w.heap.size w)
  have H : (vendmeterref_sellKey.l0 k a2 a3 2 0 a0_0 a0_1 a0_2 a0_3 a0_4 a0_5 a0_6 l1_0) = some r := h
  clear h
  have H' := Aside0.mk H
  clear H
  go_enter Try.func70, Try.ntmps70
  go_wp2_with (first | ((with_reducible refine gate_dst (N := 4) rfl ?_); refine box_event ?hg (N := 4) ?hd (cs := #[.int .i64 a0_0, .int .i64 a0_1, .int .i64 a0_2, .int .i64 a0_3, .int .u64 a0_4, .int .i64 a0_5, .int .i64 a0_6]) (t := 40) ?hr ?_; (case hd => rfl); (case hg => rfl); (case hr => first | (go_simp; done) | (go_simp; rfl)); intro gb185 hg w5 hbox hb; have n0_ := Aside0.mk (below_step (by repeat (first | (with_reducible first | exact HB.1 | apply below_alloc | apply pw_below_drewN | apply below_drew1) | exact HB.1)) hb); have n1_ := Aside0.mk (hbox); have n2_ := Aside0.mk ((by rw [hg]; exact (below_size (by repeat (first | (with_reducible first | exact HB.1 | apply below_alloc | apply pw_below_drewN | apply below_drew1) | exact HB.1))) : w.heap.size ≤ gb185)); have n3_ := Aside0.mk ((by rw [hg]; exact (below_size (by repeat (first | (with_reducible first | exact HB.1 | apply below_alloc | apply pw_below_drewN | apply below_drew1) | exact HB.1))) : w.heap.size ≤ gb185)); clear HB; have HB := n0_; have BK185 := n1_; have GW185 := n2_; have GE185 := n3_; clear n0_ n1_ n2_ n3_; clear hb hbox hg) | ((with_reducible refine gate_dst (N := 5) rfl ?_); refine box_event ?hg (N := 5) ?hd (cs := #[.slice A1_0 l1_0.length c1_0]) (t := 43) ?hr ?_; (case hd => rfl); (case hg => rfl); (case hr => first | (go_simp; done) | (go_simp; rfl)); intro gb186 hg w6 hbox hb; have n0_ := Aside0.mk (blk_below (g := gb185) (o := .cells #[.int .i64 a0_0, .int .i64 a0_1, .int .i64 a0_2, .int .i64 a0_3, .int .u64 a0_4, .int .i64 a0_5, .int .i64 a0_6] 40 (0, 0)) (by (with_reducible repeat (first | apply xn70 | apply xd70 | apply xa70)); exact BK185.1) hb); have n1_ := Aside0.mk (below_step (by repeat (first | (with_reducible first | exact HB.1 | apply below_alloc | apply pw_below_drewN | apply below_drew1 | refine below_set ?_ GE185.1) | exact HB.1)) hb); have n2_ := Aside0.mk (hbox); have n3_ := Aside0.mk ((by rw [hg]; exact (below_size (by repeat (first | (with_reducible first | exact HB.1 | apply below_alloc | apply pw_below_drewN | apply below_drew1 | refine below_set ?_ GE185.1) | exact HB.1))) : w.heap.size ≤ gb186)); have n4_ := Aside0.mk ((by rw [hg]; exact (below_size (by repeat (first | (with_reducible first | exact HB.1 | apply below_alloc | apply pw_below_drewN | apply below_drew1 | refine below_set ?_ GE185.1) | exact HB.1))) : w.heap.size ≤ gb186)); have n5_ := Aside0.mk ((by rw [hg]; exact Nat.ne_of_lt (blk_lt (g := gb185) (o := .cells #[.int .i64 a0_0, .int .i64 a0_1, .int .i64 a0_2, .int .i64 a0_3, .int .u64 a0_4, .int .i64 a0_5, .int .i64 a0_6] 40 (0, 0)) (by (with_reducible repeat (first | apply xn70 | apply xd70 | apply xa70)); exact BK185.1)) : gb185 ≠ gb186)); have n6_ := Aside0.mk ((by rw [hg]; exact Nat.ne_of_gt (blk_lt (g := gb185) (o := .cells #[.int .i64 a0_0, .int .i64 a0_1, .int .i64 a0_2, .int .i64 a0_3, .int .u64 a0_4, .int .i64 a0_5, .int .i64 a0_6] 40 (0, 0)) (by (with_reducible repeat (first | apply xn70 | apply xd70 | apply xa70)); exact BK185.1)) : gb186 ≠ gb185)); clear BK185; clear HB; have BK185 := n0_; have HB := n1_; have BK186 := n2_; have GW186 := n3_; have GE186 := n4_; have NB185_186 := n5_; have NB186_185 := n6_; clear n0_ n1_ n2_ n3_ n4_ n5_ n6_; clear hb hbox hg))
  go_loopg [9, 10] k (fun kq v9 v10 w' => ∃ (x9_1 : Int) (x10_1 : Int), v9 = .int .i64 x9_1 ∧ v10 = .int .i64 x10_1 ∧ Aside0 (vendmeterref_sellKey.l0 kq a2 a3 x9_1 x10_1 a0_0 a0_1 a0_2 a0_3 a0_4 a0_5 a0_6 l1_0 = some r) ∧ Aside0 (kq ≤ k) ∧ Aside0 (w'.heap[gb185]? = some (.cells #[.int .i64 a0_0, .int .i64 a0_1, .int .i64 a0_2, .int .i64 a0_3, .int .u64 a0_4, .int .i64 a0_5, .int .i64 a0_6] 40 (0, 0))) ∧ Aside0 (w'.heap[gb186]? = some (.cells #[(.slice A1_0 l1_0.length c1_0)] 43 (0, 0))) ∧ Aside0 (Below w.heap.size w w'))
  case atStart => exact ⟨(2), (0), (by first | rfl | (simp; done) | (simp [*]; done)), (by first | rfl | (simp; done) | (simp [*]; done)), H', ⟨Nat.le_refl _⟩, ⟨by (with_reducible repeat (first | apply xn70 | apply xd70 | apply xa70)); exact BK185.1⟩, ⟨by (with_reducible repeat (first | apply xn70 | apply xd70 | apply xa70)); exact BK186.1⟩, ⟨by repeat (first | (with_reducible first | exact HB.1 | apply below_alloc | apply pw_below_drewN | apply below_drew1 | refine below_set ?_ GE185.1 | refine below_set ?_ GE186.1) | exact HB.1)⟩⟩
  case round =>
    clear H'
    try clear c1
    try clear p2
    obtain ⟨x9_1, x10_1, rfl, rfl, HA, HK1, BK185, BK186, HB⟩ := hrel
    cases gk with
    | zero => exact absurd HA.out (by simp [vendmeterref_sellKey.l0])
    | succ k1 =>
      have H := HA.out
      clear HA
      simp only [vendmeterref_sellKey.l0] at H
      by_cases c7 : x10_1 < (l1_0.length : Int)
      · rw [if_pos c7] at H
        have c7b0 : decide (x10_1 < (l1_0.length : Int)) = true := decide_eq_true c7
        clear c7
        by_cases c8 : 0 ≤ x10_1
        · rw [if_pos c8] at H
          have c8b0 : decide (0 ≤ x10_1) = true := decide_eq_true c8
          clear c8
          have HC9 := Aside0.mk H
          clear H
          have hnb10 := NB186_185.1
          have hnc10 := NB185_186.1
          have hcz11_0 : wr.cell? ⟨gb186, 0, none⟩ = some (.slice A1_0 l1_0.length c1_0) := (blk_cell BK186.1 0).trans rfl
          have hfz11_0 := blk_frozen BK186.1 0
          have p187 : 0 ≤ (x10_1 : Int) := of_decide_eq_true (by first | (with_reducible assumption) | assumption)
          have q187 : x10_1 < (l1_0.length : Int) := of_decide_eq_true (by first | (with_reducible assumption) | assumption)
          obtain ⟨ad187, e187, hx187_0, hx187_1, hx187_2, hx187_3⟩ := at_T118 HR1_0.out x10_1 p187 q187
          cases e187
          replace hx187_0 := (HB.1.cell (World.block_lt_of_cell? w _ hx187_0)).trans hx187_0
          replace hx187_1 := (HB.1.cell (World.block_lt_of_cell? w _ hx187_1)).trans hx187_1
          replace hx187_2 := (HB.1.cell (World.block_lt_of_cell? w _ hx187_2)).trans hx187_2
          replace hx187_3 := (HB.1.cell (World.block_lt_of_cell? w _ hx187_3)).trans hx187_3
          replace p187 := eq_true p187
          replace q187 := eq_true q187
          go_upto_region 6 with (first | ((with_reducible refine gate_dst (N := 11) rfl ?_); refine box_event ?hg (N := 11) ?hd (cs := #[.int .i64 0, .int .i64 0, .int .i64 0, .int .i64 0]) (t := 118) ?hr ?_; (case hd => rfl); (case hg => rfl); (case hr => first | (go_simp; done) | (go_simp; rfl)); intro gb188 hg w12 hbox hb; have n0_ := Aside0.mk (blk_below (g := gb185) (o := .cells #[.int .i64 a0_0, .int .i64 a0_1, .int .i64 a0_2, .int .i64 a0_3, .int .u64 a0_4, .int .i64 a0_5, .int .i64 a0_6] 40 (0, 0)) (by (with_reducible repeat (first | apply xn70 | apply xd70 | apply xa70)); exact BK185.1) hb); have n1_ := Aside0.mk (blk_below (g := gb186) (o := .cells #[.slice (some ad187) l1_0.length c1_0] 43 (0, 0)) (by (with_reducible repeat (first | apply xn70 | apply xd70 | apply xa70)); exact BK186.1) hb); have n2_ := Aside0.mk (below_step (by repeat (first | (with_reducible first | exact HB.1 | apply below_alloc | apply pw_below_drewN | apply below_drew1 | refine below_set ?_ GE185.1 | refine below_set ?_ GE186.1) | exact HB.1)) hb); have n3_ := Aside0.mk (hbox); have n4_ := Aside0.mk ((by rw [hg]; exact (below_size (by repeat (first | (with_reducible first | exact HB.1 | apply below_alloc | apply pw_below_drewN | apply below_drew1 | refine below_set ?_ GE185.1 | refine below_set ?_ GE186.1) | exact HB.1))) : w.heap.size ≤ gb188)); have n5_ := Aside0.mk ((by rw [hg]; exact (below_size (by repeat (first | (with_reducible first | exact HB.1 | apply below_alloc | apply pw_below_drewN | apply below_drew1 | refine below_set ?_ GE185.1 | refine below_set ?_ GE186.1) | exact HB.1))) : w.heap.size ≤ gb188)); have n6_ := Aside0.mk ((by rw [hg]; exact Nat.ne_of_lt (blk_lt (g := gb185) (o := .cells #[.int .i64 a0_0, .int .i64 a0_1, .int .i64 a0_2, .int .i64 a0_3, .int .u64 a0_4, .int .i64 a0_5, .int .i64 a0_6] 40 (0, 0)) (by (with_reducible repeat (first | apply xn70 | apply xd70 | apply xa70)); exact BK185.1)) : gb185 ≠ gb188)); have n7_ := Aside0.mk ((by rw [hg]; exact Nat.ne_of_gt (blk_lt (g := gb185) (o := .cells #[.int .i64 a0_0, .int .i64 a0_1, .int .i64 a0_2, .int .i64 a0_3, .int .u64 a0_4, .int .i64 a0_5, .int .i64 a0_6] 40 (0, 0)) (by (with_reducible repeat (first | apply xn70 | apply xd70 | apply xa70)); exact BK185.1)) : gb188 ≠ gb185)); have n8_ := Aside0.mk ((by rw [hg]; exact Nat.ne_of_lt (blk_lt (g := gb186) (o := .cells #[.slice (some ad187) l1_0.length c1_0] 43 (0, 0)) (by (with_reducible repeat (first | apply xn70 | apply xd70 | apply xa70)); exact BK186.1)) : gb186 ≠ gb188)); have n9_ := Aside0.mk ((by rw [hg]; exact Nat.ne_of_gt (blk_lt (g := gb186) (o := .cells #[.slice (some ad187) l1_0.length c1_0] 43 (0, 0)) (by (with_reducible repeat (first | apply xn70 | apply xd70 | apply xa70)); exact BK186.1)) : gb188 ≠ gb186)); clear BK185; clear BK186; clear HB; have BK185 := n0_; have BK186 := n1_; have HB := n2_; have BK188 := n3_; have GW188 := n4_; have GE188 := n5_; have NB185_188 := n6_; have NB188_185 := n7_; have NB186_188 := n8_; have NB188_186 := n9_; clear n0_ n1_ n2_ n3_ n4_ n5_ n6_ n7_ n8_ n9_; clear hb hbox hg; have hnb13 := NB188_185.1; have hnc13 := NB185_188.1; have hnb14 := NB188_186.1; have hnc14 := NB186_188.1; have hcz15_0 : w12.cell? ⟨gb188, 0, none⟩ = some (.int .i64 0) := (blk_cell BK188.1 0).trans rfl; have hcz15_1 : w12.cell? ⟨gb188, 1, none⟩ = some (.int .i64 0) := (blk_cell BK188.1 1).trans rfl; have hcz15_2 : w12.cell? ⟨gb188, 2, none⟩ = some (.int .i64 0) := (blk_cell BK188.1 2).trans rfl; have hcz15_3 : w12.cell? ⟨gb188, 3, none⟩ = some (.int .i64 0) := (blk_cell BK188.1 3).trans rfl; have hfz15_0 := blk_frozen BK188.1 0; have hfz15_1 := blk_frozen BK188.1 1; have hfz15_2 := blk_frozen BK188.1 2; have hfz15_3 := blk_frozen BK188.1 3))
          (try simp only [Act.put, List.setIfInBounds_toArray, List.set_cons_zero, List.set_cons_succ])
          go_cut [47] (fun v47 wc => ∃ (kq : Nat) (x47_8 : Bool), v47 = .bool x47_8 ∧ Aside0 (vendmeterref_sellKey.j1 kq a2 a3 x9_1 x10_1 x47_8 a0_0 a0_1 a0_2 a0_3 a0_4 a0_5 a0_6 l1_0 ((rd_T118 l1_0 x10_1).f0) ((rd_T118 l1_0 x10_1).f1) ((rd_T118 l1_0 x10_1).f2) ((rd_T118 l1_0 x10_1).f3) = some r) ∧ Aside0 (kq ≤ k1) ∧ Aside0 (wc.heap[gb185]? = some (.cells #[.int .i64 a0_0, .int .i64 a0_1, .int .i64 a0_2, .int .i64 a0_3, .int .u64 a0_4, .int .i64 a0_5, .int .i64 a0_6] 40 (0, 0))) ∧ Aside0 (wc.heap[gb186]? = some (.cells #[(.slice (some ad187) l1_0.length c1_0)] 43 (0, 0))) ∧ Aside0 (wc.heap[gb188]? = some (.cells #[.int .i64 ((rd_T118 l1_0 x10_1).f0), .int .i64 ((rd_T118 l1_0 x10_1).f1), .int .i64 ((rd_T118 l1_0 x10_1).f2), .int .i64 ((rd_T118 l1_0 x10_1).f3)] 118 (0, 0))) ∧ Aside0 (Below w.heap.size w wc))
          case first =>
            have H := HC9.out
            clear HC9
            by_cases c16 : ((rd_T118 l1_0 x10_1).f0) = a0_0
            · rw [if_pos c16] at H
              have c16b0 : (((rd_T118 l1_0 x10_1).f0) == a0_0) = true := beq_iff_eq.mpr c16
              have c16b1 : (((rd_T118 l1_0 x10_1).f0) != a0_0) = false := bne_eq_false_iff_eq.mpr c16
              clear c16
              (first | rw [c16b0] | (simp only [i64_w, i32_w]; rw [c16b0]) | skip)
              by_cases c17 : ((rd_T118 l1_0 x10_1).f2) = a2
              · rw [if_pos c17] at H
                have c17b0 : (((rd_T118 l1_0 x10_1).f2) == a2) = true := beq_iff_eq.mpr c17
                have c17b1 : (((rd_T118 l1_0 x10_1).f2) != a2) = false := bne_eq_false_iff_eq.mpr c17
                clear c17
                by_cases c18 : ((rd_T118 l1_0 x10_1).f3) = a3
                · rw [if_pos c18] at H
                  have c18b0 : (((rd_T118 l1_0 x10_1).f3) == a3) = true := beq_iff_eq.mpr c18
                  have c18b1 : (((rd_T118 l1_0 x10_1).f3) != a3) = false := bne_eq_false_iff_eq.mpr c18
                  clear c18
                  have H' := Aside0.mk H
                  clear H
                  have hnb19 := NB188_185.1
                  have hnc19 := NB185_188.1
                  have hnb20 := NB188_186.1
                  have hnc20 := NB186_188.1
                  have hcz21_0 : w12.cell? ⟨gb188, 0, none⟩ = some (.int .i64 0) := (blk_cell BK188.1 0).trans rfl
                  have hcz21_1 : w12.cell? ⟨gb188, 1, none⟩ = some (.int .i64 0) := (blk_cell BK188.1 1).trans rfl
                  have hcz21_2 : w12.cell? ⟨gb188, 2, none⟩ = some (.int .i64 0) := (blk_cell BK188.1 2).trans rfl
                  have hcz21_3 : w12.cell? ⟨gb188, 3, none⟩ = some (.int .i64 0) := (blk_cell BK188.1 3).trans rfl
                  have hfz21_0 := blk_frozen BK188.1 0
                  have hfz21_1 := blk_frozen BK188.1 1
                  have hfz21_2 := blk_frozen BK188.1 2
                  have hfz21_3 := blk_frozen BK188.1 3
                  have hnb22 := NB185_186.1
                  have hnc22 := NB186_185.1
                  have hcz23_0 : w12.cell? ⟨gb185, 0, none⟩ = some (.int .i64 a0_0) := (blk_cell BK185.1 0).trans rfl
                  have hcz23_1 : w12.cell? ⟨gb185, 1, none⟩ = some (.int .i64 a0_1) := (blk_cell BK185.1 1).trans rfl
                  have hcz23_2 : w12.cell? ⟨gb185, 2, none⟩ = some (.int .i64 a0_2) := (blk_cell BK185.1 2).trans rfl
                  have hcz23_3 : w12.cell? ⟨gb185, 3, none⟩ = some (.int .i64 a0_3) := (blk_cell BK185.1 3).trans rfl
                  have hcz23_4 : w12.cell? ⟨gb185, 4, none⟩ = some (.int .u64 a0_4) := (blk_cell BK185.1 4).trans rfl
                  have hcz23_5 : w12.cell? ⟨gb185, 5, none⟩ = some (.int .i64 a0_5) := (blk_cell BK185.1 5).trans rfl
                  have hcz23_6 : w12.cell? ⟨gb185, 6, none⟩ = some (.int .i64 a0_6) := (blk_cell BK185.1 6).trans rfl
                  have hfz23_0 := blk_frozen BK185.1 0
                  have hfz23_1 := blk_frozen BK185.1 1
                  have hfz23_2 := blk_frozen BK185.1 2
                  have hfz23_3 := blk_frozen BK185.1 3
                  have hfz23_4 := blk_frozen BK185.1 4
                  have hfz23_5 := blk_frozen BK185.1 5
                  have hfz23_6 := blk_frozen BK185.1 6
                  go_wp2
                  go_meet
                  case rel => exact ⟨_, (decide (((rd_T118 l1_0 x10_1).f1) > a0_1)), (by first | rfl | (simp; done) | (simp [*]; done)), H', ⟨by have := HK1.out; first | omega | exact Nat.le_refl _⟩, ⟨by (with_reducible repeat (first | apply xn70 | apply xd70 | apply xa70)); refine blk_far ?_ NB185_188.1 _; (with_reducible repeat (first | apply xn70 | apply xd70 | apply xa70)); refine blk_far ?_ NB185_188.1 _; (with_reducible repeat (first | apply xn70 | apply xd70 | apply xa70)); refine blk_far ?_ NB185_188.1 _; (with_reducible repeat (first | apply xn70 | apply xd70 | apply xa70)); refine blk_far ?_ NB185_188.1 _; (with_reducible repeat (first | apply xn70 | apply xd70 | apply xa70)); exact BK185.1⟩, ⟨by (with_reducible repeat (first | apply xn70 | apply xd70 | apply xa70)); refine blk_far ?_ NB186_188.1 _; (with_reducible repeat (first | apply xn70 | apply xd70 | apply xa70)); refine blk_far ?_ NB186_188.1 _; (with_reducible repeat (first | apply xn70 | apply xd70 | apply xa70)); refine blk_far ?_ NB186_188.1 _; (with_reducible repeat (first | apply xn70 | apply xd70 | apply xa70)); refine blk_far ?_ NB186_188.1 _; (with_reducible repeat (first | apply xn70 | apply xd70 | apply xa70)); exact BK186.1⟩, ⟨by (with_reducible repeat (first | apply xn70 | apply xd70 | apply xa70)); refine blk_put (cs := #[.int .i64 ((rd_T118 l1_0 x10_1).f0), .int .i64 ((rd_T118 l1_0 x10_1).f1), .int .i64 ((rd_T118 l1_0 x10_1).f2), .int .i64 0]) ?_ 3 _ rfl; (with_reducible repeat (first | apply xn70 | apply xd70 | apply xa70)); refine blk_put (cs := #[.int .i64 ((rd_T118 l1_0 x10_1).f0), .int .i64 ((rd_T118 l1_0 x10_1).f1), .int .i64 0, .int .i64 0]) ?_ 2 _ rfl; (with_reducible repeat (first | apply xn70 | apply xd70 | apply xa70)); refine blk_put (cs := #[.int .i64 ((rd_T118 l1_0 x10_1).f0), .int .i64 0, .int .i64 0, .int .i64 0]) ?_ 1 _ rfl; (with_reducible repeat (first | apply xn70 | apply xd70 | apply xa70)); refine blk_put (cs := #[.int .i64 0, .int .i64 0, .int .i64 0, .int .i64 0]) ?_ 0 _ rfl; (with_reducible repeat (first | apply xn70 | apply xd70 | apply xa70)); exact BK188.1⟩, ⟨by repeat (first | (with_reducible first | exact HB.1 | apply below_alloc | apply pw_below_drewN | apply below_drew1 | refine below_set ?_ GE185.1 | refine below_set ?_ GE186.1 | refine below_set ?_ GE188.1) | exact HB.1)⟩⟩
                · rw [if_neg c18] at H
                  have c18b0 : (((rd_T118 l1_0 x10_1).f3) == a3) = false := beq_eq_false_iff_ne.mpr c18
                  have c18b1 : (((rd_T118 l1_0 x10_1).f3) != a3) = true := bne_iff_ne.mpr c18
                  have H' := Aside0.mk H
                  clear H
                  have hnb24 := NB188_185.1
                  have hnc24 := NB185_188.1
                  have hnb25 := NB188_186.1
                  have hnc25 := NB186_188.1
                  have hcz26_0 : w12.cell? ⟨gb188, 0, none⟩ = some (.int .i64 0) := (blk_cell BK188.1 0).trans rfl
                  have hcz26_1 : w12.cell? ⟨gb188, 1, none⟩ = some (.int .i64 0) := (blk_cell BK188.1 1).trans rfl
                  have hcz26_2 : w12.cell? ⟨gb188, 2, none⟩ = some (.int .i64 0) := (blk_cell BK188.1 2).trans rfl
                  have hcz26_3 : w12.cell? ⟨gb188, 3, none⟩ = some (.int .i64 0) := (blk_cell BK188.1 3).trans rfl
                  have hfz26_0 := blk_frozen BK188.1 0
                  have hfz26_1 := blk_frozen BK188.1 1
                  have hfz26_2 := blk_frozen BK188.1 2
                  have hfz26_3 := blk_frozen BK188.1 3
                  have hnb27 := NB185_186.1
                  have hnc27 := NB186_185.1
                  have hcz28_0 : w12.cell? ⟨gb185, 0, none⟩ = some (.int .i64 a0_0) := (blk_cell BK185.1 0).trans rfl
                  have hcz28_1 : w12.cell? ⟨gb185, 1, none⟩ = some (.int .i64 a0_1) := (blk_cell BK185.1 1).trans rfl
                  have hcz28_2 : w12.cell? ⟨gb185, 2, none⟩ = some (.int .i64 a0_2) := (blk_cell BK185.1 2).trans rfl
                  have hcz28_3 : w12.cell? ⟨gb185, 3, none⟩ = some (.int .i64 a0_3) := (blk_cell BK185.1 3).trans rfl
                  have hcz28_4 : w12.cell? ⟨gb185, 4, none⟩ = some (.int .u64 a0_4) := (blk_cell BK185.1 4).trans rfl
                  have hcz28_5 : w12.cell? ⟨gb185, 5, none⟩ = some (.int .i64 a0_5) := (blk_cell BK185.1 5).trans rfl
                  have hcz28_6 : w12.cell? ⟨gb185, 6, none⟩ = some (.int .i64 a0_6) := (blk_cell BK185.1 6).trans rfl
                  have hfz28_0 := blk_frozen BK185.1 0
                  have hfz28_1 := blk_frozen BK185.1 1
                  have hfz28_2 := blk_frozen BK185.1 2
                  have hfz28_3 := blk_frozen BK185.1 3
                  have hfz28_4 := blk_frozen BK185.1 4
                  have hfz28_5 := blk_frozen BK185.1 5
                  have hfz28_6 := blk_frozen BK185.1 6
                  go_wp2
                  go_meet
                  case rel => exact ⟨_, (true), (by first | rfl | (simp; done) | (simp [*]; done)), H', ⟨by have := HK1.out; first | omega | exact Nat.le_refl _⟩, ⟨by (with_reducible repeat (first | apply xn70 | apply xd70 | apply xa70)); refine blk_far ?_ NB185_188.1 _; (with_reducible repeat (first | apply xn70 | apply xd70 | apply xa70)); refine blk_far ?_ NB185_188.1 _; (with_reducible repeat (first | apply xn70 | apply xd70 | apply xa70)); refine blk_far ?_ NB185_188.1 _; (with_reducible repeat (first | apply xn70 | apply xd70 | apply xa70)); refine blk_far ?_ NB185_188.1 _; (with_reducible repeat (first | apply xn70 | apply xd70 | apply xa70)); exact BK185.1⟩, ⟨by (with_reducible repeat (first | apply xn70 | apply xd70 | apply xa70)); refine blk_far ?_ NB186_188.1 _; (with_reducible repeat (first | apply xn70 | apply xd70 | apply xa70)); refine blk_far ?_ NB186_188.1 _; (with_reducible repeat (first | apply xn70 | apply xd70 | apply xa70)); refine blk_far ?_ NB186_188.1 _; (with_reducible repeat (first | apply xn70 | apply xd70 | apply xa70)); refine blk_far ?_ NB186_188.1 _; (with_reducible repeat (first | apply xn70 | apply xd70 | apply xa70)); exact BK186.1⟩, ⟨by (with_reducible repeat (first | apply xn70 | apply xd70 | apply xa70)); refine blk_put (cs := #[.int .i64 ((rd_T118 l1_0 x10_1).f0), .int .i64 ((rd_T118 l1_0 x10_1).f1), .int .i64 ((rd_T118 l1_0 x10_1).f2), .int .i64 0]) ?_ 3 _ rfl; (with_reducible repeat (first | apply xn70 | apply xd70 | apply xa70)); refine blk_put (cs := #[.int .i64 ((rd_T118 l1_0 x10_1).f0), .int .i64 ((rd_T118 l1_0 x10_1).f1), .int .i64 0, .int .i64 0]) ?_ 2 _ rfl; (with_reducible repeat (first | apply xn70 | apply xd70 | apply xa70)); refine blk_put (cs := #[.int .i64 ((rd_T118 l1_0 x10_1).f0), .int .i64 0, .int .i64 0, .int .i64 0]) ?_ 1 _ rfl; (with_reducible repeat (first | apply xn70 | apply xd70 | apply xa70)); refine blk_put (cs := #[.int .i64 0, .int .i64 0, .int .i64 0, .int .i64 0]) ?_ 0 _ rfl; (with_reducible repeat (first | apply xn70 | apply xd70 | apply xa70)); exact BK188.1⟩, ⟨by repeat (first | (with_reducible first | exact HB.1 | apply below_alloc | apply pw_below_drewN | apply below_drew1 | refine below_set ?_ GE185.1 | refine below_set ?_ GE186.1 | refine below_set ?_ GE188.1) | exact HB.1)⟩⟩
              · rw [if_neg c17] at H
                have c17b0 : (((rd_T118 l1_0 x10_1).f2) == a2) = false := beq_eq_false_iff_ne.mpr c17
                have c17b1 : (((rd_T118 l1_0 x10_1).f2) != a2) = true := bne_iff_ne.mpr c17
                have H' := Aside0.mk H
                clear H
                have hnb29 := NB188_185.1
                have hnc29 := NB185_188.1
                have hnb30 := NB188_186.1
                have hnc30 := NB186_188.1
                have hcz31_0 : w12.cell? ⟨gb188, 0, none⟩ = some (.int .i64 0) := (blk_cell BK188.1 0).trans rfl
                have hcz31_1 : w12.cell? ⟨gb188, 1, none⟩ = some (.int .i64 0) := (blk_cell BK188.1 1).trans rfl
                have hcz31_2 : w12.cell? ⟨gb188, 2, none⟩ = some (.int .i64 0) := (blk_cell BK188.1 2).trans rfl
                have hcz31_3 : w12.cell? ⟨gb188, 3, none⟩ = some (.int .i64 0) := (blk_cell BK188.1 3).trans rfl
                have hfz31_0 := blk_frozen BK188.1 0
                have hfz31_1 := blk_frozen BK188.1 1
                have hfz31_2 := blk_frozen BK188.1 2
                have hfz31_3 := blk_frozen BK188.1 3
                have hnb32 := NB185_186.1
                have hnc32 := NB186_185.1
                have hcz33_0 : w12.cell? ⟨gb185, 0, none⟩ = some (.int .i64 a0_0) := (blk_cell BK185.1 0).trans rfl
                have hcz33_1 : w12.cell? ⟨gb185, 1, none⟩ = some (.int .i64 a0_1) := (blk_cell BK185.1 1).trans rfl
                have hcz33_2 : w12.cell? ⟨gb185, 2, none⟩ = some (.int .i64 a0_2) := (blk_cell BK185.1 2).trans rfl
                have hcz33_3 : w12.cell? ⟨gb185, 3, none⟩ = some (.int .i64 a0_3) := (blk_cell BK185.1 3).trans rfl
                have hcz33_4 : w12.cell? ⟨gb185, 4, none⟩ = some (.int .u64 a0_4) := (blk_cell BK185.1 4).trans rfl
                have hcz33_5 : w12.cell? ⟨gb185, 5, none⟩ = some (.int .i64 a0_5) := (blk_cell BK185.1 5).trans rfl
                have hcz33_6 : w12.cell? ⟨gb185, 6, none⟩ = some (.int .i64 a0_6) := (blk_cell BK185.1 6).trans rfl
                have hfz33_0 := blk_frozen BK185.1 0
                have hfz33_1 := blk_frozen BK185.1 1
                have hfz33_2 := blk_frozen BK185.1 2
                have hfz33_3 := blk_frozen BK185.1 3
                have hfz33_4 := blk_frozen BK185.1 4
                have hfz33_5 := blk_frozen BK185.1 5
                have hfz33_6 := blk_frozen BK185.1 6
                go_wp2
                go_meet
                case rel => exact ⟨_, (true), (by first | rfl | (simp; done) | (simp [*]; done)), H', ⟨by have := HK1.out; first | omega | exact Nat.le_refl _⟩, ⟨by (with_reducible repeat (first | apply xn70 | apply xd70 | apply xa70)); refine blk_far ?_ NB185_188.1 _; (with_reducible repeat (first | apply xn70 | apply xd70 | apply xa70)); refine blk_far ?_ NB185_188.1 _; (with_reducible repeat (first | apply xn70 | apply xd70 | apply xa70)); refine blk_far ?_ NB185_188.1 _; (with_reducible repeat (first | apply xn70 | apply xd70 | apply xa70)); refine blk_far ?_ NB185_188.1 _; (with_reducible repeat (first | apply xn70 | apply xd70 | apply xa70)); exact BK185.1⟩, ⟨by (with_reducible repeat (first | apply xn70 | apply xd70 | apply xa70)); refine blk_far ?_ NB186_188.1 _; (with_reducible repeat (first | apply xn70 | apply xd70 | apply xa70)); refine blk_far ?_ NB186_188.1 _; (with_reducible repeat (first | apply xn70 | apply xd70 | apply xa70)); refine blk_far ?_ NB186_188.1 _; (with_reducible repeat (first | apply xn70 | apply xd70 | apply xa70)); refine blk_far ?_ NB186_188.1 _; (with_reducible repeat (first | apply xn70 | apply xd70 | apply xa70)); exact BK186.1⟩, ⟨by (with_reducible repeat (first | apply xn70 | apply xd70 | apply xa70)); refine blk_put (cs := #[.int .i64 ((rd_T118 l1_0 x10_1).f0), .int .i64 ((rd_T118 l1_0 x10_1).f1), .int .i64 ((rd_T118 l1_0 x10_1).f2), .int .i64 0]) ?_ 3 _ rfl; (with_reducible repeat (first | apply xn70 | apply xd70 | apply xa70)); refine blk_put (cs := #[.int .i64 ((rd_T118 l1_0 x10_1).f0), .int .i64 ((rd_T118 l1_0 x10_1).f1), .int .i64 0, .int .i64 0]) ?_ 2 _ rfl; (with_reducible repeat (first | apply xn70 | apply xd70 | apply xa70)); refine blk_put (cs := #[.int .i64 ((rd_T118 l1_0 x10_1).f0), .int .i64 0, .int .i64 0, .int .i64 0]) ?_ 1 _ rfl; (with_reducible repeat (first | apply xn70 | apply xd70 | apply xa70)); refine blk_put (cs := #[.int .i64 0, .int .i64 0, .int .i64 0, .int .i64 0]) ?_ 0 _ rfl; (with_reducible repeat (first | apply xn70 | apply xd70 | apply xa70)); exact BK188.1⟩, ⟨by repeat (first | (with_reducible first | exact HB.1 | apply below_alloc | apply pw_below_drewN | apply below_drew1 | refine below_set ?_ GE185.1 | refine below_set ?_ GE186.1 | refine below_set ?_ GE188.1) | exact HB.1)⟩⟩
            · rw [if_neg c16] at H
              have c16b0 : (((rd_T118 l1_0 x10_1).f0) == a0_0) = false := beq_eq_false_iff_ne.mpr c16
              have c16b1 : (((rd_T118 l1_0 x10_1).f0) != a0_0) = true := bne_iff_ne.mpr c16
              (first | rw [c16b0] | (simp only [i64_w, i32_w]; rw [c16b0]) | skip)
              have H' := Aside0.mk H
              clear H
              have hnb34 := NB188_185.1
              have hnc34 := NB185_188.1
              have hnb35 := NB188_186.1
              have hnc35 := NB186_188.1
              have hcz36_0 : w12.cell? ⟨gb188, 0, none⟩ = some (.int .i64 0) := (blk_cell BK188.1 0).trans rfl
              have hcz36_1 : w12.cell? ⟨gb188, 1, none⟩ = some (.int .i64 0) := (blk_cell BK188.1 1).trans rfl
              have hcz36_2 : w12.cell? ⟨gb188, 2, none⟩ = some (.int .i64 0) := (blk_cell BK188.1 2).trans rfl
              have hcz36_3 : w12.cell? ⟨gb188, 3, none⟩ = some (.int .i64 0) := (blk_cell BK188.1 3).trans rfl
              have hfz36_0 := blk_frozen BK188.1 0
              have hfz36_1 := blk_frozen BK188.1 1
              have hfz36_2 := blk_frozen BK188.1 2
              have hfz36_3 := blk_frozen BK188.1 3
              have hnb37 := NB185_186.1
              have hnc37 := NB186_185.1
              have hcz38_0 : w12.cell? ⟨gb185, 0, none⟩ = some (.int .i64 a0_0) := (blk_cell BK185.1 0).trans rfl
              have hcz38_1 : w12.cell? ⟨gb185, 1, none⟩ = some (.int .i64 a0_1) := (blk_cell BK185.1 1).trans rfl
              have hcz38_2 : w12.cell? ⟨gb185, 2, none⟩ = some (.int .i64 a0_2) := (blk_cell BK185.1 2).trans rfl
              have hcz38_3 : w12.cell? ⟨gb185, 3, none⟩ = some (.int .i64 a0_3) := (blk_cell BK185.1 3).trans rfl
              have hcz38_4 : w12.cell? ⟨gb185, 4, none⟩ = some (.int .u64 a0_4) := (blk_cell BK185.1 4).trans rfl
              have hcz38_5 : w12.cell? ⟨gb185, 5, none⟩ = some (.int .i64 a0_5) := (blk_cell BK185.1 5).trans rfl
              have hcz38_6 : w12.cell? ⟨gb185, 6, none⟩ = some (.int .i64 a0_6) := (blk_cell BK185.1 6).trans rfl
              have hfz38_0 := blk_frozen BK185.1 0
              have hfz38_1 := blk_frozen BK185.1 1
              have hfz38_2 := blk_frozen BK185.1 2
              have hfz38_3 := blk_frozen BK185.1 3
              have hfz38_4 := blk_frozen BK185.1 4
              have hfz38_5 := blk_frozen BK185.1 5
              have hfz38_6 := blk_frozen BK185.1 6
              go_wp2
              go_meet
              case rel => exact ⟨_, (true), (by first | rfl | (simp; done) | (simp [*]; done)), H', ⟨by have := HK1.out; first | omega | exact Nat.le_refl _⟩, ⟨by (with_reducible repeat (first | apply xn70 | apply xd70 | apply xa70)); refine blk_far ?_ NB185_188.1 _; (with_reducible repeat (first | apply xn70 | apply xd70 | apply xa70)); refine blk_far ?_ NB185_188.1 _; (with_reducible repeat (first | apply xn70 | apply xd70 | apply xa70)); refine blk_far ?_ NB185_188.1 _; (with_reducible repeat (first | apply xn70 | apply xd70 | apply xa70)); refine blk_far ?_ NB185_188.1 _; (with_reducible repeat (first | apply xn70 | apply xd70 | apply xa70)); exact BK185.1⟩, ⟨by (with_reducible repeat (first | apply xn70 | apply xd70 | apply xa70)); refine blk_far ?_ NB186_188.1 _; (with_reducible repeat (first | apply xn70 | apply xd70 | apply xa70)); refine blk_far ?_ NB186_188.1 _; (with_reducible repeat (first | apply xn70 | apply xd70 | apply xa70)); refine blk_far ?_ NB186_188.1 _; (with_reducible repeat (first | apply xn70 | apply xd70 | apply xa70)); refine blk_far ?_ NB186_188.1 _; (with_reducible repeat (first | apply xn70 | apply xd70 | apply xa70)); exact BK186.1⟩, ⟨by (with_reducible repeat (first | apply xn70 | apply xd70 | apply xa70)); refine blk_put (cs := #[.int .i64 ((rd_T118 l1_0 x10_1).f0), .int .i64 ((rd_T118 l1_0 x10_1).f1), .int .i64 ((rd_T118 l1_0 x10_1).f2), .int .i64 0]) ?_ 3 _ rfl; (with_reducible repeat (first | apply xn70 | apply xd70 | apply xa70)); refine blk_put (cs := #[.int .i64 ((rd_T118 l1_0 x10_1).f0), .int .i64 ((rd_T118 l1_0 x10_1).f1), .int .i64 0, .int .i64 0]) ?_ 2 _ rfl; (with_reducible repeat (first | apply xn70 | apply xd70 | apply xa70)); refine blk_put (cs := #[.int .i64 ((rd_T118 l1_0 x10_1).f0), .int .i64 0, .int .i64 0, .int .i64 0]) ?_ 1 _ rfl; (with_reducible repeat (first | apply xn70 | apply xd70 | apply xa70)); refine blk_put (cs := #[.int .i64 0, .int .i64 0, .int .i64 0, .int .i64 0]) ?_ 0 _ rfl; (with_reducible repeat (first | apply xn70 | apply xd70 | apply xa70)); exact BK188.1⟩, ⟨by repeat (first | (with_reducible first | exact HB.1 | apply below_alloc | apply pw_below_drewN | apply below_drew1 | refine below_set ?_ GE185.1 | refine below_set ?_ GE186.1 | refine below_set ?_ GE188.1) | exact HB.1)⟩⟩
          case rest =>
            clear HC9
            try clear c1
            try clear p1
            try clear q1
            try clear hx1
            try clear c2
            try clear p2
            try clear c3
            try clear c7
            try clear c7b0
            try clear c8
            try clear c8b0
            try clear c10
            try clear c13
            try clear c14
            try clear c16
            try clear c16b0
            try clear c16b1
            try clear c17
            try clear c17b0
            try clear c17b1
            try clear c18
            try clear c18b0
            try clear c18b1
            try clear p18
            try clear q18
            try clear hx18
            try clear c19
            try clear c20
            try clear c22
            try clear c24
            try clear c25
            try clear c27
            try clear c29
            try clear c30
            try clear c32
            try clear c34
            try clear c35
            try clear c37
            try clear hcz11_0
            try clear hcz15_0
            try clear hcz15_1
            try clear hcz15_2
            try clear hcz15_3
            try clear hcz21_0
            try clear hcz21_1
            try clear hcz21_2
            try clear hcz21_3
            try clear hcz23_0
            try clear hcz23_1
            try clear hcz23_2
            try clear hcz23_3
            try clear hcz23_4
            try clear hcz23_5
            try clear hcz23_6
            try clear hcz26_0
            try clear hcz26_1
            try clear hcz26_2
            try clear hcz26_3
            try clear hcz28_0
            try clear hcz28_1
            try clear hcz28_2
            try clear hcz28_3
            try clear hcz28_4
            try clear hcz28_5
            try clear hcz28_6
            try clear hcz31_0
            try clear hcz31_1
            try clear hcz31_2
            try clear hcz31_3
            try clear hcz33_0
            try clear hcz33_1
            try clear hcz33_2
            try clear hcz33_3
            try clear hcz33_4
            try clear hcz33_5
            try clear hcz33_6
            try clear hcz36_0
            try clear hcz36_1
            try clear hcz36_2
            try clear hcz36_3
            try clear hcz38_0
            try clear hcz38_1
            try clear hcz38_2
            try clear hcz38_3
            try clear hcz38_4
            try clear hcz38_5
            try clear hcz38_6
            try clear hfz11_0
            try clear hfz15_0
            try clear hfz15_1
            try clear hfz15_2
            try clear hfz15_3
            try clear hfz21_0
            try clear hfz21_1
            try clear hfz21_2
            try clear hfz21_3
            try clear hfz23_0
            try clear hfz23_1
            try clear hfz23_2
            try clear hfz23_3
            try clear hfz23_4
            try clear hfz23_5
            try clear hfz23_6
            try clear hfz26_0
            try clear hfz26_1
            try clear hfz26_2
            try clear hfz26_3
            try clear hfz28_0
            try clear hfz28_1
            try clear hfz28_2
            try clear hfz28_3
            try clear hfz28_4
            try clear hfz28_5
            try clear hfz28_6
            try clear hfz31_0
            try clear hfz31_1
            try clear hfz31_2
            try clear hfz31_3
            try clear hfz33_0
            try clear hfz33_1
            try clear hfz33_2
            try clear hfz33_3
            try clear hfz33_4
            try clear hfz33_5
            try clear hfz33_6
            try clear hfz36_0
            try clear hfz36_1
            try clear hfz36_2
            try clear hfz36_3
            try clear hfz38_0
            try clear hfz38_1
            try clear hfz38_2
            try clear hfz38_3
            try clear hfz38_4
            try clear hfz38_5
            try clear hfz38_6
            try clear hx187_0
            try clear hx187_1
            try clear hx187_2
            try clear hx187_3
            try clear p187
            try clear p2
            try clear q187
            obtain ⟨kq, x47_8, rfl, HA, HJ8, BK185, BK186, BK188, HB⟩ := hcut
            cases kq with
            | zero => exact absurd HA.out (by simp [vendmeterref_sellKey.j1])
            | succ kj8 =>
              have H := HA.out
              clear HA
              simp only [vendmeterref_sellKey.j1] at H
              by_cases c39 : x47_8 = true
              · subst c39
                have H1 : (vendmeterref_sellKey.l0 kj8 a2 a3 x9_1 (wrap64 (x10_1 + 1)) a0_0 a0_1 a0_2 a0_3 a0_4 a0_5 a0_6 l1_0) = some r := by rw [if_pos rfl] at H; exact H
                clear H
                have H := H1
                clear H1
                have H' := Aside0.mk H
                clear H
                go_wp2
                go_roundg kj8
                case measure => have := HK1.out; have := HJ8.out; omega
                case rel => exact ⟨(x9_1), (wrap64 (x10_1 + 1)), (by first | rfl | (simp; done) | (simp [*]; done)), (by first | rfl | (simp; done) | (simp [*]; done)), H', ⟨by have := HK1.out; have := HJ8.out; omega⟩, ⟨by (with_reducible repeat (first | apply xn70 | apply xd70 | apply xa70)); exact BK185.1⟩, ⟨by (with_reducible repeat (first | apply xn70 | apply xd70 | apply xa70)); exact BK186.1⟩, ⟨by repeat (first | (with_reducible first | exact HB.1 | apply below_alloc | apply pw_below_drewN | apply below_drew1 | refine below_set ?_ GE185.1 | refine below_set ?_ GE186.1 | refine below_set ?_ GE188.1) | exact HB.1)⟩⟩
              · replace c39 := Bool.eq_false_iff.mpr c39
                subst c39
                have H1 : (if ((rd_T118 l1_0 x10_1).f1) = a0_1 then (some 0) else (vendmeterref_sellKey.l0 kj8 a2 a3 1 (wrap64 (x10_1 + 1)) a0_0 a0_1 a0_2 a0_3 a0_4 a0_5 a0_6 l1_0)) = some r := by rw [if_neg (show ¬ (false = true) by decide)] at H; exact H
                clear H
                have H := H1
                clear H1
                by_cases c40 : ((rd_T118 l1_0 x10_1).f1) = a0_1
                · rw [if_pos c40] at H
                  have c40b0 : (((rd_T118 l1_0 x10_1).f1) == a0_1) = true := beq_iff_eq.mpr c40
                  have c40b1 : (((rd_T118 l1_0 x10_1).f1) != a0_1) = false := bne_eq_false_iff_eq.mpr c40
                  clear c40
                  obtain rfl := Option.some.inj H
                  have hnb41 := NB188_185.1
                  have hnc41 := NB185_188.1
                  have hnb42 := NB188_186.1
                  have hnc42 := NB186_188.1
                  have hcz43_0 : wc.cell? ⟨gb188, 0, none⟩ = some (.int .i64 ((rd_T118 l1_0 x10_1).f0)) := (blk_cell BK188.1 0).trans rfl
                  have hcz43_1 : wc.cell? ⟨gb188, 1, none⟩ = some (.int .i64 ((rd_T118 l1_0 x10_1).f1)) := (blk_cell BK188.1 1).trans rfl
                  have hcz43_2 : wc.cell? ⟨gb188, 2, none⟩ = some (.int .i64 ((rd_T118 l1_0 x10_1).f2)) := (blk_cell BK188.1 2).trans rfl
                  have hcz43_3 : wc.cell? ⟨gb188, 3, none⟩ = some (.int .i64 ((rd_T118 l1_0 x10_1).f3)) := (blk_cell BK188.1 3).trans rfl
                  have hfz43_0 := blk_frozen BK188.1 0
                  have hfz43_1 := blk_frozen BK188.1 1
                  have hfz43_2 := blk_frozen BK188.1 2
                  have hfz43_3 := blk_frozen BK188.1 3
                  have hnb44 := NB185_186.1
                  have hnc44 := NB186_185.1
                  have hcz45_0 : wc.cell? ⟨gb185, 0, none⟩ = some (.int .i64 a0_0) := (blk_cell BK185.1 0).trans rfl
                  have hcz45_1 : wc.cell? ⟨gb185, 1, none⟩ = some (.int .i64 a0_1) := (blk_cell BK185.1 1).trans rfl
                  have hcz45_2 : wc.cell? ⟨gb185, 2, none⟩ = some (.int .i64 a0_2) := (blk_cell BK185.1 2).trans rfl
                  have hcz45_3 : wc.cell? ⟨gb185, 3, none⟩ = some (.int .i64 a0_3) := (blk_cell BK185.1 3).trans rfl
                  have hcz45_4 : wc.cell? ⟨gb185, 4, none⟩ = some (.int .u64 a0_4) := (blk_cell BK185.1 4).trans rfl
                  have hcz45_5 : wc.cell? ⟨gb185, 5, none⟩ = some (.int .i64 a0_5) := (blk_cell BK185.1 5).trans rfl
                  have hcz45_6 : wc.cell? ⟨gb185, 6, none⟩ = some (.int .i64 a0_6) := (blk_cell BK185.1 6).trans rfl
                  have hfz45_0 := blk_frozen BK185.1 0
                  have hfz45_1 := blk_frozen BK185.1 1
                  have hfz45_2 := blk_frozen BK185.1 2
                  have hfz45_3 := blk_frozen BK185.1 3
                  have hfz45_4 := blk_frozen BK185.1 4
                  have hfz45_5 := blk_frozen BK185.1 5
                  have hfz45_6 := blk_frozen BK185.1 6
                  go_wp2
                  go_ret
                  exact ⟨by first | rfl | (simp [errW_none, errW_some] <;> rfl) | (simp [*, errW_none, errW_some] <;> rfl), by repeat (first | (with_reducible first | exact HB.1 | apply below_alloc | apply pw_below_drewN | apply below_drew1 | refine below_set ?_ GE185.1 | refine below_set ?_ GE186.1 | refine below_set ?_ GE188.1) | exact HB.1)⟩
                · rw [if_neg c40] at H
                  have c40b0 : (((rd_T118 l1_0 x10_1).f1) == a0_1) = false := beq_eq_false_iff_ne.mpr c40
                  have c40b1 : (((rd_T118 l1_0 x10_1).f1) != a0_1) = true := bne_iff_ne.mpr c40
                  have H' := Aside0.mk H
                  clear H
                  have hnb46 := NB188_185.1
                  have hnc46 := NB185_188.1
                  have hnb47 := NB188_186.1
                  have hnc47 := NB186_188.1
                  have hcz48_0 : wc.cell? ⟨gb188, 0, none⟩ = some (.int .i64 ((rd_T118 l1_0 x10_1).f0)) := (blk_cell BK188.1 0).trans rfl
                  have hcz48_1 : wc.cell? ⟨gb188, 1, none⟩ = some (.int .i64 ((rd_T118 l1_0 x10_1).f1)) := (blk_cell BK188.1 1).trans rfl
                  have hcz48_2 : wc.cell? ⟨gb188, 2, none⟩ = some (.int .i64 ((rd_T118 l1_0 x10_1).f2)) := (blk_cell BK188.1 2).trans rfl
                  have hcz48_3 : wc.cell? ⟨gb188, 3, none⟩ = some (.int .i64 ((rd_T118 l1_0 x10_1).f3)) := (blk_cell BK188.1 3).trans rfl
                  have hfz48_0 := blk_frozen BK188.1 0
                  have hfz48_1 := blk_frozen BK188.1 1
                  have hfz48_2 := blk_frozen BK188.1 2
                  have hfz48_3 := blk_frozen BK188.1 3
                  have hnb49 := NB185_186.1
                  have hnc49 := NB186_185.1
                  have hcz50_0 : wc.cell? ⟨gb185, 0, none⟩ = some (.int .i64 a0_0) := (blk_cell BK185.1 0).trans rfl
                  have hcz50_1 : wc.cell? ⟨gb185, 1, none⟩ = some (.int .i64 a0_1) := (blk_cell BK185.1 1).trans rfl
                  have hcz50_2 : wc.cell? ⟨gb185, 2, none⟩ = some (.int .i64 a0_2) := (blk_cell BK185.1 2).trans rfl
                  have hcz50_3 : wc.cell? ⟨gb185, 3, none⟩ = some (.int .i64 a0_3) := (blk_cell BK185.1 3).trans rfl
                  have hcz50_4 : wc.cell? ⟨gb185, 4, none⟩ = some (.int .u64 a0_4) := (blk_cell BK185.1 4).trans rfl
                  have hcz50_5 : wc.cell? ⟨gb185, 5, none⟩ = some (.int .i64 a0_5) := (blk_cell BK185.1 5).trans rfl
                  have hcz50_6 : wc.cell? ⟨gb185, 6, none⟩ = some (.int .i64 a0_6) := (blk_cell BK185.1 6).trans rfl
                  have hfz50_0 := blk_frozen BK185.1 0
                  have hfz50_1 := blk_frozen BK185.1 1
                  have hfz50_2 := blk_frozen BK185.1 2
                  have hfz50_3 := blk_frozen BK185.1 3
                  have hfz50_4 := blk_frozen BK185.1 4
                  have hfz50_5 := blk_frozen BK185.1 5
                  have hfz50_6 := blk_frozen BK185.1 6
                  go_wp2
                  go_roundg kj8
                  case measure => have := HK1.out; have := HJ8.out; omega
                  case rel => exact ⟨(1), (wrap64 (x10_1 + 1)), (by first | rfl | (simp; done) | (simp [*]; done)), (by first | rfl | (simp; done) | (simp [*]; done)), H', ⟨by have := HK1.out; have := HJ8.out; omega⟩, ⟨by (with_reducible repeat (first | apply xn70 | apply xd70 | apply xa70)); exact BK185.1⟩, ⟨by (with_reducible repeat (first | apply xn70 | apply xd70 | apply xa70)); exact BK186.1⟩, ⟨by repeat (first | (with_reducible first | exact HB.1 | apply below_alloc | apply pw_below_drewN | apply below_drew1 | refine below_set ?_ GE185.1 | refine below_set ?_ GE186.1 | refine below_set ?_ GE188.1) | exact HB.1)⟩⟩
        · rw [if_neg c8] at H
          exact absurd H (by simp)
      · rw [if_neg c7] at H
        have c7b0 : decide (x10_1 < (l1_0.length : Int)) = false := decide_eq_false c7
        clear c7
        obtain rfl := Option.some.inj H
        have hnb51 := NB186_185.1
        have hnc51 := NB185_186.1
        have hcz52_0 : wr.cell? ⟨gb186, 0, none⟩ = some (.slice A1_0 l1_0.length c1_0) := (blk_cell BK186.1 0).trans rfl
        have hfz52_0 := blk_frozen BK186.1 0
        go_wp2
        go_ret
        exact ⟨by first | rfl | (simp [errW_none, errW_some] <;> rfl) | (simp [*, errW_none, errW_some] <;> rfl), by repeat (first | (with_reducible first | exact HB.1 | apply below_alloc | apply pw_below_drewN | apply below_drew1 | refine below_set ?_ GE185.1 | refine below_set ?_ GE186.1) | exact HB.1)⟩

/-! ### vendmeterref_Judged: function 119 -/
theorem xa119 {w : World} {g : Nat} {o : Obj} (h : w.heap[g]? = some o) (o' : Obj) : (w.alloc o').heap[g]? = some o := blk_alloc h o'
theorem xd119 {w : World} {g : Nat} {o : Obj} (h : w.heap[g]? = some o) : w.drew.heap[g]? = some o := blk_drew h
theorem xn119 {w : World} {g : Nat} {o : Obj} (h : w.heap[g]? = some o) (n : Nat) : (w.drewN n).heap[g]? = some o := blk_drewN h n
def vendmeterref_Judged.l0 : Nat → Int → List Int → Int → Option (Int)
  | 0, _, _, _ => none
  | k + 1, x1, x5, x6 => if x6 < (x5.length : Int) then (if 0 ≤ x6 then (if (rd x5 x6) = x1 then (some 14) else (vendmeterref_Judged.l0 k x1 x5 (wrap64 (x6 + 1)))) else (none)) else (some 0)
def vendmeterref_Judged.f (k : Nat) (a0_0 : Int) (a0_1 : Int) (a1 : Int) : Option (Int) := (vendmeterref_WindowMay.f k a0_0 a0_1).bind fun t190 => (if t190 = true then ((vendmeterref_In.f a1 1 1048575).bind fun t191 => (if t191 = true then (if a1 ≤ (wrap64 (a0_0 - 64)) then (some 13) else ((vendmeterref_members.f k a0_0 a0_1).bind fun t192 => (vendmeterref_Judged.l0 k a1 t192 0))) else (some 2))) else (some 5))
theorem vendmeterref_Judged.mono_l : ∀ k, (∀ y0 y1 y2, LeO (vendmeterref_Judged.l0 k y0 y1 y2) (vendmeterref_Judged.l0 (k + 1) y0 y1 y2))
  | 0 => fun _ _ _ r h => by simp [vendmeterref_Judged.l0] at h
  | k + 1 => by
    have ih0 := vendmeterref_Judged.mono_l k
    · intro y0 y1 y2
      unfold vendmeterref_Judged.l0
      repeat' first
      | (with_reducible exact ih0 _ _ _)
      | (with_reducible exact vendmeterref_WindowMay.mono _ _ _)
      | (with_reducible exact vendmeterref_members.mono _ _ _)
      | (with_reducible exact LeO.refl _)
      | (with_reducible exact LeO.none _)
      | (with_reducible refine LeO.ite ?_ ?_)
      | (with_reducible refine LeO.bind ?_ (fun _ => ?_))
      | exact ih0 _ _ _
      | exact vendmeterref_WindowMay.mono _ _ _
      | exact vendmeterref_members.mono _ _ _
      | exact LeO.none _
      | refine LeO.ite ?_ ?_
      | refine LeO.bind ?_ (fun _ => ?_)
theorem vendmeterref_Judged.mono : ∀ a0 a1 a2 k, LeO (vendmeterref_Judged.f k a0 a1 a2) (vendmeterref_Judged.f (k + 1) a0 a1 a2) := by
  intro a0 a1 a2 k
  have ih0 := vendmeterref_Judged.mono_l k
  unfold vendmeterref_Judged.f
  repeat' first
      | (with_reducible exact ih0 _ _ _)
      | (with_reducible exact vendmeterref_WindowMay.mono _ _ _)
      | (with_reducible exact vendmeterref_members.mono _ _ _)
      | (with_reducible exact LeO.refl _)
      | (with_reducible exact LeO.none _)
      | (with_reducible refine LeO.ite ?_ ?_)
      | (with_reducible refine LeO.bind ?_ (fun _ => ?_))
      | exact ih0 _ _ _
      | exact vendmeterref_WindowMay.mono _ _ _
      | exact vendmeterref_members.mono _ _ _
      | exact LeO.none _
      | refine LeO.ite ?_ ?_
      | refine LeO.bind ?_ (fun _ => ?_)
set_option maxHeartbeats 8000000 in
set_option maxRecDepth 100000 in
theorem vendmeterref_Judged.calls (k : Nat) (a0_0 : Int) (a0_1 : Int) (a1 : Int) (r : Int) (w : World) (h : vendmeterref_Judged.f k a0_0 a0_1 a1 = some r) :
    Calls Try.prog 119 #[.agg #[.int .i64 a0_0, .int .u64 a0_1], .int .i64 a1] w fun e w' => e = .returned (.int .i64 r) ∧ Below w.heap.size w w' := by
  have hu38 := Try.underlying38
  have HB := Aside0.mk (Below.refl w.heap.size w)
  have H : ((vendmeterref_WindowMay.f k a0_0 a0_1).bind fun t190 => (if t190 = true then ((vendmeterref_In.f a1 1 1048575).bind fun t191 => (if t191 = true then (if a1 ≤ (wrap64 (a0_0 - 64)) then (some 13) else ((vendmeterref_members.f k a0_0 a0_1).bind fun t192 => (vendmeterref_Judged.l0 k a1 t192 0))) else (some 2))) else (some 5))) = some r := h
  clear h
  replace H := Option.bind_eq_some_iff.mp H
  obtain ⟨t190, A30, H⟩ := H
  replace H : (if t190 = true then ((vendmeterref_In.f a1 1 1048575).bind fun t191 => (if t191 = true then (if a1 ≤ (wrap64 (a0_0 - 64)) then (some 13) else ((vendmeterref_members.f k a0_0 a0_1).bind fun t192 => (vendmeterref_Judged.l0 k a1 t192 0))) else (some 2))) else (some 5)) = some r := H
  have A3 := Aside0.mk A30
  clear A30
  by_cases c4 : t190 = true
  · subst c4
    have H1 : ((vendmeterref_In.f a1 1 1048575).bind fun t191 => (if t191 = true then (if a1 ≤ (wrap64 (a0_0 - 64)) then (some 13) else ((vendmeterref_members.f k a0_0 a0_1).bind fun t192 => (vendmeterref_Judged.l0 k a1 t192 0))) else (some 2))) = some r := by rw [if_pos rfl] at H; exact H
    clear H
    have H := H1
    clear H1
    replace H := Option.bind_eq_some_iff.mp H
    obtain ⟨t191, A50, H⟩ := H
    replace H : (if t191 = true then (if a1 ≤ (wrap64 (a0_0 - 64)) then (some 13) else ((vendmeterref_members.f k a0_0 a0_1).bind fun t192 => (vendmeterref_Judged.l0 k a1 t192 0))) else (some 2)) = some r := H
    have A5 := Aside0.mk A50
    clear A50
    by_cases c6 : t191 = true
    · subst c6
      have H1 : (if a1 ≤ (wrap64 (a0_0 - 64)) then (some 13) else ((vendmeterref_members.f k a0_0 a0_1).bind fun t192 => (vendmeterref_Judged.l0 k a1 t192 0))) = some r := by rw [if_pos rfl] at H; exact H
      clear H
      have H := H1
      clear H1
      by_cases c7 : a1 ≤ (wrap64 (a0_0 - 64))
      · rw [if_pos c7] at H
        have c7b0 : decide (a1 ≤ (wrap64 (a0_0 - 64))) = true := decide_eq_true c7
        clear c7
        obtain rfl := Option.some.inj H
        go_enter Try.func119, Try.ntmps119
        go_wp2_with (first | ((with_reducible refine gate_dst (N := 2) rfl ?_); refine box_event ?hg (N := 2) ?hd (cs := #[.int .i64 a0_0, .int .u64 a0_1]) (t := 38) ?hr ?_; (case hd => rfl); (case hg => rfl); (case hr => first | (go_simp; done) | (go_simp; rfl)); intro gb189 hg w8 hbox hb; have n0_ := Aside0.mk (below_step (by repeat (first | (with_reducible first | exact HB.1 | apply below_alloc | apply pw_below_drewN | apply below_drew1) | exact HB.1)) hb); have n1_ := Aside0.mk (hbox); have n2_ := Aside0.mk ((by rw [hg]; exact (below_size (by repeat (first | (with_reducible first | exact HB.1 | apply below_alloc | apply pw_below_drewN | apply below_drew1) | exact HB.1))) : w.heap.size ≤ gb189)); have n3_ := Aside0.mk ((by rw [hg]; exact (below_size (by repeat (first | (with_reducible first | exact HB.1 | apply below_alloc | apply pw_below_drewN | apply below_drew1) | exact HB.1))) : w.heap.size ≤ gb189)); clear HB; have HB := n0_; have BK189 := n1_; have GW189 := n2_; have GE189 := n3_; clear n0_ n1_ n2_ n3_; clear hb hbox hg; have hcz9_0 : w8.cell? ⟨gb189, 0, none⟩ = some (.int .i64 a0_0) := (blk_cell BK189.1 0).trans rfl; have hcz9_1 : w8.cell? ⟨gb189, 1, none⟩ = some (.int .u64 a0_1) := (blk_cell BK189.1 1).trans rfl; have hfz9_0 := blk_frozen BK189.1 0; have hfz9_1 := blk_frozen BK189.1 1) | ((with_reducible refine gate_callee (f := 115) rfl ?_); refine goesL_ (some 8) rfl rfl Try.func115 (by kernel_rfl) rfl #[.agg #[.int .i64 a0_0, .int .u64 a0_1]] rfl (by (try simp only [List.map_toArray, List.map_cons, List.map_nil]); first | done | rfl | (simp only [List.length_drop, List.length_take]; rfl)) ?_; (with_reducible refine (vendmeterref_WindowMay.calls k a0_0 a0_1 true _ A3.out).mono ?_); rintro e w10 ⟨rfl, hb⟩; refine ⟨_, rfl, ?_⟩; have n0_ := Aside0.mk (blk_below (g := gb189) (o := .cells #[.int .i64 a0_0, .int .u64 a0_1] 38 (0, 0)) (by (with_reducible repeat (first | apply xn119 | apply xd119 | apply xa119)); exact BK189.1) hb); have n1_ := Aside0.mk (below_step (by repeat (first | (with_reducible first | exact HB.1 | apply below_alloc | apply pw_below_drewN | apply below_drew1 | refine below_set ?_ GE189.1) | exact HB.1)) hb); clear BK189; clear HB; have BK189 := n0_; have HB := n1_; clear n0_ n1_; (try clear hb); (try clear hb2); (try clear hk); (try clear hi)) | ((with_reducible refine gate_callee (f := 54) rfl ?_); refine goesL_ (some 11) rfl rfl Try.func54 (by kernel_rfl) rfl #[.int .i64 a1, .int .i64 1, .int .i64 1048575] rfl (by (try simp only [List.map_toArray, List.map_cons, List.map_nil]); first | done | rfl | (simp only [List.length_drop, List.length_take]; rfl)) ?_; (with_reducible refine (vendmeterref_In.calls a1 1 1048575 true _ A5.out).mono ?_); rintro e w' ⟨rfl, ⟨nd, rfl⟩⟩; refine ⟨_, rfl, ?_⟩; have hcz11_0 : w10.cell? ⟨gb189, 0, none⟩ = some (.int .i64 a0_0) := (blk_cell BK189.1 0).trans rfl; have hcz11_1 : w10.cell? ⟨gb189, 1, none⟩ = some (.int .u64 a0_1) := (blk_cell BK189.1 1).trans rfl; have hfz11_0 := blk_frozen BK189.1 0; have hfz11_1 := blk_frozen BK189.1 1))
        go_ret
        exact ⟨by first | rfl | (simp [errW_none, errW_some] <;> rfl) | (simp [*, errW_none, errW_some] <;> rfl), by repeat (first | (with_reducible first | exact HB.1 | apply below_alloc | apply pw_below_drewN | apply below_drew1 | refine below_set ?_ GE189.1) | exact HB.1)⟩
      · rw [if_neg c7] at H
        have c7b0 : decide (a1 ≤ (wrap64 (a0_0 - 64))) = false := decide_eq_false c7
        clear c7
        replace H := Option.bind_eq_some_iff.mp H
        obtain ⟨t192, A120, H⟩ := H
        replace H : (vendmeterref_Judged.l0 k a1 t192 0) = some r := H
        have A12 := Aside0.mk A120
        clear A120
        have H' := Aside0.mk H
        clear H
        go_enter Try.func119, Try.ntmps119
        go_wp2_with (first | ((with_reducible refine gate_dst (N := 2) rfl ?_); refine box_event ?hg (N := 2) ?hd (cs := #[.int .i64 a0_0, .int .u64 a0_1]) (t := 38) ?hr ?_; (case hd => rfl); (case hg => rfl); (case hr => first | (go_simp; done) | (go_simp; rfl)); intro gb189 hg w13 hbox hb; have n0_ := Aside0.mk (below_step (by repeat (first | (with_reducible first | exact HB.1 | apply below_alloc | apply pw_below_drewN | apply below_drew1) | exact HB.1)) hb); have n1_ := Aside0.mk (hbox); have n2_ := Aside0.mk ((by rw [hg]; exact (below_size (by repeat (first | (with_reducible first | exact HB.1 | apply below_alloc | apply pw_below_drewN | apply below_drew1) | exact HB.1))) : w.heap.size ≤ gb189)); have n3_ := Aside0.mk ((by rw [hg]; exact (below_size (by repeat (first | (with_reducible first | exact HB.1 | apply below_alloc | apply pw_below_drewN | apply below_drew1) | exact HB.1))) : w.heap.size ≤ gb189)); clear HB; have HB := n0_; have BK189 := n1_; have GW189 := n2_; have GE189 := n3_; clear n0_ n1_ n2_ n3_; clear hb hbox hg; have hcz14_0 : w13.cell? ⟨gb189, 0, none⟩ = some (.int .i64 a0_0) := (blk_cell BK189.1 0).trans rfl; have hcz14_1 : w13.cell? ⟨gb189, 1, none⟩ = some (.int .u64 a0_1) := (blk_cell BK189.1 1).trans rfl; have hfz14_0 := blk_frozen BK189.1 0; have hfz14_1 := blk_frozen BK189.1 1) | ((with_reducible refine gate_callee (f := 115) rfl ?_); refine goesL_ (some 8) rfl rfl Try.func115 (by kernel_rfl) rfl #[.agg #[.int .i64 a0_0, .int .u64 a0_1]] rfl (by (try simp only [List.map_toArray, List.map_cons, List.map_nil]); first | done | rfl | (simp only [List.length_drop, List.length_take]; rfl)) ?_; (with_reducible refine (vendmeterref_WindowMay.calls k a0_0 a0_1 true _ A3.out).mono ?_); rintro e w15 ⟨rfl, hb⟩; refine ⟨_, rfl, ?_⟩; have n0_ := Aside0.mk (blk_below (g := gb189) (o := .cells #[.int .i64 a0_0, .int .u64 a0_1] 38 (0, 0)) (by (with_reducible repeat (first | apply xn119 | apply xd119 | apply xa119)); exact BK189.1) hb); have n1_ := Aside0.mk (below_step (by repeat (first | (with_reducible first | exact HB.1 | apply below_alloc | apply pw_below_drewN | apply below_drew1 | refine below_set ?_ GE189.1) | exact HB.1)) hb); clear BK189; clear HB; have BK189 := n0_; have HB := n1_; clear n0_ n1_; (try clear hb); (try clear hb2); (try clear hk); (try clear hi)) | ((with_reducible refine gate_callee (f := 54) rfl ?_); refine goesL_ (some 11) rfl rfl Try.func54 (by kernel_rfl) rfl #[.int .i64 a1, .int .i64 1, .int .i64 1048575] rfl (by (try simp only [List.map_toArray, List.map_cons, List.map_nil]); first | done | rfl | (simp only [List.length_drop, List.length_take]; rfl)) ?_; (with_reducible refine (vendmeterref_In.calls a1 1 1048575 true _ A5.out).mono ?_); rintro e w' ⟨rfl, ⟨nd, rfl⟩⟩; refine ⟨_, rfl, ?_⟩; have hcz16_0 : w15.cell? ⟨gb189, 0, none⟩ = some (.int .i64 a0_0) := (blk_cell BK189.1 0).trans rfl; have hcz16_1 : w15.cell? ⟨gb189, 1, none⟩ = some (.int .u64 a0_1) := (blk_cell BK189.1 1).trans rfl; have hfz16_0 := blk_frozen BK189.1 0; have hfz16_1 := blk_frozen BK189.1 1) | ((with_reducible refine gate_callee (f := 120) rfl ?_); refine goesL_ (some 19) rfl rfl Try.func120 (by kernel_rfl) rfl #[.agg #[.int .i64 a0_0, .int .u64 a0_1]] rfl (by (try simp only [List.map_toArray, List.map_cons, List.map_nil]); first | done | rfl | (simp only [List.length_drop, List.length_take]; rfl)) ?_; (with_reducible refine (vendmeterref_members.calls k a0_0 a0_1 t192 _ A12.out).mono ?_); rintro e w17 ⟨v193, rfl, ho0, hb⟩; refine ⟨_, rfl, ?_⟩; have n0_ := Aside0.mk (Kd.R_lower ho0 (below_size (by repeat (first | (with_reducible first | exact HB.1 | apply below_alloc | apply pw_below_drewN | apply below_drew1 | refine below_set ?_ GE189.1) | exact HB.1)))); have n1_ := Aside0.mk (blk_below (g := gb189) (o := .cells #[.int .i64 a0_0, .int .u64 a0_1] 38 (0, 0)) (by (with_reducible repeat (first | apply xn119 | apply xd119 | apply xa119)); exact BK189.1) hb); have n2_ := Aside0.mk (below_step (by repeat (first | (with_reducible first | exact HB.1 | apply below_alloc | apply pw_below_drewN | apply below_drew1 | refine below_set ?_ GE189.1) | exact HB.1)) hb); clear BK189; clear HB; have HO194 := n0_; have BK189 := n1_; have HB := n2_; clear n0_ n1_ n2_; (try clear hb); (try clear hb2); (try clear hk); (try clear hi); (try clear ho0)))
        go_loopg [6] k (fun kq v6 w' => ∃ (x6_1 : Int), v6 = .int .i64 x6_1 ∧ Aside0 (vendmeterref_Judged.l0 kq a1 t192 x6_1 = some r) ∧ Aside0 (kq ≤ k) ∧ Aside0 (Kd.R (Kd.int .i64) 3 w' w.heap.size (fun _ => True) v193 t192) ∧ Aside0 (w'.heap[gb189]? = some (.cells #[.int .i64 a0_0, .int .u64 a0_1] 38 (0, 0))) ∧ Aside0 (Below w.heap.size w w'))
        case atStart => exact ⟨(0), (by first | rfl | (simp; done) | (simp [*]; done)), H', ⟨Nat.le_refl _⟩, ⟨by (with_reducible repeat (first | apply Kd.R_alloc | apply Kd.R_drewN | apply Kd.R_drew)); exact HO194.1⟩, ⟨by (with_reducible repeat (first | apply xn119 | apply xd119 | apply xa119)); exact BK189.1⟩, ⟨by repeat (first | (with_reducible first | exact HB.1 | apply below_alloc | apply pw_below_drewN | apply below_drew1 | refine below_set ?_ GE189.1) | exact HB.1)⟩⟩
        case round =>
          clear H'
          try clear c1
          try clear p2
          try clear c4
          try clear c5
          try clear c6
          try clear p6
          try clear c7
          try clear c7b0
          try clear c11
          try clear c12
          try clear hcz11_0
          try clear hcz11_1
          try clear hcz14_0
          try clear hcz14_1
          try clear hcz16_0
          try clear hcz16_1
          try clear hcz9_0
          try clear hcz9_1
          try clear hfz11_0
          try clear hfz11_1
          try clear hfz14_0
          try clear hfz14_1
          try clear hfz16_0
          try clear hfz16_1
          try clear hfz9_0
          try clear hfz9_1
          obtain ⟨x6_1, rfl, HA, HK1, HO_5, BK189, HB⟩ := hrel
          cases gk with
          | zero => exact absurd HA.out (by simp [vendmeterref_Judged.l0])
          | succ k1 =>
            have H := HA.out
            clear HA
            simp only [vendmeterref_Judged.l0] at H
            by_cases c18 : x6_1 < (t192.length : Int)
            · rw [if_pos c18] at H
              have c18b0 : decide (x6_1 < (t192.length : Int)) = true := decide_eq_true c18
              clear c18
              by_cases c19 : 0 ≤ x6_1
              · rw [if_pos c19] at H
                have c19b0 : decide (0 ≤ x6_1) = true := decide_eq_true c19
                clear c19
                by_cases c20 : (rd t192 x6_1) = a1
                · rw [if_pos c20] at H
                  have c20b0 : ((rd t192 x6_1) == a1) = true := beq_iff_eq.mpr c20
                  have c20b1 : ((rd t192 x6_1) != a1) = false := bne_eq_false_iff_eq.mpr c20
                  clear c20
                  obtain rfl := Option.some.inj H
                  obtain ⟨Ao21, co21, eo21⟩ := Kd.R_slice HO_5.out
                  subst eo21
                  have p195 : 0 ≤ (x6_1 : Int) := of_decide_eq_true (by first | (with_reducible assumption) | assumption)
                  have q195 : x6_1 < (t192.length : Int) := of_decide_eq_true (by first | (with_reducible assumption) | assumption)
                  obtain ⟨ad195, e195, hx195_0⟩ := Kd.at_int (Kd.R_reads' HO_5.out).2.2 x6_1 p195 q195
                  cases e195
                  replace p195 := eq_true p195
                  replace q195 := eq_true q195
                  go_wp2
                  go_ret
                  exact ⟨by first | rfl | (simp [errW_none, errW_some] <;> rfl) | (simp [*, errW_none, errW_some] <;> rfl), by repeat (first | (with_reducible first | exact HB.1 | apply below_alloc | apply pw_below_drewN | apply below_drew1 | refine below_set ?_ GE189.1) | exact HB.1)⟩
                · rw [if_neg c20] at H
                  have c20b0 : ((rd t192 x6_1) == a1) = false := beq_eq_false_iff_ne.mpr c20
                  have c20b1 : ((rd t192 x6_1) != a1) = true := bne_iff_ne.mpr c20
                  have H' := Aside0.mk H
                  clear H
                  obtain ⟨Ao22, co22, eo22⟩ := Kd.R_slice HO_5.out
                  subst eo22
                  have p195 : 0 ≤ (x6_1 : Int) := of_decide_eq_true (by first | (with_reducible assumption) | assumption)
                  have q195 : x6_1 < (t192.length : Int) := of_decide_eq_true (by first | (with_reducible assumption) | assumption)
                  obtain ⟨ad195, e195, hx195_0⟩ := Kd.at_int (Kd.R_reads' HO_5.out).2.2 x6_1 p195 q195
                  cases e195
                  replace p195 := eq_true p195
                  replace q195 := eq_true q195
                  go_wp2
                  go_roundg k1
                  case measure => have := HK1.out; omega
                  case rel => exact ⟨(wrap64 (x6_1 + 1)), (by first | rfl | (simp; done) | (simp [*]; done)), H', ⟨by have := HK1.out; omega⟩, ⟨by (with_reducible repeat (first | apply Kd.R_alloc | apply Kd.R_drewN | apply Kd.R_drew)); exact HO_5.out⟩, ⟨by (with_reducible repeat (first | apply xn119 | apply xd119 | apply xa119)); exact BK189.1⟩, ⟨by repeat (first | (with_reducible first | exact HB.1 | apply below_alloc | apply pw_below_drewN | apply below_drew1 | refine below_set ?_ GE189.1) | exact HB.1)⟩⟩
              · rw [if_neg c19] at H
                exact absurd H (by simp)
            · rw [if_neg c18] at H
              have c18b0 : decide (x6_1 < (t192.length : Int)) = false := decide_eq_false c18
              clear c18
              obtain rfl := Option.some.inj H
              obtain ⟨Ao23, co23, eo23⟩ := Kd.R_slice HO_5.out
              subst eo23
              go_wp2
              go_ret
              exact ⟨by first | rfl | (simp [errW_none, errW_some] <;> rfl) | (simp [*, errW_none, errW_some] <;> rfl), by repeat (first | (with_reducible first | exact HB.1 | apply below_alloc | apply pw_below_drewN | apply below_drew1 | refine below_set ?_ GE189.1) | exact HB.1)⟩
    · replace c6 := Bool.eq_false_iff.mpr c6
      subst c6
      have H1 : (some 2) = some r := by rw [if_neg (show ¬ (false = true) by decide)] at H; exact H
      clear H
      have H := H1
      clear H1
      obtain rfl := Option.some.inj H
      go_enter Try.func119, Try.ntmps119
      go_wp2_with (first | ((with_reducible refine gate_dst (N := 2) rfl ?_); refine box_event ?hg (N := 2) ?hd (cs := #[.int .i64 a0_0, .int .u64 a0_1]) (t := 38) ?hr ?_; (case hd => rfl); (case hg => rfl); (case hr => first | (go_simp; done) | (go_simp; rfl)); intro gb189 hg w24 hbox hb; have n0_ := Aside0.mk (below_step (by repeat (first | (with_reducible first | exact HB.1 | apply below_alloc | apply pw_below_drewN | apply below_drew1) | exact HB.1)) hb); have n1_ := Aside0.mk (hbox); have n2_ := Aside0.mk ((by rw [hg]; exact (below_size (by repeat (first | (with_reducible first | exact HB.1 | apply below_alloc | apply pw_below_drewN | apply below_drew1) | exact HB.1))) : w.heap.size ≤ gb189)); have n3_ := Aside0.mk ((by rw [hg]; exact (below_size (by repeat (first | (with_reducible first | exact HB.1 | apply below_alloc | apply pw_below_drewN | apply below_drew1) | exact HB.1))) : w.heap.size ≤ gb189)); clear HB; have HB := n0_; have BK189 := n1_; have GW189 := n2_; have GE189 := n3_; clear n0_ n1_ n2_ n3_; clear hb hbox hg; have hcz25_0 : w24.cell? ⟨gb189, 0, none⟩ = some (.int .i64 a0_0) := (blk_cell BK189.1 0).trans rfl; have hcz25_1 : w24.cell? ⟨gb189, 1, none⟩ = some (.int .u64 a0_1) := (blk_cell BK189.1 1).trans rfl; have hfz25_0 := blk_frozen BK189.1 0; have hfz25_1 := blk_frozen BK189.1 1) | ((with_reducible refine gate_callee (f := 115) rfl ?_); refine goesL_ (some 8) rfl rfl Try.func115 (by kernel_rfl) rfl #[.agg #[.int .i64 a0_0, .int .u64 a0_1]] rfl (by (try simp only [List.map_toArray, List.map_cons, List.map_nil]); first | done | rfl | (simp only [List.length_drop, List.length_take]; rfl)) ?_; (with_reducible refine (vendmeterref_WindowMay.calls k a0_0 a0_1 true _ A3.out).mono ?_); rintro e w26 ⟨rfl, hb⟩; refine ⟨_, rfl, ?_⟩; have n0_ := Aside0.mk (blk_below (g := gb189) (o := .cells #[.int .i64 a0_0, .int .u64 a0_1] 38 (0, 0)) (by (with_reducible repeat (first | apply xn119 | apply xd119 | apply xa119)); exact BK189.1) hb); have n1_ := Aside0.mk (below_step (by repeat (first | (with_reducible first | exact HB.1 | apply below_alloc | apply pw_below_drewN | apply below_drew1 | refine below_set ?_ GE189.1) | exact HB.1)) hb); clear BK189; clear HB; have BK189 := n0_; have HB := n1_; clear n0_ n1_; (try clear hb); (try clear hb2); (try clear hk); (try clear hi)) | ((with_reducible refine gate_callee (f := 54) rfl ?_); refine goesL_ (some 11) rfl rfl Try.func54 (by kernel_rfl) rfl #[.int .i64 a1, .int .i64 1, .int .i64 1048575] rfl (by (try simp only [List.map_toArray, List.map_cons, List.map_nil]); first | done | rfl | (simp only [List.length_drop, List.length_take]; rfl)) ?_; (with_reducible refine (vendmeterref_In.calls a1 1 1048575 false _ A5.out).mono ?_); rintro e w' ⟨rfl, ⟨nd, rfl⟩⟩; refine ⟨_, rfl, ?_⟩))
      go_ret
      exact ⟨by first | rfl | (simp [errW_none, errW_some] <;> rfl) | (simp [*, errW_none, errW_some] <;> rfl), by repeat (first | (with_reducible first | exact HB.1 | apply below_alloc | apply pw_below_drewN | apply below_drew1 | refine below_set ?_ GE189.1) | exact HB.1)⟩
  · replace c4 := Bool.eq_false_iff.mpr c4
    subst c4
    have H1 : (some 5) = some r := by rw [if_neg (show ¬ (false = true) by decide)] at H; exact H
    clear H
    have H := H1
    clear H1
    obtain rfl := Option.some.inj H
    go_enter Try.func119, Try.ntmps119
    go_wp2_with (first | ((with_reducible refine gate_dst (N := 2) rfl ?_); refine box_event ?hg (N := 2) ?hd (cs := #[.int .i64 a0_0, .int .u64 a0_1]) (t := 38) ?hr ?_; (case hd => rfl); (case hg => rfl); (case hr => first | (go_simp; done) | (go_simp; rfl)); intro gb189 hg w27 hbox hb; have n0_ := Aside0.mk (below_step (by repeat (first | (with_reducible first | exact HB.1 | apply below_alloc | apply pw_below_drewN | apply below_drew1) | exact HB.1)) hb); have n1_ := Aside0.mk (hbox); have n2_ := Aside0.mk ((by rw [hg]; exact (below_size (by repeat (first | (with_reducible first | exact HB.1 | apply below_alloc | apply pw_below_drewN | apply below_drew1) | exact HB.1))) : w.heap.size ≤ gb189)); have n3_ := Aside0.mk ((by rw [hg]; exact (below_size (by repeat (first | (with_reducible first | exact HB.1 | apply below_alloc | apply pw_below_drewN | apply below_drew1) | exact HB.1))) : w.heap.size ≤ gb189)); clear HB; have HB := n0_; have BK189 := n1_; have GW189 := n2_; have GE189 := n3_; clear n0_ n1_ n2_ n3_; clear hb hbox hg; have hcz28_0 : w27.cell? ⟨gb189, 0, none⟩ = some (.int .i64 a0_0) := (blk_cell BK189.1 0).trans rfl; have hcz28_1 : w27.cell? ⟨gb189, 1, none⟩ = some (.int .u64 a0_1) := (blk_cell BK189.1 1).trans rfl; have hfz28_0 := blk_frozen BK189.1 0; have hfz28_1 := blk_frozen BK189.1 1) | ((with_reducible refine gate_callee (f := 115) rfl ?_); refine goesL_ (some 8) rfl rfl Try.func115 (by kernel_rfl) rfl #[.agg #[.int .i64 a0_0, .int .u64 a0_1]] rfl (by (try simp only [List.map_toArray, List.map_cons, List.map_nil]); first | done | rfl | (simp only [List.length_drop, List.length_take]; rfl)) ?_; (with_reducible refine (vendmeterref_WindowMay.calls k a0_0 a0_1 false _ A3.out).mono ?_); rintro e w29 ⟨rfl, hb⟩; refine ⟨_, rfl, ?_⟩; have n0_ := Aside0.mk (blk_below (g := gb189) (o := .cells #[.int .i64 a0_0, .int .u64 a0_1] 38 (0, 0)) (by (with_reducible repeat (first | apply xn119 | apply xd119 | apply xa119)); exact BK189.1) hb); have n1_ := Aside0.mk (below_step (by repeat (first | (with_reducible first | exact HB.1 | apply below_alloc | apply pw_below_drewN | apply below_drew1 | refine below_set ?_ GE189.1) | exact HB.1)) hb); clear BK189; clear HB; have BK189 := n0_; have HB := n1_; clear n0_ n1_; (try clear hb); (try clear hb2); (try clear hk); (try clear hi)))
    go_ret
    exact ⟨by first | rfl | (simp [errW_none, errW_some] <;> rfl) | (simp [*, errW_none, errW_some] <;> rfl), by repeat (first | (with_reducible first | exact HB.1 | apply below_alloc | apply pw_below_drewN | apply below_drew1 | refine below_set ?_ GE189.1) | exact HB.1)⟩

end Go.Proofs.Ythmmadniaakapaa.PMeterKeys
