-- written by this session's program wip/xp/xprint.py (it drives the kit's print and adds to it)
import Derived.Test.YtoookcmablnjfaaPWorldBeginsx0
import Derived.Test.YtoookcmablnjfaaPWorldBeginsx4
import Derived.Test.YtoookcmablnjfaaPWorldBeginsx5
namespace Go.Proofs.Ytoookcmablnjfaa.PWorldBegins
open Go.RowKit Go.Proofs.YtoookcmablnjfaaW.PrintWords Go.Proofs.YtoookcmablnjfaaW.PrintLast Go.Proofs.YtoookcmablnjfaaW.PrintMore
attribute [local go_sem] max2_int min2_int max_two min_two max_three min_three max_four min_four   -- for this text's walks alone
set_option linter.unusedVariables false
set_option linter.unusedSimpArgs false

/-! ### meter_Words: function 78 -/
theorem xa78 {w : World} {g : Nat} {o : Obj} (h : w.heap[g]? = some o) (o' : Obj) : (w.alloc o').heap[g]? = some o := blk_alloc h o'
theorem xd78 {w : World} {g : Nat} {o : Obj} (h : w.heap[g]? = some o) : w.drew.heap[g]? = some o := blk_drew h
theorem xn78 {w : World} {g : Nat} {o : Obj} (h : w.heap[g]? = some o) (n : Nat) : (w.drewN n).heap[g]? = some o := blk_drewN h n
theorem ya78 {w W : World} (h : Below w.heap.size w W) (o : Obj) : Below w.heap.size w (W.alloc o) := below_alloc h o
theorem yn78 {B : Nat} {w W : World} (h : Below B w W) (n : Nat) : Below B w (W.drewN n) := pw_below_drewN h n
theorem yd78 {B : Nat} {w W : World} (h : Below B w W) : Below B w W.drew := below_drew1 h
theorem c7_78 {w : World} {g : Nat} {t : TypeId} {x0 x1 x2 x3 x4 x5 x6 : Value} {r : List Value} (h : w.heap[g]? = some (.cells (List.toArray (x0 :: x1 :: x2 :: x3 :: x4 :: x5 :: x6 :: r)) t (0, 0))) : w.cell? ⟨g, 0, none⟩ = some x0 ∧ w.cell? ⟨g, 1, none⟩ = some x1 ∧ w.cell? ⟨g, 2, none⟩ = some x2 ∧ w.cell? ⟨g, 3, none⟩ = some x3 ∧ w.cell? ⟨g, 4, none⟩ = some x4 ∧ w.cell? ⟨g, 5, none⟩ = some x5 ∧ w.cell? ⟨g, 6, none⟩ = some x6 := ⟨(blk_cell h 0).trans rfl, (blk_cell h 1).trans rfl, (blk_cell h 2).trans rfl, (blk_cell h 3).trans rfl, (blk_cell h 4).trans rfl, (blk_cell h 5).trans rfl, (blk_cell h 6).trans rfl⟩
theorem f7_78 {w : World} {g : Nat} {t : TypeId} {cs : Array Value} (h : w.heap[g]? = some (.cells cs t (0, 0))) : w.frozen? ⟨g, 0, none⟩ = false ∧ w.frozen? ⟨g, 1, none⟩ = false ∧ w.frozen? ⟨g, 2, none⟩ = false ∧ w.frozen? ⟨g, 3, none⟩ = false ∧ w.frozen? ⟨g, 4, none⟩ = false ∧ w.frozen? ⟨g, 5, none⟩ = false ∧ w.frozen? ⟨g, 6, none⟩ = false := ⟨blk_frozen h 0, blk_frozen h 1, blk_frozen h 2, blk_frozen h 3, blk_frozen h 4, blk_frozen h 5, blk_frozen h 6⟩
def meter_Words.f (k : Nat) (a0_0 : Int) (a0_1 : Int) (a0_2 : Int) (a0_3 : Int) (a0_4 : Int) (a0_5 : Int) (a0_6 : Int) : Option (List Int × Int) := (meter_may.f k a0_0 a0_1 a0_2 a0_3 a0_4 a0_5 a0_6).bind fun t157 => (if t157 = true then (some ((([(a0_2) % 4294967296, Go.bits .or .u32 (Go.bits .or .u32 (Go.bits .or .u32 ((((a0_6) % 4294967296) * 16777216) % 4294967296) ((((a0_5) % 4294967296) * 65536) % 4294967296)) ((((a0_1) % 4294967296) * 256) % 4294967296)) ((a0_0) % 4294967296), (a0_3) % 4294967296, (a0_4) % 4294967296, (a0_4 / 4294967296) % 4294967296] : List Int)), 0)) else (some (([] : List Int), 5)))
theorem meter_Words.mono : ∀ a0 a1 a2 a3 a4 a5 a6 k, LeO (meter_Words.f k a0 a1 a2 a3 a4 a5 a6) (meter_Words.f (k + 1) a0 a1 a2 a3 a4 a5 a6) := by
  intro a0 a1 a2 a3 a4 a5 a6 k
  unfold meter_Words.f
  repeat' first
      | (with_reducible exact meter_may.mono _ _ _ _ _ _ _ _)
      | (with_reducible exact LeO.refl _)
      | (with_reducible exact LeO.none _)
      | (with_reducible refine LeO.ite ?_ ?_)
      | (with_reducible refine LeO.bind ?_ (fun _ => ?_))
      | exact meter_may.mono _ _ _ _ _ _ _ _
      | exact LeO.none _
      | refine LeO.ite ?_ ?_
      | refine LeO.bind ?_ (fun _ => ?_)
set_option maxHeartbeats 8000000 in
set_option maxRecDepth 100000 in
theorem meter_Words.calls (k : Nat) (a0_0 : Int) (a0_1 : Int) (a0_2 : Int) (a0_3 : Int) (a0_4 : Int) (a0_5 : Int) (a0_6 : Int) (r1 : List Int) (r2 : Int) (w : World) (h : meter_Words.f k a0_0 a0_1 a0_2 a0_3 a0_4 a0_5 a0_6 = some (r1, r2)) :
    Calls Try.prog 78 #[.agg #[.int .i64 a0_0, .int .i64 a0_1, .int .i64 a0_2, .int .i64 a0_3, .int .u64 a0_4, .int .i64 a0_5, .int .i64 a0_6]] w fun e w' => ∃ v0_ : Value, e = .returned (.tuple #[v0_, .int .i64 r2]) ∧ Kd.R (Kd.int .u32) 22 w' w.heap.size (fun _ => True) v0_ r1 ∧ Below w.heap.size w w' := by
  have hu121 := Try.underlying121
  have HB := Aside0.mk (Below.refl w.heap.size w)
  have H : ((meter_may.f k a0_0 a0_1 a0_2 a0_3 a0_4 a0_5 a0_6).bind fun t157 => (if t157 = true then (some ((([(a0_2) % 4294967296, Go.bits .or .u32 (Go.bits .or .u32 (Go.bits .or .u32 ((((a0_6) % 4294967296) * 16777216) % 4294967296) ((((a0_5) % 4294967296) * 65536) % 4294967296)) ((((a0_1) % 4294967296) * 256) % 4294967296)) ((a0_0) % 4294967296), (a0_3) % 4294967296, (a0_4) % 4294967296, (a0_4 / 4294967296) % 4294967296] : List Int)), 0)) else (some (([] : List Int), 5)))) = some (r1, r2) := h
  clear h
  replace H := Option.bind_eq_some_iff.mp H
  obtain ⟨t157, A20, H⟩ := H
  replace H : (if t157 = true then (some ((([(a0_2) % 4294967296, Go.bits .or .u32 (Go.bits .or .u32 (Go.bits .or .u32 ((((a0_6) % 4294967296) * 16777216) % 4294967296) ((((a0_5) % 4294967296) * 65536) % 4294967296)) ((((a0_1) % 4294967296) * 256) % 4294967296)) ((a0_0) % 4294967296), (a0_3) % 4294967296, (a0_4) % 4294967296, (a0_4 / 4294967296) % 4294967296] : List Int)), 0)) else (some (([] : List Int), 5))) = some (r1, r2) := H
  have A2 := Aside0.mk A20
  clear A20
  by_cases c3 : t157 = true
  · subst c3
    have H1 : (some ((([(a0_2) % 4294967296, Go.bits .or .u32 (Go.bits .or .u32 (Go.bits .or .u32 ((((a0_6) % 4294967296) * 16777216) % 4294967296) ((((a0_5) % 4294967296) * 65536) % 4294967296)) ((((a0_1) % 4294967296) * 256) % 4294967296)) ((a0_0) % 4294967296), (a0_3) % 4294967296, (a0_4) % 4294967296, (a0_4 / 4294967296) % 4294967296] : List Int)), 0)) = some (r1, r2) := by rw [if_pos rfl] at H; exact H
    clear H
    have H := H1
    clear H1
    obtain ⟨y158, hy158⟩ : ∃ y_ : List Int, y_ = (([(a0_2) % 4294967296, Go.bits .or .u32 (Go.bits .or .u32 (Go.bits .or .u32 ((((a0_6) % 4294967296) * 16777216) % 4294967296) ((((a0_5) % 4294967296) * 65536) % 4294967296)) ((((a0_1) % 4294967296) * 256) % 4294967296)) ((a0_0) % 4294967296), (a0_3) % 4294967296, (a0_4) % 4294967296, (a0_4 / 4294967296) % 4294967296] : List Int)) := ⟨_, rfl⟩
    replace H : (some (y158, 0)) = some (r1, r2) := by first | (rw [hy158]; with_reducible exact H) | (have H2_ := (Option.bind_some _ _).symm.trans H; rw [hy158]; with_reducible exact H2_) | (have H2_ := (Option.bind_some _ _).symm.trans H; with_reducible exact H2_) | with_reducible exact H | (rw [hy158]; exact H) | exact H
    have Ny158 := Aside0.mk hy158
    clear hy158
    simp only [Option.some.injEq, Prod.mk.injEq] at H
    obtain ⟨rfl, rfl⟩ := H
    go_enter Try.func78, Try.ntmps78
    go_wp2_with (first | ((with_reducible refine gate_dst (N := 1) rfl ?_); refine box_event ?hg (N := 1) ?hd (cs := #[.int .i64 a0_0, .int .i64 a0_1, .int .i64 a0_2, .int .i64 a0_3, .int .u64 a0_4, .int .i64 a0_5, .int .i64 a0_6]) (t := 121) ?hr ?_; (case hd => rfl); (case hg => rfl); (case hr => first | (go_simp; done) | (go_simp; rfl)); intro gb156 hg w4 hbox hb; have n0_ := Aside0.mk (below_step (by with_reducible repeat (first | exact HB.1 | apply ya78 | apply yn78 | apply yd78)) hb); have n1_ := Aside0.mk (hbox); have n2_ := Aside0.mk ((by rw [hg]; exact (below_size (by with_reducible repeat (first | exact HB.1 | apply ya78 | apply yn78 | apply yd78))) : w.heap.size ≤ gb156)); have n3_ := n2_; clear HB; have HB := n0_; have BK156 := n1_; have GW156 := n2_; have GE156 := n3_; clear n0_ n1_ n2_ n3_; clear hb hbox hg; obtain ⟨hcz5_0, hcz5_1, hcz5_2, hcz5_3, hcz5_4, hcz5_5, hcz5_6⟩ := c7_78 BK156.1; obtain ⟨hfz5_0, hfz5_1, hfz5_2, hfz5_3, hfz5_4, hfz5_5, hfz5_6⟩ := f7_78 BK156.1) | ((with_reducible refine gate_callee (f := 96) rfl ?_); refine goesL_ (some 6) rfl rfl Try.func96 (by kernel_rfl) rfl #[.agg #[.int .i64 a0_0, .int .i64 a0_1, .int .i64 a0_2, .int .i64 a0_3, .int .u64 a0_4, .int .i64 a0_5, .int .i64 a0_6]] rfl (by (try simp only [List.map_toArray, List.map_cons, List.map_nil]); first | done | rfl | (simp only [List.length_drop, List.length_take]; rfl)) ?_; (with_reducible refine (meter_may.calls k a0_0 a0_1 a0_2 a0_3 a0_4 a0_5 a0_6 true _ A2.out).mono ?_); rintro e w6 ⟨rfl, hb⟩; refine ⟨_, rfl, ?_⟩; have n0_ := Aside0.mk (blk_below (g := gb156) (o := .cells #[.int .i64 a0_0, .int .i64 a0_1, .int .i64 a0_2, .int .i64 a0_3, .int .u64 a0_4, .int .i64 a0_5, .int .i64 a0_6] 121 (0, 0)) (by (with_reducible repeat (first | apply xn78 | apply xd78 | apply xa78)); exact BK156.1) hb); have n1_ := Aside0.mk (below_step (by with_reducible repeat (first | exact HB.1 | apply ya78 | apply yn78 | apply yd78 | refine below_set ?_ GE156.1)) hb); clear BK156; clear HB; have BK156 := n0_; have HB := n1_; clear n0_ n1_; (try clear hb); (try clear hb2); (try clear hk); (try clear hi); obtain ⟨hcz7_0, hcz7_1, hcz7_2, hcz7_3, hcz7_4, hcz7_5, hcz7_6⟩ := c7_78 BK156.1; obtain ⟨hfz7_0, hfz7_1, hfz7_2, hfz7_3, hfz7_4, hfz7_5, hfz7_6⟩ := f7_78 BK156.1) | ((with_reducible refine gate_dst (N := 43) rfl ?_); refine Kd.R_lit (Kd.int .u32) _ 22 ?hg (N := 43) ?hd (xs := ([(a0_2) % 4294967296, Go.bits .or .u32 (Go.bits .or .u32 (Go.bits .or .u32 ((((a0_6) % 4294967296) * 16777216) % 4294967296) ((((a0_5) % 4294967296) * 65536) % 4294967296)) ((((a0_1) % 4294967296) * 256) % 4294967296)) ((a0_0) % 4294967296), (a0_3) % 4294967296, (a0_4) % 4294967296, (a0_4 / 4294967296) % 4294967296] : List Int)) (inner := [.int .u32 ((a0_2) % 4294967296), .int .u32 (Go.bits .or .u32 (Go.bits .or .u32 (Go.bits .or .u32 ((((a0_6) % 4294967296) * 16777216) % 4294967296) ((((a0_5) % 4294967296) * 65536) % 4294967296)) ((((a0_1) % 4294967296) * 256) % 4294967296)) ((a0_0) % 4294967296)), .int .u32 ((a0_3) % 4294967296), .int .u32 ((a0_4) % 4294967296), .int .u32 ((a0_4 / 4294967296) % 4294967296)]) (ok := fun _ => True) (okp := fun _ => True) ?hr ?hp (fun _ hk => hk) trivial (Below.refl _ _) (Nat.le_refl _) (by simp) ?_; (case hd => rfl); (case hg => rfl); (case hr => first | (go_simp; done) | (go_simp; rfl)); (case hp => exact (Reps.one (show Kd.M (Kd.int .u32) _ _ _ ((a0_2) % 4294967296) [.int .u32 ((a0_2) % 4294967296)] from rfl) (Reps.one (show Kd.M (Kd.int .u32) _ _ _ (Go.bits .or .u32 (Go.bits .or .u32 (Go.bits .or .u32 ((((a0_6) % 4294967296) * 16777216) % 4294967296) ((((a0_5) % 4294967296) * 65536) % 4294967296)) ((((a0_1) % 4294967296) * 256) % 4294967296)) ((a0_0) % 4294967296)) [.int .u32 (Go.bits .or .u32 (Go.bits .or .u32 (Go.bits .or .u32 ((((a0_6) % 4294967296) * 16777216) % 4294967296) ((((a0_5) % 4294967296) * 65536) % 4294967296)) ((((a0_1) % 4294967296) * 256) % 4294967296)) ((a0_0) % 4294967296))] from rfl) (Reps.one (show Kd.M (Kd.int .u32) _ _ _ ((a0_3) % 4294967296) [.int .u32 ((a0_3) % 4294967296)] from rfl) (Reps.one (show Kd.M (Kd.int .u32) _ _ _ ((a0_4) % 4294967296) [.int .u32 ((a0_4) % 4294967296)] from rfl) (Reps.one (show Kd.M (Kd.int .u32) _ _ _ ((a0_4 / 4294967296) % 4294967296) [.int .u32 ((a0_4 / 4294967296) % 4294967296)] from rfl) (Reps.none _ _))))))); intro v159 w8 ho9 hb hg_ hnew_; clear hg_ hnew_; (first | rw [← Ny158.out] at ho9 | (simp only [Int.reduceToNat] at ho9; rw [← Ny158.out] at ho9)); have n0_ := Aside0.mk (Kd.R_lower ho9 (below_size (by with_reducible repeat (first | exact HB.1 | apply ya78 | apply yn78 | apply yd78 | refine below_set ?_ GE156.1)))); have n1_ := Aside0.mk (blk_below (g := gb156) (o := .cells #[.int .i64 a0_0, .int .i64 a0_1, .int .i64 a0_2, .int .i64 a0_3, .int .u64 a0_4, .int .i64 a0_5, .int .i64 a0_6] 121 (0, 0)) (by (with_reducible repeat (first | apply xn78 | apply xd78 | apply xa78)); exact BK156.1) hb); have n2_ := Aside0.mk (below_step (by with_reducible repeat (first | exact HB.1 | apply ya78 | apply yn78 | apply yd78 | refine below_set ?_ GE156.1)) hb); clear BK156; clear HB; have HO160 := n0_; have BK156 := n1_; have HB := n2_; clear n0_ n1_ n2_; clear hb ho9))
    go_ret2
    exact ⟨_, by first | rfl | (simp [errW_none, errW_some] <;> rfl) | (simp [*, errW_none, errW_some] <;> rfl), by (with_reducible repeat (first | apply Kd.R_alloc | apply Kd.R_drewN | apply Kd.R_drew)); exact HO160.1, by repeat (first | (with_reducible first | exact HB.1 | apply below_alloc | apply pw_below_drewN | apply below_drew1 | refine below_set ?_ GE156.1) | exact HB.1)⟩
  · replace c3 := Bool.eq_false_iff.mpr c3
    subst c3
    have H1 : (some (([] : List Int), 5)) = some (r1, r2) := by rw [if_neg (show ¬ (false = true) by decide)] at H; exact H
    clear H
    have H := H1
    clear H1
    simp only [Option.some.injEq, Prod.mk.injEq] at H
    obtain ⟨rfl, rfl⟩ := H
    go_enter Try.func78, Try.ntmps78
    go_wp2_with (first | ((with_reducible refine gate_dst (N := 1) rfl ?_); refine box_event ?hg (N := 1) ?hd (cs := #[.int .i64 a0_0, .int .i64 a0_1, .int .i64 a0_2, .int .i64 a0_3, .int .u64 a0_4, .int .i64 a0_5, .int .i64 a0_6]) (t := 121) ?hr ?_; (case hd => rfl); (case hg => rfl); (case hr => first | (go_simp; done) | (go_simp; rfl)); intro gb156 hg w10 hbox hb; have n0_ := Aside0.mk (below_step (by with_reducible repeat (first | exact HB.1 | apply ya78 | apply yn78 | apply yd78)) hb); have n1_ := Aside0.mk (hbox); have n2_ := Aside0.mk ((by rw [hg]; exact (below_size (by with_reducible repeat (first | exact HB.1 | apply ya78 | apply yn78 | apply yd78))) : w.heap.size ≤ gb156)); have n3_ := n2_; clear HB; have HB := n0_; have BK156 := n1_; have GW156 := n2_; have GE156 := n3_; clear n0_ n1_ n2_ n3_; clear hb hbox hg; obtain ⟨hcz11_0, hcz11_1, hcz11_2, hcz11_3, hcz11_4, hcz11_5, hcz11_6⟩ := c7_78 BK156.1; obtain ⟨hfz11_0, hfz11_1, hfz11_2, hfz11_3, hfz11_4, hfz11_5, hfz11_6⟩ := f7_78 BK156.1) | ((with_reducible refine gate_callee (f := 96) rfl ?_); refine goesL_ (some 6) rfl rfl Try.func96 (by kernel_rfl) rfl #[.agg #[.int .i64 a0_0, .int .i64 a0_1, .int .i64 a0_2, .int .i64 a0_3, .int .u64 a0_4, .int .i64 a0_5, .int .i64 a0_6]] rfl (by (try simp only [List.map_toArray, List.map_cons, List.map_nil]); first | done | rfl | (simp only [List.length_drop, List.length_take]; rfl)) ?_; (with_reducible refine (meter_may.calls k a0_0 a0_1 a0_2 a0_3 a0_4 a0_5 a0_6 false _ A2.out).mono ?_); rintro e w12 ⟨rfl, hb⟩; refine ⟨_, rfl, ?_⟩; have n0_ := Aside0.mk (blk_below (g := gb156) (o := .cells #[.int .i64 a0_0, .int .i64 a0_1, .int .i64 a0_2, .int .i64 a0_3, .int .u64 a0_4, .int .i64 a0_5, .int .i64 a0_6] 121 (0, 0)) (by (with_reducible repeat (first | apply xn78 | apply xd78 | apply xa78)); exact BK156.1) hb); have n1_ := Aside0.mk (below_step (by with_reducible repeat (first | exact HB.1 | apply ya78 | apply yn78 | apply yd78 | refine below_set ?_ GE156.1)) hb); clear BK156; clear HB; have BK156 := n0_; have HB := n1_; clear n0_ n1_; (try clear hb); (try clear hb2); (try clear hk); (try clear hi)))
    go_ret2
    exact ⟨_, by first | rfl | (simp [errW_none, errW_some] <;> rfl) | (simp [*, errW_none, errW_some] <;> rfl), by first | exact Kd.R_nil _ _ _ _ _ | exact Kd.N_nil _ _ _ _ _ | exact Kd.V_nil _ _ _ _ _ | exact Kd.Q_nil _ _ _ _ _ | exact Kd.S_nil _ _ _ _ _, by repeat (first | (with_reducible first | exact HB.1 | apply below_alloc | apply pw_below_drewN | apply below_drew1 | refine below_set ?_ GE156.1) | exact HB.1)⟩

/-! ### slot_Fresh: function 79 -/
theorem xa79 {w : World} {g : Nat} {o : Obj} (h : w.heap[g]? = some o) (o' : Obj) : (w.alloc o').heap[g]? = some o := blk_alloc h o'
theorem xd79 {w : World} {g : Nat} {o : Obj} (h : w.heap[g]? = some o) : w.drew.heap[g]? = some o := blk_drew h
theorem xn79 {w : World} {g : Nat} {o : Obj} (h : w.heap[g]? = some o) (n : Nat) : (w.drewN n).heap[g]? = some o := blk_drewN h n
theorem ya79 {w W : World} (h : Below w.heap.size w W) (o : Obj) : Below w.heap.size w (W.alloc o) := below_alloc h o
theorem yn79 {B : Nat} {w W : World} (h : Below B w W) (n : Nat) : Below B w (W.drewN n) := pw_below_drewN h n
theorem yd79 {B : Nat} {w W : World} (h : Below B w W) : Below B w W.drew := below_drew1 h
def slot_Fresh.f (a0 : Int) : Option (List Int × Int) := if a0 < 1 then (some (([] : List Int), 1)) else (if a0 > 64 then (some (([] : List Int), 1)) else (if 0 ≤ (wrap64 (2 * (wrap64 (a0 + 1)))) then (if (wrap64 (2 * (wrap64 (a0 + 1))) : Int).toNat ≤ 70368744177664 then ((some (List.replicate (wrap64 (2 * (wrap64 (a0 + 1))) : Int).toNat 0 : List Int)).bind fun y161 => (if 0 < (y161.length : Int) then (some ((y161.set (0 : Int).toNat 1), 0)) else (none))) else (none)) else (none)))
set_option maxHeartbeats 8000000 in
set_option maxRecDepth 100000 in
theorem slot_Fresh.calls (a0 : Int) (r1 : List Int) (r2 : Int) (w : World) (h : slot_Fresh.f a0 = some (r1, r2)) :
    Calls Try.prog 79 #[.int .i64 a0] w fun e w' => ∃ v0_ : Value, e = .returned (.tuple #[v0_, .int .i64 r2]) ∧ Kd.R (Kd.int .u32) 22 w' w.heap.size (fun _ => True) v0_ r1 ∧ Below w.heap.size w w' := by
  have HB := Aside0.mk (Below.refl w.heap.size w)
  have H : (if a0 < 1 then (some (([] : List Int), 1)) else (if a0 > 64 then (some (([] : List Int), 1)) else (if 0 ≤ (wrap64 (2 * (wrap64 (a0 + 1)))) then (if (wrap64 (2 * (wrap64 (a0 + 1))) : Int).toNat ≤ 70368744177664 then ((some (List.replicate (wrap64 (2 * (wrap64 (a0 + 1))) : Int).toNat 0 : List Int)).bind fun y161 => (if 0 < (y161.length : Int) then (some ((y161.set (0 : Int).toNat 1), 0)) else (none))) else (none)) else (none)))) = some (r1, r2) := h
  clear h
  by_cases c2 : a0 < 1
  · rw [if_pos c2] at H
    have c2b0 : decide (a0 < 1) = true := decide_eq_true c2
    clear c2
    simp only [Option.some.injEq, Prod.mk.injEq] at H
    obtain ⟨rfl, rfl⟩ := H
    go_enter Try.func79, Try.ntmps79
    go_wp2
    go_ret2
    exact ⟨_, by first | rfl | (simp [errW_none, errW_some] <;> rfl) | (simp [*, errW_none, errW_some] <;> rfl), by first | exact Kd.R_nil _ _ _ _ _ | exact Kd.N_nil _ _ _ _ _ | exact Kd.V_nil _ _ _ _ _ | exact Kd.Q_nil _ _ _ _ _ | exact Kd.S_nil _ _ _ _ _, by repeat (first | (with_reducible first | exact HB.1 | apply below_alloc | apply pw_below_drewN | apply below_drew1) | exact HB.1)⟩
  · rw [if_neg c2] at H
    have c2b0 : decide (a0 < 1) = false := decide_eq_false c2
    clear c2
    by_cases c3 : a0 > 64
    · rw [if_pos c3] at H
      have c3b0 : decide (64 < a0) = true := decide_eq_true c3
      clear c3
      simp only [Option.some.injEq, Prod.mk.injEq] at H
      obtain ⟨rfl, rfl⟩ := H
      go_enter Try.func79, Try.ntmps79
      go_wp2
      go_ret2
      exact ⟨_, by first | rfl | (simp [errW_none, errW_some] <;> rfl) | (simp [*, errW_none, errW_some] <;> rfl), by first | exact Kd.R_nil _ _ _ _ _ | exact Kd.N_nil _ _ _ _ _ | exact Kd.V_nil _ _ _ _ _ | exact Kd.Q_nil _ _ _ _ _ | exact Kd.S_nil _ _ _ _ _, by repeat (first | (with_reducible first | exact HB.1 | apply below_alloc | apply pw_below_drewN | apply below_drew1) | exact HB.1)⟩
    · rw [if_neg c3] at H
      have c3b0 : decide (64 < a0) = false := decide_eq_false c3
      clear c3
      obtain ⟨ji4, hji4⟩ : ∃ j_ : Int, (wrap64 (2 * (wrap64 (a0 + 1)))) = j_ := ⟨_, rfl⟩
      replace H : (if 0 ≤ (ji4) then (if (ji4 : Int).toNat ≤ 70368744177664 then ((some (List.replicate (ji4 : Int).toNat 0 : List Int)).bind fun y161 => (if 0 < (y161.length : Int) then (some ((y161.set (0 : Int).toNat 1), 0)) else (none))) else (none)) else (none)) = some (r1, r2) := by first | (rw [hji4] at H; exact H) | (simp only [hji4] at H ⊢; exact H)
      have hji4w : (IntKind.i64.wrap (2 * (wrap64 (a0 + 1)))) = ji4 := (i64_w _).trans hji4
      by_cases c5 : 0 ≤ (ji4)
      · rw [if_pos c5] at H
        have c5b0 := eq_true c5
        have c5b1 : decide (0 ≤ (ji4)) = true := decide_eq_true c5
        clear c5
        by_cases c6 : (ji4 : Int).toNat ≤ 70368744177664
        · rw [if_pos c6] at H
          have c6b0 := eq_true c6
          have c6b1 : decide ((ji4 : Int).toNat ≤ 70368744177664) = true := decide_eq_true c6
          clear c6
          obtain ⟨y161, hy161⟩ : ∃ y_ : List Int, y_ = (List.replicate (ji4 : Int).toNat 0) := ⟨_, rfl⟩
          replace H : (if 0 < (y161.length : Int) then (some ((y161.set (0 : Int).toNat 1), 0)) else (none)) = some (r1, r2) := by first | (rw [hy161]; with_reducible exact H) | (have H2_ := (Option.bind_some _ _).symm.trans H; rw [hy161]; with_reducible exact H2_) | (have H2_ := (Option.bind_some _ _).symm.trans H; with_reducible exact H2_) | with_reducible exact H | (rw [hy161]; exact H) | exact H
          have Ny161 := Aside0.mk hy161
          clear hy161
          by_cases c7 : 0 < (y161.length : Int)
          · rw [if_pos c7] at H
            have c7b0 : decide (0 < (y161.length : Int)) = true := decide_eq_true c7
            have c7b1 : decide (0 < y161.length) = true := decide_eq_true (by omega)
            clear c7
            obtain ⟨y164, hy164⟩ : ∃ y_ : List Int, y_ = (y161.set (0 : Int).toNat 1) := ⟨_, rfl⟩
            replace H : (some (y164, 0)) = some (r1, r2) := by first | (rw [hy164]; with_reducible exact H) | (have H2_ := (Option.bind_some _ _).symm.trans H; rw [hy164]; with_reducible exact H2_) | (have H2_ := (Option.bind_some _ _).symm.trans H; with_reducible exact H2_) | with_reducible exact H | (rw [hy164]; exact H) | exact H
            have Ny164 := Aside0.mk hy164
            clear hy164
            simp only [Option.some.injEq, Prod.mk.injEq] at H
            obtain ⟨rfl, rfl⟩ := H
            go_enter Try.func79, Try.ntmps79
            go_wp2_with (first | ((with_reducible refine gate_dst (N := 14) rfl ?_); refine Kd.R_make (Kd.int .u32) _ 22 rfl (N := 14) rfl 42 _ _ rfl ji4 rfl rfl Try.underlying42 (.int .u32 0) 4 info22 rfl (by decide) (by omega) 0 (ok := fun _ => True) (okp := fun _ => True) rfl (fun _ hk => hk) trivial (of_decide_eq_true (by first | (with_reducible assumption) | assumption)) (Nat.le_trans (Nat.mul_le_mul_right _ (of_decide_eq_true (by first | (with_reducible assumption) | assumption) : ji4.toNat ≤ 70368744177664)) (by omega)) (Below.refl _ _) (Nat.le_refl _) ?_; intro v162 w9 ho10 hb hg_ hnew_; clear hg_ hnew_; (first | rw [← Ny161.out] at ho10 | (simp only [Int.reduceToNat] at ho10; rw [← Ny161.out] at ho10)); have n0_ := Aside0.mk (Kd.R_lower ho10 (below_size (by with_reducible repeat (first | exact HB.1 | apply ya79 | apply yn79 | apply yd79)))); have n1_ := Aside0.mk (below_step (by with_reducible repeat (first | exact HB.1 | apply ya79 | apply yn79 | apply yd79)) hb); clear HB; have HO163 := n0_; have HB := n1_; clear n0_ n1_; clear hb ho10; have p8 : 0 ≤ (0 : Int) := (by omega); have q8 : (0 : Int) < ((y161.length : Int) : Int) := of_decide_eq_true (by first | (with_reducible assumption) | assumption); have qi8 : (0 < y161.length) = True := eq_true (by omega); obtain ⟨go8, co8, eo8, gb8, gl8, cl8, HG8⟩ := Kd.R_form HO163.1 (by omega); (first | cases eo8 | (injection eo8 with ea_ en_ ec_; (first | subst ea_ | (injection ea_ with ea_; subst ea_)); subst ec_; clear en_)); have GB8 := Aside0.mk gb8; have GG8 := Aside0.mk HG8; clear gb8 gl8 HG8; obtain ⟨hx8_0, hf8_0⟩ := Kd.R_celln 0 HO163.1 (0 : Int) p8 q8; (try rw [show ((0 : Int)).toNat = 0 from rfl] at hx8_0); (try simp only [Nat.reduceMul, Nat.zero_mul, Nat.zero_add, Nat.reduceAdd] at hx8_0); (try rw [show ((0 : Int)).toNat = 0 from rfl] at hf8_0); (try simp only [Nat.reduceMul, Nat.zero_mul, Nat.zero_add, Nat.reduceAdd] at hf8_0); replace p8 := eq_true p8; replace q8 := eq_true q8; obtain ⟨hy11_, hz11_⟩ := Kd.R_celln 0 HO163.1 (0 : Int) (by omega) (of_decide_eq_true (by first | (with_reducible assumption) | assumption)); (try simp only [Int.reduceToNat, Int.toNat_zero, Int.toNat_ofNat, Nat.reduceMul, Nat.zero_mul, Nat.zero_add] at hy11_ hz11_); (try rw [show ((0 : Int)).toNat = 0 from rfl] at hy11_); (try rw [show ((0 : Int)).toNat = 0 from rfl] at hz11_); have HP11 := Kd.R_putg HO163.1 (0 : Int) 1) | ((with_reducible refine gate_store (t := 22) (p := 16) rfl ?_); refine store_event (t := 22) (p := 16) (v := ?vo_w12) (w1 := (w9.setCell ⟨go8, (0 : Int).toNat, none⟩ (.int .u32 1))) ?hg ?ho ?hn ?hr ?_; (case ho => rfl); (case hg => rfl); (case hn => rfl); (case hr => first | (go_simp; done) | (go_simp; rfl)); intro w12 hw; have hg : w9.grownBy w12 (some go8) := (by rw [hw]; exact HP11.2); have hp_ : Kd.R (Kd.int .u32) 22 w12 w.heap.size (fun _ => True) (.slice (some ⟨go8, 0, none⟩) y161.length co8) y164 := (by rw [hw, Ny164.out]; exact HP11.1); clear HP11; have n0_ := Aside0.mk (hp_); have n1_ := Aside0.mk ((by rw [hw]; exact below_set (HB.1) GB8.out : Below w.heap.size w w12)); clear HO163; clear HB; have HO163 := n0_; have HB := n1_; clear n0_ n1_; clear hg hw hp_))
            go_ret2
            exact ⟨_, by first | rfl | (simp [errW_none, errW_some] <;> rfl) | (simp only [← hji4]; first | rfl | (simp [errW_none, errW_some] <;> rfl)) | (simp [*, errW_none, errW_some] <;> rfl), by (with_reducible repeat (first | apply Kd.R_alloc | apply Kd.R_drewN | apply Kd.R_drew)); exact HO163.1, by repeat (first | (with_reducible first | exact HB.1 | apply below_alloc | apply pw_below_drewN | apply below_drew1) | exact HB.1)⟩
          · rw [if_neg c7] at H
            exact absurd H (by simp)
        · rw [if_neg c6] at H
          exact absurd H (by simp)
      · rw [if_neg c5] at H
        exact absurd H (by simp)

/-! ### pocket_Make -/
theorem pocket_Make.word {w : World} {A : Option Addr} {n : Nat} {xs : List Int} (h : Kd.C (Kd.int .u32) w A n xs) (i : Nat) (h1 : i < n) : ∃ ad, A = some ad ∧ w.cell? (ad.add i) = some (.int .u32 (rd xs (i : Int))) := by
  obtain ⟨ad, c, e, hl, hK, hc⟩ := Kd.C_get h 0 (i : Int) (by omega) (by omega)
  obtain rfl : c = [.int .u32 (xs.getD (i : Int).toNat 0)] := hK
  have := hc 0 _ rfl
  simp only [show (Kd.int IntKind.u32).sz = 1 from rfl, Int.toNat_natCast, Nat.mul_one, Nat.add_zero] at this
  exact ⟨ad, e, this⟩
theorem pocket_Make.take {α : Type} (C X Y : List α) (hC : C.take 12 = X) (hX : X.length = 12) (hY : Y.length = 5) : (splice C 1 Y).take 12 = X.take 1 ++ Y ++ X.drop 6 := by
  have hl : 12 ≤ C.length := by have := congrArg List.length hC; rw [List.length_take, hX] at this; omega
  have h1 : (C.take 1).length = 1 := by rw [List.length_take]; omega
  unfold splice
  rw [← hC, hY, List.take_append, h1, List.take_append, hY, List.take_take, List.take_take, List.drop_take, List.append_assoc, List.take_of_length_le (l := Y) (by omega)]
  rfl
def pocket_Make.f (k : Nat) (a0 : Int) : Option (List Int × Int) :=
  (meter_Begin.f k a0).bind fun b => if b.2.2.2.2.2.2.2 = 0 then
    ((meter_Words.f k b.1 b.2.1 b.2.2.1 b.2.2.2.1 b.2.2.2.2.1 b.2.2.2.2.2.1 b.2.2.2.2.2.2.1).bind fun ws => (slot_Fresh.f 5).bind fun c =>
      if c.1.length = 12 ∧ ws.1.length = 5 then some (c.1.take 1 ++ ws.1 ++ c.1.drop 6, 0) else none) else some ([], b.2.2.2.2.2.2.2)
theorem pocket_Make.mono : ∀ a0 k, LeO (pocket_Make.f k a0) (pocket_Make.f (k + 1) a0) := by
  intro a0 k
  unfold pocket_Make.f
  exact LeO.bind (meter_Begin.mono _ _) (fun _ => LeO.ite (LeO.bind (meter_Words.mono _ _ _ _ _ _ _ _) (fun _ => LeO.refl _)) (LeO.refl _))
set_option maxHeartbeats 4000000 in
set_option maxRecDepth 100000 in
theorem pocket_Make.calls (k : Nat) (a0 : Int) (r1 : List Int) (r2 : Int) (w : World) (h : pocket_Make.f k a0 = some (r1, r2)) :
    Calls Try.prog 40 #[.int .i64 a0] w fun e w' => ∃ v0_ : Value, e = .returned (.tuple #[v0_, .int .i64 r2]) ∧ Kd.R (Kd.int .u32) 22 w' w.heap.size (fun _ => True) v0_ r1 ∧ Below w.heap.size w w' := by
  have hu36 := Try.underlying121
  have hu34 := Try.underlying119
  unfold pocket_Make.f at h
  obtain ⟨⟨b1, b2, b3, b4, b5, b6, b7, b8⟩, hb, h⟩ := Option.bind_eq_some_iff.mp h
  have HBG := Aside0.mk hb
  clear hb
  by_cases c1 : b8 = 0
  · subst c1
    simp only [if_true] at h
    obtain ⟨⟨ws, we⟩, hw, h⟩ := Option.bind_eq_some_iff.mp h
    obtain ⟨⟨cs, ce⟩, hc, h⟩ := Option.bind_eq_some_iff.mp h
    have HW := Aside0.mk hw
    have HC := Aside0.mk hc
    clear hw hc
    by_cases c2 : cs.length = 12 ∧ ws.length = 5
    · have h' : some (cs.take 1 ++ ws ++ cs.drop 6, (0 : Int)) = some (r1, r2) := by rw [← h]; exact (if_pos c2).symm
      simp only [Option.some.injEq, Prod.mk.injEq] at h'
      obtain ⟨hr1, rfl⟩ := h'
      have HR := Aside0.mk hr1
      obtain ⟨l1, l2⟩ := c2
      have L1 := Aside0.mk l1
      have L2 := Aside0.mk l2
      clear hr1 h l1 l2
      go_enter Try.func40, Try.ntmps40
      go_wp2_with (first
        | (go_at_call 77; refine (meter_Begin.calls k _ _ _ _ _ _ _ _ _ _ HBG.out).mono ?_; rintro e w1 ⟨rfl, hb1⟩; have HB1 := Aside0.mk hb1; clear hb1)
        | (go_at_call 78; refine (meter_Words.calls k _ _ _ _ _ _ _ _ _ _ HW.out).mono ?_; rintro e w2 ⟨v1, rfl, hR2, hb2⟩; have HB2 := Aside0.mk (below_then (B := w.heap.size) (w := w) (by repeat (first | exact HB1.out | apply below_alloc)) (below_size (by repeat (first | exact HB1.out | apply below_alloc))) hb2); obtain ⟨A1, q1, rfl, hq1, hC1⟩ := Kd.R_reads hR2; rw [L2.out]; have HC1 := Aside0.mk hC1; clear hb2 hR2 hC1))
      go_at_call 79
      refine (slot_Fresh.calls _ _ _ _ HC.out).mono ?_
      rintro e w3 ⟨v2, rfl, hR3, hb3⟩
      have HB3 := Aside0.mk hb3
      obtain ⟨hln, ho⟩ := Kd.own_of_R hR3
      rcases ho with ⟨_, h0⟩ | ⟨g, cap, cur, rfl, hg1, hg2, hg3, hg4, hg5, hg6⟩
      · exact absurd (L1.out.symm.trans h0) (by decide)
      rw [L1.out] at hg3 hg6 ⊢
      have hcap : ¬ cap = 1 := by omega
      have HBW := Aside0.mk (below_then HB2.out (below_size HB2.out) hb3)
      have HC3 := Aside0.mk (Kd.C_below HC1.out hb3)
      have HP : Aside0 (∃ ad, A1 = some ad ∧ ∀ j v, (ws.map (Value.int .u32))[j]? = some v → w3.cell? (ad.add j) = some v) := ⟨by
        obtain ⟨ad, hA, _⟩ := pocket_Make.word HC3.out 0 (by rw [L2.out]; decide)
        refine ⟨ad, hA, fun j v hj => ?_⟩
        have hj5 : j < ws.length := by
          have := (List.getElem?_eq_some_iff.mp hj).1
          rwa [List.length_map] at this
        obtain ⟨ad2, hA2, x⟩ := pocket_Make.word HC3.out j hj5
        rw [hA] at hA2
        cases hA2
        rw [x]
        rw [List.getElem?_map, List.getElem?_eq_getElem hj5] at hj
        rw [← hj]
        simp [rd, List.getElem?_eq_getElem hj5]⟩
      have HG1 := Aside0.mk hg1
      have HG2 := Aside0.mk hg2
      have HG5 := Aside0.mk hg5
      have HG6 := Aside0.mk hg6
      clear hb3 hR3 hln hg1 hg2 hg5 hg6
      go_wp2_with ((with_reducible refine gate_builtin (b := .copy) (xs := #[.tmp 28, .tmp 29]) rfl ?_); refine wpList_copy_splice rfl (.tmp 28) (.tmp 29) 42 42 rfl 22 Try.underlying42 (by kernel_rfl) (some ⟨g, 1, none⟩) A1 11 (cap - 1) 5 q1 rfl rfl g 1 cur.toList 22 (by rw [Array.toArray_toList]; exact HG2.out) (ws.map (Value.int .u32)) (by rw [List.length_map, L2.out]; rfl) ?cP ?cF ?cO w.heap.size w HBW.out ?cG ?_; (case cP => exact fun _ => ⟨rfl, HP.out⟩); (case cF => rw [List.length_map, L2.out, Array.length_toList, HG5.out]; omega); (case cO => intro v hv; obtain ⟨x, _, rfl⟩ := List.mem_map.mp hv; rfl); (case cG => have := HG1.out; have := HB2.out.size; omega); intro w4 hw4 hb4; have HW4 := Aside0.mk hw4; have HB4 := Aside0.mk hb4; clear hw4 hb4)
      go_ret2
      refine ⟨_, rfl, ?_, HB4.out⟩
      have hlen : (cs.take 1 ++ ws ++ cs.drop 6).length = 12 := by
        have := L1.out; have := L2.out
        simp only [List.length_append, List.length_take, List.length_drop]; omega
      rw [← HR.out]
      have hown : w4.ownsRow w.heap.size 22 1 (.slice (some ⟨g, 0, none⟩) 12 cap) (cs.take 1 ++ ws ++ cs.drop 6).length (encs (Value.int .u32) (cs.take 1 ++ ws ++ cs.drop 6)) := by
        refine ⟨by rw [encs, List.length_map, Nat.mul_one], .inr ⟨g, cap, _, by rw [hlen], ?_, HW4.out.out, by omega, hg4, ?_, ?_⟩⟩
        · have := HG1.out; have := HB2.out.size; omega
        · rw [List.size_toArray, length_splice _ _ _ (by rw [List.length_map, L2.out, Array.length_toList, HG5.out]; omega), Array.length_toList]; exact HG5.out
        · have h6 := HG6.out
          rw [Nat.mul_one] at h6
          rw [Nat.mul_one, hlen, List.toList_toArray, pocket_Make.take _ _ _ h6 (by rw [encs, List.length_map]; exact L1.out) (by rw [List.length_map]; exact L2.out)]
          simp [encs, List.map_take, List.map_drop]
      exact Kd.R_of_own (enc := Value.int .u32) (h1 := fun _ => rfl) hown (fun _ _ => trivial)
    · have : (none : Option (List Int × Int)) = some (r1, r2) := by rw [← h]; exact (if_neg c2).symm
      cases this
  · rw [if_neg c1] at h
    simp only [Option.some.injEq, Prod.mk.injEq] at h
    obtain ⟨rfl, rfl⟩ := h
    have c1b : (b8 == 0) = false := beq_eq_false_iff_ne.mpr c1
    have c1c : (b8 != 0) = true := bne_iff_ne.mpr c1
    go_enter Try.func40, Try.ntmps40
    go_wp2_with (go_at_call 77; refine (meter_Begin.calls k _ _ _ _ _ _ _ _ _ _ HBG.out).mono ?_; rintro e w1 ⟨rfl, hb1⟩; have HB1 := Aside0.mk hb1; clear hb1)
    go_ret2
    exact ⟨_, rfl, Kd.R_nil _ _ _ _ _, by repeat (first | exact HB1.out | apply below_alloc)⟩

/-! ### world_Begin: function 17 -/
theorem xa17 {w : World} {g : Nat} {o : Obj} (h : w.heap[g]? = some o) (o' : Obj) : (w.alloc o').heap[g]? = some o := blk_alloc h o'
theorem xd17 {w : World} {g : Nat} {o : Obj} (h : w.heap[g]? = some o) : w.drew.heap[g]? = some o := blk_drew h
theorem xn17 {w : World} {g : Nat} {o : Obj} (h : w.heap[g]? = some o) (n : Nat) : (w.drewN n).heap[g]? = some o := blk_drewN h n
theorem ya17 {w W : World} (h : Below w.heap.size w W) (o : Obj) : Below w.heap.size w (W.alloc o) := below_alloc h o
theorem yn17 {B : Nat} {w W : World} (h : Below B w W) (n : Nat) : Below B w (W.drewN n) := pw_below_drewN h n
theorem yd17 {B : Nat} {w W : World} (h : Below B w W) : Below B w W.drew := below_drew1 h
theorem c5_17 {w : World} {g : Nat} {t : TypeId} {x0 x1 x2 x3 x4 : Value} {r : List Value} (h : w.heap[g]? = some (.cells (List.toArray (x0 :: x1 :: x2 :: x3 :: x4 :: r)) t (0, 0))) : w.cell? ⟨g, 0, none⟩ = some x0 ∧ w.cell? ⟨g, 1, none⟩ = some x1 ∧ w.cell? ⟨g, 2, none⟩ = some x2 ∧ w.cell? ⟨g, 3, none⟩ = some x3 ∧ w.cell? ⟨g, 4, none⟩ = some x4 := ⟨(blk_cell h 0).trans rfl, (blk_cell h 1).trans rfl, (blk_cell h 2).trans rfl, (blk_cell h 3).trans rfl, (blk_cell h 4).trans rfl⟩
theorem c8_17 {w : World} {g : Nat} {t : TypeId} {x0 x1 x2 x3 x4 x5 x6 x7 : Value} {r : List Value} (h : w.heap[g]? = some (.cells (List.toArray (x0 :: x1 :: x2 :: x3 :: x4 :: x5 :: x6 :: x7 :: r)) t (0, 0))) : w.cell? ⟨g, 0, none⟩ = some x0 ∧ w.cell? ⟨g, 1, none⟩ = some x1 ∧ w.cell? ⟨g, 2, none⟩ = some x2 ∧ w.cell? ⟨g, 3, none⟩ = some x3 ∧ w.cell? ⟨g, 4, none⟩ = some x4 ∧ w.cell? ⟨g, 5, none⟩ = some x5 ∧ w.cell? ⟨g, 6, none⟩ = some x6 ∧ w.cell? ⟨g, 7, none⟩ = some x7 := ⟨(blk_cell h 0).trans rfl, (blk_cell h 1).trans rfl, (blk_cell h 2).trans rfl, (blk_cell h 3).trans rfl, (blk_cell h 4).trans rfl, (blk_cell h 5).trans rfl, (blk_cell h 6).trans rfl, (blk_cell h 7).trans rfl⟩
theorem f5_17 {w : World} {g : Nat} {t : TypeId} {cs : Array Value} (h : w.heap[g]? = some (.cells cs t (0, 0))) : w.frozen? ⟨g, 0, none⟩ = false ∧ w.frozen? ⟨g, 1, none⟩ = false ∧ w.frozen? ⟨g, 2, none⟩ = false ∧ w.frozen? ⟨g, 3, none⟩ = false ∧ w.frozen? ⟨g, 4, none⟩ = false := ⟨blk_frozen h 0, blk_frozen h 1, blk_frozen h 2, blk_frozen h 3, blk_frozen h 4⟩
theorem f8_17 {w : World} {g : Nat} {t : TypeId} {cs : Array Value} (h : w.heap[g]? = some (.cells cs t (0, 0))) : w.frozen? ⟨g, 0, none⟩ = false ∧ w.frozen? ⟨g, 1, none⟩ = false ∧ w.frozen? ⟨g, 2, none⟩ = false ∧ w.frozen? ⟨g, 3, none⟩ = false ∧ w.frozen? ⟨g, 4, none⟩ = false ∧ w.frozen? ⟨g, 5, none⟩ = false ∧ w.frozen? ⟨g, 6, none⟩ = false ∧ w.frozen? ⟨g, 7, none⟩ = false := ⟨blk_frozen h 0, blk_frozen h 1, blk_frozen h 2, blk_frozen h 3, blk_frozen h 4, blk_frozen h 5, blk_frozen h 6, blk_frozen h 7⟩
mutual
def world_Begin.j0 : Nat → Int → List Int → Bool → List (S126) → Int → Int → Int → Int → Option ((List (S126)) × Int × Int × Int × Int × List Int × (List (S129)) × (List (List Int)) × Int)
  | 0, _, _, _, _, _, _, _, _ => none
  | k + 1, x2, x9, x35, x166000, x166001, x166002, x166003, x166004 => if x35 = true then (some (([] : List (S126)), 0, 0, 0, 0, ([] : List Int), ([] : List (S129)), ([] : List (List Int)), 2)) else ((world_clone.f k x166000 x166001 x166002 x166003 x166004 x9 ([] : List (S129)) ([] : List (List Int))).bind fun bt172 => (world_Begin.l0 k x2 0 bt172.1 bt172.2.1 bt172.2.2.1 bt172.2.2.2.1 bt172.2.2.2.2.1 bt172.2.2.2.2.2.1 bt172.2.2.2.2.2.2.1 bt172.2.2.2.2.2.2.2))
def world_Begin.l0 : Nat → Int → Int → List (S126) → Int → Int → Int → Int → List Int → List (S129) → List (List Int) → Option ((List (S126)) × Int × Int × Int × Int × List Int × (List (S129)) × (List (List Int)) × Int)
  | 0, _, _, _, _, _, _, _, _, _, _ => none
  | k + 1, x41, x42, x189000, x189001, x189002, x189003, x189004, x189005, x189006, x189007 => if x42 < x41 then ((pocket_Make.f k x42).bind fun bt189 => (if x189007.length < 5864062014805 then (world_Begin.l0 k x41 (wrap64 (x42 + 1)) x189000 x189001 x189002 x189003 x189004 x189005 x189006 (x189007 ++ [bt189.1])) else (none))) else (some (x189000, x189001, x189002, x189003, x189004, x189005, x189006, x189007, 0))
end
def world_Begin.f (k : Nat) (l0_0 : List (S126)) (a0_1 : Int) (a0_2 : Int) (a0_3 : Int) (a0_4 : Int) (a1 : Int) (a2 : Int) : Option ((List (S126)) × Int × Int × Int × Int × List Int × (List (S129)) × (List (List Int)) × Int) := (account_Check.f l0_0 a0_1 a0_2 a0_3 a0_4).bind fun t167 => (if t167 = 0 then ((cell_Blank.f a1).bind fun bt168 => (if bt168.2 = 0 then (if a2 < 0 then (world_Begin.j0 k a2 bt168.1 true l0_0 a0_1 a0_2 a0_3 a0_4) else (world_Begin.j0 k a2 bt168.1 (decide (a2 > 50)) l0_0 a0_1 a0_2 a0_3 a0_4)) else (some (([] : List (S126)), 0, 0, 0, 0, ([] : List Int), ([] : List (S129)), ([] : List (List Int)), bt168.2)))) else (some (([] : List (S126)), 0, 0, 0, 0, ([] : List Int), ([] : List (S129)), ([] : List (List Int)), t167)))
theorem world_Begin.mono_l : ∀ k, (∀ y0 y1 y2 y3 y4 y5 y6 y7, LeO (world_Begin.j0 k y0 y1 y2 y3 y4 y5 y6 y7) (world_Begin.j0 (k + 1) y0 y1 y2 y3 y4 y5 y6 y7)) ∧ (∀ y0 y1 y2 y3 y4 y5 y6 y7 y8 y9, LeO (world_Begin.l0 k y0 y1 y2 y3 y4 y5 y6 y7 y8 y9) (world_Begin.l0 (k + 1) y0 y1 y2 y3 y4 y5 y6 y7 y8 y9))
  | 0 => ⟨fun _ _ _ _ _ _ _ _ r h => by simp [world_Begin.j0] at h, fun _ _ _ _ _ _ _ _ _ _ r h => by simp [world_Begin.l0] at h⟩
  | k + 1 => by
    obtain ⟨ih0, ih1⟩ := world_Begin.mono_l k
    refine ⟨?_, ?_⟩
    · intro y0 y1 y2 y3 y4 y5 y6 y7
      unfold world_Begin.j0
      repeat' first
      | (with_reducible exact ih0 _ _ _ _ _ _ _ _)
      | (with_reducible exact ih1 _ _ _ _ _ _ _ _ _ _)
      | (with_reducible exact pocket_Make.mono _ _)
      | (with_reducible exact world_clone.mono _ _ _ _ _ _ _ _ _)
      | (with_reducible exact LeO.refl _)
      | (with_reducible exact LeO.none _)
      | (with_reducible refine LeO.ite ?_ ?_)
      | (with_reducible refine LeO.bind ?_ (fun _ => ?_))
      | exact ih0 _ _ _ _ _ _ _ _
      | exact ih1 _ _ _ _ _ _ _ _ _ _
      | exact pocket_Make.mono _ _
      | exact world_clone.mono _ _ _ _ _ _ _ _ _
      | exact LeO.none _
      | refine LeO.ite ?_ ?_
      | refine LeO.bind ?_ (fun _ => ?_)
    · intro y0 y1 y2 y3 y4 y5 y6 y7 y8 y9
      unfold world_Begin.l0
      repeat' first
      | (with_reducible exact ih0 _ _ _ _ _ _ _ _)
      | (with_reducible exact ih1 _ _ _ _ _ _ _ _ _ _)
      | (with_reducible exact pocket_Make.mono _ _)
      | (with_reducible exact world_clone.mono _ _ _ _ _ _ _ _ _)
      | (with_reducible exact LeO.refl _)
      | (with_reducible exact LeO.none _)
      | (with_reducible refine LeO.ite ?_ ?_)
      | (with_reducible refine LeO.bind ?_ (fun _ => ?_))
      | exact ih0 _ _ _ _ _ _ _ _
      | exact ih1 _ _ _ _ _ _ _ _ _ _
      | exact pocket_Make.mono _ _
      | exact world_clone.mono _ _ _ _ _ _ _ _ _
      | exact LeO.none _
      | refine LeO.ite ?_ ?_
      | refine LeO.bind ?_ (fun _ => ?_)
theorem world_Begin.mono : ∀ a0 a1 a2 a3 a4 a5 a6 k, LeO (world_Begin.f k a0 a1 a2 a3 a4 a5 a6) (world_Begin.f (k + 1) a0 a1 a2 a3 a4 a5 a6) := by
  intro a0 a1 a2 a3 a4 a5 a6 k
  obtain ⟨ih0, ih1⟩ := world_Begin.mono_l k
  unfold world_Begin.f
  repeat' first
      | (with_reducible exact ih0 _ _ _ _ _ _ _ _)
      | (with_reducible exact ih1 _ _ _ _ _ _ _ _ _ _)
      | (with_reducible exact pocket_Make.mono _ _)
      | (with_reducible exact world_clone.mono _ _ _ _ _ _ _ _ _)
      | (with_reducible exact LeO.refl _)
      | (with_reducible exact LeO.none _)
      | (with_reducible refine LeO.ite ?_ ?_)
      | (with_reducible refine LeO.bind ?_ (fun _ => ?_))
      | exact ih0 _ _ _ _ _ _ _ _
      | exact ih1 _ _ _ _ _ _ _ _ _ _
      | exact pocket_Make.mono _ _
      | exact world_clone.mono _ _ _ _ _ _ _ _ _
      | exact LeO.none _
      | refine LeO.ite ?_ ?_
      | refine LeO.bind ?_ (fun _ => ?_)
set_option maxHeartbeats 8000000 in
set_option maxRecDepth 100000 in
theorem world_Begin.calls (k : Nat) (A0_0 : Option Addr) (c0_0 : Nat) (l0_0 : List (S126)) (a0_1 : Int) (a0_2 : Int) (a0_3 : Int) (a0_4 : Int) (a1 : Int) (a2 : Int) (r1 : List (S126)) (r2 : Int) (r3 : Int) (r4 : Int) (r5 : Int) (r6 : List Int) (r7 : List (S129)) (r8 : List (List Int)) (r9 : Int) (w : World) (hr0_0 : Kd.C k126 w A0_0 l0_0.length l0_0) (hc0_0 : l0_0.length ≤ c0_0) (h : world_Begin.f k l0_0 a0_1 a0_2 a0_3 a0_4 a1 a2 = some (r1, r2, r3, r4, r5, r6, r7, r8, r9)) :
    Calls Try.prog 17 #[.agg #[.slice A0_0 l0_0.length c0_0, .int .i64 a0_1, .int .i64 a0_2, .int .i64 a0_3, .int .i64 a0_4], .int .i64 a1, .int .i64 a2] w fun e w' => ∃ v0_ v5_ v6_ v7_ : Value, e = .returned (.tuple #[.agg #[v0_, .int .i64 r2, .int .i64 r3, .int .i64 r4, .int .i64 r5, v5_, v6_, v7_], .int .i64 r9]) ∧ Kd.R k126 126 w' w.heap.size (fun _ => True) v0_ r1 ∧ Kd.R (Kd.int .u32) 22 w' w.heap.size (fun _ => True) v5_ r6 ∧ Kd.R k129 129 w' w.heap.size (fun _ => True) v6_ r7 ∧ Kd.S (Kd.slice 22 (Kd.int .u32)) 42 w' w.heap.size (fun k_ => some k_ ≠ (v5_ : Value).ownBlock) v7_ r8 ∧ Below w.heap.size w w' := by
  have hu40 := Try.underlying40
  have hu48 := Try.underlying48
  have HR0_0 := Aside0.mk hr0_0
  have HC0_0 := Aside0.mk hc0_0
  clear hr0_0 hc0_0
  have HB := Aside0.mk (Below.refl w.heap.size w)
  have H : ((account_Check.f l0_0 a0_1 a0_2 a0_3 a0_4).bind fun t167 => (if t167 = 0 then ((cell_Blank.f a1).bind fun bt168 => (if bt168.2 = 0 then (if a2 < 0 then (world_Begin.j0 k a2 bt168.1 true l0_0 a0_1 a0_2 a0_3 a0_4) else (world_Begin.j0 k a2 bt168.1 (decide (a2 > 50)) l0_0 a0_1 a0_2 a0_3 a0_4)) else (some (([] : List (S126)), 0, 0, 0, 0, ([] : List Int), ([] : List (S129)), ([] : List (List Int)), bt168.2)))) else (some (([] : List (S126)), 0, 0, 0, 0, ([] : List Int), ([] : List (S129)), ([] : List (List Int)), t167)))) = some (r1, r2, r3, r4, r5, r6, r7, r8, r9) := h
  clear h
  replace H := Option.bind_eq_some_iff.mp H
  obtain ⟨t167, A40, H⟩ := H
  replace H : (if t167 = 0 then ((cell_Blank.f a1).bind fun bt168 => (if bt168.2 = 0 then (if a2 < 0 then (world_Begin.j0 k a2 bt168.1 true l0_0 a0_1 a0_2 a0_3 a0_4) else (world_Begin.j0 k a2 bt168.1 (decide (a2 > 50)) l0_0 a0_1 a0_2 a0_3 a0_4)) else (some (([] : List (S126)), 0, 0, 0, 0, ([] : List Int), ([] : List (S129)), ([] : List (List Int)), bt168.2)))) else (some (([] : List (S126)), 0, 0, 0, 0, ([] : List Int), ([] : List (S129)), ([] : List (List Int)), t167))) = some (r1, r2, r3, r4, r5, r6, r7, r8, r9) := H
  have A4 := Aside0.mk A40
  clear A40
  by_cases c5 : t167 = 0
  · rw [if_pos c5] at H
    have c5b0 : (t167 == 0) = true := beq_iff_eq.mpr c5
    have c5b1 : (t167 != 0) = false := bne_eq_false_iff_eq.mpr c5
    clear c5
    replace H := Option.bind_eq_some_iff.mp H
    obtain ⟨⟨t168, t169⟩, A60, H⟩ := H
    replace H : (if t169 = 0 then (if a2 < 0 then (world_Begin.j0 k a2 t168 true l0_0 a0_1 a0_2 a0_3 a0_4) else (world_Begin.j0 k a2 t168 (decide (a2 > 50)) l0_0 a0_1 a0_2 a0_3 a0_4)) else (some (([] : List (S126)), 0, 0, 0, 0, ([] : List Int), ([] : List (S129)), ([] : List (List Int)), t169))) = some (r1, r2, r3, r4, r5, r6, r7, r8, r9) := H
    have A6 := Aside0.mk A60
    clear A60
    by_cases c7 : t169 = 0
    · rw [if_pos c7] at H
      have c7b0 : (t169 == 0) = true := beq_iff_eq.mpr c7
      have c7b1 : (t169 != 0) = false := bne_eq_false_iff_eq.mpr c7
      clear c7
      have HC8 := Aside0.mk H
      clear H
      go_enter Try.func17, Try.ntmps17
      go_upto_region 7 with (first | ((with_reducible refine gate_dst (N := 3) rfl ?_); refine box_event ?hg (N := 3) ?hd (cs := #[.slice A0_0 l0_0.length c0_0, .int .i64 a0_1, .int .i64 a0_2, .int .i64 a0_3, .int .i64 a0_4]) (t := 40) ?hr ?_; (case hd => rfl); (case hg => rfl); (case hr => first | (go_simp; done) | (go_simp; rfl)); intro gb165 hg w9 hbox hb; have n0_ := Aside0.mk (below_step (by with_reducible repeat (first | exact HB.1 | apply ya17 | apply yn17 | apply yd17)) hb); have n1_ := Aside0.mk (hbox); have n2_ := Aside0.mk ((by rw [hg]; exact (below_size (by with_reducible repeat (first | exact HB.1 | apply ya17 | apply yn17 | apply yd17))) : w.heap.size ≤ gb165)); have n3_ := n2_; clear HB; have HB := n0_; have BK165 := n1_; have GW165 := n2_; have GE165 := n3_; clear n0_ n1_ n2_ n3_; clear hb hbox hg) | ((with_reducible refine gate_dst (N := 6) rfl ?_); refine box_event ?hg (N := 6) ?hd (cs := #[.slice none 0 0, .int .i64 0, .int .i64 0, .int .i64 0, .int .i64 0, .slice none 0 0, .slice none 0 0, .slice none 0 0]) (t := 48) ?hr ?_; (case hd => rfl); (case hg => rfl); (case hr => first | (go_simp; done) | (go_simp; rfl)); intro gb166 hg w10 hbox hb; have n0_ := Aside0.mk (blk_below (g := gb165) (o := .cells #[.slice A0_0 l0_0.length c0_0, .int .i64 a0_1, .int .i64 a0_2, .int .i64 a0_3, .int .i64 a0_4] 40 (0, 0)) (by (with_reducible repeat (first | apply xn17 | apply xd17 | apply xa17)); exact BK165.1) hb); have n1_ := Aside0.mk (below_step (by with_reducible repeat (first | exact HB.1 | apply ya17 | apply yn17 | apply yd17 | refine below_set ?_ GE165.1)) hb); have n2_ := Aside0.mk (hbox); have n3_ := Aside0.mk ((by rw [hg]; exact (below_size (by with_reducible repeat (first | exact HB.1 | apply ya17 | apply yn17 | apply yd17 | refine below_set ?_ GE165.1))) : w.heap.size ≤ gb166)); have n4_ := n3_; have n5_ := Aside0.mk ((by rw [hg]; exact Nat.ne_of_lt (blk_lt (g := gb165) (o := .cells #[.slice A0_0 l0_0.length c0_0, .int .i64 a0_1, .int .i64 a0_2, .int .i64 a0_3, .int .i64 a0_4] 40 (0, 0)) (by (with_reducible repeat (first | apply xn17 | apply xd17 | apply xa17)); exact BK165.1)) : gb165 ≠ gb166)); have n6_ := Aside0.mk ((by rw [hg]; exact Nat.ne_of_gt (blk_lt (g := gb165) (o := .cells #[.slice A0_0 l0_0.length c0_0, .int .i64 a0_1, .int .i64 a0_2, .int .i64 a0_3, .int .i64 a0_4] 40 (0, 0)) (by (with_reducible repeat (first | apply xn17 | apply xd17 | apply xa17)); exact BK165.1)) : gb166 ≠ gb165)); clear BK165; clear HB; have BK165 := n0_; have HB := n1_; have BK166 := n2_; have GW166 := n3_; have GE166 := n4_; have NB165_166 := n5_; have NB166_165 := n6_; clear n0_ n1_ n2_ n3_ n4_ n5_ n6_; clear hb hbox hg; have hnb11 := NB165_166.1; have hnc11 := NB166_165.1; obtain ⟨hcz12_0, hcz12_1, hcz12_2, hcz12_3, hcz12_4⟩ := c5_17 BK165.1; obtain ⟨hfz12_0, hfz12_1, hfz12_2, hfz12_3, hfz12_4⟩ := f5_17 BK165.1) | ((with_reducible refine gate_callee (f := 37) rfl ?_); refine goesL_ (some 16) rfl rfl Try.func37 (by kernel_rfl) rfl #[.agg #[.slice A0_0 l0_0.length c0_0, .int .i64 a0_1, .int .i64 a0_2, .int .i64 a0_3, .int .i64 a0_4]] rfl (by (try simp only [List.map_toArray, List.map_cons, List.map_nil]); first | done | rfl | (simp only [List.length_drop, List.length_take]; rfl)) ?_; (with_reducible refine (account_Check.calls _ _ l0_0 a0_1 a0_2 a0_3 a0_4 t167 _ ?side1 ?side2 A4.out).mono ?_); (case side1 => repeat (first | exact (Kd.C_below HR0_0.out HB.1) | (with_reducible refine Kd.C_alloc ?_ _) | (with_reducible refine Kd.C_drewN ?_ _) | (with_reducible refine Kd.C_drew ?_))); (case side2 => exact HC0_0.out); rintro e w13 ⟨rfl, hb⟩; refine ⟨_, rfl, ?_⟩; have n0_ := Aside0.mk (blk_below (g := gb165) (o := .cells #[.slice A0_0 l0_0.length c0_0, .int .i64 a0_1, .int .i64 a0_2, .int .i64 a0_3, .int .i64 a0_4] 40 (0, 0)) (by (with_reducible repeat (first | apply xn17 | apply xd17 | apply xa17)); exact BK165.1) hb); have n1_ := Aside0.mk (blk_below (g := gb166) (o := .cells #[.slice none 0 0, .int .i64 0, .int .i64 0, .int .i64 0, .int .i64 0, .slice none 0 0, .slice none 0 0, .slice none 0 0] 48 (0, 0)) (by (with_reducible repeat (first | apply xn17 | apply xd17 | apply xa17)); exact BK166.1) hb); have n2_ := Aside0.mk (below_step (by with_reducible repeat (first | exact HB.1 | apply ya17 | apply yn17 | apply yd17 | refine below_set ?_ GE165.1 | refine below_set ?_ GE166.1)) hb); clear BK165; clear BK166; clear HB; have BK165 := n0_; have BK166 := n1_; have HB := n2_; clear n0_ n1_ n2_; (try clear hb); (try clear hb2); (try clear hk); (try clear hi)) | ((with_reducible refine gate_callee (f := 38) rfl ?_); refine goesL_ (some 23) rfl rfl Try.func38 (by kernel_rfl) rfl #[.int .i64 a1] rfl (by (try simp only [List.map_toArray, List.map_cons, List.map_nil]); first | done | rfl | (simp only [List.length_drop, List.length_take]; rfl)) ?_; (with_reducible refine (cell_Blank.calls a1 t168 t169 _ A6.out).mono ?_); rintro e w14 ⟨v170, rfl, ho0, hb⟩; refine ⟨_, rfl, ?_⟩; have n0_ := Aside0.mk (Kd.R_lower ho0 (below_size (by with_reducible repeat (first | exact HB.1 | apply ya17 | apply yn17 | apply yd17 | refine below_set ?_ GE165.1 | refine below_set ?_ GE166.1)))); have n1_ := Aside0.mk (blk_below (g := gb165) (o := .cells #[.slice A0_0 l0_0.length c0_0, .int .i64 a0_1, .int .i64 a0_2, .int .i64 a0_3, .int .i64 a0_4] 40 (0, 0)) (by (with_reducible repeat (first | apply xn17 | apply xd17 | apply xa17)); exact BK165.1) hb); have n2_ := Aside0.mk (blk_below (g := gb166) (o := .cells #[.slice none 0 0, .int .i64 0, .int .i64 0, .int .i64 0, .int .i64 0, .slice none 0 0, .slice none 0 0, .slice none 0 0] 48 (0, 0)) (by (with_reducible repeat (first | apply xn17 | apply xd17 | apply xa17)); exact BK166.1) hb); have n3_ := Aside0.mk (below_step (by with_reducible repeat (first | exact HB.1 | apply ya17 | apply yn17 | apply yd17 | refine below_set ?_ GE165.1 | refine below_set ?_ GE166.1)) hb); clear BK165; clear BK166; clear HB; have HO171 := n0_; have BK165 := n1_; have BK166 := n2_; have HB := n3_; clear n0_ n1_ n2_ n3_; (try clear hb); (try clear hb2); (try clear hk); (try clear hi); (try clear ho0)))
      (try simp only [Act.put, List.setIfInBounds_toArray, List.set_cons_zero, List.set_cons_succ])
      go_cut [35] (fun v35 wc => ∃ (kq : Nat) (x35_7 : Bool), v35 = .bool x35_7 ∧ Aside0 (world_Begin.j0 kq a2 t168 x35_7 l0_0 a0_1 a0_2 a0_3 a0_4 = some (r1, r2, r3, r4, r5, r6, r7, r8, r9)) ∧ Aside0 (kq ≤ k) ∧ Aside0 (Kd.R (Kd.int .u32) 22 wc w.heap.size (fun _ => True) v170 t168) ∧ Aside0 (wc.heap[gb165]? = some (.cells #[(.slice A0_0 l0_0.length c0_0), .int .i64 a0_1, .int .i64 a0_2, .int .i64 a0_3, .int .i64 a0_4] 40 (0, 0))) ∧ Aside0 (wc.heap[gb166]? = some (.cells #[(.slice none 0 0), .int .i64 0, .int .i64 0, .int .i64 0, .int .i64 0, (.slice none 0 0), (.slice none 0 0), (.slice none 0 0)] 48 (0, 0))) ∧ Aside0 (Below w.heap.size w wc))
      case first =>
        have H := HC8.out
        clear HC8
        by_cases c15 : a2 < 0
        · rw [if_pos c15] at H
          have c15b0 : decide (a2 < 0) = true := decide_eq_true c15
          clear c15
          (first | rw [c15b0] | (simp only [i64_w, i32_w]; rw [c15b0]) | skip)
          have H' := Aside0.mk H
          clear H
          go_wp2
          go_meet
          case rel => exact ⟨_, (true), (by first | rfl | (simp; done) | (simp [*]; done)), H', ⟨by first | omega | exact Nat.le_refl _⟩, ⟨by (with_reducible repeat (first | apply Kd.R_alloc | apply Kd.R_drewN | apply Kd.R_drew)); exact HO171.1⟩, ⟨by (with_reducible repeat (first | apply xn17 | apply xd17 | apply xa17)); exact BK165.1⟩, ⟨by (with_reducible repeat (first | apply xn17 | apply xd17 | apply xa17)); exact BK166.1⟩, ⟨by repeat (first | (with_reducible first | exact HB.1 | apply below_alloc | apply pw_below_drewN | apply below_drew1 | refine below_set ?_ GE165.1 | refine below_set ?_ GE166.1) | exact HB.1)⟩⟩
        · rw [if_neg c15] at H
          have c15b0 : decide (a2 < 0) = false := decide_eq_false c15
          clear c15
          (first | rw [c15b0] | (simp only [i64_w, i32_w]; rw [c15b0]) | skip)
          have H' := Aside0.mk H
          clear H
          go_wp2
          go_meet
          case rel => exact ⟨_, (decide (a2 > 50)), (by first | rfl | (simp; done) | (simp [*]; done)), H', ⟨by first | omega | exact Nat.le_refl _⟩, ⟨by (with_reducible repeat (first | apply Kd.R_alloc | apply Kd.R_drewN | apply Kd.R_drew)); exact HO171.1⟩, ⟨by (with_reducible repeat (first | apply xn17 | apply xd17 | apply xa17)); exact BK165.1⟩, ⟨by (with_reducible repeat (first | apply xn17 | apply xd17 | apply xa17)); exact BK166.1⟩, ⟨by repeat (first | (with_reducible first | exact HB.1 | apply below_alloc | apply pw_below_drewN | apply below_drew1 | refine below_set ?_ GE165.1 | refine below_set ?_ GE166.1) | exact HB.1)⟩⟩
      case rest =>
        clear HC8
        try clear c1
        try clear p2
        try clear c3
        try clear c5
        try clear c5b0
        try clear c5b1
        try clear c7
        try clear c7b0
        try clear c7b1
        try clear c11
        try clear c15
        try clear c15b0
        try clear hcz12_0
        try clear hcz12_1
        try clear hcz12_2
        try clear hcz12_3
        try clear hcz12_4
        try clear hfz12_0
        try clear hfz12_1
        try clear hfz12_2
        try clear hfz12_3
        try clear hfz12_4
        obtain ⟨kq, x35_7, rfl, HA, HJ7, HO_9, BK165, BK166, HB⟩ := hcut
        cases kq with
        | zero => exact absurd HA.out (by simp [world_Begin.j0])
        | succ kj7 =>
          have H := HA.out
          clear HA
          simp only [world_Begin.j0] at H
          by_cases c16 : x35_7 = true
          · subst c16
            have H1 : (some (([] : List (S126)), 0, 0, 0, 0, ([] : List Int), ([] : List (S129)), ([] : List (List Int)), 2)) = some (r1, r2, r3, r4, r5, r6, r7, r8, r9) := by rw [if_pos rfl] at H; exact H
            clear H
            have H := H1
            clear H1
            simp only [Option.some.injEq, Prod.mk.injEq] at H
            obtain ⟨rfl, rfl, rfl, rfl, rfl, rfl, rfl, rfl, rfl⟩ := H
            have hnb17 := NB166_165.1
            have hnc17 := NB165_166.1
            obtain ⟨hcz18_0, hcz18_1, hcz18_2, hcz18_3, hcz18_4, hcz18_5, hcz18_6, hcz18_7⟩ := c8_17 BK166.1
            obtain ⟨hfz18_0, hfz18_1, hfz18_2, hfz18_3, hfz18_4, hfz18_5, hfz18_6, hfz18_7⟩ := f8_17 BK166.1
            go_wp2
            refine bodyPost_ret (results_ct rfl _ _ gb166 48 #[.slice none 0 0, .int .i64 0, .int .i64 0, .int .i64 0, .int .i64 0, .slice none 0 0, .slice none 0 0, .slice none 0 0] (0, 0) _ rfl (by (with_reducible repeat (first | apply xn17 | apply xd17 | apply xa17)); refine blk_put (cs := #[.slice none 0 0, .int .i64 0, .int .i64 0, .int .i64 0, .int .i64 0, .slice none 0 0, .slice none 0 0, .slice none 0 0]) ?_ 7 _ rfl; (with_reducible repeat (first | apply xn17 | apply xd17 | apply xa17)); refine blk_put (cs := #[.slice none 0 0, .int .i64 0, .int .i64 0, .int .i64 0, .int .i64 0, .slice none 0 0, .slice none 0 0, .slice none 0 0]) ?_ 6 _ rfl; (with_reducible repeat (first | apply xn17 | apply xd17 | apply xa17)); refine blk_put (cs := #[.slice none 0 0, .int .i64 0, .int .i64 0, .int .i64 0, .int .i64 0, .slice none 0 0, .slice none 0 0, .slice none 0 0]) ?_ 5 _ rfl; (with_reducible repeat (first | apply xn17 | apply xd17 | apply xa17)); refine blk_put (cs := #[.slice none 0 0, .int .i64 0, .int .i64 0, .int .i64 0, .int .i64 0, .slice none 0 0, .slice none 0 0, .slice none 0 0]) ?_ 4 _ rfl; (with_reducible repeat (first | apply xn17 | apply xd17 | apply xa17)); refine blk_put (cs := #[.slice none 0 0, .int .i64 0, .int .i64 0, .int .i64 0, .int .i64 0, .slice none 0 0, .slice none 0 0, .slice none 0 0]) ?_ 3 _ rfl; (with_reducible repeat (first | apply xn17 | apply xd17 | apply xa17)); refine blk_put (cs := #[.slice none 0 0, .int .i64 0, .int .i64 0, .int .i64 0, .int .i64 0, .slice none 0 0, .slice none 0 0, .slice none 0 0]) ?_ 2 _ rfl; (with_reducible repeat (first | apply xn17 | apply xd17 | apply xa17)); refine blk_put (cs := #[.slice none 0 0, .int .i64 0, .int .i64 0, .int .i64 0, .int .i64 0, .slice none 0 0, .slice none 0 0, .slice none 0 0]) ?_ 1 _ rfl; (with_reducible repeat (first | apply xn17 | apply xd17 | apply xa17)); refine blk_put (cs := #[.slice none 0 0, .int .i64 0, .int .i64 0, .int .i64 0, .int .i64 0, .slice none 0 0, .slice none 0 0, .slice none 0 0]) ?_ 0 _ rfl; (with_reducible repeat (first | apply xn17 | apply xd17 | apply xa17)); exact BK166.1) Try.underlying48 rfl (by kernel_rfl)) rfl ?_
            exact ⟨_, _, _, _, by first | rfl | (simp [errW_none, errW_some] <;> rfl) | (simp [*, errW_none, errW_some] <;> rfl), by first | exact Kd.R_nil _ _ _ _ _ | exact Kd.N_nil _ _ _ _ _ | exact Kd.V_nil _ _ _ _ _ | exact Kd.Q_nil _ _ _ _ _ | exact Kd.S_nil _ _ _ _ _, by first | exact Kd.R_nil _ _ _ _ _ | exact Kd.N_nil _ _ _ _ _ | exact Kd.V_nil _ _ _ _ _ | exact Kd.Q_nil _ _ _ _ _ | exact Kd.S_nil _ _ _ _ _, by first | exact Kd.R_nil _ _ _ _ _ | exact Kd.N_nil _ _ _ _ _ | exact Kd.V_nil _ _ _ _ _ | exact Kd.Q_nil _ _ _ _ _ | exact Kd.S_nil _ _ _ _ _, by first | exact Kd.S_nil _ _ _ _ _ | exact Kd.N_nil _ _ _ _ _ | exact Kd.V_nil _ _ _ _ _ | exact Kd.Q_nil _ _ _ _ _ | exact Kd.R_nil _ _ _ _ _, by repeat (first | (with_reducible first | exact HB.1 | apply below_alloc | apply pw_below_drewN | apply below_drew1 | refine below_set ?_ GE165.1 | refine below_set ?_ GE166.1) | exact HB.1)⟩
          · replace c16 := Bool.eq_false_iff.mpr c16
            subst c16
            have H1 : ((world_clone.f kj7 l0_0 a0_1 a0_2 a0_3 a0_4 t168 ([] : List (S129)) ([] : List (List Int))).bind fun bt172 => (world_Begin.l0 kj7 a2 0 bt172.1 bt172.2.1 bt172.2.2.1 bt172.2.2.2.1 bt172.2.2.2.2.1 bt172.2.2.2.2.2.1 bt172.2.2.2.2.2.2.1 bt172.2.2.2.2.2.2.2)) = some (r1, r2, r3, r4, r5, r6, r7, r8, r9) := by rw [if_neg (show ¬ (false = true) by decide)] at H; exact H
            clear H
            have H := H1
            clear H1
            replace H := Option.bind_eq_some_iff.mp H
            obtain ⟨⟨t172, t175, t176, t177, t178, t179, t182, t185⟩, A190, H⟩ := H
            replace H : (world_Begin.l0 kj7 a2 0 t172 t175 t176 t177 t178 t179 t182 t185) = some (r1, r2, r3, r4, r5, r6, r7, r8, r9) := H
            have A19 := Aside0.mk A190
            clear A190
            have H' := Aside0.mk H
            clear H
            have hnb20 := NB165_166.1
            have hnc20 := NB166_165.1
            obtain ⟨hcz21_0, hcz21_1, hcz21_2, hcz21_3, hcz21_4⟩ := c5_17 BK165.1
            obtain ⟨hfz21_0, hfz21_1, hfz21_2, hfz21_3, hfz21_4⟩ := f5_17 BK165.1
            obtain ⟨Ao22, co22, eo22⟩ := Kd.R_slice HO_9.out
            subst eo22
            go_wp2_with (first | ((with_reducible refine gate_callee (f := 39) rfl ?_); refine goesL_ (some 40) rfl rfl Try.func39 (by kernel_rfl) rfl #[.agg #[.slice A0_0 l0_0.length c0_0, .int .i64 a0_1, .int .i64 a0_2, .int .i64 a0_3, .int .i64 a0_4, .slice Ao22 t168.length co22, .slice none 0 0, .slice none 0 0]] rfl (by (try simp only [List.map_toArray, List.map_cons, List.map_nil]); first | done | rfl | (simp only [List.length_drop, List.length_take]; rfl)) ?_; (refine (world_clone.calls kj7 _ _ l0_0 a0_1 a0_2 a0_3 a0_4 _ _ t168 _ _ ([] : List (S129)) _ _ ([] : List (List Int)) t172 t175 t176 t177 t178 t179 t182 t185 _ ?side1 ?side2 ?side3 ?side4 ?side5 ?side6 ?side7 ?side8 A19.out).mono ?_); (case side1 => repeat (first | exact (Kd.C_below HR0_0.out HB.1) | (with_reducible refine Kd.C_alloc ?_ _) | (with_reducible refine Kd.C_drewN ?_ _) | (with_reducible refine Kd.C_drew ?_))); (case side2 => exact HC0_0.out); (case side3 => repeat (first | exact (Kd.R_reads' HO_9.out).2.2 | (with_reducible refine Kd.C_alloc ?_ _) | (with_reducible refine Kd.C_drewN ?_ _) | (with_reducible refine Kd.C_drew ?_))); (case side4 => exact (Kd.R_reads' HO_9.out).2.1); (case side5 => exact Kd.C_nil _ _); (case side6 => exact Nat.le_refl _); (case side7 => exact Kd.C_nil _ _); (case side8 => exact Nat.le_refl _); rintro e w23 ⟨v173, v180, v183, v186, rfl, ho0, ho1, ho2, ho3, hb⟩; refine ⟨_, rfl, ?_⟩; have n0_ := Aside0.mk (Kd.R_elder' (by (with_reducible repeat (first | apply Kd.R_alloc | apply Kd.R_drewN | apply Kd.R_drew)); exact HO_9.out) (Kd.R_base ho1) hb); have n1_ := Aside0.mk (Kd.R_lower ho0 (below_size (by with_reducible repeat (first | exact HB.1 | apply ya17 | apply yn17 | apply yd17 | refine below_set ?_ GE165.1 | refine below_set ?_ GE166.1)))); have n2_ := Aside0.mk (Kd.R_lower (Kd.R_new' ho1 (Kd.R_lt (by (with_reducible repeat (first | apply Kd.R_alloc | apply Kd.R_drewN | apply Kd.R_drew)); exact HO_9.out))) (below_size (by with_reducible repeat (first | exact HB.1 | apply ya17 | apply yn17 | apply yd17 | refine below_set ?_ GE165.1 | refine below_set ?_ GE166.1)))); have n3_ := Aside0.mk (Kd.R_lower ho2 (below_size (by with_reducible repeat (first | exact HB.1 | apply ya17 | apply yn17 | apply yd17 | refine below_set ?_ GE165.1 | refine below_set ?_ GE166.1)))); have n4_ := Aside0.mk (Kd.S_lower (Kd.S_new' ho3 (Kd.R_lt (by (with_reducible repeat (first | apply Kd.R_alloc | apply Kd.R_drewN | apply Kd.R_drew)); exact HO_9.out))) (below_size (by with_reducible repeat (first | exact HB.1 | apply ya17 | apply yn17 | apply yd17 | refine below_set ?_ GE165.1 | refine below_set ?_ GE166.1)))); have n5_ := Aside0.mk (blk_below (g := gb165) (o := .cells #[.slice A0_0 l0_0.length c0_0, .int .i64 a0_1, .int .i64 a0_2, .int .i64 a0_3, .int .i64 a0_4] 40 (0, 0)) (by (with_reducible repeat (first | apply xn17 | apply xd17 | apply xa17)); exact BK165.1) hb); have n6_ := Aside0.mk (blk_below (g := gb166) (o := .cells #[.slice none 0 0, .int .i64 0, .int .i64 0, .int .i64 0, .int .i64 0, .slice none 0 0, .slice none 0 0, .slice none 0 0] 48 (0, 0)) (by (with_reducible repeat (first | apply xn17 | apply xd17 | apply xa17)); exact BK166.1) hb); have n7_ := Aside0.mk (below_step (by with_reducible repeat (first | exact HB.1 | apply ya17 | apply yn17 | apply yd17 | refine below_set ?_ GE165.1 | refine below_set ?_ GE166.1)) hb); clear HO_9; clear BK165; clear BK166; clear HB; have HO_9 := n0_; have HO174 := n1_; have HO181 := n2_; have HO184 := n3_; have HO187 := n4_; have BK165 := n5_; have BK166 := n6_; have HB := n7_; clear n0_ n1_ n2_ n3_ n4_ n5_ n6_ n7_; (try clear hb); (try clear hb2); (try clear hk); (try clear hi); (try clear ho0); (try clear ho1); (try clear ho2); (try clear ho3)) | ((with_reducible refine gate_dst (N := 11) rfl ?_); refine box_event ?hg (N := 11) ?hd (cs := #[.slice none 0 0, .int .i64 0, .int .i64 0, .int .i64 0, .int .i64 0, .slice none 0 0, .slice none 0 0, .slice none 0 0]) (t := 48) ?hr ?_; (case hd => rfl); (case hg => rfl); (case hr => first | (go_simp; done) | (go_simp; rfl)); intro gb188 hg w24 hbox hb; have n0_ := Aside0.mk (Kd.R_below (by (with_reducible repeat (first | apply Kd.R_alloc | apply Kd.R_drewN | apply Kd.R_drew)); exact HO_9.out) hb); have n1_ := Aside0.mk (Kd.R_below (by (with_reducible repeat (first | apply Kd.R_alloc | apply Kd.R_drewN | apply Kd.R_drew)); exact HO174.1) hb); have n2_ := Aside0.mk (Kd.R_below (by (with_reducible repeat (first | apply Kd.R_alloc | apply Kd.R_drewN | apply Kd.R_drew)); exact HO181.1) hb); have n3_ := Aside0.mk (Kd.R_below (by (with_reducible repeat (first | apply Kd.R_alloc | apply Kd.R_drewN | apply Kd.R_drew)); exact HO184.1) hb); have n4_ := Aside0.mk (Kd.S_below (by (with_reducible repeat (first | apply Kd.S_alloc | apply Kd.S_drewN | apply Kd.S_drew)); exact HO187.1) hb); have n5_ := Aside0.mk (blk_below (g := gb165) (o := .cells #[.slice A0_0 l0_0.length c0_0, .int .i64 a0_1, .int .i64 a0_2, .int .i64 a0_3, .int .i64 a0_4] 40 (0, 0)) (by (with_reducible repeat (first | apply xn17 | apply xd17 | apply xa17)); exact BK165.1) hb); have n6_ := Aside0.mk (blk_below (g := gb166) (o := .cells #[.slice none 0 0, .int .i64 0, .int .i64 0, .int .i64 0, .int .i64 0, .slice none 0 0, .slice none 0 0, .slice none 0 0] 48 (0, 0)) (by (with_reducible repeat (first | apply xn17 | apply xd17 | apply xa17)); exact BK166.1) hb); have n7_ := Aside0.mk (below_step (by with_reducible repeat (first | exact HB.1 | apply ya17 | apply yn17 | apply yd17 | refine below_set ?_ GE165.1 | refine below_set ?_ GE166.1)) hb); have n8_ := Aside0.mk (hbox); have n9_ := Aside0.mk ((by rw [hg]; exact (below_size (by with_reducible repeat (first | exact HB.1 | apply ya17 | apply yn17 | apply yd17 | refine below_set ?_ GE165.1 | refine below_set ?_ GE166.1))) : w.heap.size ≤ gb188)); have n10_ := n9_; have n11_ := Aside0.mk ((by rw [hg]; exact Nat.ne_of_lt (blk_lt (g := gb165) (o := .cells #[.slice A0_0 l0_0.length c0_0, .int .i64 a0_1, .int .i64 a0_2, .int .i64 a0_3, .int .i64 a0_4] 40 (0, 0)) (by (with_reducible repeat (first | apply xn17 | apply xd17 | apply xa17)); exact BK165.1)) : gb165 ≠ gb188)); have n12_ := Aside0.mk ((by rw [hg]; exact Nat.ne_of_gt (blk_lt (g := gb165) (o := .cells #[.slice A0_0 l0_0.length c0_0, .int .i64 a0_1, .int .i64 a0_2, .int .i64 a0_3, .int .i64 a0_4] 40 (0, 0)) (by (with_reducible repeat (first | apply xn17 | apply xd17 | apply xa17)); exact BK165.1)) : gb188 ≠ gb165)); have n13_ := Aside0.mk ((by rw [hg]; exact Nat.ne_of_lt (blk_lt (g := gb166) (o := .cells #[.slice none 0 0, .int .i64 0, .int .i64 0, .int .i64 0, .int .i64 0, .slice none 0 0, .slice none 0 0, .slice none 0 0] 48 (0, 0)) (by (with_reducible repeat (first | apply xn17 | apply xd17 | apply xa17)); exact BK166.1)) : gb166 ≠ gb188)); have n14_ := Aside0.mk ((by rw [hg]; exact Nat.ne_of_gt (blk_lt (g := gb166) (o := .cells #[.slice none 0 0, .int .i64 0, .int .i64 0, .int .i64 0, .int .i64 0, .slice none 0 0, .slice none 0 0, .slice none 0 0] 48 (0, 0)) (by (with_reducible repeat (first | apply xn17 | apply xd17 | apply xa17)); exact BK166.1)) : gb188 ≠ gb166)); clear HO_9; clear HO174; clear HO181; clear HO184; clear HO187; clear BK165; clear BK166; clear HB; have HO_9 := n0_; have HO174 := n1_; have HO181 := n2_; have HO184 := n3_; have HO187 := n4_; have BK165 := n5_; have BK166 := n6_; have HB := n7_; have BK188 := n8_; have GW188 := n9_; have GE188 := n10_; have NB165_188 := n11_; have NB188_165 := n12_; have NB166_188 := n13_; have NB188_166 := n14_; clear n0_ n1_ n2_ n3_ n4_ n5_ n6_ n7_ n8_ n9_ n10_ n11_ n12_ n13_ n14_; clear hb hbox hg; obtain ⟨Ao25, co25, eo25⟩ := Kd.R_slice HO174.1; subst eo25; have hnb26 := NB188_165.1; have hnc26 := NB165_188.1; have hnb27 := NB188_166.1; have hnc27 := NB166_188.1; obtain ⟨hcz28_0, hcz28_1, hcz28_2, hcz28_3, hcz28_4, hcz28_5, hcz28_6, hcz28_7⟩ := c8_17 BK188.1; obtain ⟨hfz28_0, hfz28_1, hfz28_2, hfz28_3, hfz28_4, hfz28_5, hfz28_6, hfz28_7⟩ := f8_17 BK188.1; obtain ⟨Ao29, co29, eo29⟩ := Kd.R_slice HO181.1; subst eo29; obtain ⟨Ao30, co30, eo30⟩ := Kd.R_slice HO184.1; subst eo30; obtain ⟨Ao31, co31, eo31⟩ := Kd.S_slice HO187.1; subst eo31))
            go_loopg [42] kj7 (fun kq v42 w' => ∃ (x42_2 : Int) (x189007_2 : List (List Int)) (u189007 : Value), v42 = .int .i64 x42_2 ∧ Aside0 (world_Begin.l0 kq a2 x42_2 t172 t175 t176 t177 t178 t179 t182 x189007_2 = some (r1, r2, r3, r4, r5, r6, r7, r8, r9)) ∧ Aside0 (kq ≤ kj7) ∧ Aside0 (Kd.R k126 126 w' w.heap.size (fun _ => True) (.slice Ao25 t172.length co25) t172) ∧ Aside0 (Kd.R (Kd.int .u32) 22 w' w.heap.size (fun _ => True) (.slice Ao29 t179.length co29) t179) ∧ Aside0 (Kd.R k129 129 w' w.heap.size (fun _ => True) (.slice Ao30 t182.length co30) t182) ∧ Aside0 (Kd.S (Kd.slice 22 (Kd.int .u32)) 42 w' w.heap.size (fun k_ => some k_ ≠ ((.slice Ao29 t179.length co29) : Value).ownBlock) u189007 x189007_2) ∧ Aside0 (w'.heap[gb165]? = some (.cells #[(.slice A0_0 l0_0.length c0_0), .int .i64 a0_1, .int .i64 a0_2, .int .i64 a0_3, .int .i64 a0_4] 40 (0, 0))) ∧ Aside0 (w'.heap[gb166]? = some (.cells #[(.slice none 0 0), .int .i64 0, .int .i64 0, .int .i64 0, .int .i64 0, (.slice none 0 0), (.slice none 0 0), (.slice none 0 0)] 48 (0, 0))) ∧ Aside0 (w'.heap[gb188]? = some (.cells #[(.slice Ao25 t172.length co25), .int .i64 t175, .int .i64 t176, .int .i64 t177, .int .i64 t178, (.slice Ao29 t179.length co29), (.slice Ao30 t182.length co30), u189007] 48 (0, 0))) ∧ Aside0 (Below w.heap.size w w'))
            case atStart => exact ⟨(0), (t185), (.slice Ao31 t185.length co31), (by first | rfl | (simp; done) | (simp [*]; done)), H', ⟨Nat.le_refl _⟩, ⟨by (with_reducible repeat (first | apply Kd.R_alloc | apply Kd.R_drewN | apply Kd.R_drew)); exact Kd.R_mono (Kd.R_far (p := ⟨gb188, 7, none⟩) (Kd.R_far (p := ⟨gb188, 6, none⟩) (Kd.R_far (p := ⟨gb188, 5, none⟩) (Kd.R_far (p := ⟨gb188, 4, none⟩) (Kd.R_far (p := ⟨gb188, 3, none⟩) (Kd.R_far (p := ⟨gb188, 2, none⟩) (Kd.R_far (p := ⟨gb188, 1, none⟩) (Kd.R_far (p := ⟨gb188, 0, none⟩) (Kd.R_types HO174.1 BK188.1 (by decide)) (fun _ hk => hk.2) (.slice Ao25 t172.length co25)) (fun _ hk => hk.2) (.int .i64 t175)) (fun _ hk => hk.2) (.int .i64 t176)) (fun _ hk => hk.2) (.int .i64 t177)) (fun _ hk => hk.2) (.int .i64 t178)) (fun _ hk => hk.2) (.slice Ao29 t179.length co29)) (fun _ hk => hk.2) (.slice Ao30 t182.length co30)) (fun _ hk => hk.2) (.slice Ao31 t185.length co31)) (fun _ hk => trivial)⟩, ⟨by (with_reducible repeat (first | apply Kd.R_alloc | apply Kd.R_drewN | apply Kd.R_drew)); exact Kd.R_mono (Kd.R_far (p := ⟨gb188, 7, none⟩) (Kd.R_far (p := ⟨gb188, 6, none⟩) (Kd.R_far (p := ⟨gb188, 5, none⟩) (Kd.R_far (p := ⟨gb188, 4, none⟩) (Kd.R_far (p := ⟨gb188, 3, none⟩) (Kd.R_far (p := ⟨gb188, 2, none⟩) (Kd.R_far (p := ⟨gb188, 1, none⟩) (Kd.R_far (p := ⟨gb188, 0, none⟩) (Kd.R_types HO181.1 BK188.1 (by decide)) (fun _ hk => hk.2) (.slice Ao25 t172.length co25)) (fun _ hk => hk.2) (.int .i64 t175)) (fun _ hk => hk.2) (.int .i64 t176)) (fun _ hk => hk.2) (.int .i64 t177)) (fun _ hk => hk.2) (.int .i64 t178)) (fun _ hk => hk.2) (.slice Ao29 t179.length co29)) (fun _ hk => hk.2) (.slice Ao30 t182.length co30)) (fun _ hk => hk.2) (.slice Ao31 t185.length co31)) (fun _ hk => trivial)⟩, ⟨by (with_reducible repeat (first | apply Kd.R_alloc | apply Kd.R_drewN | apply Kd.R_drew)); exact Kd.R_mono (Kd.R_far (p := ⟨gb188, 7, none⟩) (Kd.R_far (p := ⟨gb188, 6, none⟩) (Kd.R_far (p := ⟨gb188, 5, none⟩) (Kd.R_far (p := ⟨gb188, 4, none⟩) (Kd.R_far (p := ⟨gb188, 3, none⟩) (Kd.R_far (p := ⟨gb188, 2, none⟩) (Kd.R_far (p := ⟨gb188, 1, none⟩) (Kd.R_far (p := ⟨gb188, 0, none⟩) (Kd.R_types HO184.1 BK188.1 (by decide)) (fun _ hk => hk.2) (.slice Ao25 t172.length co25)) (fun _ hk => hk.2) (.int .i64 t175)) (fun _ hk => hk.2) (.int .i64 t176)) (fun _ hk => hk.2) (.int .i64 t177)) (fun _ hk => hk.2) (.int .i64 t178)) (fun _ hk => hk.2) (.slice Ao29 t179.length co29)) (fun _ hk => hk.2) (.slice Ao30 t182.length co30)) (fun _ hk => hk.2) (.slice Ao31 t185.length co31)) (fun _ hk => trivial)⟩, ⟨by (with_reducible repeat (first | apply Kd.S_alloc | apply Kd.S_drewN | apply Kd.S_drew)); exact Kd.S_mono (Kd.S_far (p := ⟨gb188, 7, none⟩) (Kd.S_far (p := ⟨gb188, 6, none⟩) (Kd.S_far (p := ⟨gb188, 5, none⟩) (Kd.S_far (p := ⟨gb188, 4, none⟩) (Kd.S_far (p := ⟨gb188, 3, none⟩) (Kd.S_far (p := ⟨gb188, 2, none⟩) (Kd.S_far (p := ⟨gb188, 1, none⟩) (Kd.S_far (p := ⟨gb188, 0, none⟩) (Kd.S_types HO187.1 BK188.1 (by decide)) (fun _ hk => hk.2) (.slice Ao25 t172.length co25)) (fun _ hk => hk.2) (.int .i64 t175)) (fun _ hk => hk.2) (.int .i64 t176)) (fun _ hk => hk.2) (.int .i64 t177)) (fun _ hk => hk.2) (.int .i64 t178)) (fun _ hk => hk.2) (.slice Ao29 t179.length co29)) (fun _ hk => hk.2) (.slice Ao30 t182.length co30)) (fun _ hk => hk.2) (.slice Ao31 t185.length co31)) (fun _ hk => hk.1.1)⟩, ⟨by (with_reducible repeat (first | apply xn17 | apply xd17 | apply xa17)); refine blk_far ?_ NB165_188.1 _; (with_reducible repeat (first | apply xn17 | apply xd17 | apply xa17)); refine blk_far ?_ NB165_188.1 _; (with_reducible repeat (first | apply xn17 | apply xd17 | apply xa17)); refine blk_far ?_ NB165_188.1 _; (with_reducible repeat (first | apply xn17 | apply xd17 | apply xa17)); refine blk_far ?_ NB165_188.1 _; (with_reducible repeat (first | apply xn17 | apply xd17 | apply xa17)); refine blk_far ?_ NB165_188.1 _; (with_reducible repeat (first | apply xn17 | apply xd17 | apply xa17)); refine blk_far ?_ NB165_188.1 _; (with_reducible repeat (first | apply xn17 | apply xd17 | apply xa17)); refine blk_far ?_ NB165_188.1 _; (with_reducible repeat (first | apply xn17 | apply xd17 | apply xa17)); refine blk_far ?_ NB165_188.1 _; (with_reducible repeat (first | apply xn17 | apply xd17 | apply xa17)); exact BK165.1⟩, ⟨by (with_reducible repeat (first | apply xn17 | apply xd17 | apply xa17)); refine blk_far ?_ NB166_188.1 _; (with_reducible repeat (first | apply xn17 | apply xd17 | apply xa17)); refine blk_far ?_ NB166_188.1 _; (with_reducible repeat (first | apply xn17 | apply xd17 | apply xa17)); refine blk_far ?_ NB166_188.1 _; (with_reducible repeat (first | apply xn17 | apply xd17 | apply xa17)); refine blk_far ?_ NB166_188.1 _; (with_reducible repeat (first | apply xn17 | apply xd17 | apply xa17)); refine blk_far ?_ NB166_188.1 _; (with_reducible repeat (first | apply xn17 | apply xd17 | apply xa17)); refine blk_far ?_ NB166_188.1 _; (with_reducible repeat (first | apply xn17 | apply xd17 | apply xa17)); refine blk_far ?_ NB166_188.1 _; (with_reducible repeat (first | apply xn17 | apply xd17 | apply xa17)); refine blk_far ?_ NB166_188.1 _; (with_reducible repeat (first | apply xn17 | apply xd17 | apply xa17)); exact BK166.1⟩, ⟨by (with_reducible repeat (first | apply xn17 | apply xd17 | apply xa17)); refine blk_put (cs := #[.slice Ao25 t172.length co25, .int .i64 t175, .int .i64 t176, .int .i64 t177, .int .i64 t178, .slice Ao29 t179.length co29, .slice Ao30 t182.length co30, .slice none 0 0]) ?_ 7 _ rfl; (with_reducible repeat (first | apply xn17 | apply xd17 | apply xa17)); refine blk_put (cs := #[.slice Ao25 t172.length co25, .int .i64 t175, .int .i64 t176, .int .i64 t177, .int .i64 t178, .slice Ao29 t179.length co29, .slice none 0 0, .slice none 0 0]) ?_ 6 _ rfl; (with_reducible repeat (first | apply xn17 | apply xd17 | apply xa17)); refine blk_put (cs := #[.slice Ao25 t172.length co25, .int .i64 t175, .int .i64 t176, .int .i64 t177, .int .i64 t178, .slice none 0 0, .slice none 0 0, .slice none 0 0]) ?_ 5 _ rfl; (with_reducible repeat (first | apply xn17 | apply xd17 | apply xa17)); refine blk_put (cs := #[.slice Ao25 t172.length co25, .int .i64 t175, .int .i64 t176, .int .i64 t177, .int .i64 0, .slice none 0 0, .slice none 0 0, .slice none 0 0]) ?_ 4 _ rfl; (with_reducible repeat (first | apply xn17 | apply xd17 | apply xa17)); refine blk_put (cs := #[.slice Ao25 t172.length co25, .int .i64 t175, .int .i64 t176, .int .i64 0, .int .i64 0, .slice none 0 0, .slice none 0 0, .slice none 0 0]) ?_ 3 _ rfl; (with_reducible repeat (first | apply xn17 | apply xd17 | apply xa17)); refine blk_put (cs := #[.slice Ao25 t172.length co25, .int .i64 t175, .int .i64 0, .int .i64 0, .int .i64 0, .slice none 0 0, .slice none 0 0, .slice none 0 0]) ?_ 2 _ rfl; (with_reducible repeat (first | apply xn17 | apply xd17 | apply xa17)); refine blk_put (cs := #[.slice Ao25 t172.length co25, .int .i64 0, .int .i64 0, .int .i64 0, .int .i64 0, .slice none 0 0, .slice none 0 0, .slice none 0 0]) ?_ 1 _ rfl; (with_reducible repeat (first | apply xn17 | apply xd17 | apply xa17)); refine blk_put (cs := #[.slice none 0 0, .int .i64 0, .int .i64 0, .int .i64 0, .int .i64 0, .slice none 0 0, .slice none 0 0, .slice none 0 0]) ?_ 0 _ rfl; (with_reducible repeat (first | apply xn17 | apply xd17 | apply xa17)); exact BK188.1⟩, ⟨by repeat (first | (with_reducible first | exact HB.1 | apply below_alloc | apply pw_below_drewN | apply below_drew1 | refine below_set ?_ GE165.1 | refine below_set ?_ GE166.1 | refine below_set ?_ GE188.1) | exact HB.1)⟩⟩
            case round =>
              clear H'
              try clear c1
              try clear c2
              try clear p2
              try clear c3
              try clear c5
              try clear c5b0
              try clear c5b1
              try clear c7
              try clear c7b0
              try clear c7b1
              try clear c11
              try clear c15
              try clear c15b0
              try clear c16
              try clear c17
              try clear c20
              try clear c26
              try clear c27
              try clear hcz12_0
              try clear hcz12_1
              try clear hcz12_2
              try clear hcz12_3
              try clear hcz12_4
              try clear hcz18_0
              try clear hcz18_1
              try clear hcz18_2
              try clear hcz18_3
              try clear hcz18_4
              try clear hcz18_5
              try clear hcz18_6
              try clear hcz18_7
              try clear hcz21_0
              try clear hcz21_1
              try clear hcz21_2
              try clear hcz21_3
              try clear hcz21_4
              try clear hcz28_0
              try clear hcz28_1
              try clear hcz28_2
              try clear hcz28_3
              try clear hcz28_4
              try clear hcz28_5
              try clear hcz28_6
              try clear hcz28_7
              try clear hfz12_0
              try clear hfz12_1
              try clear hfz12_2
              try clear hfz12_3
              try clear hfz12_4
              try clear hfz18_0
              try clear hfz18_1
              try clear hfz18_2
              try clear hfz18_3
              try clear hfz18_4
              try clear hfz18_5
              try clear hfz18_6
              try clear hfz18_7
              try clear hfz21_0
              try clear hfz21_1
              try clear hfz21_2
              try clear hfz21_3
              try clear hfz21_4
              try clear hfz28_0
              try clear hfz28_1
              try clear hfz28_2
              try clear hfz28_3
              try clear hfz28_4
              try clear hfz28_5
              try clear hfz28_6
              try clear hfz28_7
              try clear p2
              obtain ⟨x42_2, x189007_2, u189007, rfl, HA, HK2, HO_189000, HO_189005, HO_189006, HO_189007, BK165, BK166, BK188, HB⟩ := hrel
              cases gk with
              | zero => exact absurd HA.out (by simp [world_Begin.l0])
              | succ k2 =>
                have H := HA.out
                clear HA
                simp only [world_Begin.l0] at H
                by_cases c32 : x42_2 < a2
                · rw [if_pos c32] at H
                  have c32b0 : decide (x42_2 < a2) = true := decide_eq_true c32
                  clear c32
                  replace H := Option.bind_eq_some_iff.mp H
                  obtain ⟨⟨t189, t190⟩, A330, H⟩ := H
                  replace H : (if x189007_2.length < 5864062014805 then (world_Begin.l0 k2 a2 (wrap64 (x42_2 + 1)) t172 t175 t176 t177 t178 t179 t182 (x189007_2 ++ [t189])) else (none)) = some (r1, r2, r3, r4, r5, r6, r7, r8, r9) := H
                  have A33 := Aside0.mk A330
                  clear A330
                  by_cases c34 : x189007_2.length < 5864062014805
                  · rw [if_pos c34] at H
                    have LMc34 := Aside0.mk c34
                    clear c34
                    obtain ⟨y193, hy193⟩ : ∃ y_ : List (List Int), y_ = (x189007_2 ++ [t189]) := ⟨_, rfl⟩
                    replace H : (world_Begin.l0 k2 a2 (wrap64 (x42_2 + 1)) t172 t175 t176 t177 t178 t179 t182 y193) = some (r1, r2, r3, r4, r5, r6, r7, r8, r9) := by first | (rw [hy193]; with_reducible exact H) | (have H2_ := (Option.bind_some _ _).symm.trans H; rw [hy193]; with_reducible exact H2_) | (have H2_ := (Option.bind_some _ _).symm.trans H; with_reducible exact H2_) | with_reducible exact H | (rw [hy193]; exact H) | exact H
                    have Ny193 := Aside0.mk hy193
                    clear hy193
                    have H' := Aside0.mk H
                    clear H
                    go_wp2_with (first | ((with_reducible refine gate_callee (f := 40) rfl ?_); refine goesL_ (some 47) rfl rfl Try.func40 (by kernel_rfl) rfl #[.int .i64 x42_2] rfl (by (try simp only [List.map_toArray, List.map_cons, List.map_nil]); first | done | rfl | (simp only [List.length_drop, List.length_take]; rfl)) ?_; (with_reducible refine (pocket_Make.calls k2 x42_2 t189 t190 _ A33.out).mono ?_); rintro e w35 ⟨v191, rfl, ho0, hb⟩; refine ⟨_, rfl, ?_⟩; have n0_ := Aside0.mk (Kd.R_below (by (with_reducible repeat (first | apply Kd.R_alloc | apply Kd.R_drewN | apply Kd.R_drew)); exact HO_189000.out) hb); have n1_ := Aside0.mk (Kd.R_elder' (by (with_reducible repeat (first | apply Kd.R_alloc | apply Kd.R_drewN | apply Kd.R_drew)); exact HO_189005.out) (Kd.R_base ho0) hb); have n2_ := Aside0.mk (Kd.R_below (by (with_reducible repeat (first | apply Kd.R_alloc | apply Kd.R_drewN | apply Kd.R_drew)); exact HO_189006.out) hb); have n3_ := Aside0.mk (Kd.S_elder' (by (with_reducible repeat (first | apply Kd.S_alloc | apply Kd.S_drewN | apply Kd.S_drew)); exact HO_189007.out) (Kd.R_base ho0) hb); have n4_ := Aside0.mk (Kd.R_lower (Kd.R_new' ho0 (Kd.R_lt (by (with_reducible repeat (first | apply Kd.R_alloc | apply Kd.R_drewN | apply Kd.R_drew)); exact HO_189005.out))) (below_size (by with_reducible repeat (first | exact HB.1 | apply ya17 | apply yn17 | apply yd17 | refine below_set ?_ GE165.1 | refine below_set ?_ GE166.1 | refine below_set ?_ GE188.1)))); have n5_ := Aside0.mk (blk_below (g := gb165) (o := .cells #[.slice A0_0 l0_0.length c0_0, .int .i64 a0_1, .int .i64 a0_2, .int .i64 a0_3, .int .i64 a0_4] 40 (0, 0)) (by (with_reducible repeat (first | apply xn17 | apply xd17 | apply xa17)); exact BK165.1) hb); have n6_ := Aside0.mk (blk_below (g := gb166) (o := .cells #[.slice none 0 0, .int .i64 0, .int .i64 0, .int .i64 0, .int .i64 0, .slice none 0 0, .slice none 0 0, .slice none 0 0] 48 (0, 0)) (by (with_reducible repeat (first | apply xn17 | apply xd17 | apply xa17)); exact BK166.1) hb); have n7_ := Aside0.mk (blk_below (g := gb188) (o := .cells #[.slice Ao25 t172.length co25, .int .i64 t175, .int .i64 t176, .int .i64 t177, .int .i64 t178, .slice Ao29 t179.length co29, .slice Ao30 t182.length co30, u189007] 48 (0, 0)) (by (with_reducible repeat (first | apply xn17 | apply xd17 | apply xa17)); exact BK188.1) hb); have n8_ := Aside0.mk (below_step (by with_reducible repeat (first | exact HB.1 | apply ya17 | apply yn17 | apply yd17 | refine below_set ?_ GE165.1 | refine below_set ?_ GE166.1 | refine below_set ?_ GE188.1)) hb); clear HO_189000; clear HO_189005; clear HO_189006; clear HO_189007; clear BK165; clear BK166; clear BK188; clear HB; have HO_189000 := n0_; have HO_189005 := n1_; have HO_189006 := n2_; have HO_189007 := n3_; have HO192 := n4_; have BK165 := n5_; have BK166 := n6_; have BK188 := n7_; have HB := n8_; clear n0_ n1_ n2_ n3_ n4_ n5_ n6_ n7_ n8_; (try clear hb); (try clear hb2); (try clear hk); (try clear hi); (try clear ho0); have hnb36 := NB188_165.1; have hnc36 := NB165_188.1; have hnb37 := NB188_166.1; have hnc37 := NB166_188.1; obtain ⟨hcz38_0, hcz38_1, hcz38_2, hcz38_3, hcz38_4, hcz38_5, hcz38_6, hcz38_7⟩ := c8_17 BK188.1; obtain ⟨hfz38_0, hfz38_1, hfz38_2, hfz38_3, hfz38_4, hfz38_5, hfz38_6, hfz38_7⟩ := f8_17 BK188.1; obtain ⟨Ao40, co40, eo40⟩ := Kd.R_slice HO192.1; subst eo40) | ((with_reducible refine gate_builtin (b := .append) (xs := #[.tmp 51, .tmp 53]) rfl ?_); at_builtin; refine Kd.S_append (Kd.slice 22 (Kd.int .u32)) (w0 := w) w.heap.size rfl (.tmp 51) (.tmp 53) 46 42 (.slice none 0 0) 24 rfl Try.underlying46 info42 rfl (by decide) (by omega) u189007 x189007_2 t189 [.slice Ao40 t189.length co40] (fun k_ => some k_ ≠ (.slice Ao29 t179.length co29 : Value).ownBlock) (fun k_ => some k_ = (.slice Ao40 t189.length co40 : Value).ownBlock) rfl rfl ?aP (fun k_ hk_ => ((Kd.R_mono (ok' := fun k_ => ((fun k_ => some k_ ≠ (.slice Ao29 t179.length co29 : Value).ownBlock)) k_ ∧ some k_ ≠ (u189007 : Value).ownBlock) (Kd.R_apart' (HO192.1) (Kd.S_typed HO_189007.out) (by decide)) (fun k_ hk => ⟨hk.1.2, hk.2⟩))).1 k_ hk_.symm) ?aF ?aO ?aB ?aS ?aL ?_; (case aP => exact Kd.M_row (Kd.R_mono (Kd.R_tight rfl (Kd.R_mono (ok' := fun k_ => ((fun k_ => some k_ ≠ (.slice Ao29 t179.length co29 : Value).ownBlock)) k_ ∧ some k_ ≠ (u189007 : Value).ownBlock) (Kd.R_apart' (HO192.1) (Kd.S_typed HO_189007.out) (by decide)) (fun k_ hk => ⟨hk.1.2, hk.2⟩))) (fun _ h_ => h_))); (case aB => exact (by with_reducible repeat (first | exact HB.1 | apply ya17 | apply yn17 | apply yd17 | refine below_set ?_ GE165.1 | refine below_set ?_ GE166.1 | refine below_set ?_ GE188.1))); (case aF => exact (fun k_ hk => Kd.fresh' (Kd.R_lt (by (with_reducible repeat (first | apply Kd.R_alloc | apply Kd.R_drewN | apply Kd.R_drew)); exact HO_189005.out)) k_ hk)); (case aO => exact (by (with_reducible repeat (first | apply Kd.S_alloc | apply Kd.S_drewN | apply Kd.S_drew)); exact Kd.S_mono HO_189007.out (fun k_ hk => ⟨hk.1, fun e_ => hk.2 e_⟩))); (case aS => exact (below_size (by with_reducible repeat (first | exact HB.1 | apply ya17 | apply yn17 | apply yd17 | refine below_set ?_ GE165.1 | refine below_set ?_ GE166.1 | refine below_set ?_ GE188.1)))); (case aL => have := LMc34.out; omega); intro v194 w39 ho hb hg hat; rw [← Ny193.out] at ho; have n0_ := Aside0.mk (Kd.R_over' (by (with_reducible repeat (first | apply Kd.R_alloc | apply Kd.R_drewN | apply Kd.R_drew)); exact HO_189000.out) (Kd.S_typed (by (with_reducible repeat (first | apply Kd.S_alloc | apply Kd.S_drewN | apply Kd.S_drew)); exact HO_189007.out)) (by decide) hg); have n1_ := Aside0.mk (Kd.R_over' (by (with_reducible repeat (first | apply Kd.R_alloc | apply Kd.R_drewN | apply Kd.R_drew)); exact HO_189005.out) (Kd.S_typed (by (with_reducible repeat (first | apply Kd.S_alloc | apply Kd.S_drewN | apply Kd.S_drew)); exact HO_189007.out)) (by decide) hg); have n2_ := Aside0.mk (Kd.R_over' (by (with_reducible repeat (first | apply Kd.R_alloc | apply Kd.R_drewN | apply Kd.R_drew)); exact HO_189006.out) (Kd.S_typed (by (with_reducible repeat (first | apply Kd.S_alloc | apply Kd.S_drewN | apply Kd.S_drew)); exact HO_189007.out)) (by decide) hg); have n3_ := Aside0.mk (blk_grown (g := gb165) (o := .cells #[.slice A0_0 l0_0.length c0_0, .int .i64 a0_1, .int .i64 a0_2, .int .i64 a0_3, .int .i64 a0_4] 40 (0, 0)) (by (with_reducible repeat (first | apply xn17 | apply xd17 | apply xa17)); exact BK165.1) hg (Kd.S_ne HO_189007.out BK165.1 (by decide))); have n4_ := Aside0.mk (blk_grown (g := gb166) (o := .cells #[.slice none 0 0, .int .i64 0, .int .i64 0, .int .i64 0, .int .i64 0, .slice none 0 0, .slice none 0 0, .slice none 0 0] 48 (0, 0)) (by (with_reducible repeat (first | apply xn17 | apply xd17 | apply xa17)); exact BK166.1) hg (Kd.S_ne HO_189007.out BK166.1 (by decide))); have n5_ := Aside0.mk (blk_grown (g := gb188) (o := .cells #[.slice Ao25 t172.length co25, .int .i64 t175, .int .i64 t176, .int .i64 t177, .int .i64 t178, .slice Ao29 t179.length co29, .slice Ao30 t182.length co30, u189007] 48 (0, 0)) (by (with_reducible repeat (first | apply xn17 | apply xd17 | apply xa17)); exact BK188.1) hg (Kd.S_ne HO_189007.out BK188.1 (by decide))); have n6_ := Aside0.mk (hb); have n7_ := Aside0.mk (ho); clear HO_189000; clear HO_189005; clear HO_189006; clear BK165; clear BK166; clear BK188; clear HB; clear HO_189007; clear HO192; have HO_189000 := n0_; have HO_189005 := n1_; have HO_189006 := n2_; have BK165 := n3_; have BK166 := n4_; have BK188 := n5_; have HB := n6_; have HO195 := n7_; clear n0_ n1_ n2_ n3_ n4_ n5_ n6_ n7_; clear ho hb hg hat; obtain ⟨Ao41, co41, eo41⟩ := Kd.S_slice HO195.1; subst eo41; obtain ⟨hcz42_0, hcz42_1, hcz42_2, hcz42_3, hcz42_4, hcz42_5, hcz42_6, hcz42_7⟩ := c8_17 BK188.1; obtain ⟨hfz42_0, hfz42_1, hfz42_2, hfz42_3, hfz42_4, hfz42_5, hfz42_6, hfz42_7⟩ := f8_17 BK188.1))
                    go_roundg k2
                    case measure => have := HJ7.out; have := HK2.out; omega
                    case rel => exact ⟨(wrap64 (x42_2 + 1)), (y193), (.slice Ao41 y193.length co41), (by first | rfl | (simp; done) | (simp [*]; done)), H', ⟨by have := HJ7.out; have := HK2.out; omega⟩, ⟨by (with_reducible repeat (first | apply Kd.R_alloc | apply Kd.R_drewN | apply Kd.R_drew)); exact Kd.R_mono (Kd.R_far (p := ⟨gb188, 7, none⟩) (Kd.R_types HO_189000.out BK188.1 (by decide)) (fun _ hk => hk.2) (.slice Ao41 y193.length co41)) (fun _ hk => trivial)⟩, ⟨by (with_reducible repeat (first | apply Kd.R_alloc | apply Kd.R_drewN | apply Kd.R_drew)); exact Kd.R_mono (Kd.R_far (p := ⟨gb188, 7, none⟩) (Kd.R_types HO_189005.out BK188.1 (by decide)) (fun _ hk => hk.2) (.slice Ao41 y193.length co41)) (fun _ hk => trivial)⟩, ⟨by (with_reducible repeat (first | apply Kd.R_alloc | apply Kd.R_drewN | apply Kd.R_drew)); exact Kd.R_mono (Kd.R_far (p := ⟨gb188, 7, none⟩) (Kd.R_types HO_189006.out BK188.1 (by decide)) (fun _ hk => hk.2) (.slice Ao41 y193.length co41)) (fun _ hk => trivial)⟩, ⟨by (with_reducible repeat (first | apply Kd.S_alloc | apply Kd.S_drewN | apply Kd.S_drew)); exact Kd.S_mono (Kd.S_far (p := ⟨gb188, 7, none⟩) (Kd.S_types HO195.1 BK188.1 (by decide)) (fun _ hk => hk.2) (.slice Ao41 y193.length co41)) (fun _ hk => hk.1)⟩, ⟨by (with_reducible repeat (first | apply xn17 | apply xd17 | apply xa17)); refine blk_far ?_ NB165_188.1 _; (with_reducible repeat (first | apply xn17 | apply xd17 | apply xa17)); exact BK165.1⟩, ⟨by (with_reducible repeat (first | apply xn17 | apply xd17 | apply xa17)); refine blk_far ?_ NB166_188.1 _; (with_reducible repeat (first | apply xn17 | apply xd17 | apply xa17)); exact BK166.1⟩, ⟨by (with_reducible repeat (first | apply xn17 | apply xd17 | apply xa17)); refine blk_put (cs := #[.slice Ao25 t172.length co25, .int .i64 t175, .int .i64 t176, .int .i64 t177, .int .i64 t178, .slice Ao29 t179.length co29, .slice Ao30 t182.length co30, u189007]) ?_ 7 _ rfl; (with_reducible repeat (first | apply xn17 | apply xd17 | apply xa17)); exact BK188.1⟩, ⟨by repeat (first | (with_reducible first | exact HB.1 | apply below_alloc | apply pw_below_drewN | apply below_drew1 | refine below_set ?_ GE165.1 | refine below_set ?_ GE166.1 | refine below_set ?_ GE188.1) | exact HB.1)⟩⟩
                  · rw [if_neg c34] at H
                    exact absurd H (by simp)
                · rw [if_neg c32] at H
                  have c32b0 : decide (x42_2 < a2) = false := decide_eq_false c32
                  clear c32
                  simp only [Option.some.injEq, Prod.mk.injEq] at H
                  obtain ⟨rfl, rfl, rfl, rfl, rfl, rfl, rfl, rfl, rfl⟩ := H
                  have hnb43 := NB188_165.1
                  have hnc43 := NB165_188.1
                  have hnb44 := NB188_166.1
                  have hnc44 := NB166_188.1
                  obtain ⟨hcz45_0, hcz45_1, hcz45_2, hcz45_3, hcz45_4, hcz45_5, hcz45_6, hcz45_7⟩ := c8_17 BK188.1
                  obtain ⟨hfz45_0, hfz45_1, hfz45_2, hfz45_3, hfz45_4, hfz45_5, hfz45_6, hfz45_7⟩ := f8_17 BK188.1
                  have hnb46 := NB166_165.1
                  have hnc46 := NB165_166.1
                  obtain ⟨hcz47_0, hcz47_1, hcz47_2, hcz47_3, hcz47_4, hcz47_5, hcz47_6, hcz47_7⟩ := c8_17 BK166.1
                  obtain ⟨hfz47_0, hfz47_1, hfz47_2, hfz47_3, hfz47_4, hfz47_5, hfz47_6, hfz47_7⟩ := f8_17 BK166.1
                  obtain ⟨Ao48, co48, eo48⟩ := Kd.S_slice HO_189007.out
                  subst eo48
                  go_wp2
                  refine bodyPost_ret (results_ct rfl _ _ gb166 48 #[.slice Ao25 t172.length co25, .int .i64 t175, .int .i64 t176, .int .i64 t177, .int .i64 t178, .slice Ao29 t179.length co29, .slice Ao30 t182.length co30, .slice Ao48 x189007_2.length co48] (0, 0) _ rfl (by (with_reducible repeat (first | apply xn17 | apply xd17 | apply xa17)); refine blk_put (cs := #[.slice Ao25 t172.length co25, .int .i64 t175, .int .i64 t176, .int .i64 t177, .int .i64 t178, .slice Ao29 t179.length co29, .slice Ao30 t182.length co30, .slice none 0 0]) ?_ 7 _ rfl; (with_reducible repeat (first | apply xn17 | apply xd17 | apply xa17)); refine blk_put (cs := #[.slice Ao25 t172.length co25, .int .i64 t175, .int .i64 t176, .int .i64 t177, .int .i64 t178, .slice Ao29 t179.length co29, .slice none 0 0, .slice none 0 0]) ?_ 6 _ rfl; (with_reducible repeat (first | apply xn17 | apply xd17 | apply xa17)); refine blk_put (cs := #[.slice Ao25 t172.length co25, .int .i64 t175, .int .i64 t176, .int .i64 t177, .int .i64 t178, .slice none 0 0, .slice none 0 0, .slice none 0 0]) ?_ 5 _ rfl; (with_reducible repeat (first | apply xn17 | apply xd17 | apply xa17)); refine blk_put (cs := #[.slice Ao25 t172.length co25, .int .i64 t175, .int .i64 t176, .int .i64 t177, .int .i64 0, .slice none 0 0, .slice none 0 0, .slice none 0 0]) ?_ 4 _ rfl; (with_reducible repeat (first | apply xn17 | apply xd17 | apply xa17)); refine blk_put (cs := #[.slice Ao25 t172.length co25, .int .i64 t175, .int .i64 t176, .int .i64 0, .int .i64 0, .slice none 0 0, .slice none 0 0, .slice none 0 0]) ?_ 3 _ rfl; (with_reducible repeat (first | apply xn17 | apply xd17 | apply xa17)); refine blk_put (cs := #[.slice Ao25 t172.length co25, .int .i64 t175, .int .i64 0, .int .i64 0, .int .i64 0, .slice none 0 0, .slice none 0 0, .slice none 0 0]) ?_ 2 _ rfl; (with_reducible repeat (first | apply xn17 | apply xd17 | apply xa17)); refine blk_put (cs := #[.slice Ao25 t172.length co25, .int .i64 0, .int .i64 0, .int .i64 0, .int .i64 0, .slice none 0 0, .slice none 0 0, .slice none 0 0]) ?_ 1 _ rfl; (with_reducible repeat (first | apply xn17 | apply xd17 | apply xa17)); refine blk_put (cs := #[.slice none 0 0, .int .i64 0, .int .i64 0, .int .i64 0, .int .i64 0, .slice none 0 0, .slice none 0 0, .slice none 0 0]) ?_ 0 _ rfl; (with_reducible repeat (first | apply xn17 | apply xd17 | apply xa17)); exact BK166.1) Try.underlying48 rfl (by kernel_rfl)) rfl ?_
                  exact ⟨_, _, _, _, by first | rfl | (simp [errW_none, errW_some] <;> rfl) | (simp [*, errW_none, errW_some] <;> rfl), by (with_reducible repeat (first | apply Kd.R_alloc | apply Kd.R_drewN | apply Kd.R_drew)); exact Kd.R_mono (Kd.R_far (p := ⟨gb166, 7, none⟩) (Kd.R_far (p := ⟨gb166, 6, none⟩) (Kd.R_far (p := ⟨gb166, 5, none⟩) (Kd.R_far (p := ⟨gb166, 4, none⟩) (Kd.R_far (p := ⟨gb166, 3, none⟩) (Kd.R_far (p := ⟨gb166, 2, none⟩) (Kd.R_far (p := ⟨gb166, 1, none⟩) (Kd.R_far (p := ⟨gb166, 0, none⟩) (Kd.R_types HO_189000.out BK166.1 (by decide)) (fun _ hk => hk.2) (.slice Ao25 t172.length co25)) (fun _ hk => hk.2) (.int .i64 t175)) (fun _ hk => hk.2) (.int .i64 t176)) (fun _ hk => hk.2) (.int .i64 t177)) (fun _ hk => hk.2) (.int .i64 t178)) (fun _ hk => hk.2) (.slice Ao29 t179.length co29)) (fun _ hk => hk.2) (.slice Ao30 t182.length co30)) (fun _ hk => hk.2) (.slice Ao48 x189007_2.length co48)) (fun _ hk => trivial), by (with_reducible repeat (first | apply Kd.R_alloc | apply Kd.R_drewN | apply Kd.R_drew)); exact Kd.R_mono (Kd.R_far (p := ⟨gb166, 7, none⟩) (Kd.R_far (p := ⟨gb166, 6, none⟩) (Kd.R_far (p := ⟨gb166, 5, none⟩) (Kd.R_far (p := ⟨gb166, 4, none⟩) (Kd.R_far (p := ⟨gb166, 3, none⟩) (Kd.R_far (p := ⟨gb166, 2, none⟩) (Kd.R_far (p := ⟨gb166, 1, none⟩) (Kd.R_far (p := ⟨gb166, 0, none⟩) (Kd.R_types HO_189005.out BK166.1 (by decide)) (fun _ hk => hk.2) (.slice Ao25 t172.length co25)) (fun _ hk => hk.2) (.int .i64 t175)) (fun _ hk => hk.2) (.int .i64 t176)) (fun _ hk => hk.2) (.int .i64 t177)) (fun _ hk => hk.2) (.int .i64 t178)) (fun _ hk => hk.2) (.slice Ao29 t179.length co29)) (fun _ hk => hk.2) (.slice Ao30 t182.length co30)) (fun _ hk => hk.2) (.slice Ao48 x189007_2.length co48)) (fun _ hk => trivial), by (with_reducible repeat (first | apply Kd.R_alloc | apply Kd.R_drewN | apply Kd.R_drew)); exact Kd.R_mono (Kd.R_far (p := ⟨gb166, 7, none⟩) (Kd.R_far (p := ⟨gb166, 6, none⟩) (Kd.R_far (p := ⟨gb166, 5, none⟩) (Kd.R_far (p := ⟨gb166, 4, none⟩) (Kd.R_far (p := ⟨gb166, 3, none⟩) (Kd.R_far (p := ⟨gb166, 2, none⟩) (Kd.R_far (p := ⟨gb166, 1, none⟩) (Kd.R_far (p := ⟨gb166, 0, none⟩) (Kd.R_types HO_189006.out BK166.1 (by decide)) (fun _ hk => hk.2) (.slice Ao25 t172.length co25)) (fun _ hk => hk.2) (.int .i64 t175)) (fun _ hk => hk.2) (.int .i64 t176)) (fun _ hk => hk.2) (.int .i64 t177)) (fun _ hk => hk.2) (.int .i64 t178)) (fun _ hk => hk.2) (.slice Ao29 t179.length co29)) (fun _ hk => hk.2) (.slice Ao30 t182.length co30)) (fun _ hk => hk.2) (.slice Ao48 x189007_2.length co48)) (fun _ hk => trivial), by (with_reducible repeat (first | apply Kd.S_alloc | apply Kd.S_drewN | apply Kd.S_drew)); exact Kd.S_mono (Kd.S_far (p := ⟨gb166, 7, none⟩) (Kd.S_far (p := ⟨gb166, 6, none⟩) (Kd.S_far (p := ⟨gb166, 5, none⟩) (Kd.S_far (p := ⟨gb166, 4, none⟩) (Kd.S_far (p := ⟨gb166, 3, none⟩) (Kd.S_far (p := ⟨gb166, 2, none⟩) (Kd.S_far (p := ⟨gb166, 1, none⟩) (Kd.S_far (p := ⟨gb166, 0, none⟩) (Kd.S_types HO_189007.out BK166.1 (by decide)) (fun _ hk => hk.2) (.slice Ao25 t172.length co25)) (fun _ hk => hk.2) (.int .i64 t175)) (fun _ hk => hk.2) (.int .i64 t176)) (fun _ hk => hk.2) (.int .i64 t177)) (fun _ hk => hk.2) (.int .i64 t178)) (fun _ hk => hk.2) (.slice Ao29 t179.length co29)) (fun _ hk => hk.2) (.slice Ao30 t182.length co30)) (fun _ hk => hk.2) (.slice Ao48 x189007_2.length co48)) (fun _ hk => hk.1), by repeat (first | (with_reducible first | exact HB.1 | apply below_alloc | apply pw_below_drewN | apply below_drew1 | refine below_set ?_ GE165.1 | refine below_set ?_ GE166.1 | refine below_set ?_ GE188.1) | exact HB.1)⟩
    · rw [if_neg c7] at H
      have c7b0 : (t169 == 0) = false := beq_eq_false_iff_ne.mpr c7
      have c7b1 : (t169 != 0) = true := bne_iff_ne.mpr c7
      simp only [Option.some.injEq, Prod.mk.injEq] at H
      obtain ⟨rfl, rfl, rfl, rfl, rfl, rfl, rfl, rfl, rfl⟩ := H
      go_enter Try.func17, Try.ntmps17
      go_wp2_with (first | ((with_reducible refine gate_dst (N := 3) rfl ?_); refine box_event ?hg (N := 3) ?hd (cs := #[.slice A0_0 l0_0.length c0_0, .int .i64 a0_1, .int .i64 a0_2, .int .i64 a0_3, .int .i64 a0_4]) (t := 40) ?hr ?_; (case hd => rfl); (case hg => rfl); (case hr => first | (go_simp; done) | (go_simp; rfl)); intro gb165 hg w49 hbox hb; have n0_ := Aside0.mk (below_step (by with_reducible repeat (first | exact HB.1 | apply ya17 | apply yn17 | apply yd17)) hb); have n1_ := Aside0.mk (hbox); have n2_ := Aside0.mk ((by rw [hg]; exact (below_size (by with_reducible repeat (first | exact HB.1 | apply ya17 | apply yn17 | apply yd17))) : w.heap.size ≤ gb165)); have n3_ := n2_; clear HB; have HB := n0_; have BK165 := n1_; have GW165 := n2_; have GE165 := n3_; clear n0_ n1_ n2_ n3_; clear hb hbox hg) | ((with_reducible refine gate_dst (N := 6) rfl ?_); refine box_event ?hg (N := 6) ?hd (cs := #[.slice none 0 0, .int .i64 0, .int .i64 0, .int .i64 0, .int .i64 0, .slice none 0 0, .slice none 0 0, .slice none 0 0]) (t := 48) ?hr ?_; (case hd => rfl); (case hg => rfl); (case hr => first | (go_simp; done) | (go_simp; rfl)); intro gb166 hg w50 hbox hb; have n0_ := Aside0.mk (blk_below (g := gb165) (o := .cells #[.slice A0_0 l0_0.length c0_0, .int .i64 a0_1, .int .i64 a0_2, .int .i64 a0_3, .int .i64 a0_4] 40 (0, 0)) (by (with_reducible repeat (first | apply xn17 | apply xd17 | apply xa17)); exact BK165.1) hb); have n1_ := Aside0.mk (below_step (by with_reducible repeat (first | exact HB.1 | apply ya17 | apply yn17 | apply yd17 | refine below_set ?_ GE165.1)) hb); have n2_ := Aside0.mk (hbox); have n3_ := Aside0.mk ((by rw [hg]; exact (below_size (by with_reducible repeat (first | exact HB.1 | apply ya17 | apply yn17 | apply yd17 | refine below_set ?_ GE165.1))) : w.heap.size ≤ gb166)); have n4_ := n3_; have n5_ := Aside0.mk ((by rw [hg]; exact Nat.ne_of_lt (blk_lt (g := gb165) (o := .cells #[.slice A0_0 l0_0.length c0_0, .int .i64 a0_1, .int .i64 a0_2, .int .i64 a0_3, .int .i64 a0_4] 40 (0, 0)) (by (with_reducible repeat (first | apply xn17 | apply xd17 | apply xa17)); exact BK165.1)) : gb165 ≠ gb166)); have n6_ := Aside0.mk ((by rw [hg]; exact Nat.ne_of_gt (blk_lt (g := gb165) (o := .cells #[.slice A0_0 l0_0.length c0_0, .int .i64 a0_1, .int .i64 a0_2, .int .i64 a0_3, .int .i64 a0_4] 40 (0, 0)) (by (with_reducible repeat (first | apply xn17 | apply xd17 | apply xa17)); exact BK165.1)) : gb166 ≠ gb165)); clear BK165; clear HB; have BK165 := n0_; have HB := n1_; have BK166 := n2_; have GW166 := n3_; have GE166 := n4_; have NB165_166 := n5_; have NB166_165 := n6_; clear n0_ n1_ n2_ n3_ n4_ n5_ n6_; clear hb hbox hg; have hnb51 := NB165_166.1; have hnc51 := NB166_165.1; obtain ⟨hcz52_0, hcz52_1, hcz52_2, hcz52_3, hcz52_4⟩ := c5_17 BK165.1; obtain ⟨hfz52_0, hfz52_1, hfz52_2, hfz52_3, hfz52_4⟩ := f5_17 BK165.1) | ((with_reducible refine gate_callee (f := 37) rfl ?_); refine goesL_ (some 16) rfl rfl Try.func37 (by kernel_rfl) rfl #[.agg #[.slice A0_0 l0_0.length c0_0, .int .i64 a0_1, .int .i64 a0_2, .int .i64 a0_3, .int .i64 a0_4]] rfl (by (try simp only [List.map_toArray, List.map_cons, List.map_nil]); first | done | rfl | (simp only [List.length_drop, List.length_take]; rfl)) ?_; (with_reducible refine (account_Check.calls _ _ l0_0 a0_1 a0_2 a0_3 a0_4 t167 _ ?side1 ?side2 A4.out).mono ?_); (case side1 => repeat (first | exact (Kd.C_below HR0_0.out HB.1) | (with_reducible refine Kd.C_alloc ?_ _) | (with_reducible refine Kd.C_drewN ?_ _) | (with_reducible refine Kd.C_drew ?_))); (case side2 => exact HC0_0.out); rintro e w53 ⟨rfl, hb⟩; refine ⟨_, rfl, ?_⟩; have n0_ := Aside0.mk (blk_below (g := gb165) (o := .cells #[.slice A0_0 l0_0.length c0_0, .int .i64 a0_1, .int .i64 a0_2, .int .i64 a0_3, .int .i64 a0_4] 40 (0, 0)) (by (with_reducible repeat (first | apply xn17 | apply xd17 | apply xa17)); exact BK165.1) hb); have n1_ := Aside0.mk (blk_below (g := gb166) (o := .cells #[.slice none 0 0, .int .i64 0, .int .i64 0, .int .i64 0, .int .i64 0, .slice none 0 0, .slice none 0 0, .slice none 0 0] 48 (0, 0)) (by (with_reducible repeat (first | apply xn17 | apply xd17 | apply xa17)); exact BK166.1) hb); have n2_ := Aside0.mk (below_step (by with_reducible repeat (first | exact HB.1 | apply ya17 | apply yn17 | apply yd17 | refine below_set ?_ GE165.1 | refine below_set ?_ GE166.1)) hb); clear BK165; clear BK166; clear HB; have BK165 := n0_; have BK166 := n1_; have HB := n2_; clear n0_ n1_ n2_; (try clear hb); (try clear hb2); (try clear hk); (try clear hi)) | ((with_reducible refine gate_callee (f := 38) rfl ?_); refine goesL_ (some 23) rfl rfl Try.func38 (by kernel_rfl) rfl #[.int .i64 a1] rfl (by (try simp only [List.map_toArray, List.map_cons, List.map_nil]); first | done | rfl | (simp only [List.length_drop, List.length_take]; rfl)) ?_; (with_reducible refine (cell_Blank.calls a1 t168 t169 _ A6.out).mono ?_); rintro e w54 ⟨v170, rfl, ho0, hb⟩; refine ⟨_, rfl, ?_⟩; have n0_ := Aside0.mk (Kd.R_lower ho0 (below_size (by with_reducible repeat (first | exact HB.1 | apply ya17 | apply yn17 | apply yd17 | refine below_set ?_ GE165.1 | refine below_set ?_ GE166.1)))); have n1_ := Aside0.mk (blk_below (g := gb165) (o := .cells #[.slice A0_0 l0_0.length c0_0, .int .i64 a0_1, .int .i64 a0_2, .int .i64 a0_3, .int .i64 a0_4] 40 (0, 0)) (by (with_reducible repeat (first | apply xn17 | apply xd17 | apply xa17)); exact BK165.1) hb); have n2_ := Aside0.mk (blk_below (g := gb166) (o := .cells #[.slice none 0 0, .int .i64 0, .int .i64 0, .int .i64 0, .int .i64 0, .slice none 0 0, .slice none 0 0, .slice none 0 0] 48 (0, 0)) (by (with_reducible repeat (first | apply xn17 | apply xd17 | apply xa17)); exact BK166.1) hb); have n3_ := Aside0.mk (below_step (by with_reducible repeat (first | exact HB.1 | apply ya17 | apply yn17 | apply yd17 | refine below_set ?_ GE165.1 | refine below_set ?_ GE166.1)) hb); clear BK165; clear BK166; clear HB; have HO171 := n0_; have BK165 := n1_; have BK166 := n2_; have HB := n3_; clear n0_ n1_ n2_ n3_; (try clear hb); (try clear hb2); (try clear hk); (try clear hi); (try clear ho0); obtain ⟨hcz55_0, hcz55_1, hcz55_2, hcz55_3, hcz55_4, hcz55_5, hcz55_6, hcz55_7⟩ := c8_17 BK166.1; obtain ⟨hfz55_0, hfz55_1, hfz55_2, hfz55_3, hfz55_4, hfz55_5, hfz55_6, hfz55_7⟩ := f8_17 BK166.1))
      refine bodyPost_ret (results_ct rfl _ _ gb166 48 #[.slice none 0 0, .int .i64 0, .int .i64 0, .int .i64 0, .int .i64 0, .slice none 0 0, .slice none 0 0, .slice none 0 0] (0, 0) _ rfl (by (with_reducible repeat (first | apply xn17 | apply xd17 | apply xa17)); refine blk_put (cs := #[.slice none 0 0, .int .i64 0, .int .i64 0, .int .i64 0, .int .i64 0, .slice none 0 0, .slice none 0 0, .slice none 0 0]) ?_ 7 _ rfl; (with_reducible repeat (first | apply xn17 | apply xd17 | apply xa17)); refine blk_put (cs := #[.slice none 0 0, .int .i64 0, .int .i64 0, .int .i64 0, .int .i64 0, .slice none 0 0, .slice none 0 0, .slice none 0 0]) ?_ 6 _ rfl; (with_reducible repeat (first | apply xn17 | apply xd17 | apply xa17)); refine blk_put (cs := #[.slice none 0 0, .int .i64 0, .int .i64 0, .int .i64 0, .int .i64 0, .slice none 0 0, .slice none 0 0, .slice none 0 0]) ?_ 5 _ rfl; (with_reducible repeat (first | apply xn17 | apply xd17 | apply xa17)); refine blk_put (cs := #[.slice none 0 0, .int .i64 0, .int .i64 0, .int .i64 0, .int .i64 0, .slice none 0 0, .slice none 0 0, .slice none 0 0]) ?_ 4 _ rfl; (with_reducible repeat (first | apply xn17 | apply xd17 | apply xa17)); refine blk_put (cs := #[.slice none 0 0, .int .i64 0, .int .i64 0, .int .i64 0, .int .i64 0, .slice none 0 0, .slice none 0 0, .slice none 0 0]) ?_ 3 _ rfl; (with_reducible repeat (first | apply xn17 | apply xd17 | apply xa17)); refine blk_put (cs := #[.slice none 0 0, .int .i64 0, .int .i64 0, .int .i64 0, .int .i64 0, .slice none 0 0, .slice none 0 0, .slice none 0 0]) ?_ 2 _ rfl; (with_reducible repeat (first | apply xn17 | apply xd17 | apply xa17)); refine blk_put (cs := #[.slice none 0 0, .int .i64 0, .int .i64 0, .int .i64 0, .int .i64 0, .slice none 0 0, .slice none 0 0, .slice none 0 0]) ?_ 1 _ rfl; (with_reducible repeat (first | apply xn17 | apply xd17 | apply xa17)); refine blk_put (cs := #[.slice none 0 0, .int .i64 0, .int .i64 0, .int .i64 0, .int .i64 0, .slice none 0 0, .slice none 0 0, .slice none 0 0]) ?_ 0 _ rfl; (with_reducible repeat (first | apply xn17 | apply xd17 | apply xa17)); exact BK166.1) Try.underlying48 rfl (by kernel_rfl)) rfl ?_
      exact ⟨_, _, _, _, by first | rfl | (simp [errW_none, errW_some] <;> rfl) | (simp [*, errW_none, errW_some] <;> rfl), by first | exact Kd.R_nil _ _ _ _ _ | exact Kd.N_nil _ _ _ _ _ | exact Kd.V_nil _ _ _ _ _ | exact Kd.Q_nil _ _ _ _ _ | exact Kd.S_nil _ _ _ _ _, by first | exact Kd.R_nil _ _ _ _ _ | exact Kd.N_nil _ _ _ _ _ | exact Kd.V_nil _ _ _ _ _ | exact Kd.Q_nil _ _ _ _ _ | exact Kd.S_nil _ _ _ _ _, by first | exact Kd.R_nil _ _ _ _ _ | exact Kd.N_nil _ _ _ _ _ | exact Kd.V_nil _ _ _ _ _ | exact Kd.Q_nil _ _ _ _ _ | exact Kd.S_nil _ _ _ _ _, by first | exact Kd.S_nil _ _ _ _ _ | exact Kd.N_nil _ _ _ _ _ | exact Kd.V_nil _ _ _ _ _ | exact Kd.Q_nil _ _ _ _ _ | exact Kd.R_nil _ _ _ _ _, by repeat (first | (with_reducible first | exact HB.1 | apply below_alloc | apply pw_below_drewN | apply below_drew1 | refine below_set ?_ GE165.1 | refine below_set ?_ GE166.1) | exact HB.1)⟩
  · rw [if_neg c5] at H
    have c5b0 : (t167 == 0) = false := beq_eq_false_iff_ne.mpr c5
    have c5b1 : (t167 != 0) = true := bne_iff_ne.mpr c5
    simp only [Option.some.injEq, Prod.mk.injEq] at H
    obtain ⟨rfl, rfl, rfl, rfl, rfl, rfl, rfl, rfl, rfl⟩ := H
    go_enter Try.func17, Try.ntmps17
    go_wp2_with (first | ((with_reducible refine gate_dst (N := 3) rfl ?_); refine box_event ?hg (N := 3) ?hd (cs := #[.slice A0_0 l0_0.length c0_0, .int .i64 a0_1, .int .i64 a0_2, .int .i64 a0_3, .int .i64 a0_4]) (t := 40) ?hr ?_; (case hd => rfl); (case hg => rfl); (case hr => first | (go_simp; done) | (go_simp; rfl)); intro gb165 hg w56 hbox hb; have n0_ := Aside0.mk (below_step (by with_reducible repeat (first | exact HB.1 | apply ya17 | apply yn17 | apply yd17)) hb); have n1_ := Aside0.mk (hbox); have n2_ := Aside0.mk ((by rw [hg]; exact (below_size (by with_reducible repeat (first | exact HB.1 | apply ya17 | apply yn17 | apply yd17))) : w.heap.size ≤ gb165)); have n3_ := n2_; clear HB; have HB := n0_; have BK165 := n1_; have GW165 := n2_; have GE165 := n3_; clear n0_ n1_ n2_ n3_; clear hb hbox hg) | ((with_reducible refine gate_dst (N := 6) rfl ?_); refine box_event ?hg (N := 6) ?hd (cs := #[.slice none 0 0, .int .i64 0, .int .i64 0, .int .i64 0, .int .i64 0, .slice none 0 0, .slice none 0 0, .slice none 0 0]) (t := 48) ?hr ?_; (case hd => rfl); (case hg => rfl); (case hr => first | (go_simp; done) | (go_simp; rfl)); intro gb166 hg w57 hbox hb; have n0_ := Aside0.mk (blk_below (g := gb165) (o := .cells #[.slice A0_0 l0_0.length c0_0, .int .i64 a0_1, .int .i64 a0_2, .int .i64 a0_3, .int .i64 a0_4] 40 (0, 0)) (by (with_reducible repeat (first | apply xn17 | apply xd17 | apply xa17)); exact BK165.1) hb); have n1_ := Aside0.mk (below_step (by with_reducible repeat (first | exact HB.1 | apply ya17 | apply yn17 | apply yd17 | refine below_set ?_ GE165.1)) hb); have n2_ := Aside0.mk (hbox); have n3_ := Aside0.mk ((by rw [hg]; exact (below_size (by with_reducible repeat (first | exact HB.1 | apply ya17 | apply yn17 | apply yd17 | refine below_set ?_ GE165.1))) : w.heap.size ≤ gb166)); have n4_ := n3_; have n5_ := Aside0.mk ((by rw [hg]; exact Nat.ne_of_lt (blk_lt (g := gb165) (o := .cells #[.slice A0_0 l0_0.length c0_0, .int .i64 a0_1, .int .i64 a0_2, .int .i64 a0_3, .int .i64 a0_4] 40 (0, 0)) (by (with_reducible repeat (first | apply xn17 | apply xd17 | apply xa17)); exact BK165.1)) : gb165 ≠ gb166)); have n6_ := Aside0.mk ((by rw [hg]; exact Nat.ne_of_gt (blk_lt (g := gb165) (o := .cells #[.slice A0_0 l0_0.length c0_0, .int .i64 a0_1, .int .i64 a0_2, .int .i64 a0_3, .int .i64 a0_4] 40 (0, 0)) (by (with_reducible repeat (first | apply xn17 | apply xd17 | apply xa17)); exact BK165.1)) : gb166 ≠ gb165)); clear BK165; clear HB; have BK165 := n0_; have HB := n1_; have BK166 := n2_; have GW166 := n3_; have GE166 := n4_; have NB165_166 := n5_; have NB166_165 := n6_; clear n0_ n1_ n2_ n3_ n4_ n5_ n6_; clear hb hbox hg; have hnb58 := NB165_166.1; have hnc58 := NB166_165.1; obtain ⟨hcz59_0, hcz59_1, hcz59_2, hcz59_3, hcz59_4⟩ := c5_17 BK165.1; obtain ⟨hfz59_0, hfz59_1, hfz59_2, hfz59_3, hfz59_4⟩ := f5_17 BK165.1) | ((with_reducible refine gate_callee (f := 37) rfl ?_); refine goesL_ (some 16) rfl rfl Try.func37 (by kernel_rfl) rfl #[.agg #[.slice A0_0 l0_0.length c0_0, .int .i64 a0_1, .int .i64 a0_2, .int .i64 a0_3, .int .i64 a0_4]] rfl (by (try simp only [List.map_toArray, List.map_cons, List.map_nil]); first | done | rfl | (simp only [List.length_drop, List.length_take]; rfl)) ?_; (with_reducible refine (account_Check.calls _ _ l0_0 a0_1 a0_2 a0_3 a0_4 t167 _ ?side1 ?side2 A4.out).mono ?_); (case side1 => repeat (first | exact (Kd.C_below HR0_0.out HB.1) | (with_reducible refine Kd.C_alloc ?_ _) | (with_reducible refine Kd.C_drewN ?_ _) | (with_reducible refine Kd.C_drew ?_))); (case side2 => exact HC0_0.out); rintro e w60 ⟨rfl, hb⟩; refine ⟨_, rfl, ?_⟩; have n0_ := Aside0.mk (blk_below (g := gb165) (o := .cells #[.slice A0_0 l0_0.length c0_0, .int .i64 a0_1, .int .i64 a0_2, .int .i64 a0_3, .int .i64 a0_4] 40 (0, 0)) (by (with_reducible repeat (first | apply xn17 | apply xd17 | apply xa17)); exact BK165.1) hb); have n1_ := Aside0.mk (blk_below (g := gb166) (o := .cells #[.slice none 0 0, .int .i64 0, .int .i64 0, .int .i64 0, .int .i64 0, .slice none 0 0, .slice none 0 0, .slice none 0 0] 48 (0, 0)) (by (with_reducible repeat (first | apply xn17 | apply xd17 | apply xa17)); exact BK166.1) hb); have n2_ := Aside0.mk (below_step (by with_reducible repeat (first | exact HB.1 | apply ya17 | apply yn17 | apply yd17 | refine below_set ?_ GE165.1 | refine below_set ?_ GE166.1)) hb); clear BK165; clear BK166; clear HB; have BK165 := n0_; have BK166 := n1_; have HB := n2_; clear n0_ n1_ n2_; (try clear hb); (try clear hb2); (try clear hk); (try clear hi); obtain ⟨hcz61_0, hcz61_1, hcz61_2, hcz61_3, hcz61_4, hcz61_5, hcz61_6, hcz61_7⟩ := c8_17 BK166.1; obtain ⟨hfz61_0, hfz61_1, hfz61_2, hfz61_3, hfz61_4, hfz61_5, hfz61_6, hfz61_7⟩ := f8_17 BK166.1))
    refine bodyPost_ret (results_ct rfl _ _ gb166 48 #[.slice none 0 0, .int .i64 0, .int .i64 0, .int .i64 0, .int .i64 0, .slice none 0 0, .slice none 0 0, .slice none 0 0] (0, 0) _ rfl (by (with_reducible repeat (first | apply xn17 | apply xd17 | apply xa17)); refine blk_put (cs := #[.slice none 0 0, .int .i64 0, .int .i64 0, .int .i64 0, .int .i64 0, .slice none 0 0, .slice none 0 0, .slice none 0 0]) ?_ 7 _ rfl; (with_reducible repeat (first | apply xn17 | apply xd17 | apply xa17)); refine blk_put (cs := #[.slice none 0 0, .int .i64 0, .int .i64 0, .int .i64 0, .int .i64 0, .slice none 0 0, .slice none 0 0, .slice none 0 0]) ?_ 6 _ rfl; (with_reducible repeat (first | apply xn17 | apply xd17 | apply xa17)); refine blk_put (cs := #[.slice none 0 0, .int .i64 0, .int .i64 0, .int .i64 0, .int .i64 0, .slice none 0 0, .slice none 0 0, .slice none 0 0]) ?_ 5 _ rfl; (with_reducible repeat (first | apply xn17 | apply xd17 | apply xa17)); refine blk_put (cs := #[.slice none 0 0, .int .i64 0, .int .i64 0, .int .i64 0, .int .i64 0, .slice none 0 0, .slice none 0 0, .slice none 0 0]) ?_ 4 _ rfl; (with_reducible repeat (first | apply xn17 | apply xd17 | apply xa17)); refine blk_put (cs := #[.slice none 0 0, .int .i64 0, .int .i64 0, .int .i64 0, .int .i64 0, .slice none 0 0, .slice none 0 0, .slice none 0 0]) ?_ 3 _ rfl; (with_reducible repeat (first | apply xn17 | apply xd17 | apply xa17)); refine blk_put (cs := #[.slice none 0 0, .int .i64 0, .int .i64 0, .int .i64 0, .int .i64 0, .slice none 0 0, .slice none 0 0, .slice none 0 0]) ?_ 2 _ rfl; (with_reducible repeat (first | apply xn17 | apply xd17 | apply xa17)); refine blk_put (cs := #[.slice none 0 0, .int .i64 0, .int .i64 0, .int .i64 0, .int .i64 0, .slice none 0 0, .slice none 0 0, .slice none 0 0]) ?_ 1 _ rfl; (with_reducible repeat (first | apply xn17 | apply xd17 | apply xa17)); refine blk_put (cs := #[.slice none 0 0, .int .i64 0, .int .i64 0, .int .i64 0, .int .i64 0, .slice none 0 0, .slice none 0 0, .slice none 0 0]) ?_ 0 _ rfl; (with_reducible repeat (first | apply xn17 | apply xd17 | apply xa17)); exact BK166.1) Try.underlying48 rfl (by kernel_rfl)) rfl ?_
    exact ⟨_, _, _, _, by first | rfl | (simp [errW_none, errW_some] <;> rfl) | (simp [*, errW_none, errW_some] <;> rfl), by first | exact Kd.R_nil _ _ _ _ _ | exact Kd.N_nil _ _ _ _ _ | exact Kd.V_nil _ _ _ _ _ | exact Kd.Q_nil _ _ _ _ _ | exact Kd.S_nil _ _ _ _ _, by first | exact Kd.R_nil _ _ _ _ _ | exact Kd.N_nil _ _ _ _ _ | exact Kd.V_nil _ _ _ _ _ | exact Kd.Q_nil _ _ _ _ _ | exact Kd.S_nil _ _ _ _ _, by first | exact Kd.R_nil _ _ _ _ _ | exact Kd.N_nil _ _ _ _ _ | exact Kd.V_nil _ _ _ _ _ | exact Kd.Q_nil _ _ _ _ _ | exact Kd.S_nil _ _ _ _ _, by first | exact Kd.S_nil _ _ _ _ _ | exact Kd.N_nil _ _ _ _ _ | exact Kd.V_nil _ _ _ _ _ | exact Kd.Q_nil _ _ _ _ _ | exact Kd.R_nil _ _ _ _ _, by repeat (first | (with_reducible first | exact HB.1 | apply below_alloc | apply pw_below_drewN | apply below_drew1 | refine below_set ?_ GE165.1 | refine below_set ?_ GE166.1) | exact HB.1)⟩

/-! ### vendmeterref_In: function 43 -/
def vendmeterref_In.f (a0 : Int) (a1 : Int) (a2 : Int) : Option (Bool) := if a0 ≥ a1 then (some (decide (a0 ≤ a2))) else (some false)
set_option maxHeartbeats 8000000 in
set_option maxRecDepth 100000 in
theorem vendmeterref_In.calls (a0 : Int) (a1 : Int) (a2 : Int) (r : Bool) (w : World) (h : vendmeterref_In.f a0 a1 a2 = some r) :
    Calls Try.prog 43 #[.int .i64 a0, .int .i64 a1, .int .i64 a2] w fun e w' => e = .returned (.bool r) ∧ Drawn0 w w' := by
  have H : (if a0 ≥ a1 then (some (decide (a0 ≤ a2))) else (some false)) = some r := h
  clear h
  by_cases c4 : a0 ≥ a1
  · rw [if_pos c4] at H
    have c4b0 : decide (a1 ≤ a0) = true := decide_eq_true c4
    clear c4
    obtain rfl := Option.some.inj H
    go_enter Try.func43, Try.ntmps43
    go_wp2
    go_ret
    exact ⟨by first | rfl | (simp; done) | (simp [*]; done), by repeat (first | exact Drawn0.refl _ | apply Drawn0.step)⟩
  · rw [if_neg c4] at H
    have c4b0 : decide (a1 ≤ a0) = false := decide_eq_false c4
    clear c4
    obtain rfl := Option.some.inj H
    go_enter Try.func43, Try.ntmps43
    go_wp2
    go_ret
    exact ⟨by first | rfl | (simp; done) | (simp [*]; done), by repeat (first | exact Drawn0.refl _ | apply Drawn0.step)⟩

end Go.Proofs.Ytoookcmablnjfaa.PWorldBegins
