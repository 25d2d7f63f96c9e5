-- written by this session's program wip/xp/xprint.py (it drives the kit's print and adds to it)
import Derived.Test.YthmmadniaakapaaPMeterKeysx0
import Derived.Test.YthmmadniaakapaaPMeterKeysx3
namespace Go.Proofs.Ythmmadniaakapaa.PMeterKeys
open Go.RowKit Go.Proofs.YthmmadniaakapaaW.PrintWords Go.Proofs.YthmmadniaakapaaW.PrintLast Go.Proofs.YthmmadniaakapaaW.PrintMore
attribute [local go_sem] max2_int min2_int max_two min_two max_three min_three max_four min_four   -- for this text's walks alone
set_option linter.unusedVariables false
set_option linter.unusedSimpArgs false

/-! ### meter_may: function 62 -/
theorem xa62 {w : World} {g : Nat} {o : Obj} (h : w.heap[g]? = some o) (o' : Obj) : (w.alloc o').heap[g]? = some o := blk_alloc h o'
theorem xd62 {w : World} {g : Nat} {o : Obj} (h : w.heap[g]? = some o) : w.drew.heap[g]? = some o := blk_drew h
theorem xn62 {w : World} {g : Nat} {o : Obj} (h : w.heap[g]? = some o) (n : Nat) : (w.drewN n).heap[g]? = some o := blk_drewN h n
def meter_may.j0 : Nat → Bool → Int → Int → Int → Int → Int → Int → Int → Option (Bool)
  | 0, _, _, _, _, _, _, _, _ => none
  | k + 1, x32, x115000, x115001, x115002, x115003, x115004, x115005, x115006 => if x32 = true then (some false) else (if x115005 < 0 then (some false) else (if x115005 ≥ 5 then (some false) else (if x115006 < 0 then (some false) else (if x115006 > 30 then (some false) else (if x115005 > 0 then (if x115006 > 0 then (some false) else ((window_Used.f k x115003 x115004).bind fun bt115 => (some (bt115.2 == 0)))) else ((window_Used.f k x115003 x115004).bind fun bt119 => (some (bt119.2 == 0))))))))
def meter_may.f (k : Nat) (a0_0 : Int) (a0_1 : Int) (a0_2 : Int) (a0_3 : Int) (a0_4 : Int) (a0_5 : Int) (a0_6 : Int) : Option (Bool) := if a0_0 < 0 then (meter_may.j0 k true a0_0 a0_1 a0_2 a0_3 a0_4 a0_5 a0_6) else (if a0_0 ≥ 50 then (meter_may.j0 k true a0_0 a0_1 a0_2 a0_3 a0_4 a0_5 a0_6) else (if a0_1 < 0 then (meter_may.j0 k true a0_0 a0_1 a0_2 a0_3 a0_4 a0_5 a0_6) else (if a0_1 > 15 then (meter_may.j0 k true a0_0 a0_1 a0_2 a0_3 a0_4 a0_5 a0_6) else (if a0_2 < 0 then (meter_may.j0 k true a0_0 a0_1 a0_2 a0_3 a0_4 a0_5 a0_6) else (meter_may.j0 k (decide (a0_2 > 99999999)) a0_0 a0_1 a0_2 a0_3 a0_4 a0_5 a0_6)))))
theorem meter_may.mono_l : ∀ k, (∀ y0 y1 y2 y3 y4 y5 y6 y7, LeO (meter_may.j0 k y0 y1 y2 y3 y4 y5 y6 y7) (meter_may.j0 (k + 1) y0 y1 y2 y3 y4 y5 y6 y7))
  | 0 => fun _ _ _ _ _ _ _ _ r h => by simp [meter_may.j0] at h
  | k + 1 => by
    have ih0 := meter_may.mono_l k
    · intro y0 y1 y2 y3 y4 y5 y6 y7
      unfold meter_may.j0
      repeat' first
      | (with_reducible exact ih0 _ _ _ _ _ _ _ _)
      | (with_reducible exact window_Used.mono _ _ _)
      | (with_reducible exact LeO.refl _)
      | (with_reducible exact LeO.none _)
      | (with_reducible refine LeO.ite ?_ ?_)
      | (with_reducible refine LeO.bind ?_ (fun _ => ?_))
      | exact ih0 _ _ _ _ _ _ _ _
      | exact window_Used.mono _ _ _
      | exact LeO.none _
      | refine LeO.ite ?_ ?_
      | refine LeO.bind ?_ (fun _ => ?_)
theorem meter_may.mono : ∀ a0 a1 a2 a3 a4 a5 a6 k, LeO (meter_may.f k a0 a1 a2 a3 a4 a5 a6) (meter_may.f (k + 1) a0 a1 a2 a3 a4 a5 a6) := by
  intro a0 a1 a2 a3 a4 a5 a6 k
  have ih0 := meter_may.mono_l k
  unfold meter_may.f
  repeat' first
      | (with_reducible exact ih0 _ _ _ _ _ _ _ _)
      | (with_reducible exact window_Used.mono _ _ _)
      | (with_reducible exact LeO.refl _)
      | (with_reducible exact LeO.none _)
      | (with_reducible refine LeO.ite ?_ ?_)
      | (with_reducible refine LeO.bind ?_ (fun _ => ?_))
      | exact ih0 _ _ _ _ _ _ _ _
      | exact window_Used.mono _ _ _
      | exact LeO.none _
      | refine LeO.ite ?_ ?_
      | refine LeO.bind ?_ (fun _ => ?_)
set_option maxHeartbeats 8000000 in
set_option maxRecDepth 100000 in
theorem meter_may.calls (k : Nat) (a0_0 : Int) (a0_1 : Int) (a0_2 : Int) (a0_3 : Int) (a0_4 : Int) (a0_5 : Int) (a0_6 : Int) (r : Bool) (w : World) (h : meter_may.f k a0_0 a0_1 a0_2 a0_3 a0_4 a0_5 a0_6 = some r) :
    Calls Try.prog 62 #[.agg #[.int .i64 a0_0, .int .i64 a0_1, .int .i64 a0_2, .int .i64 a0_3, .int .u64 a0_4, .int .i64 a0_5, .int .i64 a0_6]] w fun e w' => e = .returned (.bool r) ∧ Below w.heap.size w w' := by
  have hu40 := Try.underlying40
  have hu38 := Try.underlying38
  have HB := Aside0.mk (Below.refl w.heap.size w)
  have H : (if a0_0 < 0 then (meter_may.j0 k true a0_0 a0_1 a0_2 a0_3 a0_4 a0_5 a0_6) else (if a0_0 ≥ 50 then (meter_may.j0 k true a0_0 a0_1 a0_2 a0_3 a0_4 a0_5 a0_6) else (if a0_1 < 0 then (meter_may.j0 k true a0_0 a0_1 a0_2 a0_3 a0_4 a0_5 a0_6) else (if a0_1 > 15 then (meter_may.j0 k true a0_0 a0_1 a0_2 a0_3 a0_4 a0_5 a0_6) else (if a0_2 < 0 then (meter_may.j0 k true a0_0 a0_1 a0_2 a0_3 a0_4 a0_5 a0_6) else (meter_may.j0 k (decide (a0_2 > 99999999)) a0_0 a0_1 a0_2 a0_3 a0_4 a0_5 a0_6)))))) = some r := h
  clear h
  have HC2 := Aside0.mk H
  clear H
  go_enter Try.func62, Try.ntmps62
  go_upto_region 1 with (first | ((with_reducible refine gate_dst (N := 1) rfl ?_); refine box_event ?hg (N := 1) ?hd (cs := #[.int .i64 a0_0, .int .i64 a0_1, .int .i64 a0_2, .int .i64 a0_3, .int .u64 a0_4, .int .i64 a0_5, .int .i64 a0_6]) (t := 40) ?hr ?_; (case hd => rfl); (case hg => rfl); (case hr => first | (go_simp; done) | (go_simp; rfl)); intro gb114 hg w3 hbox hb; have n0_ := Aside0.mk (below_step (by repeat (first | (with_reducible first | exact HB.1 | apply below_alloc | apply pw_below_drewN | apply below_drew1) | exact HB.1)) hb); have n1_ := Aside0.mk (hbox); have n2_ := Aside0.mk ((by rw [hg]; exact (below_size (by repeat (first | (with_reducible first | exact HB.1 | apply below_alloc | apply pw_below_drewN | apply below_drew1) | exact HB.1))) : w.heap.size ≤ gb114)); have n3_ := Aside0.mk ((by rw [hg]; exact (below_size (by repeat (first | (with_reducible first | exact HB.1 | apply below_alloc | apply pw_below_drewN | apply below_drew1) | exact HB.1))) : w.heap.size ≤ gb114)); clear HB; have HB := n0_; have BK114 := n1_; have GW114 := n2_; have GE114 := n3_; clear n0_ n1_ n2_ n3_; clear hb hbox hg))
  (try simp only [Act.put, List.setIfInBounds_toArray, List.set_cons_zero, List.set_cons_succ])
  go_cut [32] (fun v32 wc => ∃ (kq : Nat) (x32_1 : Bool), v32 = .bool x32_1 ∧ Aside0 (meter_may.j0 kq x32_1 a0_0 a0_1 a0_2 a0_3 a0_4 a0_5 a0_6 = some r) ∧ Aside0 (kq ≤ k) ∧ Aside0 (wc.heap[gb114]? = some (.cells #[.int .i64 a0_0, .int .i64 a0_1, .int .i64 a0_2, .int .i64 a0_3, .int .u64 a0_4, .int .i64 a0_5, .int .i64 a0_6] 40 (0, 0))) ∧ Aside0 (Below w.heap.size w wc))
  case first =>
    have H := HC2.out
    clear HC2
    by_cases c4 : a0_0 < 0
    · rw [if_pos c4] at H
      have c4b0 : decide (a0_0 < 0) = true := decide_eq_true c4
      clear c4
      (first | rw [c4b0] | (simp only [i64_w, i32_w]; rw [c4b0]) | skip)
      have H' := Aside0.mk H
      clear H
      have hcz5_0 : w3.cell? ⟨gb114, 0, none⟩ = some (.int .i64 a0_0) := (blk_cell BK114.1 0).trans rfl
      have hcz5_1 : w3.cell? ⟨gb114, 1, none⟩ = some (.int .i64 a0_1) := (blk_cell BK114.1 1).trans rfl
      have hcz5_2 : w3.cell? ⟨gb114, 2, none⟩ = some (.int .i64 a0_2) := (blk_cell BK114.1 2).trans rfl
      have hcz5_3 : w3.cell? ⟨gb114, 3, none⟩ = some (.int .i64 a0_3) := (blk_cell BK114.1 3).trans rfl
      have hcz5_4 : w3.cell? ⟨gb114, 4, none⟩ = some (.int .u64 a0_4) := (blk_cell BK114.1 4).trans rfl
      have hcz5_5 : w3.cell? ⟨gb114, 5, none⟩ = some (.int .i64 a0_5) := (blk_cell BK114.1 5).trans rfl
      have hcz5_6 : w3.cell? ⟨gb114, 6, none⟩ = some (.int .i64 a0_6) := (blk_cell BK114.1 6).trans rfl
      have hfz5_0 := blk_frozen BK114.1 0
      have hfz5_1 := blk_frozen BK114.1 1
      have hfz5_2 := blk_frozen BK114.1 2
      have hfz5_3 := blk_frozen BK114.1 3
      have hfz5_4 := blk_frozen BK114.1 4
      have hfz5_5 := blk_frozen BK114.1 5
      have hfz5_6 := blk_frozen BK114.1 6
      go_wp2
      go_meet
      case rel => exact ⟨_, (true), (by first | rfl | (simp; done) | (simp [*]; done)), H', ⟨by first | omega | exact Nat.le_refl _⟩, ⟨by (with_reducible repeat (first | apply xn62 | apply xd62 | apply xa62)); exact BK114.1⟩, ⟨by repeat (first | (with_reducible first | exact HB.1 | apply below_alloc | apply pw_below_drewN | apply below_drew1 | refine below_set ?_ GE114.1) | exact HB.1)⟩⟩
    · rw [if_neg c4] at H
      have c4b0 : decide (a0_0 < 0) = false := decide_eq_false c4
      clear c4
      (first | rw [c4b0] | (simp only [i64_w, i32_w]; rw [c4b0]) | skip)
      by_cases c6 : a0_0 ≥ 50
      · rw [if_pos c6] at H
        have c6b0 : decide (50 ≤ a0_0) = true := decide_eq_true c6
        clear c6
        have H' := Aside0.mk H
        clear H
        have hcz7_0 : w3.cell? ⟨gb114, 0, none⟩ = some (.int .i64 a0_0) := (blk_cell BK114.1 0).trans rfl
        have hcz7_1 : w3.cell? ⟨gb114, 1, none⟩ = some (.int .i64 a0_1) := (blk_cell BK114.1 1).trans rfl
        have hcz7_2 : w3.cell? ⟨gb114, 2, none⟩ = some (.int .i64 a0_2) := (blk_cell BK114.1 2).trans rfl
        have hcz7_3 : w3.cell? ⟨gb114, 3, none⟩ = some (.int .i64 a0_3) := (blk_cell BK114.1 3).trans rfl
        have hcz7_4 : w3.cell? ⟨gb114, 4, none⟩ = some (.int .u64 a0_4) := (blk_cell BK114.1 4).trans rfl
        have hcz7_5 : w3.cell? ⟨gb114, 5, none⟩ = some (.int .i64 a0_5) := (blk_cell BK114.1 5).trans rfl
        have hcz7_6 : w3.cell? ⟨gb114, 6, none⟩ = some (.int .i64 a0_6) := (blk_cell BK114.1 6).trans rfl
        have hfz7_0 := blk_frozen BK114.1 0
        have hfz7_1 := blk_frozen BK114.1 1
        have hfz7_2 := blk_frozen BK114.1 2
        have hfz7_3 := blk_frozen BK114.1 3
        have hfz7_4 := blk_frozen BK114.1 4
        have hfz7_5 := blk_frozen BK114.1 5
        have hfz7_6 := blk_frozen BK114.1 6
        go_wp2
        go_meet
        case rel => exact ⟨_, (true), (by first | rfl | (simp; done) | (simp [*]; done)), H', ⟨by first | omega | exact Nat.le_refl _⟩, ⟨by (with_reducible repeat (first | apply xn62 | apply xd62 | apply xa62)); exact BK114.1⟩, ⟨by repeat (first | (with_reducible first | exact HB.1 | apply below_alloc | apply pw_below_drewN | apply below_drew1 | refine below_set ?_ GE114.1) | exact HB.1)⟩⟩
      · rw [if_neg c6] at H
        have c6b0 : decide (50 ≤ a0_0) = false := decide_eq_false c6
        clear c6
        by_cases c8 : a0_1 < 0
        · rw [if_pos c8] at H
          have c8b0 : decide (a0_1 < 0) = true := decide_eq_true c8
          clear c8
          have H' := Aside0.mk H
          clear H
          have hcz9_0 : w3.cell? ⟨gb114, 0, none⟩ = some (.int .i64 a0_0) := (blk_cell BK114.1 0).trans rfl
          have hcz9_1 : w3.cell? ⟨gb114, 1, none⟩ = some (.int .i64 a0_1) := (blk_cell BK114.1 1).trans rfl
          have hcz9_2 : w3.cell? ⟨gb114, 2, none⟩ = some (.int .i64 a0_2) := (blk_cell BK114.1 2).trans rfl
          have hcz9_3 : w3.cell? ⟨gb114, 3, none⟩ = some (.int .i64 a0_3) := (blk_cell BK114.1 3).trans rfl
          have hcz9_4 : w3.cell? ⟨gb114, 4, none⟩ = some (.int .u64 a0_4) := (blk_cell BK114.1 4).trans rfl
          have hcz9_5 : w3.cell? ⟨gb114, 5, none⟩ = some (.int .i64 a0_5) := (blk_cell BK114.1 5).trans rfl
          have hcz9_6 : w3.cell? ⟨gb114, 6, none⟩ = some (.int .i64 a0_6) := (blk_cell BK114.1 6).trans rfl
          have hfz9_0 := blk_frozen BK114.1 0
          have hfz9_1 := blk_frozen BK114.1 1
          have hfz9_2 := blk_frozen BK114.1 2
          have hfz9_3 := blk_frozen BK114.1 3
          have hfz9_4 := blk_frozen BK114.1 4
          have hfz9_5 := blk_frozen BK114.1 5
          have hfz9_6 := blk_frozen BK114.1 6
          go_wp2
          go_meet
          case rel => exact ⟨_, (true), (by first | rfl | (simp; done) | (simp [*]; done)), H', ⟨by first | omega | exact Nat.le_refl _⟩, ⟨by (with_reducible repeat (first | apply xn62 | apply xd62 | apply xa62)); exact BK114.1⟩, ⟨by repeat (first | (with_reducible first | exact HB.1 | apply below_alloc | apply pw_below_drewN | apply below_drew1 | refine below_set ?_ GE114.1) | exact HB.1)⟩⟩
        · rw [if_neg c8] at H
          have c8b0 : decide (a0_1 < 0) = false := decide_eq_false c8
          clear c8
          by_cases c10 : a0_1 > 15
          · rw [if_pos c10] at H
            have c10b0 : decide (15 < a0_1) = true := decide_eq_true c10
            clear c10
            have H' := Aside0.mk H
            clear H
            have hcz11_0 : w3.cell? ⟨gb114, 0, none⟩ = some (.int .i64 a0_0) := (blk_cell BK114.1 0).trans rfl
            have hcz11_1 : w3.cell? ⟨gb114, 1, none⟩ = some (.int .i64 a0_1) := (blk_cell BK114.1 1).trans rfl
            have hcz11_2 : w3.cell? ⟨gb114, 2, none⟩ = some (.int .i64 a0_2) := (blk_cell BK114.1 2).trans rfl
            have hcz11_3 : w3.cell? ⟨gb114, 3, none⟩ = some (.int .i64 a0_3) := (blk_cell BK114.1 3).trans rfl
            have hcz11_4 : w3.cell? ⟨gb114, 4, none⟩ = some (.int .u64 a0_4) := (blk_cell BK114.1 4).trans rfl
            have hcz11_5 : w3.cell? ⟨gb114, 5, none⟩ = some (.int .i64 a0_5) := (blk_cell BK114.1 5).trans rfl
            have hcz11_6 : w3.cell? ⟨gb114, 6, none⟩ = some (.int .i64 a0_6) := (blk_cell BK114.1 6).trans rfl
            have hfz11_0 := blk_frozen BK114.1 0
            have hfz11_1 := blk_frozen BK114.1 1
            have hfz11_2 := blk_frozen BK114.1 2
            have hfz11_3 := blk_frozen BK114.1 3
            have hfz11_4 := blk_frozen BK114.1 4
            have hfz11_5 := blk_frozen BK114.1 5
            have hfz11_6 := blk_frozen BK114.1 6
            go_wp2
            go_meet
            case rel => exact ⟨_, (true), (by first | rfl | (simp; done) | (simp [*]; done)), H', ⟨by first | omega | exact Nat.le_refl _⟩, ⟨by (with_reducible repeat (first | apply xn62 | apply xd62 | apply xa62)); exact BK114.1⟩, ⟨by repeat (first | (with_reducible first | exact HB.1 | apply below_alloc | apply pw_below_drewN | apply below_drew1 | refine below_set ?_ GE114.1) | exact HB.1)⟩⟩
          · rw [if_neg c10] at H
            have c10b0 : decide (15 < a0_1) = false := decide_eq_false c10
            clear c10
            by_cases c12 : a0_2 < 0
            · rw [if_pos c12] at H
              have c12b0 : decide (a0_2 < 0) = true := decide_eq_true c12
              clear c12
              have H' := Aside0.mk H
              clear H
              have hcz13_0 : w3.cell? ⟨gb114, 0, none⟩ = some (.int .i64 a0_0) := (blk_cell BK114.1 0).trans rfl
              have hcz13_1 : w3.cell? ⟨gb114, 1, none⟩ = some (.int .i64 a0_1) := (blk_cell BK114.1 1).trans rfl
              have hcz13_2 : w3.cell? ⟨gb114, 2, none⟩ = some (.int .i64 a0_2) := (blk_cell BK114.1 2).trans rfl
              have hcz13_3 : w3.cell? ⟨gb114, 3, none⟩ = some (.int .i64 a0_3) := (blk_cell BK114.1 3).trans rfl
              have hcz13_4 : w3.cell? ⟨gb114, 4, none⟩ = some (.int .u64 a0_4) := (blk_cell BK114.1 4).trans rfl
              have hcz13_5 : w3.cell? ⟨gb114, 5, none⟩ = some (.int .i64 a0_5) := (blk_cell BK114.1 5).trans rfl
              have hcz13_6 : w3.cell? ⟨gb114, 6, none⟩ = some (.int .i64 a0_6) := (blk_cell BK114.1 6).trans rfl
              have hfz13_0 := blk_frozen BK114.1 0
              have hfz13_1 := blk_frozen BK114.1 1
              have hfz13_2 := blk_frozen BK114.1 2
              have hfz13_3 := blk_frozen BK114.1 3
              have hfz13_4 := blk_frozen BK114.1 4
              have hfz13_5 := blk_frozen BK114.1 5
              have hfz13_6 := blk_frozen BK114.1 6
              go_wp2
              go_meet
              case rel => exact ⟨_, (true), (by first | rfl | (simp; done) | (simp [*]; done)), H', ⟨by first | omega | exact Nat.le_refl _⟩, ⟨by (with_reducible repeat (first | apply xn62 | apply xd62 | apply xa62)); exact BK114.1⟩, ⟨by repeat (first | (with_reducible first | exact HB.1 | apply below_alloc | apply pw_below_drewN | apply below_drew1 | refine below_set ?_ GE114.1) | exact HB.1)⟩⟩
            · rw [if_neg c12] at H
              have c12b0 : decide (a0_2 < 0) = false := decide_eq_false c12
              clear c12
              have H' := Aside0.mk H
              clear H
              have hcz14_0 : w3.cell? ⟨gb114, 0, none⟩ = some (.int .i64 a0_0) := (blk_cell BK114.1 0).trans rfl
              have hcz14_1 : w3.cell? ⟨gb114, 1, none⟩ = some (.int .i64 a0_1) := (blk_cell BK114.1 1).trans rfl
              have hcz14_2 : w3.cell? ⟨gb114, 2, none⟩ = some (.int .i64 a0_2) := (blk_cell BK114.1 2).trans rfl
              have hcz14_3 : w3.cell? ⟨gb114, 3, none⟩ = some (.int .i64 a0_3) := (blk_cell BK114.1 3).trans rfl
              have hcz14_4 : w3.cell? ⟨gb114, 4, none⟩ = some (.int .u64 a0_4) := (blk_cell BK114.1 4).trans rfl
              have hcz14_5 : w3.cell? ⟨gb114, 5, none⟩ = some (.int .i64 a0_5) := (blk_cell BK114.1 5).trans rfl
              have hcz14_6 : w3.cell? ⟨gb114, 6, none⟩ = some (.int .i64 a0_6) := (blk_cell BK114.1 6).trans rfl
              have hfz14_0 := blk_frozen BK114.1 0
              have hfz14_1 := blk_frozen BK114.1 1
              have hfz14_2 := blk_frozen BK114.1 2
              have hfz14_3 := blk_frozen BK114.1 3
              have hfz14_4 := blk_frozen BK114.1 4
              have hfz14_5 := blk_frozen BK114.1 5
              have hfz14_6 := blk_frozen BK114.1 6
              go_wp2
              go_meet
              case rel => exact ⟨_, (decide (a0_2 > 99999999)), (by first | rfl | (simp; done) | (simp [*]; done)), H', ⟨by first | omega | exact Nat.le_refl _⟩, ⟨by (with_reducible repeat (first | apply xn62 | apply xd62 | apply xa62)); exact BK114.1⟩, ⟨by repeat (first | (with_reducible first | exact HB.1 | apply below_alloc | apply pw_below_drewN | apply below_drew1 | refine below_set ?_ GE114.1) | exact HB.1)⟩⟩
  case rest =>
    clear HC2
    try clear c1
    try clear p2
    try clear c4
    try clear c4b0
    try clear c6
    try clear c6b0
    try clear c8
    try clear c8b0
    try clear c10
    try clear c10b0
    try clear c12
    try clear c12b0
    try clear hcz11_0
    try clear hcz11_1
    try clear hcz11_2
    try clear hcz11_3
    try clear hcz11_4
    try clear hcz11_5
    try clear hcz11_6
    try clear hcz13_0
    try clear hcz13_1
    try clear hcz13_2
    try clear hcz13_3
    try clear hcz13_4
    try clear hcz13_5
    try clear hcz13_6
    try clear hcz14_0
    try clear hcz14_1
    try clear hcz14_2
    try clear hcz14_3
    try clear hcz14_4
    try clear hcz14_5
    try clear hcz14_6
    try clear hcz5_0
    try clear hcz5_1
    try clear hcz5_2
    try clear hcz5_3
    try clear hcz5_4
    try clear hcz5_5
    try clear hcz5_6
    try clear hcz7_0
    try clear hcz7_1
    try clear hcz7_2
    try clear hcz7_3
    try clear hcz7_4
    try clear hcz7_5
    try clear hcz7_6
    try clear hcz9_0
    try clear hcz9_1
    try clear hcz9_2
    try clear hcz9_3
    try clear hcz9_4
    try clear hcz9_5
    try clear hcz9_6
    try clear hfz11_0
    try clear hfz11_1
    try clear hfz11_2
    try clear hfz11_3
    try clear hfz11_4
    try clear hfz11_5
    try clear hfz11_6
    try clear hfz13_0
    try clear hfz13_1
    try clear hfz13_2
    try clear hfz13_3
    try clear hfz13_4
    try clear hfz13_5
    try clear hfz13_6
    try clear hfz14_0
    try clear hfz14_1
    try clear hfz14_2
    try clear hfz14_3
    try clear hfz14_4
    try clear hfz14_5
    try clear hfz14_6
    try clear hfz5_0
    try clear hfz5_1
    try clear hfz5_2
    try clear hfz5_3
    try clear hfz5_4
    try clear hfz5_5
    try clear hfz5_6
    try clear hfz7_0
    try clear hfz7_1
    try clear hfz7_2
    try clear hfz7_3
    try clear hfz7_4
    try clear hfz7_5
    try clear hfz7_6
    try clear hfz9_0
    try clear hfz9_1
    try clear hfz9_2
    try clear hfz9_3
    try clear hfz9_4
    try clear hfz9_5
    try clear hfz9_6
    obtain ⟨kq, x32_1, rfl, HA, HJ1, BK114, HB⟩ := hcut
    cases kq with
    | zero => exact absurd HA.out (by simp [meter_may.j0])
    | succ kj1 =>
      have H := HA.out
      clear HA
      simp only [meter_may.j0] at H
      by_cases c15 : x32_1 = true
      · subst c15
        have H1 : (some false) = some r := by rw [if_pos rfl] at H; exact H
        clear H
        have H := H1
        clear H1
        obtain rfl := Option.some.inj H
        go_wp2
        go_ret
        exact ⟨by first | rfl | (simp [errW_none, errW_some] <;> rfl) | (simp [*, errW_none, errW_some] <;> rfl), by repeat (first | (with_reducible first | exact HB.1 | apply below_alloc | apply pw_below_drewN | apply below_drew1 | refine below_set ?_ GE114.1) | exact HB.1)⟩
      · replace c15 := Bool.eq_false_iff.mpr c15
        subst c15
        have H1 : (if a0_5 < 0 then (some false) else (if a0_5 ≥ 5 then (some false) else (if a0_6 < 0 then (some false) else (if a0_6 > 30 then (some false) else (if a0_5 > 0 then (if a0_6 > 0 then (some false) else ((window_Used.f kj1 a0_3 a0_4).bind fun bt115 => (some (bt115.2 == 0)))) else ((window_Used.f kj1 a0_3 a0_4).bind fun bt119 => (some (bt119.2 == 0)))))))) = some r := by rw [if_neg (show ¬ (false = true) by decide)] at H; exact H
        clear H
        have H := H1
        clear H1
        by_cases c16 : a0_5 < 0
        · rw [if_pos c16] at H
          have c16b0 : decide (a0_5 < 0) = true := decide_eq_true c16
          clear c16
          obtain rfl := Option.some.inj H
          have hcz17_0 : wc.cell? ⟨gb114, 0, none⟩ = some (.int .i64 a0_0) := (blk_cell BK114.1 0).trans rfl
          have hcz17_1 : wc.cell? ⟨gb114, 1, none⟩ = some (.int .i64 a0_1) := (blk_cell BK114.1 1).trans rfl
          have hcz17_2 : wc.cell? ⟨gb114, 2, none⟩ = some (.int .i64 a0_2) := (blk_cell BK114.1 2).trans rfl
          have hcz17_3 : wc.cell? ⟨gb114, 3, none⟩ = some (.int .i64 a0_3) := (blk_cell BK114.1 3).trans rfl
          have hcz17_4 : wc.cell? ⟨gb114, 4, none⟩ = some (.int .u64 a0_4) := (blk_cell BK114.1 4).trans rfl
          have hcz17_5 : wc.cell? ⟨gb114, 5, none⟩ = some (.int .i64 a0_5) := (blk_cell BK114.1 5).trans rfl
          have hcz17_6 : wc.cell? ⟨gb114, 6, none⟩ = some (.int .i64 a0_6) := (blk_cell BK114.1 6).trans rfl
          have hfz17_0 := blk_frozen BK114.1 0
          have hfz17_1 := blk_frozen BK114.1 1
          have hfz17_2 := blk_frozen BK114.1 2
          have hfz17_3 := blk_frozen BK114.1 3
          have hfz17_4 := blk_frozen BK114.1 4
          have hfz17_5 := blk_frozen BK114.1 5
          have hfz17_6 := blk_frozen BK114.1 6
          go_wp2
          go_ret
          exact ⟨by first | rfl | (simp [errW_none, errW_some] <;> rfl) | (simp [*, errW_none, errW_some] <;> rfl), by repeat (first | (with_reducible first | exact HB.1 | apply below_alloc | apply pw_below_drewN | apply below_drew1 | refine below_set ?_ GE114.1) | exact HB.1)⟩
        · rw [if_neg c16] at H
          have c16b0 : decide (a0_5 < 0) = false := decide_eq_false c16
          clear c16
          by_cases c18 : a0_5 ≥ 5
          · rw [if_pos c18] at H
            have c18b0 : decide (5 ≤ a0_5) = true := decide_eq_true c18
            clear c18
            obtain rfl := Option.some.inj H
            have hcz19_0 : wc.cell? ⟨gb114, 0, none⟩ = some (.int .i64 a0_0) := (blk_cell BK114.1 0).trans rfl
            have hcz19_1 : wc.cell? ⟨gb114, 1, none⟩ = some (.int .i64 a0_1) := (blk_cell BK114.1 1).trans rfl
            have hcz19_2 : wc.cell? ⟨gb114, 2, none⟩ = some (.int .i64 a0_2) := (blk_cell BK114.1 2).trans rfl
            have hcz19_3 : wc.cell? ⟨gb114, 3, none⟩ = some (.int .i64 a0_3) := (blk_cell BK114.1 3).trans rfl
            have hcz19_4 : wc.cell? ⟨gb114, 4, none⟩ = some (.int .u64 a0_4) := (blk_cell BK114.1 4).trans rfl
            have hcz19_5 : wc.cell? ⟨gb114, 5, none⟩ = some (.int .i64 a0_5) := (blk_cell BK114.1 5).trans rfl
            have hcz19_6 : wc.cell? ⟨gb114, 6, none⟩ = some (.int .i64 a0_6) := (blk_cell BK114.1 6).trans rfl
            have hfz19_0 := blk_frozen BK114.1 0
            have hfz19_1 := blk_frozen BK114.1 1
            have hfz19_2 := blk_frozen BK114.1 2
            have hfz19_3 := blk_frozen BK114.1 3
            have hfz19_4 := blk_frozen BK114.1 4
            have hfz19_5 := blk_frozen BK114.1 5
            have hfz19_6 := blk_frozen BK114.1 6
            go_wp2
            go_ret
            exact ⟨by first | rfl | (simp [errW_none, errW_some] <;> rfl) | (simp [*, errW_none, errW_some] <;> rfl), by repeat (first | (with_reducible first | exact HB.1 | apply below_alloc | apply pw_below_drewN | apply below_drew1 | refine below_set ?_ GE114.1) | exact HB.1)⟩
          · rw [if_neg c18] at H
            have c18b0 : decide (5 ≤ a0_5) = false := decide_eq_false c18
            clear c18
            by_cases c20 : a0_6 < 0
            · rw [if_pos c20] at H
              have c20b0 : decide (a0_6 < 0) = true := decide_eq_true c20
              clear c20
              obtain rfl := Option.some.inj H
              have hcz21_0 : wc.cell? ⟨gb114, 0, none⟩ = some (.int .i64 a0_0) := (blk_cell BK114.1 0).trans rfl
              have hcz21_1 : wc.cell? ⟨gb114, 1, none⟩ = some (.int .i64 a0_1) := (blk_cell BK114.1 1).trans rfl
              have hcz21_2 : wc.cell? ⟨gb114, 2, none⟩ = some (.int .i64 a0_2) := (blk_cell BK114.1 2).trans rfl
              have hcz21_3 : wc.cell? ⟨gb114, 3, none⟩ = some (.int .i64 a0_3) := (blk_cell BK114.1 3).trans rfl
              have hcz21_4 : wc.cell? ⟨gb114, 4, none⟩ = some (.int .u64 a0_4) := (blk_cell BK114.1 4).trans rfl
              have hcz21_5 : wc.cell? ⟨gb114, 5, none⟩ = some (.int .i64 a0_5) := (blk_cell BK114.1 5).trans rfl
              have hcz21_6 : wc.cell? ⟨gb114, 6, none⟩ = some (.int .i64 a0_6) := (blk_cell BK114.1 6).trans rfl
              have hfz21_0 := blk_frozen BK114.1 0
              have hfz21_1 := blk_frozen BK114.1 1
              have hfz21_2 := blk_frozen BK114.1 2
              have hfz21_3 := blk_frozen BK114.1 3
              have hfz21_4 := blk_frozen BK114.1 4
              have hfz21_5 := blk_frozen BK114.1 5
              have hfz21_6 := blk_frozen BK114.1 6
              go_wp2
              go_ret
              exact ⟨by first | rfl | (simp [errW_none, errW_some] <;> rfl) | (simp [*, errW_none, errW_some] <;> rfl), by repeat (first | (with_reducible first | exact HB.1 | apply below_alloc | apply pw_below_drewN | apply below_drew1 | refine below_set ?_ GE114.1) | exact HB.1)⟩
            · rw [if_neg c20] at H
              have c20b0 : decide (a0_6 < 0) = false := decide_eq_false c20
              clear c20
              by_cases c22 : a0_6 > 30
              · rw [if_pos c22] at H
                have c22b0 : decide (30 < a0_6) = true := decide_eq_true c22
                clear c22
                obtain rfl := Option.some.inj H
                have hcz23_0 : wc.cell? ⟨gb114, 0, none⟩ = some (.int .i64 a0_0) := (blk_cell BK114.1 0).trans rfl
                have hcz23_1 : wc.cell? ⟨gb114, 1, none⟩ = some (.int .i64 a0_1) := (blk_cell BK114.1 1).trans rfl
                have hcz23_2 : wc.cell? ⟨gb114, 2, none⟩ = some (.int .i64 a0_2) := (blk_cell BK114.1 2).trans rfl
                have hcz23_3 : wc.cell? ⟨gb114, 3, none⟩ = some (.int .i64 a0_3) := (blk_cell BK114.1 3).trans rfl
                have hcz23_4 : wc.cell? ⟨gb114, 4, none⟩ = some (.int .u64 a0_4) := (blk_cell BK114.1 4).trans rfl
                have hcz23_5 : wc.cell? ⟨gb114, 5, none⟩ = some (.int .i64 a0_5) := (blk_cell BK114.1 5).trans rfl
                have hcz23_6 : wc.cell? ⟨gb114, 6, none⟩ = some (.int .i64 a0_6) := (blk_cell BK114.1 6).trans rfl
                have hfz23_0 := blk_frozen BK114.1 0
                have hfz23_1 := blk_frozen BK114.1 1
                have hfz23_2 := blk_frozen BK114.1 2
                have hfz23_3 := blk_frozen BK114.1 3
                have hfz23_4 := blk_frozen BK114.1 4
                have hfz23_5 := blk_frozen BK114.1 5
                have hfz23_6 := blk_frozen BK114.1 6
                go_wp2
                go_ret
                exact ⟨by first | rfl | (simp [errW_none, errW_some] <;> rfl) | (simp [*, errW_none, errW_some] <;> rfl), by repeat (first | (with_reducible first | exact HB.1 | apply below_alloc | apply pw_below_drewN | apply below_drew1 | refine below_set ?_ GE114.1) | exact HB.1)⟩
              · rw [if_neg c22] at H
                have c22b0 : decide (30 < a0_6) = false := decide_eq_false c22
                clear c22
                by_cases c24 : a0_5 > 0
                · rw [if_pos c24] at H
                  have c24b0 : decide (0 < a0_5) = true := decide_eq_true c24
                  clear c24
                  by_cases c25 : a0_6 > 0
                  · rw [if_pos c25] at H
                    have c25b0 : decide (0 < a0_6) = true := decide_eq_true c25
                    clear c25
                    obtain rfl := Option.some.inj H
                    have hcz26_0 : wc.cell? ⟨gb114, 0, none⟩ = some (.int .i64 a0_0) := (blk_cell BK114.1 0).trans rfl
                    have hcz26_1 : wc.cell? ⟨gb114, 1, none⟩ = some (.int .i64 a0_1) := (blk_cell BK114.1 1).trans rfl
                    have hcz26_2 : wc.cell? ⟨gb114, 2, none⟩ = some (.int .i64 a0_2) := (blk_cell BK114.1 2).trans rfl
                    have hcz26_3 : wc.cell? ⟨gb114, 3, none⟩ = some (.int .i64 a0_3) := (blk_cell BK114.1 3).trans rfl
                    have hcz26_4 : wc.cell? ⟨gb114, 4, none⟩ = some (.int .u64 a0_4) := (blk_cell BK114.1 4).trans rfl
                    have hcz26_5 : wc.cell? ⟨gb114, 5, none⟩ = some (.int .i64 a0_5) := (blk_cell BK114.1 5).trans rfl
                    have hcz26_6 : wc.cell? ⟨gb114, 6, none⟩ = some (.int .i64 a0_6) := (blk_cell BK114.1 6).trans rfl
                    have hfz26_0 := blk_frozen BK114.1 0
                    have hfz26_1 := blk_frozen BK114.1 1
                    have hfz26_2 := blk_frozen BK114.1 2
                    have hfz26_3 := blk_frozen BK114.1 3
                    have hfz26_4 := blk_frozen BK114.1 4
                    have hfz26_5 := blk_frozen BK114.1 5
                    have hfz26_6 := blk_frozen BK114.1 6
                    go_wp2
                    go_ret
                    exact ⟨by first | rfl | (simp [errW_none, errW_some] <;> rfl) | (simp [*, errW_none, errW_some] <;> rfl), by repeat (first | (with_reducible first | exact HB.1 | apply below_alloc | apply pw_below_drewN | apply below_drew1 | refine below_set ?_ GE114.1) | exact HB.1)⟩
                  · rw [if_neg c25] at H
                    have c25b0 : decide (0 < a0_6) = false := decide_eq_false c25
                    clear c25
                    replace H := Option.bind_eq_some_iff.mp H
                    obtain ⟨⟨t115, t118⟩, A270, H⟩ := H
                    replace H : (some (t118 == 0)) = some r := H
                    have A27 := Aside0.mk A270
                    clear A270
                    obtain rfl := Option.some.inj H
                    have hcz28_0 : wc.cell? ⟨gb114, 0, none⟩ = some (.int .i64 a0_0) := (blk_cell BK114.1 0).trans rfl
                    have hcz28_1 : wc.cell? ⟨gb114, 1, none⟩ = some (.int .i64 a0_1) := (blk_cell BK114.1 1).trans rfl
                    have hcz28_2 : wc.cell? ⟨gb114, 2, none⟩ = some (.int .i64 a0_2) := (blk_cell BK114.1 2).trans rfl
                    have hcz28_3 : wc.cell? ⟨gb114, 3, none⟩ = some (.int .i64 a0_3) := (blk_cell BK114.1 3).trans rfl
                    have hcz28_4 : wc.cell? ⟨gb114, 4, none⟩ = some (.int .u64 a0_4) := (blk_cell BK114.1 4).trans rfl
                    have hcz28_5 : wc.cell? ⟨gb114, 5, none⟩ = some (.int .i64 a0_5) := (blk_cell BK114.1 5).trans rfl
                    have hcz28_6 : wc.cell? ⟨gb114, 6, none⟩ = some (.int .i64 a0_6) := (blk_cell BK114.1 6).trans rfl
                    have hfz28_0 := blk_frozen BK114.1 0
                    have hfz28_1 := blk_frozen BK114.1 1
                    have hfz28_2 := blk_frozen BK114.1 2
                    have hfz28_3 := blk_frozen BK114.1 3
                    have hfz28_4 := blk_frozen BK114.1 4
                    have hfz28_5 := blk_frozen BK114.1 5
                    have hfz28_6 := blk_frozen BK114.1 6
                    go_wp2_with (first | ((with_reducible refine gate_callee (f := 107) rfl ?_); refine goesL_ (some 64) rfl rfl Try.func107 (by kernel_rfl) rfl #[.agg #[.int .i64 a0_3, .int .u64 a0_4]] rfl (by (try simp only [List.map_toArray, List.map_cons, List.map_nil]); first | done | rfl | (simp only [List.length_drop, List.length_take]; rfl)) ?_; (with_reducible refine (window_Used.calls kj1 a0_3 a0_4 t115 t118 _ A27.out).mono ?_); rintro e w29 ⟨v116, rfl, ho0, hb⟩; refine ⟨_, rfl, ?_⟩; have n0_ := Aside0.mk (Kd.R_lower ho0 (below_size (by repeat (first | (with_reducible first | exact HB.1 | apply below_alloc | apply pw_below_drewN | apply below_drew1 | refine below_set ?_ GE114.1) | exact HB.1)))); have n1_ := Aside0.mk (blk_below (g := gb114) (o := .cells #[.int .i64 a0_0, .int .i64 a0_1, .int .i64 a0_2, .int .i64 a0_3, .int .u64 a0_4, .int .i64 a0_5, .int .i64 a0_6] 40 (0, 0)) (by (with_reducible repeat (first | apply xn62 | apply xd62 | apply xa62)); exact BK114.1) hb); have n2_ := Aside0.mk (below_step (by repeat (first | (with_reducible first | exact HB.1 | apply below_alloc | apply pw_below_drewN | apply below_drew1 | refine below_set ?_ GE114.1) | exact HB.1)) hb); clear BK114; clear HB; have HO117 := n0_; have BK114 := n1_; have HB := n2_; clear n0_ n1_ n2_; (try clear hb); (try clear hb2); (try clear hk); (try clear hi); (try clear ho0)))
                    go_ret
                    exact ⟨by first | rfl | (simp [errW_none, errW_some] <;> rfl) | (simp [*, errW_none, errW_some] <;> rfl), by repeat (first | (with_reducible first | exact HB.1 | apply below_alloc | apply pw_below_drewN | apply below_drew1 | refine below_set ?_ GE114.1) | exact HB.1)⟩
                · rw [if_neg c24] at H
                  have c24b0 : decide (0 < a0_5) = false := decide_eq_false c24
                  clear c24
                  replace H := Option.bind_eq_some_iff.mp H
                  obtain ⟨⟨t119, t122⟩, A300, H⟩ := H
                  replace H : (some (t122 == 0)) = some r := H
                  have A30 := Aside0.mk A300
                  clear A300
                  obtain rfl := Option.some.inj H
                  have hcz31_0 : wc.cell? ⟨gb114, 0, none⟩ = some (.int .i64 a0_0) := (blk_cell BK114.1 0).trans rfl
                  have hcz31_1 : wc.cell? ⟨gb114, 1, none⟩ = some (.int .i64 a0_1) := (blk_cell BK114.1 1).trans rfl
                  have hcz31_2 : wc.cell? ⟨gb114, 2, none⟩ = some (.int .i64 a0_2) := (blk_cell BK114.1 2).trans rfl
                  have hcz31_3 : wc.cell? ⟨gb114, 3, none⟩ = some (.int .i64 a0_3) := (blk_cell BK114.1 3).trans rfl
                  have hcz31_4 : wc.cell? ⟨gb114, 4, none⟩ = some (.int .u64 a0_4) := (blk_cell BK114.1 4).trans rfl
                  have hcz31_5 : wc.cell? ⟨gb114, 5, none⟩ = some (.int .i64 a0_5) := (blk_cell BK114.1 5).trans rfl
                  have hcz31_6 : wc.cell? ⟨gb114, 6, none⟩ = some (.int .i64 a0_6) := (blk_cell BK114.1 6).trans rfl
                  have hfz31_0 := blk_frozen BK114.1 0
                  have hfz31_1 := blk_frozen BK114.1 1
                  have hfz31_2 := blk_frozen BK114.1 2
                  have hfz31_3 := blk_frozen BK114.1 3
                  have hfz31_4 := blk_frozen BK114.1 4
                  have hfz31_5 := blk_frozen BK114.1 5
                  have hfz31_6 := blk_frozen BK114.1 6
                  go_wp2_with (first | ((with_reducible refine gate_callee (f := 107) rfl ?_); refine goesL_ (some 64) rfl rfl Try.func107 (by kernel_rfl) rfl #[.agg #[.int .i64 a0_3, .int .u64 a0_4]] rfl (by (try simp only [List.map_toArray, List.map_cons, List.map_nil]); first | done | rfl | (simp only [List.length_drop, List.length_take]; rfl)) ?_; (with_reducible refine (window_Used.calls kj1 a0_3 a0_4 t119 t122 _ A30.out).mono ?_); rintro e w32 ⟨v120, rfl, ho0, hb⟩; refine ⟨_, rfl, ?_⟩; have n0_ := Aside0.mk (Kd.R_lower ho0 (below_size (by repeat (first | (with_reducible first | exact HB.1 | apply below_alloc | apply pw_below_drewN | apply below_drew1 | refine below_set ?_ GE114.1) | exact HB.1)))); have n1_ := Aside0.mk (blk_below (g := gb114) (o := .cells #[.int .i64 a0_0, .int .i64 a0_1, .int .i64 a0_2, .int .i64 a0_3, .int .u64 a0_4, .int .i64 a0_5, .int .i64 a0_6] 40 (0, 0)) (by (with_reducible repeat (first | apply xn62 | apply xd62 | apply xa62)); exact BK114.1) hb); have n2_ := Aside0.mk (below_step (by repeat (first | (with_reducible first | exact HB.1 | apply below_alloc | apply pw_below_drewN | apply below_drew1 | refine below_set ?_ GE114.1) | exact HB.1)) hb); clear BK114; clear HB; have HO121 := n0_; have BK114 := n1_; have HB := n2_; clear n0_ n1_ n2_; (try clear hb); (try clear hb2); (try clear hk); (try clear hi); (try clear ho0)))
                  go_ret
                  exact ⟨by first | rfl | (simp [errW_none, errW_some] <;> rfl) | (simp [*, errW_none, errW_some] <;> rfl), by repeat (first | (with_reducible first | exact HB.1 | apply below_alloc | apply pw_below_drewN | apply below_drew1 | refine below_set ?_ GE114.1) | exact HB.1)⟩

/-! ### oracle_of: function 141 -/
def oracle_of.f (a0_0 : Int) (a0_1 : Int) (a0_2 : Int) (a0_3 : Int) : Option (Int × Int × Int) := some (a0_0, a0_1, a0_2)
set_option maxHeartbeats 8000000 in
set_option maxRecDepth 100000 in
theorem oracle_of.calls (a0_0 : Int) (a0_1 : Int) (a0_2 : Int) (a0_3 : Int) (r1 : Int) (r2 : Int) (r3 : Int) (w : World) (h : oracle_of.f a0_0 a0_1 a0_2 a0_3 = some (r1, r2, r3)) :
    Calls Try.prog 141 #[.agg #[.int .i64 a0_0, .int .i64 a0_1, .int .i64 a0_2, .int .i64 a0_3]] w fun e w' => e = .returned (.agg #[.int .i64 r1, .int .i64 r2, .int .i64 r3]) ∧ Below w.heap.size w w' := by
  have hu118 := Try.underlying118
  have hu189 := Try.underlying189
  have HB := Aside0.mk (Below.refl w.heap.size w)
  have H : (some (a0_0, a0_1, a0_2)) = some (r1, r2, r3) := h
  clear h
  simp only [Option.some.injEq, Prod.mk.injEq] at H
  obtain ⟨rfl, rfl, rfl⟩ := H
  go_enter Try.func141, Try.ntmps141
  go_wp2_with (first | ((with_reducible refine gate_dst (N := 1) rfl ?_); refine box_event ?hg (N := 1) ?hd (cs := #[.int .i64 a0_0, .int .i64 a0_1, .int .i64 a0_2, .int .i64 a0_3]) (t := 118) ?hr ?_; (case hd => rfl); (case hg => rfl); (case hr => first | (go_simp; done) | (go_simp; rfl)); intro gb123 hg w2 hbox hb; have n0_ := Aside0.mk (below_step (by repeat (first | (with_reducible first | exact HB.out | apply below_alloc | apply pw_below_drewN | apply below_drew1) | exact HB.out)) hb); have n1_ := Aside0.mk (hbox); have n2_ := Aside0.mk ((by rw [hg]; exact (below_size (by repeat (first | (with_reducible first | exact HB.out | apply below_alloc | apply pw_below_drewN | apply below_drew1) | exact HB.out))) : w.heap.size ≤ gb123)); have n3_ := Aside0.mk ((by rw [hg]; exact (below_size (by repeat (first | (with_reducible first | exact HB.out | apply below_alloc | apply pw_below_drewN | apply below_drew1) | exact HB.out))) : w.heap.size ≤ gb123)); clear HB; have HB := n0_; have BK123 := n1_; have GW123 := n2_; have GE123 := n3_; clear n0_ n1_ n2_ n3_; clear hb hbox hg) | ((with_reducible refine gate_dst (N := 2) rfl ?_); refine box_event ?hg (N := 2) ?hd (cs := #[.int .i64 0, .int .i64 0, .int .i64 0]) (t := 189) ?hr ?_; (case hd => rfl); (case hg => rfl); (case hr => first | (go_simp; done) | (go_simp; rfl)); intro gb124 hg w3 hbox hb; have n0_ := Aside0.mk (blk_below (g := gb123) (o := .cells #[.int .i64 a0_0, .int .i64 a0_1, .int .i64 a0_2, .int .i64 a0_3] 118 (0, 0)) (by (with_reducible repeat (first | refine blk_drewN ?_ _ | refine blk_drew ?_ | refine blk_alloc ?_ _)); exact BK123.out) hb); have n1_ := Aside0.mk (below_step (by repeat (first | (with_reducible first | exact HB.out | apply below_alloc | apply pw_below_drewN | apply below_drew1 | refine below_set ?_ GE123.out) | exact HB.out)) hb); have n2_ := Aside0.mk (hbox); have n3_ := Aside0.mk ((by rw [hg]; exact (below_size (by repeat (first | (with_reducible first | exact HB.out | apply below_alloc | apply pw_below_drewN | apply below_drew1 | refine below_set ?_ GE123.out) | exact HB.out))) : w.heap.size ≤ gb124)); have n4_ := Aside0.mk ((by rw [hg]; exact (below_size (by repeat (first | (with_reducible first | exact HB.out | apply below_alloc | apply pw_below_drewN | apply below_drew1 | refine below_set ?_ GE123.out) | exact HB.out))) : w.heap.size ≤ gb124)); have n5_ := Aside0.mk ((by rw [hg]; exact Nat.ne_of_lt (blk_lt (g := gb123) (o := .cells #[.int .i64 a0_0, .int .i64 a0_1, .int .i64 a0_2, .int .i64 a0_3] 118 (0, 0)) (by (with_reducible repeat (first | refine blk_drewN ?_ _ | refine blk_drew ?_ | refine blk_alloc ?_ _)); exact BK123.out)) : gb123 ≠ gb124)); have n6_ := Aside0.mk ((by rw [hg]; exact Nat.ne_of_gt (blk_lt (g := gb123) (o := .cells #[.int .i64 a0_0, .int .i64 a0_1, .int .i64 a0_2, .int .i64 a0_3] 118 (0, 0)) (by (with_reducible repeat (first | refine blk_drewN ?_ _ | refine blk_drew ?_ | refine blk_alloc ?_ _)); exact BK123.out)) : gb124 ≠ gb123)); clear BK123; clear HB; have BK123 := n0_; have HB := n1_; have BK124 := n2_; have GW124 := n3_; have GE124 := n4_; have NB123_124 := n5_; have NB124_123 := n6_; clear n0_ n1_ n2_ n3_ n4_ n5_ n6_; clear hb hbox hg; have hnb4 := NB123_124.out; have hnc4 := NB124_123.out; have hcz5_0 : w3.cell? ⟨gb123, 0, none⟩ = some (.int .i64 a0_0) := (blk_cell BK123.out 0).trans rfl; have hcz5_1 : w3.cell? ⟨gb123, 1, none⟩ = some (.int .i64 a0_1) := (blk_cell BK123.out 1).trans rfl; have hcz5_2 : w3.cell? ⟨gb123, 2, none⟩ = some (.int .i64 a0_2) := (blk_cell BK123.out 2).trans rfl; have hcz5_3 : w3.cell? ⟨gb123, 3, none⟩ = some (.int .i64 a0_3) := (blk_cell BK123.out 3).trans rfl; have hfz5_0 := blk_frozen BK123.out 0; have hfz5_1 := blk_frozen BK123.out 1; have hfz5_2 := blk_frozen BK123.out 2; have hfz5_3 := blk_frozen BK123.out 3; have hcz6_0 : w3.cell? ⟨gb124, 0, none⟩ = some (.int .i64 0) := (blk_cell BK124.out 0).trans rfl; have hcz6_1 : w3.cell? ⟨gb124, 1, none⟩ = some (.int .i64 0) := (blk_cell BK124.out 1).trans rfl; have hcz6_2 : w3.cell? ⟨gb124, 2, none⟩ = some (.int .i64 0) := (blk_cell BK124.out 2).trans rfl; have hfz6_0 := blk_frozen BK124.out 0; have hfz6_1 := blk_frozen BK124.out 1; have hfz6_2 := blk_frozen BK124.out 2))
  refine bodyPost_ret (results_cell_row rfl _ _ gb124 189 #[.int .i64 a0_0, .int .i64 a0_1, .int .i64 a0_2] (0, 0) _ rfl (by (with_reducible repeat (first | refine blk_drewN ?_ _ | refine blk_drew ?_ | refine blk_alloc ?_ _)); refine blk_put (cs := #[.int .i64 a0_0, .int .i64 a0_1, .int .i64 0]) ?_ 2 _ rfl; (with_reducible repeat (first | refine blk_drewN ?_ _ | refine blk_drew ?_ | refine blk_alloc ?_ _)); refine blk_put (cs := #[.int .i64 a0_0, .int .i64 0, .int .i64 0]) ?_ 1 _ rfl; (with_reducible repeat (first | refine blk_drewN ?_ _ | refine blk_drew ?_ | refine blk_alloc ?_ _)); refine blk_put (cs := #[.int .i64 0, .int .i64 0, .int .i64 0]) ?_ 0 _ rfl; (with_reducible repeat (first | refine blk_drewN ?_ _ | refine blk_drew ?_ | refine blk_alloc ?_ _)); exact BK124.out) Try.underlying189 rfl (by kernel_rfl)) rfl ?_
  exact ⟨by first | rfl | (simp [errW_none, errW_some] <;> rfl) | (simp [*, errW_none, errW_some] <;> rfl), by repeat (first | (with_reducible first | exact HB.out | apply below_alloc | apply pw_below_drewN | apply below_drew1 | refine below_set ?_ GE123.out | refine below_set ?_ GE124.out) | exact HB.out)⟩

/-! ### oracle_what_may: function 142 -/
def oracle_what_may.f (a0_0 : Int) (a0_1 : Int) (a0_2 : Int) : Option (Bool) := if a0_0 ≥ 0 then (if a0_0 < 50 then (if a0_1 ≥ 0 then (if a0_1 ≤ 15 then (if a0_2 ≥ 0 then (some (decide (a0_2 ≤ 8796093022207))) else (some false)) else (some false)) else (some false)) else (some false)) else (some false)
set_option maxHeartbeats 8000000 in
set_option maxRecDepth 100000 in
theorem oracle_what_may.calls (a0_0 : Int) (a0_1 : Int) (a0_2 : Int) (r : Bool) (w : World) (h : oracle_what_may.f a0_0 a0_1 a0_2 = some r) :
    Calls Try.prog 142 #[.agg #[.int .i64 a0_0, .int .i64 a0_1, .int .i64 a0_2]] w fun e w' => e = .returned (.bool r) ∧ Below w.heap.size w w' := by
  have hu189 := Try.underlying189
  have HB := Aside0.mk (Below.refl w.heap.size w)
  have H : (if a0_0 ≥ 0 then (if a0_0 < 50 then (if a0_1 ≥ 0 then (if a0_1 ≤ 15 then (if a0_2 ≥ 0 then (some (decide (a0_2 ≤ 8796093022207))) else (some false)) else (some false)) else (some false)) else (some false)) else (some false)) = some r := h
  clear h
  by_cases c2 : a0_0 ≥ 0
  · rw [if_pos c2] at H
    have c2b0 : decide (0 ≤ a0_0) = true := decide_eq_true c2
    clear c2
    by_cases c3 : a0_0 < 50
    · rw [if_pos c3] at H
      have c3b0 : decide (a0_0 < 50) = true := decide_eq_true c3
      clear c3
      by_cases c4 : a0_1 ≥ 0
      · rw [if_pos c4] at H
        have c4b0 : decide (0 ≤ a0_1) = true := decide_eq_true c4
        clear c4
        by_cases c5 : a0_1 ≤ 15
        · rw [if_pos c5] at H
          have c5b0 : decide (a0_1 ≤ 15) = true := decide_eq_true c5
          clear c5
          by_cases c6 : a0_2 ≥ 0
          · rw [if_pos c6] at H
            have c6b0 : decide (0 ≤ a0_2) = true := decide_eq_true c6
            clear c6
            obtain rfl := Option.some.inj H
            go_enter Try.func142, Try.ntmps142
            go_wp2_with (first | ((with_reducible refine gate_dst (N := 1) rfl ?_); refine box_event ?hg (N := 1) ?hd (cs := #[.int .i64 a0_0, .int .i64 a0_1, .int .i64 a0_2]) (t := 189) ?hr ?_; (case hd => rfl); (case hg => rfl); (case hr => first | (go_simp; done) | (go_simp; rfl)); intro gb125 hg w7 hbox hb; have n0_ := Aside0.mk (below_step (by repeat (first | (with_reducible first | exact HB.out | apply below_alloc | apply pw_below_drewN | apply below_drew1) | exact HB.out)) hb); have n1_ := Aside0.mk (hbox); have n2_ := Aside0.mk ((by rw [hg]; exact (below_size (by repeat (first | (with_reducible first | exact HB.out | apply below_alloc | apply pw_below_drewN | apply below_drew1) | exact HB.out))) : w.heap.size ≤ gb125)); have n3_ := Aside0.mk ((by rw [hg]; exact (below_size (by repeat (first | (with_reducible first | exact HB.out | apply below_alloc | apply pw_below_drewN | apply below_drew1) | exact HB.out))) : w.heap.size ≤ gb125)); clear HB; have HB := n0_; have BK125 := n1_; have GW125 := n2_; have GE125 := n3_; clear n0_ n1_ n2_ n3_; clear hb hbox hg; have hcz8_0 : w7.cell? ⟨gb125, 0, none⟩ = some (.int .i64 a0_0) := (blk_cell BK125.out 0).trans rfl; have hcz8_1 : w7.cell? ⟨gb125, 1, none⟩ = some (.int .i64 a0_1) := (blk_cell BK125.out 1).trans rfl; have hcz8_2 : w7.cell? ⟨gb125, 2, none⟩ = some (.int .i64 a0_2) := (blk_cell BK125.out 2).trans rfl; have hfz8_0 := blk_frozen BK125.out 0; have hfz8_1 := blk_frozen BK125.out 1; have hfz8_2 := blk_frozen BK125.out 2))
            go_ret
            exact ⟨by first | rfl | (simp [errW_none, errW_some] <;> rfl) | (simp [*, errW_none, errW_some] <;> rfl), by repeat (first | (with_reducible first | exact HB.out | apply below_alloc | apply pw_below_drewN | apply below_drew1 | refine below_set ?_ GE125.out) | exact HB.out)⟩
          · rw [if_neg c6] at H
            have c6b0 : decide (0 ≤ a0_2) = false := decide_eq_false c6
            clear c6
            obtain rfl := Option.some.inj H
            go_enter Try.func142, Try.ntmps142
            go_wp2_with (first | ((with_reducible refine gate_dst (N := 1) rfl ?_); refine box_event ?hg (N := 1) ?hd (cs := #[.int .i64 a0_0, .int .i64 a0_1, .int .i64 a0_2]) (t := 189) ?hr ?_; (case hd => rfl); (case hg => rfl); (case hr => first | (go_simp; done) | (go_simp; rfl)); intro gb125 hg w9 hbox hb; have n0_ := Aside0.mk (below_step (by repeat (first | (with_reducible first | exact HB.out | apply below_alloc | apply pw_below_drewN | apply below_drew1) | exact HB.out)) hb); have n1_ := Aside0.mk (hbox); have n2_ := Aside0.mk ((by rw [hg]; exact (below_size (by repeat (first | (with_reducible first | exact HB.out | apply below_alloc | apply pw_below_drewN | apply below_drew1) | exact HB.out))) : w.heap.size ≤ gb125)); have n3_ := Aside0.mk ((by rw [hg]; exact (below_size (by repeat (first | (with_reducible first | exact HB.out | apply below_alloc | apply pw_below_drewN | apply below_drew1) | exact HB.out))) : w.heap.size ≤ gb125)); clear HB; have HB := n0_; have BK125 := n1_; have GW125 := n2_; have GE125 := n3_; clear n0_ n1_ n2_ n3_; clear hb hbox hg; have hcz10_0 : w9.cell? ⟨gb125, 0, none⟩ = some (.int .i64 a0_0) := (blk_cell BK125.out 0).trans rfl; have hcz10_1 : w9.cell? ⟨gb125, 1, none⟩ = some (.int .i64 a0_1) := (blk_cell BK125.out 1).trans rfl; have hcz10_2 : w9.cell? ⟨gb125, 2, none⟩ = some (.int .i64 a0_2) := (blk_cell BK125.out 2).trans rfl; have hfz10_0 := blk_frozen BK125.out 0; have hfz10_1 := blk_frozen BK125.out 1; have hfz10_2 := blk_frozen BK125.out 2))
            go_ret
            exact ⟨by first | rfl | (simp [errW_none, errW_some] <;> rfl) | (simp [*, errW_none, errW_some] <;> rfl), by repeat (first | (with_reducible first | exact HB.out | apply below_alloc | apply pw_below_drewN | apply below_drew1 | refine below_set ?_ GE125.out) | exact HB.out)⟩
        · rw [if_neg c5] at H
          have c5b0 : decide (a0_1 ≤ 15) = false := decide_eq_false c5
          clear c5
          obtain rfl := Option.some.inj H
          go_enter Try.func142, Try.ntmps142
          go_wp2_with (first | ((with_reducible refine gate_dst (N := 1) rfl ?_); refine box_event ?hg (N := 1) ?hd (cs := #[.int .i64 a0_0, .int .i64 a0_1, .int .i64 a0_2]) (t := 189) ?hr ?_; (case hd => rfl); (case hg => rfl); (case hr => first | (go_simp; done) | (go_simp; rfl)); intro gb125 hg w11 hbox hb; have n0_ := Aside0.mk (below_step (by repeat (first | (with_reducible first | exact HB.out | apply below_alloc | apply pw_below_drewN | apply below_drew1) | exact HB.out)) hb); have n1_ := Aside0.mk (hbox); have n2_ := Aside0.mk ((by rw [hg]; exact (below_size (by repeat (first | (with_reducible first | exact HB.out | apply below_alloc | apply pw_below_drewN | apply below_drew1) | exact HB.out))) : w.heap.size ≤ gb125)); have n3_ := Aside0.mk ((by rw [hg]; exact (below_size (by repeat (first | (with_reducible first | exact HB.out | apply below_alloc | apply pw_below_drewN | apply below_drew1) | exact HB.out))) : w.heap.size ≤ gb125)); clear HB; have HB := n0_; have BK125 := n1_; have GW125 := n2_; have GE125 := n3_; clear n0_ n1_ n2_ n3_; clear hb hbox hg; have hcz12_0 : w11.cell? ⟨gb125, 0, none⟩ = some (.int .i64 a0_0) := (blk_cell BK125.out 0).trans rfl; have hcz12_1 : w11.cell? ⟨gb125, 1, none⟩ = some (.int .i64 a0_1) := (blk_cell BK125.out 1).trans rfl; have hcz12_2 : w11.cell? ⟨gb125, 2, none⟩ = some (.int .i64 a0_2) := (blk_cell BK125.out 2).trans rfl; have hfz12_0 := blk_frozen BK125.out 0; have hfz12_1 := blk_frozen BK125.out 1; have hfz12_2 := blk_frozen BK125.out 2))
          go_ret
          exact ⟨by first | rfl | (simp [errW_none, errW_some] <;> rfl) | (simp [*, errW_none, errW_some] <;> rfl), by repeat (first | (with_reducible first | exact HB.out | apply below_alloc | apply pw_below_drewN | apply below_drew1 | refine below_set ?_ GE125.out) | exact HB.out)⟩
      · rw [if_neg c4] at H
        have c4b0 : decide (0 ≤ a0_1) = false := decide_eq_false c4
        clear c4
        obtain rfl := Option.some.inj H
        go_enter Try.func142, Try.ntmps142
        go_wp2_with (first | ((with_reducible refine gate_dst (N := 1) rfl ?_); refine box_event ?hg (N := 1) ?hd (cs := #[.int .i64 a0_0, .int .i64 a0_1, .int .i64 a0_2]) (t := 189) ?hr ?_; (case hd => rfl); (case hg => rfl); (case hr => first | (go_simp; done) | (go_simp; rfl)); intro gb125 hg w13 hbox hb; have n0_ := Aside0.mk (below_step (by repeat (first | (with_reducible first | exact HB.out | apply below_alloc | apply pw_below_drewN | apply below_drew1) | exact HB.out)) hb); have n1_ := Aside0.mk (hbox); have n2_ := Aside0.mk ((by rw [hg]; exact (below_size (by repeat (first | (with_reducible first | exact HB.out | apply below_alloc | apply pw_below_drewN | apply below_drew1) | exact HB.out))) : w.heap.size ≤ gb125)); have n3_ := Aside0.mk ((by rw [hg]; exact (below_size (by repeat (first | (with_reducible first | exact HB.out | apply below_alloc | apply pw_below_drewN | apply below_drew1) | exact HB.out))) : w.heap.size ≤ gb125)); clear HB; have HB := n0_; have BK125 := n1_; have GW125 := n2_; have GE125 := n3_; clear n0_ n1_ n2_ n3_; clear hb hbox hg; have hcz14_0 : w13.cell? ⟨gb125, 0, none⟩ = some (.int .i64 a0_0) := (blk_cell BK125.out 0).trans rfl; have hcz14_1 : w13.cell? ⟨gb125, 1, none⟩ = some (.int .i64 a0_1) := (blk_cell BK125.out 1).trans rfl; have hcz14_2 : w13.cell? ⟨gb125, 2, none⟩ = some (.int .i64 a0_2) := (blk_cell BK125.out 2).trans rfl; have hfz14_0 := blk_frozen BK125.out 0; have hfz14_1 := blk_frozen BK125.out 1; have hfz14_2 := blk_frozen BK125.out 2))
        go_ret
        exact ⟨by first | rfl | (simp [errW_none, errW_some] <;> rfl) | (simp [*, errW_none, errW_some] <;> rfl), by repeat (first | (with_reducible first | exact HB.out | apply below_alloc | apply pw_below_drewN | apply below_drew1 | refine below_set ?_ GE125.out) | exact HB.out)⟩
    · rw [if_neg c3] at H
      have c3b0 : decide (a0_0 < 50) = false := decide_eq_false c3
      clear c3
      obtain rfl := Option.some.inj H
      go_enter Try.func142, Try.ntmps142
      go_wp2_with (first | ((with_reducible refine gate_dst (N := 1) rfl ?_); refine box_event ?hg (N := 1) ?hd (cs := #[.int .i64 a0_0, .int .i64 a0_1, .int .i64 a0_2]) (t := 189) ?hr ?_; (case hd => rfl); (case hg => rfl); (case hr => first | (go_simp; done) | (go_simp; rfl)); intro gb125 hg w15 hbox hb; have n0_ := Aside0.mk (below_step (by repeat (first | (with_reducible first | exact HB.out | apply below_alloc | apply pw_below_drewN | apply below_drew1) | exact HB.out)) hb); have n1_ := Aside0.mk (hbox); have n2_ := Aside0.mk ((by rw [hg]; exact (below_size (by repeat (first | (with_reducible first | exact HB.out | apply below_alloc | apply pw_below_drewN | apply below_drew1) | exact HB.out))) : w.heap.size ≤ gb125)); have n3_ := Aside0.mk ((by rw [hg]; exact (below_size (by repeat (first | (with_reducible first | exact HB.out | apply below_alloc | apply pw_below_drewN | apply below_drew1) | exact HB.out))) : w.heap.size ≤ gb125)); clear HB; have HB := n0_; have BK125 := n1_; have GW125 := n2_; have GE125 := n3_; clear n0_ n1_ n2_ n3_; clear hb hbox hg; have hcz16_0 : w15.cell? ⟨gb125, 0, none⟩ = some (.int .i64 a0_0) := (blk_cell BK125.out 0).trans rfl; have hcz16_1 : w15.cell? ⟨gb125, 1, none⟩ = some (.int .i64 a0_1) := (blk_cell BK125.out 1).trans rfl; have hcz16_2 : w15.cell? ⟨gb125, 2, none⟩ = some (.int .i64 a0_2) := (blk_cell BK125.out 2).trans rfl; have hfz16_0 := blk_frozen BK125.out 0; have hfz16_1 := blk_frozen BK125.out 1; have hfz16_2 := blk_frozen BK125.out 2))
      go_ret
      exact ⟨by first | rfl | (simp [errW_none, errW_some] <;> rfl) | (simp [*, errW_none, errW_some] <;> rfl), by repeat (first | (with_reducible first | exact HB.out | apply below_alloc | apply pw_below_drewN | apply below_drew1 | refine below_set ?_ GE125.out) | exact HB.out)⟩
  · rw [if_neg c2] at H
    have c2b0 : decide (0 ≤ a0_0) = false := decide_eq_false c2
    clear c2
    obtain rfl := Option.some.inj H
    go_enter Try.func142, Try.ntmps142
    go_wp2_with (first | ((with_reducible refine gate_dst (N := 1) rfl ?_); refine box_event ?hg (N := 1) ?hd (cs := #[.int .i64 a0_0, .int .i64 a0_1, .int .i64 a0_2]) (t := 189) ?hr ?_; (case hd => rfl); (case hg => rfl); (case hr => first | (go_simp; done) | (go_simp; rfl)); intro gb125 hg w17 hbox hb; have n0_ := Aside0.mk (below_step (by repeat (first | (with_reducible first | exact HB.out | apply below_alloc | apply pw_below_drewN | apply below_drew1) | exact HB.out)) hb); have n1_ := Aside0.mk (hbox); have n2_ := Aside0.mk ((by rw [hg]; exact (below_size (by repeat (first | (with_reducible first | exact HB.out | apply below_alloc | apply pw_below_drewN | apply below_drew1) | exact HB.out))) : w.heap.size ≤ gb125)); have n3_ := Aside0.mk ((by rw [hg]; exact (below_size (by repeat (first | (with_reducible first | exact HB.out | apply below_alloc | apply pw_below_drewN | apply below_drew1) | exact HB.out))) : w.heap.size ≤ gb125)); clear HB; have HB := n0_; have BK125 := n1_; have GW125 := n2_; have GE125 := n3_; clear n0_ n1_ n2_ n3_; clear hb hbox hg; have hcz18_0 : w17.cell? ⟨gb125, 0, none⟩ = some (.int .i64 a0_0) := (blk_cell BK125.out 0).trans rfl; have hcz18_1 : w17.cell? ⟨gb125, 1, none⟩ = some (.int .i64 a0_1) := (blk_cell BK125.out 1).trans rfl; have hcz18_2 : w17.cell? ⟨gb125, 2, none⟩ = some (.int .i64 a0_2) := (blk_cell BK125.out 2).trans rfl; have hfz18_0 := blk_frozen BK125.out 0; have hfz18_1 := blk_frozen BK125.out 1; have hfz18_2 := blk_frozen BK125.out 2))
    go_ret
    exact ⟨by first | rfl | (simp [errW_none, errW_some] <;> rfl) | (simp [*, errW_none, errW_some] <;> rfl), by repeat (first | (with_reducible first | exact HB.out | apply below_alloc | apply pw_below_drewN | apply below_drew1 | refine below_set ?_ GE125.out) | exact HB.out)⟩

-- NOT PRINTED: function 108 (oracle_known)

/-! ### oracle_known -/
theorem oracle_known.eqK (d : Nat) (w : World) (x0 y0 x1 y1 x2 y2 : Int) :
    (Op.equalIn (d + 2) 189 (.agg #[.int .i64 x0, .int .i64 x1, .int .i64 x2]) (.agg #[.int .i64 y0, .int .i64 y1, .int .i64 y2])).run Try.prog w = .ok (x0 == y0 && (x1 == y1 && (x2 == y2))) w := by
  refine eqA_of Try.underlying189 (by kernel_rfl) ?_
  refine eqf_cons (by rfl) (by go_simp; rfl) (by go_simp; rfl) (by go_simp) ?_
  refine eqf_cons (by rfl) (by go_simp; rfl) (by go_simp; rfl) (by go_simp) ?_
  exact eqf_last (by rfl) (by go_simp; rfl) (by go_simp; rfl) (by go_simp)
def oracle_known.key (p : S118) : Value := .agg #[.int .i64 p.f0, .int .i64 p.f1, .int .i64 p.f2]
def oracle_known.ents : Nat → List S118 → List MapEntry
  | _, [] => []
  | k, p :: ps => { key := oracle_known.key p, val := .int .i64 p.f3, born := k } :: oracle_known.ents (k + 1) ps
def oracle_known.has (a b c : Int) (p : S118) : Bool := a == p.f0 && (b == p.f1 && (c == p.f2))
def oracle_known.find (a b c : Int) : Nat → List S118 → Option (Nat × Int)
  | _, [] => none
  | i, p :: ps => if oracle_known.has a b c p = true then some (i, p.f3) else oracle_known.find a b c (i + 1) ps
theorem oracle_known.asking (a b c : Int) (w : World) : ∀ (ps : List S118) (k i : Nat), (Instr.findAsking 189 (.agg #[.int .i64 a, .int .i64 b, .int .i64 c]) (oracle_known.ents k ps) i).run Try.prog w = .ok ((oracle_known.find a b c i ps).map fun x => (x.1, Value.int .i64 x.2)) w
  | [], k, i => rfl
  | p :: ps, k, i => by
    have h : (Op.equal 189 (.agg #[.int .i64 a, .int .i64 b, .int .i64 c]) (.agg #[.int .i64 p.f0, .int .i64 p.f1, .int .i64 p.f2])).run Try.prog w = .ok (oracle_known.has a b c p) w := oracle_known.eqK 9998 w a p.f0 b p.f1 c p.f2
    have ih := oracle_known.asking a b c w ps (k + 1) (i + 1)
    simp only [oracle_known.ents, oracle_known.key, Instr.findAsking, oracle_known.find, Sem.run_bind]
    rw [h]
    simp only [Result.andThen]
    by_cases hh : oracle_known.has a b c p = true
    · rw [if_pos hh, if_pos hh]; rfl
    · rw [if_neg hh, if_neg hh]; exact ih
theorem oracle_known.check (a b c : Int) (em : Bool) (w : World) : (Instr.checkKey em 10000 189 (.agg #[.int .i64 a, .int .i64 b, .int .i64 c])).run Try.prog w = .ok () w := by
  have hu := Try.underlying189
  have hi : ∀ x : Int, (Instr.checkKey em (9998 + 1) 3 (.int .i64 x)).run Try.prog w = .ok () w := fun x => by
    rw [Instr.checkKey]
    simp only [Sem.run_bind]
    try go_simp
  rw [show (10000 : Nat) = 9998 + 1 + 1 from rfl, Instr.checkKey]
  simp only [Sem.run_bind]
  go_simp
theorem oracle_known.finds (a b c : Int) (w : World) (k : Nat) (ps : List S118) : (Instr.findKey 189 (.agg #[.int .i64 a, .int .i64 b, .int .i64 c]) (oracle_known.ents k ps)).run Try.prog w = .ok ((oracle_known.find a b c 0 ps).map fun x => (x.1, Value.int .i64 x.2)) w := by
  have hu := Try.underlying189
  have hz : (underlying 189).run Try.prog w = .ok _ w := run_underlying hu w
  unfold Instr.findKey
  simp only [Sem.run_bind]
  rw [hz]
  simp only [Result.andThen]
  cases ps with
  | nil => rfl
  | cons p ps =>
    simp only [oracle_known.ents, oracle_known.key, Instr.findNow, Instr.sameNow]
    exact oracle_known.asking a b c w (p :: ps) k 0
def oracle_known.looked (a b c : Int) (ps : List S118) : Int × Bool := match oracle_known.find a b c 0 ps with | some (_, v) => (v, true) | none => (0, false)
theorem oracle_known.lookup (a b c : Int) (w : World) (g k cl : Nat) (ps : List S118) (hg : w.heap[g]? = some (.map (oracle_known.ents k ps).toArray cl)) :
    (Instr.lookup 159 (.map (some g)) (.agg #[.int .i64 a, .int .i64 b, .int .i64 c]) true).run Try.prog w = .ok (.tuple #[.int .i64 (oracle_known.looked a b c ps).1, .bool (oracle_known.looked a b c ps).2]) w := by
  have hu := Try.underlying159
  have hz : (underlying 159).run Try.prog w = .ok _ w := run_underlying hu w
  unfold Instr.lookup
  simp only [Sem.run_bind]
  rw [hz]
  simp only [Result.andThen]
  go_simp
  rw [show (getObj g).run Try.prog w = .ok (.map (oracle_known.ents k ps).toArray cl) w by simp [getObj, Sem.run, hg]]
  simp only [Result.andThen, Sem.run_bind]
  rw [oracle_known.check]
  simp only [Result.andThen]
  rw [oracle_known.finds]
  simp only [Result.andThen]
  unfold oracle_known.looked
  cases h : oracle_known.find a b c 0 ps with
  | none =>
    simp only [Option.map_none]
    have hz : (zeroValue 3).run Try.prog w = .ok (.int .i64 0) w := by kernel_rfl
    go_simp
  | some x => obtain ⟨i, v⟩ := x; rfl
theorem oracle_known.update (a b c t : Int) (w : World) (g k cl : Nat) (ps : List S118) (hg : w.heap[g]? = some (.map (oracle_known.ents k ps).toArray cl)) (hn : oracle_known.find a b c 0 ps = none) :
    (Instr.mapUpdate 159 (.map (some g)) (.agg #[.int .i64 a, .int .i64 b, .int .i64 c]) (.int .i64 t)).run Try.prog w = .ok () (w.putObj g (.map ((oracle_known.ents k ps).toArray.push { key := .agg #[.int .i64 a, .int .i64 b, .int .i64 c], val := .int .i64 t, born := cl }) (cl + 1))) := by
  have hu := Try.underlying159
  have hz : (underlying 159).run Try.prog w = .ok _ w := run_underlying hu w
  unfold Instr.mapUpdate
  simp only [Sem.run_bind]
  rw [hz]
  simp only [Result.andThen]
  go_simp
  rw [show (getObj g).run Try.prog w = .ok (.map (oracle_known.ents k ps).toArray cl) w by simp [getObj, Sem.run, hg]]
  simp only [Result.andThen, Sem.run_bind]
  rw [oracle_known.check]
  simp only [Result.andThen]
  rw [oracle_known.finds, hn]
  simp only [Result.andThen, Option.map_none]
  simp [setObj, Sem.run, hg, World.putObj]
theorem oracle_known.below_put {B : Nat} {w W : World} (h : Below B w W) {g : Nat} (hg : B ≤ g) (o : Obj) : Below B w (W.putObj g o) :=
  h.trans ⟨rfl, rfl, rfl, by simp [World.putObj], fun k hk => World.putObj_heap_other (by omega)⟩
def oracle_known.pm (p : S118) : Bool := decide ((0 ≤ p.f0 ∧ p.f0 < 50) ∧ (0 ≤ p.f1 ∧ p.f1 ≤ 15) ∧ (0 ≤ p.f2 ∧ p.f2 ≤ 8796093022207))
def oracle_known.tag (p : S118) : Bool := decide (0 ≤ p.f3 ∧ p.f3 ≤ 65535)
def oracle_known.good (l : List S118) : Nat → Nat → Bool
  | 0, _ => true
  | d + 1, i => (oracle_known.find (rd_T118 l (i : Int)).f0 (rd_T118 l (i : Int)).f1 (rd_T118 l (i : Int)).f2 0 (l.take i)).isNone && (oracle_known.pm (rd_T118 l (i : Int)) && (oracle_known.tag (rd_T118 l (i : Int)) && oracle_known.good l d (i + 1)))
def oracle_known.ok (l : List S118) : Bool := decide (l.length ≤ 500) && oracle_known.good l l.length 0
theorem oracle_known.ents_snoc (p : S118) : ∀ (l : List S118) (k : Nat), oracle_known.ents k (l ++ [p]) = oracle_known.ents k l ++ [{ key := oracle_known.key p, val := .int .i64 p.f3, born := k + l.length }]
  | [], k => by simp [oracle_known.ents]
  | a :: l, k => by
    have ih := oracle_known.ents_snoc p l (k + 1)
    simp only [List.cons_append, oracle_known.ents, ih, List.length_cons]
    rw [show k + 1 + l.length = k + (l.length + 1) by omega]
theorem oracle_known.take_snoc (l : List S118) (i : Nat) (h : i < l.length) : l.take (i + 1) = l.take i ++ [rd_T118 l (i : Int)] := by
  rw [List.take_succ_eq_append_getElem h]
  unfold rd_T118
  rw [List.getD_eq_getElem?_getD, Int.toNat_natCast, List.getElem?_eq_getElem h]; rfl
theorem oracle_known.may (p : S118) : oracle_what_may.f p.f0 p.f1 p.f2 = some (oracle_known.pm p) := by
  unfold oracle_what_may.f oracle_known.pm
  repeat' split
  all_goals (simp only [Option.some.injEq]; first | (rw [decide_eq_decide]; omega) | (rw [eq_comm, decide_eq_false_iff_not]; omega))
def oracle_known.Post (w : World) (l : List S118) (b : Bool) (e : Ending) (w' : World) : Prop :=
  (b = false ∧ e = .returned (.tuple #[.map none, .bool false]) ∧ Below w.heap.size w w') ∨ (b = true ∧ ∃ g, e = .returned (.tuple #[.map (some g), .bool true]) ∧ w'.heap[g]? = some (.map (oracle_known.ents 0 l).toArray l.length) ∧ Below w.heap.size w w')
set_option maxHeartbeats 4000000 in
set_option maxRecDepth 100000 in
theorem oracle_known.calls (A0 : Option Addr) (c0 : Nat) (l : List S118) (w : World) (hr0 : Kd.C k118 w A0 l.length l) :
    Calls Try.prog 108 #[.agg #[.slice A0 l.length c0]] w (oracle_known.Post w l (oracle_known.ok l)) := by
  have hu24 := Try.underlying43
  have hu83 := Try.underlying118
  have hu88 := Try.underlying189
  have HR0 := Aside0.mk hr0
  clear hr0
  by_cases c1 : l.length ≤ 500
  · have HOK : Aside0 (oracle_known.ok l = oracle_known.good l l.length 0) := ⟨by unfold oracle_known.ok; rw [decide_eq_true c1, Bool.true_and]⟩
    have d1 : decide ((l.length : Int) > 500) = false := decide_eq_false (by omega)
    have hmm := @run_makeMap Try.prog
    go_enter Try.func108, Try.ntmps108
    go_wp2
    go_loopg [2, 3, 18] l.length (fun kq v2 v3 v18 w' => ∃ i : Nat, v18 = .int .i64 (i : Int) ∧ v2 = .map none ∧ v3 = .bool false ∧ i ≤ l.length ∧ kq = l.length - i ∧ Aside0 (oracle_known.ok l = oracle_known.good l (l.length - i) i) ∧ Aside0 (w'.heap[w.heap.size + 1]? = some (.map (oracle_known.ents 0 (l.take i)).toArray i)) ∧ Aside0 (Below w.heap.size w w'))
    case atStart =>
      refine ⟨0, rfl, rfl, rfl, Nat.zero_le _, rfl, HOK, ⟨?_⟩, ⟨?_⟩⟩
      · have := World.alloc_heap_new (w.alloc (.cells #[.slice A0 l.length c0] 43)) (.map #[] 0)
        rw [World.size_alloc] at this
        exact this
      · repeat (first | exact Below.refl _ _ | apply below_alloc)
    case round =>
      obtain ⟨i, rfl, rfl, rfl, hi, rfl, HG, HM, HBW⟩ := hrel
      clear HOK hmm
      by_cases hlt : i < l.length
      · have hltb : decide ((i : Int) < (l.length : Int)) = true := decide_eq_true (by omega)
        obtain ⟨ad, rfl, y0, y1, y2, y3⟩ := at_T118 (Kd.C_below HR0.out HBW.out) (i : Int) (by omega) (by omega)
        rw [Int.toNat_natCast] at y0 y1 y2 y3
        have HS := Aside0.mk (oracle_known.take_snoc l i hlt)
        have HG2 := HG.out
        rw [show l.length - i = (l.length - (i + 1)) + 1 by omega, oracle_known.good] at HG2
        obtain ⟨u, hu⟩ : ∃ u : S118, u = rd_T118 l (i : Int) := ⟨_, rfl⟩
        rw [← hu] at y0 y1 y2 y3 HG2
        rw [← hu] at HS
        clear hu
        have HG3 := Aside0.mk HG2
        clear HG2 HG
        have HLK := Aside0.mk (fun W (h : W.heap[w.heap.size + 1]? = some (.map (oracle_known.ents 0 (l.take i)).toArray i)) => oracle_known.lookup u.f0 u.f1 u.f2 W (w.heap.size + 1) 0 i (l.take i) h)
        cases hf : oracle_known.find u.f0 u.f1 u.f2 0 (l.take i) with
        | some x =>
          have HE : Aside0 (oracle_known.ok l = false) := ⟨by rw [HG3.out, hf]; rfl⟩
          have HLK : Aside0 (∀ W : World, W.heap[w.heap.size + 1]? = some (Obj.map (oracle_known.ents 0 (l.take i)).toArray i) → (Instr.lookup 159 (.map (some (w.heap.size + 1))) (.agg #[.int .i64 u.f0, .int .i64 u.f1, .int .i64 u.f2]) true).run Try.prog W = .ok (.tuple #[.int .i64 x.2, .bool true]) W) := ⟨by have := HLK.out; unfold oracle_known.looked at this; rw [hf] at this; exact this⟩
          clear HG3 hf
          go_wp2_with (go_at_call 141; refine (oracle_of.calls _ _ _ _ _ _ _ _ rfl).mono ?_; rintro e w1 ⟨rfl, hb1⟩; have HB1 := Aside0.mk (below_then (B := w.heap.size) (w := w) (by repeat (first | exact HBW.out | apply below_alloc)) (by have := HBW.out.size; simp; omega) hb1); have HM1 : Aside0 (w1.heap[w.heap.size + 1]? = some (.map (oracle_known.ents 0 (l.take i)).toArray i)) := ⟨(hb1.block _ (by have := blk_lt HM.out; simp; omega)).trans ((Below.heap_alloc _ _ _ (blk_lt HM.out)).trans HM.out)⟩; have HP1 : Aside0 (w1.heap[wr.heap.size]? = some (.cells #[.int .i64 u.f0, .int .i64 u.f1, .int .i64 u.f2, .int .i64 u.f3] 118 (0, 0))) := ⟨(hb1.block _ (by simp)).trans (World.alloc_heap_new wr _)⟩; have pc3 : ∀ o, (w1.alloc o).cell? ⟨wr.heap.size, 3, none⟩ = some (.int .i64 u.f3) := fun o => (blk_cell (blk_alloc HP1.out o) 3).trans rfl; have hlk := HLK.out (w1.alloc (.cells #[.int .i64 u.f0, .int .i64 u.f1, .int .i64 u.f2] 189)) (blk_alloc HM1.out _); clear hb1)
          go_ret2
          rw [HE.out]
          exact .inl ⟨rfl, rfl, by repeat (first | exact HB1.out | apply below_alloc)⟩
        | none =>
          have HF := Aside0.mk hf
          have HLK : Aside0 (∀ W : World, W.heap[w.heap.size + 1]? = some (Obj.map (oracle_known.ents 0 (l.take i)).toArray i) → (Instr.lookup 159 (.map (some (w.heap.size + 1))) (.agg #[.int .i64 u.f0, .int .i64 u.f1, .int .i64 u.f2]) true).run Try.prog W = .ok (.tuple #[.int .i64 0, .bool false]) W) := ⟨by have := HLK.out; unfold oracle_known.looked at this; rw [hf] at this; exact this⟩
          have HG4 : Aside0 (oracle_known.ok l = (oracle_known.pm u && (oracle_known.tag u && oracle_known.good l (l.length - (i + 1)) (i + 1)))) := ⟨by rw [HG3.out, hf]; rfl⟩
          clear HG3 hf
          cases hpm : oracle_known.pm u with
          | false =>
            have HE : Aside0 (oracle_known.ok l = false) := ⟨by rw [HG4.out, hpm]; rfl⟩
            have HMAY := Aside0.mk ((oracle_known.may u).trans (congrArg some hpm))
            clear HG4 hpm
            go_wp2_with (first | (go_at_call 141; refine (oracle_of.calls _ _ _ _ _ _ _ _ rfl).mono ?_; rintro e w1 ⟨rfl, hb1⟩; have HB1 := Aside0.mk (below_then (B := w.heap.size) (w := w) (by repeat (first | exact HBW.out | apply below_alloc)) (by have := HBW.out.size; simp; omega) hb1); have HM1 : Aside0 (w1.heap[w.heap.size + 1]? = some (.map (oracle_known.ents 0 (l.take i)).toArray i)) := ⟨(hb1.block _ (by have := blk_lt HM.out; simp; omega)).trans ((Below.heap_alloc _ _ _ (blk_lt HM.out)).trans HM.out)⟩; have HP1 : Aside0 (w1.heap[wr.heap.size]? = some (.cells #[.int .i64 u.f0, .int .i64 u.f1, .int .i64 u.f2, .int .i64 u.f3] 118 (0, 0))) := ⟨(hb1.block _ (by simp)).trans (World.alloc_heap_new wr _)⟩; have pc3 : ∀ o, (w1.alloc o).cell? ⟨wr.heap.size, 3, none⟩ = some (.int .i64 u.f3) := fun o => (blk_cell (blk_alloc HP1.out o) 3).trans rfl; have hlk := HLK.out (w1.alloc (.cells #[.int .i64 u.f0, .int .i64 u.f1, .int .i64 u.f2] 189)) (blk_alloc HM1.out _); clear hb1) | (go_at_call 142; refine (oracle_what_may.calls _ _ _ _ _ HMAY.out).mono ?_; rintro e w2 ⟨rfl, hb2⟩; have HB2 := Aside0.mk (below_then (B := w.heap.size) (w := w) (by repeat (first | exact HB1.out | apply below_alloc)) (by have := HB1.out.size; simp; omega) hb2); have HM2 : Aside0 (w2.heap[w.heap.size + 1]? = some (.map (oracle_known.ents 0 (l.take i)).toArray i)) := ⟨(hb2.block _ (by have := blk_lt HM1.out; simp; omega)).trans ((Below.heap_alloc _ _ _ (blk_lt HM1.out)).trans HM1.out)⟩; have HP2 : Aside0 (w2.heap[wr.heap.size]? = some (.cells #[.int .i64 u.f0, .int .i64 u.f1, .int .i64 u.f2, .int .i64 u.f3] 118 (0, 0))) := ⟨(hb2.block _ (by have := blk_lt HP1.out; simp; omega)).trans ((Below.heap_alloc _ _ _ (blk_lt HP1.out)).trans HP1.out)⟩; have HK2 : Aside0 (w2.heap[w1.heap.size]? = some (.cells #[.int .i64 u.f0, .int .i64 u.f1, .int .i64 u.f2] 189 (0, 0))) := ⟨(hb2.block _ (by simp)).trans (World.alloc_heap_new w1 _)⟩; have pc3 := (blk_cell HP2.out 3).trans rfl; have kc0 := (blk_cell HK2.out 0).trans rfl; have kc1 := (blk_cell HK2.out 1).trans rfl; have kc2 := (blk_cell HK2.out 2).trans rfl; clear hb2))
            go_ret2
            rw [HE.out]
            exact .inl ⟨rfl, rfl, HB2.out⟩
          | true =>
            have HMAY := Aside0.mk ((oracle_known.may u).trans (congrArg some hpm))
            have HG5 : Aside0 (oracle_known.ok l = (oracle_known.tag u && oracle_known.good l (l.length - (i + 1)) (i + 1))) := ⟨by rw [HG4.out, hpm]; rfl⟩
            clear HG4 hpm
            by_cases h0 : u.f3 < 0
            · have HE : Aside0 (oracle_known.ok l = false) := ⟨by rw [HG5.out, show oracle_known.tag u = false from decide_eq_false (by omega)]; rfl⟩
              have q0 : decide (u.f3 < 0) = true := decide_eq_true h0
              clear HG5 h0
              go_wp2_with (first | (go_at_call 141; refine (oracle_of.calls _ _ _ _ _ _ _ _ rfl).mono ?_; rintro e w1 ⟨rfl, hb1⟩; have HB1 := Aside0.mk (below_then (B := w.heap.size) (w := w) (by repeat (first | exact HBW.out | apply below_alloc)) (by have := HBW.out.size; simp; omega) hb1); have HM1 : Aside0 (w1.heap[w.heap.size + 1]? = some (.map (oracle_known.ents 0 (l.take i)).toArray i)) := ⟨(hb1.block _ (by have := blk_lt HM.out; simp; omega)).trans ((Below.heap_alloc _ _ _ (blk_lt HM.out)).trans HM.out)⟩; have HP1 : Aside0 (w1.heap[wr.heap.size]? = some (.cells #[.int .i64 u.f0, .int .i64 u.f1, .int .i64 u.f2, .int .i64 u.f3] 118 (0, 0))) := ⟨(hb1.block _ (by simp)).trans (World.alloc_heap_new wr _)⟩; have pc3 : ∀ o, (w1.alloc o).cell? ⟨wr.heap.size, 3, none⟩ = some (.int .i64 u.f3) := fun o => (blk_cell (blk_alloc HP1.out o) 3).trans rfl; have hlk := HLK.out (w1.alloc (.cells #[.int .i64 u.f0, .int .i64 u.f1, .int .i64 u.f2] 189)) (blk_alloc HM1.out _); clear hb1) | (go_at_call 142; refine (oracle_what_may.calls _ _ _ _ _ HMAY.out).mono ?_; rintro e w2 ⟨rfl, hb2⟩; have HB2 := Aside0.mk (below_then (B := w.heap.size) (w := w) (by repeat (first | exact HB1.out | apply below_alloc)) (by have := HB1.out.size; simp; omega) hb2); have HM2 : Aside0 (w2.heap[w.heap.size + 1]? = some (.map (oracle_known.ents 0 (l.take i)).toArray i)) := ⟨(hb2.block _ (by have := blk_lt HM1.out; simp; omega)).trans ((Below.heap_alloc _ _ _ (blk_lt HM1.out)).trans HM1.out)⟩; have HP2 : Aside0 (w2.heap[wr.heap.size]? = some (.cells #[.int .i64 u.f0, .int .i64 u.f1, .int .i64 u.f2, .int .i64 u.f3] 118 (0, 0))) := ⟨(hb2.block _ (by have := blk_lt HP1.out; simp; omega)).trans ((Below.heap_alloc _ _ _ (blk_lt HP1.out)).trans HP1.out)⟩; have HK2 : Aside0 (w2.heap[w1.heap.size]? = some (.cells #[.int .i64 u.f0, .int .i64 u.f1, .int .i64 u.f2] 189 (0, 0))) := ⟨(hb2.block _ (by simp)).trans (World.alloc_heap_new w1 _)⟩; have pc3 := (blk_cell HP2.out 3).trans rfl; have kc0 := (blk_cell HK2.out 0).trans rfl; have kc1 := (blk_cell HK2.out 1).trans rfl; have kc2 := (blk_cell HK2.out 2).trans rfl; clear hb2))
              go_ret2
              rw [HE.out]
              exact .inl ⟨rfl, rfl, HB2.out⟩
            · have q0 : decide (u.f3 < 0) = false := decide_eq_false h0
              by_cases h1 : u.f3 > 65535
              · have HE : Aside0 (oracle_known.ok l = false) := ⟨by rw [HG5.out, show oracle_known.tag u = false from decide_eq_false (by omega)]; rfl⟩
                have q1 : decide (u.f3 > 65535) = true := decide_eq_true h1
                clear HG5 h0 h1
                go_wp2_with (first | (go_at_call 141; refine (oracle_of.calls _ _ _ _ _ _ _ _ rfl).mono ?_; rintro e w1 ⟨rfl, hb1⟩; have HB1 := Aside0.mk (below_then (B := w.heap.size) (w := w) (by repeat (first | exact HBW.out | apply below_alloc)) (by have := HBW.out.size; simp; omega) hb1); have HM1 : Aside0 (w1.heap[w.heap.size + 1]? = some (.map (oracle_known.ents 0 (l.take i)).toArray i)) := ⟨(hb1.block _ (by have := blk_lt HM.out; simp; omega)).trans ((Below.heap_alloc _ _ _ (blk_lt HM.out)).trans HM.out)⟩; have HP1 : Aside0 (w1.heap[wr.heap.size]? = some (.cells #[.int .i64 u.f0, .int .i64 u.f1, .int .i64 u.f2, .int .i64 u.f3] 118 (0, 0))) := ⟨(hb1.block _ (by simp)).trans (World.alloc_heap_new wr _)⟩; have pc3 : ∀ o, (w1.alloc o).cell? ⟨wr.heap.size, 3, none⟩ = some (.int .i64 u.f3) := fun o => (blk_cell (blk_alloc HP1.out o) 3).trans rfl; have hlk := HLK.out (w1.alloc (.cells #[.int .i64 u.f0, .int .i64 u.f1, .int .i64 u.f2] 189)) (blk_alloc HM1.out _); clear hb1) | (go_at_call 142; refine (oracle_what_may.calls _ _ _ _ _ HMAY.out).mono ?_; rintro e w2 ⟨rfl, hb2⟩; have HB2 := Aside0.mk (below_then (B := w.heap.size) (w := w) (by repeat (first | exact HB1.out | apply below_alloc)) (by have := HB1.out.size; simp; omega) hb2); have HM2 : Aside0 (w2.heap[w.heap.size + 1]? = some (.map (oracle_known.ents 0 (l.take i)).toArray i)) := ⟨(hb2.block _ (by have := blk_lt HM1.out; simp; omega)).trans ((Below.heap_alloc _ _ _ (blk_lt HM1.out)).trans HM1.out)⟩; have HP2 : Aside0 (w2.heap[wr.heap.size]? = some (.cells #[.int .i64 u.f0, .int .i64 u.f1, .int .i64 u.f2, .int .i64 u.f3] 118 (0, 0))) := ⟨(hb2.block _ (by have := blk_lt HP1.out; simp; omega)).trans ((Below.heap_alloc _ _ _ (blk_lt HP1.out)).trans HP1.out)⟩; have HK2 : Aside0 (w2.heap[w1.heap.size]? = some (.cells #[.int .i64 u.f0, .int .i64 u.f1, .int .i64 u.f2] 189 (0, 0))) := ⟨(hb2.block _ (by simp)).trans (World.alloc_heap_new w1 _)⟩; have pc3 := (blk_cell HP2.out 3).trans rfl; have kc0 := (blk_cell HK2.out 0).trans rfl; have kc1 := (blk_cell HK2.out 1).trans rfl; have kc2 := (blk_cell HK2.out 2).trans rfl; clear hb2))
                go_ret2
                rw [HE.out]
                exact .inl ⟨rfl, rfl, HB2.out⟩
              · have q1 : decide (u.f3 > 65535) = false := decide_eq_false h1
                have HE : Aside0 (oracle_known.ok l = oracle_known.good l (l.length - (i + 1)) (i + 1)) := ⟨by rw [HG5.out, show oracle_known.tag u = true from decide_eq_true (by omega)]; rfl⟩
                clear HG5 h0 h1
                go_wp2_with (first | (go_at_call 141; refine (oracle_of.calls _ _ _ _ _ _ _ _ rfl).mono ?_; rintro e w1 ⟨rfl, hb1⟩; have HB1 := Aside0.mk (below_then (B := w.heap.size) (w := w) (by repeat (first | exact HBW.out | apply below_alloc)) (by have := HBW.out.size; simp; omega) hb1); have HM1 : Aside0 (w1.heap[w.heap.size + 1]? = some (.map (oracle_known.ents 0 (l.take i)).toArray i)) := ⟨(hb1.block _ (by have := blk_lt HM.out; simp; omega)).trans ((Below.heap_alloc _ _ _ (blk_lt HM.out)).trans HM.out)⟩; have HP1 : Aside0 (w1.heap[wr.heap.size]? = some (.cells #[.int .i64 u.f0, .int .i64 u.f1, .int .i64 u.f2, .int .i64 u.f3] 118 (0, 0))) := ⟨(hb1.block _ (by simp)).trans (World.alloc_heap_new wr _)⟩; have pc3 : ∀ o, (w1.alloc o).cell? ⟨wr.heap.size, 3, none⟩ = some (.int .i64 u.f3) := fun o => (blk_cell (blk_alloc HP1.out o) 3).trans rfl; have hlk := HLK.out (w1.alloc (.cells #[.int .i64 u.f0, .int .i64 u.f1, .int .i64 u.f2] 189)) (blk_alloc HM1.out _); clear hb1) | (go_at_call 142; refine (oracle_what_may.calls _ _ _ _ _ HMAY.out).mono ?_; rintro e w2 ⟨rfl, hb2⟩; have HB2 := Aside0.mk (below_then (B := w.heap.size) (w := w) (by repeat (first | exact HB1.out | apply below_alloc)) (by have := HB1.out.size; simp; omega) hb2); have HM2 : Aside0 (w2.heap[w.heap.size + 1]? = some (.map (oracle_known.ents 0 (l.take i)).toArray i)) := ⟨(hb2.block _ (by have := blk_lt HM1.out; simp; omega)).trans ((Below.heap_alloc _ _ _ (blk_lt HM1.out)).trans HM1.out)⟩; have HP2 : Aside0 (w2.heap[wr.heap.size]? = some (.cells #[.int .i64 u.f0, .int .i64 u.f1, .int .i64 u.f2, .int .i64 u.f3] 118 (0, 0))) := ⟨(hb2.block _ (by have := blk_lt HP1.out; simp; omega)).trans ((Below.heap_alloc _ _ _ (blk_lt HP1.out)).trans HP1.out)⟩; have HK2 : Aside0 (w2.heap[w1.heap.size]? = some (.cells #[.int .i64 u.f0, .int .i64 u.f1, .int .i64 u.f2] 189 (0, 0))) := ⟨(hb2.block _ (by simp)).trans (World.alloc_heap_new w1 _)⟩; have pc3 := (blk_cell HP2.out 3).trans rfl; have kc0 := (blk_cell HK2.out 0).trans rfl; have kc1 := (blk_cell HK2.out 1).trans rfl; have kc2 := (blk_cell HK2.out 2).trans rfl; have hup := oracle_known.update u.f0 u.f1 u.f2 u.f3 w2 (w.heap.size + 1) 0 i (l.take i) HM2.out HF.out; clear hb2))
                go_roundg (l.length - (i + 1))
                case measure => omega
                case rel =>
                  refine ⟨i + 1, by first | rfl | go_num, rfl, rfl, hlt, rfl, HE, ⟨?_⟩, ⟨oracle_known.below_put HB2.out (Nat.le_succ _) _⟩⟩
                  rw [World.putObj_heap_same (blk_lt HM2.out), HS.out, oracle_known.ents_snoc, Nat.zero_add, List.length_take, Nat.min_eq_left hi]
                  rfl
      · have hltb : decide ((i : Int) < (l.length : Int)) = false := decide_eq_false (by omega)
        have HE : Aside0 (oracle_known.ok l = true) := ⟨by rw [HG.out, show l.length - i = 0 by omega]; rfl⟩
        have HM2 : Aside0 (wr.heap[w.heap.size + 1]? = some (.map (oracle_known.ents 0 l).toArray l.length)) := ⟨by have := HM.out; rw [List.take_of_length_le (by omega), show i = l.length by omega] at this; exact this⟩
        go_wp2
        go_ret2
        rw [HE.out]
        exact .inr ⟨rfl, _, rfl, HM2.out, HBW.out⟩
  · have HE : Aside0 (oracle_known.ok l = false) := ⟨by unfold oracle_known.ok; rw [decide_eq_false c1, Bool.false_and]⟩
    have d1 : decide ((l.length : Int) > 500) = true := decide_eq_true (by omega)
    go_enter Try.func108, Try.ntmps108
    go_wp2
    go_ret2
    rw [HE.out]
    exact .inl ⟨rfl, rfl, below_alloc (Below.refl _ _) _⟩
theorem oracle_known.no {l : List S118} (hok : oracle_known.ok l = false) (A0 : Option Addr) (c0 : Nat) (w : World) (hr0 : Kd.C k118 w A0 l.length l) :
    Calls Try.prog 108 #[.agg #[.slice A0 l.length c0]] w fun e w' => e = .returned (.tuple #[.map none, .bool false]) ∧ Below w.heap.size w w' :=
  (oracle_known.calls A0 c0 l w hr0).mono fun e w' h => by
    rcases h with ⟨_, h1, h2⟩ | ⟨h1, _⟩
    · exact ⟨h1, h2⟩
    · rw [hok] at h1; cases h1
theorem oracle_known.yes {l : List S118} (hok : oracle_known.ok l = true) (A0 : Option Addr) (c0 : Nat) (w : World) (hr0 : Kd.C k118 w A0 l.length l) :
    Calls Try.prog 108 #[.agg #[.slice A0 l.length c0]] w fun e w' => ∃ g, e = .returned (.tuple #[.map (some g), .bool true]) ∧ w'.heap[g]? = some (.map (oracle_known.ents 0 l).toArray l.length) ∧ Below w.heap.size w w' :=
  (oracle_known.calls A0 c0 l w hr0).mono fun e w' h => by
    rcases h with ⟨h1, _⟩ | ⟨_, g, h1, h2, h3⟩
    · rw [hok] at h1; cases h1
    · exact ⟨g, h1, h2, h3⟩

/-! ### oracle_May -/
def oracle_May.f (l : List S118) : Option Bool := some (oracle_known.ok l)
set_option maxHeartbeats 2000000 in
set_option maxRecDepth 100000 in
theorem oracle_May.calls (A0_0 : Option Addr) (c0_0 : Nat) (l0_0 : List (S118)) (r : Bool) (w : World) (hr0_0 : Kd.C k118 w A0_0 l0_0.length l0_0) (hc0_0 : l0_0.length ≤ c0_0) (h : oracle_May.f l0_0 = some r) :
    Calls Try.prog 63 #[.agg #[.slice A0_0 l0_0.length c0_0]] w fun e w' => e = .returned (.bool r) ∧ Below w.heap.size w w' := by
  have hu24 := Try.underlying43
  obtain rfl := Option.some.inj h
  have HR0 := Aside0.mk hr0_0
  clear hr0_0 h
  go_enter Try.func63, Try.ntmps63
  go_wp2_with (go_at_call 108; refine (oracle_known.calls _ _ l0_0 _ (Kd.C_below HR0.out (below_alloc (Below.refl _ _) _))).mono ?_; rintro e w1 hpost; have HB0 := Aside0.mk (below_alloc (Below.refl w.heap.size w) (.cells #[.slice A0_0 l0_0.length c0_0] 43)); rcases hpost with ⟨hb, rfl, hb1⟩ | ⟨hb, g, rfl, _, hb1⟩ <;> (have HB1 := Aside0.mk (below_then HB0.out HB0.out.size hb1); have HOK := Aside0.mk hb; clear hb1 hb))
  all_goals go_ret
  all_goals exact ⟨congrArg (fun b => Ending.returned (.bool b)) HOK.out.symm, HB1.out⟩

end Go.Proofs.Ythmmadniaakapaa.PMeterKeys
