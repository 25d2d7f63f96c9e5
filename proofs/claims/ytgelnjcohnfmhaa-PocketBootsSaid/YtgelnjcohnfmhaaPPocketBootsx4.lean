-- written by this session's program wip/xp/xprint.py (it drives the kit's print and adds to it)
import Derived.Test.YtgelnjcohnfmhaaPPocketBootsx0
import Derived.Test.YtgelnjcohnfmhaaPPocketBootsx3
namespace Go.Proofs.Ytgelnjcohnfmhaa.PPocketBoots
open Go.RowKit Go.Proofs.YtgelnjcohnfmhaaW.PrintWords Go.Proofs.YtgelnjcohnfmhaaW.PrintLast Go.Proofs.YtgelnjcohnfmhaaW.PrintMore
attribute [local go_sem] max2_int min2_int max_two min_two max_three min_three max_four min_four   -- for this text's walks alone
set_option linter.unusedVariables false
set_option linter.unusedSimpArgs false

/-! ### meter_may: function 52 -/
def meter_may.j0 : Nat → Bool → Int → Int → Int → Int → Int → Int → Int → Option (Bool)
  | 0, _, _, _, _, _, _, _, _ => none
  | k + 1, x32, x115000, x115001, x115002, x115003, x115004, x115005, x115006 => if x32 = true then (some false) else (if x115005 < 0 then (some false) else (if x115005 ≥ 5 then (some false) else (if x115006 < 0 then (some false) else (if x115006 > 30 then (some false) else (if x115005 > 0 then (if x115006 > 0 then (some false) else ((window_Used.f k x115003 x115004).bind fun bt115 => (some (bt115.2 == 0)))) else ((window_Used.f k x115003 x115004).bind fun bt119 => (some (bt119.2 == 0))))))))
def meter_may.f (k : Nat) (a0_0 : Int) (a0_1 : Int) (a0_2 : Int) (a0_3 : Int) (a0_4 : Int) (a0_5 : Int) (a0_6 : Int) : Option (Bool) := if a0_0 < 0 then (meter_may.j0 k true a0_0 a0_1 a0_2 a0_3 a0_4 a0_5 a0_6) else (if a0_0 ≥ 50 then (meter_may.j0 k true a0_0 a0_1 a0_2 a0_3 a0_4 a0_5 a0_6) else (if a0_1 < 0 then (meter_may.j0 k true a0_0 a0_1 a0_2 a0_3 a0_4 a0_5 a0_6) else (if a0_1 > 15 then (meter_may.j0 k true a0_0 a0_1 a0_2 a0_3 a0_4 a0_5 a0_6) else (if a0_2 < 0 then (meter_may.j0 k true a0_0 a0_1 a0_2 a0_3 a0_4 a0_5 a0_6) else (meter_may.j0 k (decide (a0_2 > 99999999)) a0_0 a0_1 a0_2 a0_3 a0_4 a0_5 a0_6)))))
theorem meter_may.mono_l : ∀ k, (∀ y0 y1 y2 y3 y4 y5 y6 y7, LeO (meter_may.j0 k y0 y1 y2 y3 y4 y5 y6 y7) (meter_may.j0 (k + 1) y0 y1 y2 y3 y4 y5 y6 y7))
  | 0 => fun _ _ _ _ _ _ _ _ r h => by simp [meter_may.j0] at h
  | k + 1 => by
    have ih0 := meter_may.mono_l k
    · intro y0 y1 y2 y3 y4 y5 y6 y7
      unfold meter_may.j0
      repeat' first
      | (with_reducible exact ih0 _ _ _ _ _ _ _ _)
      | (with_reducible exact window_Used.mono _ _ _)
      | (with_reducible exact LeO.refl _)
      | (with_reducible exact LeO.none _)
      | (with_reducible refine LeO.ite ?_ ?_)
      | (with_reducible refine LeO.bind ?_ (fun _ => ?_))
      | exact ih0 _ _ _ _ _ _ _ _
      | exact window_Used.mono _ _ _
      | exact LeO.none _
      | refine LeO.ite ?_ ?_
      | refine LeO.bind ?_ (fun _ => ?_)
theorem meter_may.mono : ∀ a0 a1 a2 a3 a4 a5 a6 k, LeO (meter_may.f k a0 a1 a2 a3 a4 a5 a6) (meter_may.f (k + 1) a0 a1 a2 a3 a4 a5 a6) := by
  intro a0 a1 a2 a3 a4 a5 a6 k
  have ih0 := meter_may.mono_l k
  unfold meter_may.f
  repeat' first
      | (with_reducible exact ih0 _ _ _ _ _ _ _ _)
      | (with_reducible exact window_Used.mono _ _ _)
      | (with_reducible exact LeO.refl _)
      | (with_reducible exact LeO.none _)
      | (with_reducible refine LeO.ite ?_ ?_)
      | (with_reducible refine LeO.bind ?_ (fun _ => ?_))
      | exact ih0 _ _ _ _ _ _ _ _
      | exact window_Used.mono _ _ _
      | exact LeO.none _
      | refine LeO.ite ?_ ?_
      | refine LeO.bind ?_ (fun _ => ?_)
set_option maxHeartbeats 8000000 in
set_option maxRecDepth 100000 in
theorem meter_may.calls (k : Nat) (a0_0 : Int) (a0_1 : Int) (a0_2 : Int) (a0_3 : Int) (a0_4 : Int) (a0_5 : Int) (a0_6 : Int) (r : Bool) (w : World) (h : meter_may.f k a0_0 a0_1 a0_2 a0_3 a0_4 a0_5 a0_6 = some r) :
    Calls Try.prog 52 #[.agg #[.int .i64 a0_0, .int .i64 a0_1, .int .i64 a0_2, .int .i64 a0_3, .int .u64 a0_4, .int .i64 a0_5, .int .i64 a0_6]] w fun e w' => e = .returned (.bool r) ∧ Below w.heap.size w w' := by
  have hu36 := Try.underlying36
  have hu34 := Try.underlying34
  have HB := Aside0.mk (Below.refl w.heap.size w)
  have H : (if a0_0 < 0 then (meter_may.j0 k true a0_0 a0_1 a0_2 a0_3 a0_4 a0_5 a0_6) else (if a0_0 ≥ 50 then (meter_may.j0 k true a0_0 a0_1 a0_2 a0_3 a0_4 a0_5 a0_6) else (if a0_1 < 0 then (meter_may.j0 k true a0_0 a0_1 a0_2 a0_3 a0_4 a0_5 a0_6) else (if a0_1 > 15 then (meter_may.j0 k true a0_0 a0_1 a0_2 a0_3 a0_4 a0_5 a0_6) else (if a0_2 < 0 then (meter_may.j0 k true a0_0 a0_1 a0_2 a0_3 a0_4 a0_5 a0_6) else (meter_may.j0 k (decide (a0_2 > 99999999)) a0_0 a0_1 a0_2 a0_3 a0_4 a0_5 a0_6)))))) = some r := h
  clear h
  have HC2 := Aside0.mk H
  clear H
  go_enter Try.func52, Try.ntmps52
  go_upto_region 1 with (first | ((with_reducible refine gate_dst (N := 1) rfl ?_); refine box_event ?hg (N := 1) ?hd (cs := #[.int .i64 a0_0, .int .i64 a0_1, .int .i64 a0_2, .int .i64 a0_3, .int .u64 a0_4, .int .i64 a0_5, .int .i64 a0_6]) (t := 36) ?hr ?_; (case hd => rfl); (case hg => rfl); (case hr => first | (go_simp; done) | (go_simp; rfl)); intro gb114 hg w3 hbox hb; have n0_ := Aside0.mk (below_step (by repeat (first | (with_reducible first | exact HB.out | apply below_alloc | apply pw_below_drewN | apply below_drew1) | exact HB.out)) hb); have n1_ := Aside0.mk (hbox); have n2_ := Aside0.mk ((by rw [hg]; exact (below_size (by repeat (first | (with_reducible first | exact HB.out | apply below_alloc | apply pw_below_drewN | apply below_drew1) | exact HB.out))) : w.heap.size ≤ gb114)); have n3_ := Aside0.mk ((by rw [hg]; exact (below_size (by repeat (first | (with_reducible first | exact HB.out | apply below_alloc | apply pw_below_drewN | apply below_drew1) | exact HB.out))) : w.heap.size ≤ gb114)); clear HB; have HB := n0_; have BK114 := n1_; have GW114 := n2_; have GE114 := n3_; clear n0_ n1_ n2_ n3_; clear hb hbox hg))
  (try simp only [Act.put, List.setIfInBounds_toArray, List.set_cons_zero, List.set_cons_succ])
  go_cut [32] (fun v32 wc => ∃ (kq : Nat) (x32_1 : Bool), v32 = .bool x32_1 ∧ Aside0 (meter_may.j0 kq x32_1 a0_0 a0_1 a0_2 a0_3 a0_4 a0_5 a0_6 = some r) ∧ Aside0 (kq ≤ k) ∧ Aside0 (wc.heap[gb114]? = some (.cells #[.int .i64 a0_0, .int .i64 a0_1, .int .i64 a0_2, .int .i64 a0_3, .int .u64 a0_4, .int .i64 a0_5, .int .i64 a0_6] 36 (0, 0))) ∧ Aside0 (Below w.heap.size w wc))
  case first =>
    have H := HC2.out
    clear HC2
    by_cases c4 : a0_0 < 0
    · rw [if_pos c4] at H
      have c4b0 : decide (a0_0 < 0) = true := decide_eq_true c4
      clear c4
      (first | rw [c4b0] | (simp only [i64_w, i32_w]; rw [c4b0]) | skip)
      have H' := Aside0.mk H
      clear H
      have hcz5_0 : w3.cell? ⟨gb114, 0, none⟩ = some (.int .i64 a0_0) := (blk_cell BK114.out 0).trans rfl
      have hcz5_1 : w3.cell? ⟨gb114, 1, none⟩ = some (.int .i64 a0_1) := (blk_cell BK114.out 1).trans rfl
      have hcz5_2 : w3.cell? ⟨gb114, 2, none⟩ = some (.int .i64 a0_2) := (blk_cell BK114.out 2).trans rfl
      have hcz5_3 : w3.cell? ⟨gb114, 3, none⟩ = some (.int .i64 a0_3) := (blk_cell BK114.out 3).trans rfl
      have hcz5_4 : w3.cell? ⟨gb114, 4, none⟩ = some (.int .u64 a0_4) := (blk_cell BK114.out 4).trans rfl
      have hcz5_5 : w3.cell? ⟨gb114, 5, none⟩ = some (.int .i64 a0_5) := (blk_cell BK114.out 5).trans rfl
      have hcz5_6 : w3.cell? ⟨gb114, 6, none⟩ = some (.int .i64 a0_6) := (blk_cell BK114.out 6).trans rfl
      have hfz5_0 := blk_frozen BK114.out 0
      have hfz5_1 := blk_frozen BK114.out 1
      have hfz5_2 := blk_frozen BK114.out 2
      have hfz5_3 := blk_frozen BK114.out 3
      have hfz5_4 := blk_frozen BK114.out 4
      have hfz5_5 := blk_frozen BK114.out 5
      have hfz5_6 := blk_frozen BK114.out 6
      go_wp2
      go_meet
      case rel => exact ⟨_, (true), (by first | rfl | (simp; done) | (simp [*]; done)), H', ⟨by first | omega | exact Nat.le_refl _⟩, ⟨by (with_reducible repeat (first | refine blk_drewN ?_ _ | refine blk_drew ?_ | refine blk_alloc ?_ _)); exact BK114.out⟩, ⟨by repeat (first | (with_reducible first | exact HB.out | apply below_alloc | apply pw_below_drewN | apply below_drew1 | refine below_set ?_ GE114.out) | exact HB.out)⟩⟩
    · rw [if_neg c4] at H
      have c4b0 : decide (a0_0 < 0) = false := decide_eq_false c4
      clear c4
      (first | rw [c4b0] | (simp only [i64_w, i32_w]; rw [c4b0]) | skip)
      by_cases c6 : a0_0 ≥ 50
      · rw [if_pos c6] at H
        have c6b0 : decide (50 ≤ a0_0) = true := decide_eq_true c6
        clear c6
        have H' := Aside0.mk H
        clear H
        have hcz7_0 : w3.cell? ⟨gb114, 0, none⟩ = some (.int .i64 a0_0) := (blk_cell BK114.out 0).trans rfl
        have hcz7_1 : w3.cell? ⟨gb114, 1, none⟩ = some (.int .i64 a0_1) := (blk_cell BK114.out 1).trans rfl
        have hcz7_2 : w3.cell? ⟨gb114, 2, none⟩ = some (.int .i64 a0_2) := (blk_cell BK114.out 2).trans rfl
        have hcz7_3 : w3.cell? ⟨gb114, 3, none⟩ = some (.int .i64 a0_3) := (blk_cell BK114.out 3).trans rfl
        have hcz7_4 : w3.cell? ⟨gb114, 4, none⟩ = some (.int .u64 a0_4) := (blk_cell BK114.out 4).trans rfl
        have hcz7_5 : w3.cell? ⟨gb114, 5, none⟩ = some (.int .i64 a0_5) := (blk_cell BK114.out 5).trans rfl
        have hcz7_6 : w3.cell? ⟨gb114, 6, none⟩ = some (.int .i64 a0_6) := (blk_cell BK114.out 6).trans rfl
        have hfz7_0 := blk_frozen BK114.out 0
        have hfz7_1 := blk_frozen BK114.out 1
        have hfz7_2 := blk_frozen BK114.out 2
        have hfz7_3 := blk_frozen BK114.out 3
        have hfz7_4 := blk_frozen BK114.out 4
        have hfz7_5 := blk_frozen BK114.out 5
        have hfz7_6 := blk_frozen BK114.out 6
        go_wp2
        go_meet
        case rel => exact ⟨_, (true), (by first | rfl | (simp; done) | (simp [*]; done)), H', ⟨by first | omega | exact Nat.le_refl _⟩, ⟨by (with_reducible repeat (first | refine blk_drewN ?_ _ | refine blk_drew ?_ | refine blk_alloc ?_ _)); exact BK114.out⟩, ⟨by repeat (first | (with_reducible first | exact HB.out | apply below_alloc | apply pw_below_drewN | apply below_drew1 | refine below_set ?_ GE114.out) | exact HB.out)⟩⟩
      · rw [if_neg c6] at H
        have c6b0 : decide (50 ≤ a0_0) = false := decide_eq_false c6
        clear c6
        by_cases c8 : a0_1 < 0
        · rw [if_pos c8] at H
          have c8b0 : decide (a0_1 < 0) = true := decide_eq_true c8
          clear c8
          have H' := Aside0.mk H
          clear H
          have hcz9_0 : w3.cell? ⟨gb114, 0, none⟩ = some (.int .i64 a0_0) := (blk_cell BK114.out 0).trans rfl
          have hcz9_1 : w3.cell? ⟨gb114, 1, none⟩ = some (.int .i64 a0_1) := (blk_cell BK114.out 1).trans rfl
          have hcz9_2 : w3.cell? ⟨gb114, 2, none⟩ = some (.int .i64 a0_2) := (blk_cell BK114.out 2).trans rfl
          have hcz9_3 : w3.cell? ⟨gb114, 3, none⟩ = some (.int .i64 a0_3) := (blk_cell BK114.out 3).trans rfl
          have hcz9_4 : w3.cell? ⟨gb114, 4, none⟩ = some (.int .u64 a0_4) := (blk_cell BK114.out 4).trans rfl
          have hcz9_5 : w3.cell? ⟨gb114, 5, none⟩ = some (.int .i64 a0_5) := (blk_cell BK114.out 5).trans rfl
          have hcz9_6 : w3.cell? ⟨gb114, 6, none⟩ = some (.int .i64 a0_6) := (blk_cell BK114.out 6).trans rfl
          have hfz9_0 := blk_frozen BK114.out 0
          have hfz9_1 := blk_frozen BK114.out 1
          have hfz9_2 := blk_frozen BK114.out 2
          have hfz9_3 := blk_frozen BK114.out 3
          have hfz9_4 := blk_frozen BK114.out 4
          have hfz9_5 := blk_frozen BK114.out 5
          have hfz9_6 := blk_frozen BK114.out 6
          go_wp2
          go_meet
          case rel => exact ⟨_, (true), (by first | rfl | (simp; done) | (simp [*]; done)), H', ⟨by first | omega | exact Nat.le_refl _⟩, ⟨by (with_reducible repeat (first | refine blk_drewN ?_ _ | refine blk_drew ?_ | refine blk_alloc ?_ _)); exact BK114.out⟩, ⟨by repeat (first | (with_reducible first | exact HB.out | apply below_alloc | apply pw_below_drewN | apply below_drew1 | refine below_set ?_ GE114.out) | exact HB.out)⟩⟩
        · rw [if_neg c8] at H
          have c8b0 : decide (a0_1 < 0) = false := decide_eq_false c8
          clear c8
          by_cases c10 : a0_1 > 15
          · rw [if_pos c10] at H
            have c10b0 : decide (15 < a0_1) = true := decide_eq_true c10
            clear c10
            have H' := Aside0.mk H
            clear H
            have hcz11_0 : w3.cell? ⟨gb114, 0, none⟩ = some (.int .i64 a0_0) := (blk_cell BK114.out 0).trans rfl
            have hcz11_1 : w3.cell? ⟨gb114, 1, none⟩ = some (.int .i64 a0_1) := (blk_cell BK114.out 1).trans rfl
            have hcz11_2 : w3.cell? ⟨gb114, 2, none⟩ = some (.int .i64 a0_2) := (blk_cell BK114.out 2).trans rfl
            have hcz11_3 : w3.cell? ⟨gb114, 3, none⟩ = some (.int .i64 a0_3) := (blk_cell BK114.out 3).trans rfl
            have hcz11_4 : w3.cell? ⟨gb114, 4, none⟩ = some (.int .u64 a0_4) := (blk_cell BK114.out 4).trans rfl
            have hcz11_5 : w3.cell? ⟨gb114, 5, none⟩ = some (.int .i64 a0_5) := (blk_cell BK114.out 5).trans rfl
            have hcz11_6 : w3.cell? ⟨gb114, 6, none⟩ = some (.int .i64 a0_6) := (blk_cell BK114.out 6).trans rfl
            have hfz11_0 := blk_frozen BK114.out 0
            have hfz11_1 := blk_frozen BK114.out 1
            have hfz11_2 := blk_frozen BK114.out 2
            have hfz11_3 := blk_frozen BK114.out 3
            have hfz11_4 := blk_frozen BK114.out 4
            have hfz11_5 := blk_frozen BK114.out 5
            have hfz11_6 := blk_frozen BK114.out 6
            go_wp2
            go_meet
            case rel => exact ⟨_, (true), (by first | rfl | (simp; done) | (simp [*]; done)), H', ⟨by first | omega | exact Nat.le_refl _⟩, ⟨by (with_reducible repeat (first | refine blk_drewN ?_ _ | refine blk_drew ?_ | refine blk_alloc ?_ _)); exact BK114.out⟩, ⟨by repeat (first | (with_reducible first | exact HB.out | apply below_alloc | apply pw_below_drewN | apply below_drew1 | refine below_set ?_ GE114.out) | exact HB.out)⟩⟩
          · rw [if_neg c10] at H
            have c10b0 : decide (15 < a0_1) = false := decide_eq_false c10
            clear c10
            by_cases c12 : a0_2 < 0
            · rw [if_pos c12] at H
              have c12b0 : decide (a0_2 < 0) = true := decide_eq_true c12
              clear c12
              have H' := Aside0.mk H
              clear H
              have hcz13_0 : w3.cell? ⟨gb114, 0, none⟩ = some (.int .i64 a0_0) := (blk_cell BK114.out 0).trans rfl
              have hcz13_1 : w3.cell? ⟨gb114, 1, none⟩ = some (.int .i64 a0_1) := (blk_cell BK114.out 1).trans rfl
              have hcz13_2 : w3.cell? ⟨gb114, 2, none⟩ = some (.int .i64 a0_2) := (blk_cell BK114.out 2).trans rfl
              have hcz13_3 : w3.cell? ⟨gb114, 3, none⟩ = some (.int .i64 a0_3) := (blk_cell BK114.out 3).trans rfl
              have hcz13_4 : w3.cell? ⟨gb114, 4, none⟩ = some (.int .u64 a0_4) := (blk_cell BK114.out 4).trans rfl
              have hcz13_5 : w3.cell? ⟨gb114, 5, none⟩ = some (.int .i64 a0_5) := (blk_cell BK114.out 5).trans rfl
              have hcz13_6 : w3.cell? ⟨gb114, 6, none⟩ = some (.int .i64 a0_6) := (blk_cell BK114.out 6).trans rfl
              have hfz13_0 := blk_frozen BK114.out 0
              have hfz13_1 := blk_frozen BK114.out 1
              have hfz13_2 := blk_frozen BK114.out 2
              have hfz13_3 := blk_frozen BK114.out 3
              have hfz13_4 := blk_frozen BK114.out 4
              have hfz13_5 := blk_frozen BK114.out 5
              have hfz13_6 := blk_frozen BK114.out 6
              go_wp2
              go_meet
              case rel => exact ⟨_, (true), (by first | rfl | (simp; done) | (simp [*]; done)), H', ⟨by first | omega | exact Nat.le_refl _⟩, ⟨by (with_reducible repeat (first | refine blk_drewN ?_ _ | refine blk_drew ?_ | refine blk_alloc ?_ _)); exact BK114.out⟩, ⟨by repeat (first | (with_reducible first | exact HB.out | apply below_alloc | apply pw_below_drewN | apply below_drew1 | refine below_set ?_ GE114.out) | exact HB.out)⟩⟩
            · rw [if_neg c12] at H
              have c12b0 : decide (a0_2 < 0) = false := decide_eq_false c12
              clear c12
              have H' := Aside0.mk H
              clear H
              have hcz14_0 : w3.cell? ⟨gb114, 0, none⟩ = some (.int .i64 a0_0) := (blk_cell BK114.out 0).trans rfl
              have hcz14_1 : w3.cell? ⟨gb114, 1, none⟩ = some (.int .i64 a0_1) := (blk_cell BK114.out 1).trans rfl
              have hcz14_2 : w3.cell? ⟨gb114, 2, none⟩ = some (.int .i64 a0_2) := (blk_cell BK114.out 2).trans rfl
              have hcz14_3 : w3.cell? ⟨gb114, 3, none⟩ = some (.int .i64 a0_3) := (blk_cell BK114.out 3).trans rfl
              have hcz14_4 : w3.cell? ⟨gb114, 4, none⟩ = some (.int .u64 a0_4) := (blk_cell BK114.out 4).trans rfl
              have hcz14_5 : w3.cell? ⟨gb114, 5, none⟩ = some (.int .i64 a0_5) := (blk_cell BK114.out 5).trans rfl
              have hcz14_6 : w3.cell? ⟨gb114, 6, none⟩ = some (.int .i64 a0_6) := (blk_cell BK114.out 6).trans rfl
              have hfz14_0 := blk_frozen BK114.out 0
              have hfz14_1 := blk_frozen BK114.out 1
              have hfz14_2 := blk_frozen BK114.out 2
              have hfz14_3 := blk_frozen BK114.out 3
              have hfz14_4 := blk_frozen BK114.out 4
              have hfz14_5 := blk_frozen BK114.out 5
              have hfz14_6 := blk_frozen BK114.out 6
              go_wp2
              go_meet
              case rel => exact ⟨_, (decide (a0_2 > 99999999)), (by first | rfl | (simp; done) | (simp [*]; done)), H', ⟨by first | omega | exact Nat.le_refl _⟩, ⟨by (with_reducible repeat (first | refine blk_drewN ?_ _ | refine blk_drew ?_ | refine blk_alloc ?_ _)); exact BK114.out⟩, ⟨by repeat (first | (with_reducible first | exact HB.out | apply below_alloc | apply pw_below_drewN | apply below_drew1 | refine below_set ?_ GE114.out) | exact HB.out)⟩⟩
  case rest =>
    clear HC2
    try clear c1
    try clear p2
    try clear c4
    try clear c4b0
    try clear c5
    try clear c6
    try clear c6b0
    try clear c8
    try clear c8b0
    try clear c10
    try clear c10b0
    try clear c12
    try clear c12b0
    try clear hcz11_0
    try clear hcz11_1
    try clear hcz11_2
    try clear hcz11_3
    try clear hcz11_4
    try clear hcz11_5
    try clear hcz11_6
    try clear hcz13_0
    try clear hcz13_1
    try clear hcz13_2
    try clear hcz13_3
    try clear hcz13_4
    try clear hcz13_5
    try clear hcz13_6
    try clear hcz14_0
    try clear hcz14_1
    try clear hcz14_2
    try clear hcz14_3
    try clear hcz14_4
    try clear hcz14_5
    try clear hcz14_6
    try clear hcz5_0
    try clear hcz5_1
    try clear hcz5_2
    try clear hcz5_3
    try clear hcz5_4
    try clear hcz5_5
    try clear hcz5_6
    try clear hcz7_0
    try clear hcz7_1
    try clear hcz7_2
    try clear hcz7_3
    try clear hcz7_4
    try clear hcz7_5
    try clear hcz7_6
    try clear hcz9_0
    try clear hcz9_1
    try clear hcz9_2
    try clear hcz9_3
    try clear hcz9_4
    try clear hcz9_5
    try clear hcz9_6
    try clear hfz11_0
    try clear hfz11_1
    try clear hfz11_2
    try clear hfz11_3
    try clear hfz11_4
    try clear hfz11_5
    try clear hfz11_6
    try clear hfz13_0
    try clear hfz13_1
    try clear hfz13_2
    try clear hfz13_3
    try clear hfz13_4
    try clear hfz13_5
    try clear hfz13_6
    try clear hfz14_0
    try clear hfz14_1
    try clear hfz14_2
    try clear hfz14_3
    try clear hfz14_4
    try clear hfz14_5
    try clear hfz14_6
    try clear hfz5_0
    try clear hfz5_1
    try clear hfz5_2
    try clear hfz5_3
    try clear hfz5_4
    try clear hfz5_5
    try clear hfz5_6
    try clear hfz7_0
    try clear hfz7_1
    try clear hfz7_2
    try clear hfz7_3
    try clear hfz7_4
    try clear hfz7_5
    try clear hfz7_6
    try clear hfz9_0
    try clear hfz9_1
    try clear hfz9_2
    try clear hfz9_3
    try clear hfz9_4
    try clear hfz9_5
    try clear hfz9_6
    obtain ⟨kq, x32_1, rfl, HA, HJ1, BK114, HB⟩ := hcut
    cases kq with
    | zero => exact absurd HA.out (by simp [meter_may.j0])
    | succ kj1 =>
      have H := HA.out
      clear HA
      simp only [meter_may.j0] at H
      by_cases c15 : x32_1 = true
      · subst c15
        have H1 : (some false) = some r := by rw [if_pos rfl] at H; exact H
        clear H
        have H := H1
        clear H1
        obtain rfl := Option.some.inj H
        go_wp2
        go_ret
        exact ⟨by first | rfl | (simp [errW_none, errW_some] <;> rfl) | (simp [*, errW_none, errW_some] <;> rfl), by repeat (first | (with_reducible first | exact HB.out | apply below_alloc | apply pw_below_drewN | apply below_drew1 | refine below_set ?_ GE114.out) | exact HB.out)⟩
      · replace c15 := Bool.eq_false_iff.mpr c15
        subst c15
        have H1 : (if a0_5 < 0 then (some false) else (if a0_5 ≥ 5 then (some false) else (if a0_6 < 0 then (some false) else (if a0_6 > 30 then (some false) else (if a0_5 > 0 then (if a0_6 > 0 then (some false) else ((window_Used.f kj1 a0_3 a0_4).bind fun bt115 => (some (bt115.2 == 0)))) else ((window_Used.f kj1 a0_3 a0_4).bind fun bt119 => (some (bt119.2 == 0)))))))) = some r := by rw [if_neg (show ¬ (false = true) by decide)] at H; exact H
        clear H
        have H := H1
        clear H1
        by_cases c16 : a0_5 < 0
        · rw [if_pos c16] at H
          have c16b0 : decide (a0_5 < 0) = true := decide_eq_true c16
          clear c16
          obtain rfl := Option.some.inj H
          have hcz17_0 : wc.cell? ⟨gb114, 0, none⟩ = some (.int .i64 a0_0) := (blk_cell BK114.out 0).trans rfl
          have hcz17_1 : wc.cell? ⟨gb114, 1, none⟩ = some (.int .i64 a0_1) := (blk_cell BK114.out 1).trans rfl
          have hcz17_2 : wc.cell? ⟨gb114, 2, none⟩ = some (.int .i64 a0_2) := (blk_cell BK114.out 2).trans rfl
          have hcz17_3 : wc.cell? ⟨gb114, 3, none⟩ = some (.int .i64 a0_3) := (blk_cell BK114.out 3).trans rfl
          have hcz17_4 : wc.cell? ⟨gb114, 4, none⟩ = some (.int .u64 a0_4) := (blk_cell BK114.out 4).trans rfl
          have hcz17_5 : wc.cell? ⟨gb114, 5, none⟩ = some (.int .i64 a0_5) := (blk_cell BK114.out 5).trans rfl
          have hcz17_6 : wc.cell? ⟨gb114, 6, none⟩ = some (.int .i64 a0_6) := (blk_cell BK114.out 6).trans rfl
          have hfz17_0 := blk_frozen BK114.out 0
          have hfz17_1 := blk_frozen BK114.out 1
          have hfz17_2 := blk_frozen BK114.out 2
          have hfz17_3 := blk_frozen BK114.out 3
          have hfz17_4 := blk_frozen BK114.out 4
          have hfz17_5 := blk_frozen BK114.out 5
          have hfz17_6 := blk_frozen BK114.out 6
          go_wp2
          go_ret
          exact ⟨by first | rfl | (simp [errW_none, errW_some] <;> rfl) | (simp [*, errW_none, errW_some] <;> rfl), by repeat (first | (with_reducible first | exact HB.out | apply below_alloc | apply pw_below_drewN | apply below_drew1 | refine below_set ?_ GE114.out) | exact HB.out)⟩
        · rw [if_neg c16] at H
          have c16b0 : decide (a0_5 < 0) = false := decide_eq_false c16
          clear c16
          by_cases c18 : a0_5 ≥ 5
          · rw [if_pos c18] at H
            have c18b0 : decide (5 ≤ a0_5) = true := decide_eq_true c18
            clear c18
            obtain rfl := Option.some.inj H
            have hcz19_0 : wc.cell? ⟨gb114, 0, none⟩ = some (.int .i64 a0_0) := (blk_cell BK114.out 0).trans rfl
            have hcz19_1 : wc.cell? ⟨gb114, 1, none⟩ = some (.int .i64 a0_1) := (blk_cell BK114.out 1).trans rfl
            have hcz19_2 : wc.cell? ⟨gb114, 2, none⟩ = some (.int .i64 a0_2) := (blk_cell BK114.out 2).trans rfl
            have hcz19_3 : wc.cell? ⟨gb114, 3, none⟩ = some (.int .i64 a0_3) := (blk_cell BK114.out 3).trans rfl
            have hcz19_4 : wc.cell? ⟨gb114, 4, none⟩ = some (.int .u64 a0_4) := (blk_cell BK114.out 4).trans rfl
            have hcz19_5 : wc.cell? ⟨gb114, 5, none⟩ = some (.int .i64 a0_5) := (blk_cell BK114.out 5).trans rfl
            have hcz19_6 : wc.cell? ⟨gb114, 6, none⟩ = some (.int .i64 a0_6) := (blk_cell BK114.out 6).trans rfl
            have hfz19_0 := blk_frozen BK114.out 0
            have hfz19_1 := blk_frozen BK114.out 1
            have hfz19_2 := blk_frozen BK114.out 2
            have hfz19_3 := blk_frozen BK114.out 3
            have hfz19_4 := blk_frozen BK114.out 4
            have hfz19_5 := blk_frozen BK114.out 5
            have hfz19_6 := blk_frozen BK114.out 6
            go_wp2
            go_ret
            exact ⟨by first | rfl | (simp [errW_none, errW_some] <;> rfl) | (simp [*, errW_none, errW_some] <;> rfl), by repeat (first | (with_reducible first | exact HB.out | apply below_alloc | apply pw_below_drewN | apply below_drew1 | refine below_set ?_ GE114.out) | exact HB.out)⟩
          · rw [if_neg c18] at H
            have c18b0 : decide (5 ≤ a0_5) = false := decide_eq_false c18
            clear c18
            by_cases c20 : a0_6 < 0
            · rw [if_pos c20] at H
              have c20b0 : decide (a0_6 < 0) = true := decide_eq_true c20
              clear c20
              obtain rfl := Option.some.inj H
              have hcz21_0 : wc.cell? ⟨gb114, 0, none⟩ = some (.int .i64 a0_0) := (blk_cell BK114.out 0).trans rfl
              have hcz21_1 : wc.cell? ⟨gb114, 1, none⟩ = some (.int .i64 a0_1) := (blk_cell BK114.out 1).trans rfl
              have hcz21_2 : wc.cell? ⟨gb114, 2, none⟩ = some (.int .i64 a0_2) := (blk_cell BK114.out 2).trans rfl
              have hcz21_3 : wc.cell? ⟨gb114, 3, none⟩ = some (.int .i64 a0_3) := (blk_cell BK114.out 3).trans rfl
              have hcz21_4 : wc.cell? ⟨gb114, 4, none⟩ = some (.int .u64 a0_4) := (blk_cell BK114.out 4).trans rfl
              have hcz21_5 : wc.cell? ⟨gb114, 5, none⟩ = some (.int .i64 a0_5) := (blk_cell BK114.out 5).trans rfl
              have hcz21_6 : wc.cell? ⟨gb114, 6, none⟩ = some (.int .i64 a0_6) := (blk_cell BK114.out 6).trans rfl
              have hfz21_0 := blk_frozen BK114.out 0
              have hfz21_1 := blk_frozen BK114.out 1
              have hfz21_2 := blk_frozen BK114.out 2
              have hfz21_3 := blk_frozen BK114.out 3
              have hfz21_4 := blk_frozen BK114.out 4
              have hfz21_5 := blk_frozen BK114.out 5
              have hfz21_6 := blk_frozen BK114.out 6
              go_wp2
              go_ret
              exact ⟨by first | rfl | (simp [errW_none, errW_some] <;> rfl) | (simp [*, errW_none, errW_some] <;> rfl), by repeat (first | (with_reducible first | exact HB.out | apply below_alloc | apply pw_below_drewN | apply below_drew1 | refine below_set ?_ GE114.out) | exact HB.out)⟩
            · rw [if_neg c20] at H
              have c20b0 : decide (a0_6 < 0) = false := decide_eq_false c20
              clear c20
              by_cases c22 : a0_6 > 30
              · rw [if_pos c22] at H
                have c22b0 : decide (30 < a0_6) = true := decide_eq_true c22
                clear c22
                obtain rfl := Option.some.inj H
                have hcz23_0 : wc.cell? ⟨gb114, 0, none⟩ = some (.int .i64 a0_0) := (blk_cell BK114.out 0).trans rfl
                have hcz23_1 : wc.cell? ⟨gb114, 1, none⟩ = some (.int .i64 a0_1) := (blk_cell BK114.out 1).trans rfl
                have hcz23_2 : wc.cell? ⟨gb114, 2, none⟩ = some (.int .i64 a0_2) := (blk_cell BK114.out 2).trans rfl
                have hcz23_3 : wc.cell? ⟨gb114, 3, none⟩ = some (.int .i64 a0_3) := (blk_cell BK114.out 3).trans rfl
                have hcz23_4 : wc.cell? ⟨gb114, 4, none⟩ = some (.int .u64 a0_4) := (blk_cell BK114.out 4).trans rfl
                have hcz23_5 : wc.cell? ⟨gb114, 5, none⟩ = some (.int .i64 a0_5) := (blk_cell BK114.out 5).trans rfl
                have hcz23_6 : wc.cell? ⟨gb114, 6, none⟩ = some (.int .i64 a0_6) := (blk_cell BK114.out 6).trans rfl
                have hfz23_0 := blk_frozen BK114.out 0
                have hfz23_1 := blk_frozen BK114.out 1
                have hfz23_2 := blk_frozen BK114.out 2
                have hfz23_3 := blk_frozen BK114.out 3
                have hfz23_4 := blk_frozen BK114.out 4
                have hfz23_5 := blk_frozen BK114.out 5
                have hfz23_6 := blk_frozen BK114.out 6
                go_wp2
                go_ret
                exact ⟨by first | rfl | (simp [errW_none, errW_some] <;> rfl) | (simp [*, errW_none, errW_some] <;> rfl), by repeat (first | (with_reducible first | exact HB.out | apply below_alloc | apply pw_below_drewN | apply below_drew1 | refine below_set ?_ GE114.out) | exact HB.out)⟩
              · rw [if_neg c22] at H
                have c22b0 : decide (30 < a0_6) = false := decide_eq_false c22
                clear c22
                by_cases c24 : a0_5 > 0
                · rw [if_pos c24] at H
                  have c24b0 : decide (0 < a0_5) = true := decide_eq_true c24
                  clear c24
                  by_cases c25 : a0_6 > 0
                  · rw [if_pos c25] at H
                    have c25b0 : decide (0 < a0_6) = true := decide_eq_true c25
                    clear c25
                    obtain rfl := Option.some.inj H
                    have hcz26_0 : wc.cell? ⟨gb114, 0, none⟩ = some (.int .i64 a0_0) := (blk_cell BK114.out 0).trans rfl
                    have hcz26_1 : wc.cell? ⟨gb114, 1, none⟩ = some (.int .i64 a0_1) := (blk_cell BK114.out 1).trans rfl
                    have hcz26_2 : wc.cell? ⟨gb114, 2, none⟩ = some (.int .i64 a0_2) := (blk_cell BK114.out 2).trans rfl
                    have hcz26_3 : wc.cell? ⟨gb114, 3, none⟩ = some (.int .i64 a0_3) := (blk_cell BK114.out 3).trans rfl
                    have hcz26_4 : wc.cell? ⟨gb114, 4, none⟩ = some (.int .u64 a0_4) := (blk_cell BK114.out 4).trans rfl
                    have hcz26_5 : wc.cell? ⟨gb114, 5, none⟩ = some (.int .i64 a0_5) := (blk_cell BK114.out 5).trans rfl
                    have hcz26_6 : wc.cell? ⟨gb114, 6, none⟩ = some (.int .i64 a0_6) := (blk_cell BK114.out 6).trans rfl
                    have hfz26_0 := blk_frozen BK114.out 0
                    have hfz26_1 := blk_frozen BK114.out 1
                    have hfz26_2 := blk_frozen BK114.out 2
                    have hfz26_3 := blk_frozen BK114.out 3
                    have hfz26_4 := blk_frozen BK114.out 4
                    have hfz26_5 := blk_frozen BK114.out 5
                    have hfz26_6 := blk_frozen BK114.out 6
                    go_wp2
                    go_ret
                    exact ⟨by first | rfl | (simp [errW_none, errW_some] <;> rfl) | (simp [*, errW_none, errW_some] <;> rfl), by repeat (first | (with_reducible first | exact HB.out | apply below_alloc | apply pw_below_drewN | apply below_drew1 | refine below_set ?_ GE114.out) | exact HB.out)⟩
                  · rw [if_neg c25] at H
                    have c25b0 : decide (0 < a0_6) = false := decide_eq_false c25
                    clear c25
                    replace H := Option.bind_eq_some_iff.mp H
                    obtain ⟨⟨t115, t118⟩, A270, H⟩ := H
                    replace H : (some (t118 == 0)) = some r := H
                    have A27 := Aside0.mk A270
                    clear A270
                    obtain rfl := Option.some.inj H
                    have hcz28_0 : wc.cell? ⟨gb114, 0, none⟩ = some (.int .i64 a0_0) := (blk_cell BK114.out 0).trans rfl
                    have hcz28_1 : wc.cell? ⟨gb114, 1, none⟩ = some (.int .i64 a0_1) := (blk_cell BK114.out 1).trans rfl
                    have hcz28_2 : wc.cell? ⟨gb114, 2, none⟩ = some (.int .i64 a0_2) := (blk_cell BK114.out 2).trans rfl
                    have hcz28_3 : wc.cell? ⟨gb114, 3, none⟩ = some (.int .i64 a0_3) := (blk_cell BK114.out 3).trans rfl
                    have hcz28_4 : wc.cell? ⟨gb114, 4, none⟩ = some (.int .u64 a0_4) := (blk_cell BK114.out 4).trans rfl
                    have hcz28_5 : wc.cell? ⟨gb114, 5, none⟩ = some (.int .i64 a0_5) := (blk_cell BK114.out 5).trans rfl
                    have hcz28_6 : wc.cell? ⟨gb114, 6, none⟩ = some (.int .i64 a0_6) := (blk_cell BK114.out 6).trans rfl
                    have hfz28_0 := blk_frozen BK114.out 0
                    have hfz28_1 := blk_frozen BK114.out 1
                    have hfz28_2 := blk_frozen BK114.out 2
                    have hfz28_3 := blk_frozen BK114.out 3
                    have hfz28_4 := blk_frozen BK114.out 4
                    have hfz28_5 := blk_frozen BK114.out 5
                    have hfz28_6 := blk_frozen BK114.out 6
                    go_wp2_with (first | ((with_reducible refine gate_callee (f := 81) rfl ?_); refine goesL_ (some 64) rfl rfl Try.func81 (by kernel_rfl) rfl #[.agg #[.int .i64 a0_3, .int .u64 a0_4]] rfl (by (try simp only [List.map_toArray, List.map_cons, List.map_nil]); first | done | rfl | (simp only [List.length_drop, List.length_take]; rfl)) ?_; (with_reducible refine (window_Used.calls kj1 a0_3 a0_4 t115 t118 _ A27.out).mono ?_); rintro e w29 ⟨v116, rfl, ho0, hb⟩; refine ⟨_, rfl, ?_⟩; have n0_ := Aside0.mk (Kd.R_lower ho0 (below_size (by repeat (first | (with_reducible first | exact HB.out | apply below_alloc | apply pw_below_drewN | apply below_drew1 | refine below_set ?_ GE114.out) | exact HB.out)))); have n1_ := Aside0.mk (blk_below (g := gb114) (o := .cells #[.int .i64 a0_0, .int .i64 a0_1, .int .i64 a0_2, .int .i64 a0_3, .int .u64 a0_4, .int .i64 a0_5, .int .i64 a0_6] 36 (0, 0)) (by (with_reducible repeat (first | refine blk_drewN ?_ _ | refine blk_drew ?_ | refine blk_alloc ?_ _)); exact BK114.out) hb); have n2_ := Aside0.mk (below_step (by repeat (first | (with_reducible first | exact HB.out | apply below_alloc | apply pw_below_drewN | apply below_drew1 | refine below_set ?_ GE114.out) | exact HB.out)) hb); clear BK114; clear HB; have HO117 := n0_; have BK114 := n1_; have HB := n2_; clear n0_ n1_ n2_; (try clear hb); (try clear hb2); (try clear hk); (try clear hi); (try clear ho0)))
                    go_ret
                    exact ⟨by first | rfl | (simp [errW_none, errW_some] <;> rfl) | (simp [*, errW_none, errW_some] <;> rfl), by repeat (first | (with_reducible first | exact HB.out | apply below_alloc | apply pw_below_drewN | apply below_drew1 | refine below_set ?_ GE114.out) | exact HB.out)⟩
                · rw [if_neg c24] at H
                  have c24b0 : decide (0 < a0_5) = false := decide_eq_false c24
                  clear c24
                  replace H := Option.bind_eq_some_iff.mp H
                  obtain ⟨⟨t119, t122⟩, A300, H⟩ := H
                  replace H : (some (t122 == 0)) = some r := H
                  have A30 := Aside0.mk A300
                  clear A300
                  obtain rfl := Option.some.inj H
                  have hcz31_0 : wc.cell? ⟨gb114, 0, none⟩ = some (.int .i64 a0_0) := (blk_cell BK114.out 0).trans rfl
                  have hcz31_1 : wc.cell? ⟨gb114, 1, none⟩ = some (.int .i64 a0_1) := (blk_cell BK114.out 1).trans rfl
                  have hcz31_2 : wc.cell? ⟨gb114, 2, none⟩ = some (.int .i64 a0_2) := (blk_cell BK114.out 2).trans rfl
                  have hcz31_3 : wc.cell? ⟨gb114, 3, none⟩ = some (.int .i64 a0_3) := (blk_cell BK114.out 3).trans rfl
                  have hcz31_4 : wc.cell? ⟨gb114, 4, none⟩ = some (.int .u64 a0_4) := (blk_cell BK114.out 4).trans rfl
                  have hcz31_5 : wc.cell? ⟨gb114, 5, none⟩ = some (.int .i64 a0_5) := (blk_cell BK114.out 5).trans rfl
                  have hcz31_6 : wc.cell? ⟨gb114, 6, none⟩ = some (.int .i64 a0_6) := (blk_cell BK114.out 6).trans rfl
                  have hfz31_0 := blk_frozen BK114.out 0
                  have hfz31_1 := blk_frozen BK114.out 1
                  have hfz31_2 := blk_frozen BK114.out 2
                  have hfz31_3 := blk_frozen BK114.out 3
                  have hfz31_4 := blk_frozen BK114.out 4
                  have hfz31_5 := blk_frozen BK114.out 5
                  have hfz31_6 := blk_frozen BK114.out 6
                  go_wp2_with (first | ((with_reducible refine gate_callee (f := 81) rfl ?_); refine goesL_ (some 64) rfl rfl Try.func81 (by kernel_rfl) rfl #[.agg #[.int .i64 a0_3, .int .u64 a0_4]] rfl (by (try simp only [List.map_toArray, List.map_cons, List.map_nil]); first | done | rfl | (simp only [List.length_drop, List.length_take]; rfl)) ?_; (with_reducible refine (window_Used.calls kj1 a0_3 a0_4 t119 t122 _ A30.out).mono ?_); rintro e w32 ⟨v120, rfl, ho0, hb⟩; refine ⟨_, rfl, ?_⟩; have n0_ := Aside0.mk (Kd.R_lower ho0 (below_size (by repeat (first | (with_reducible first | exact HB.out | apply below_alloc | apply pw_below_drewN | apply below_drew1 | refine below_set ?_ GE114.out) | exact HB.out)))); have n1_ := Aside0.mk (blk_below (g := gb114) (o := .cells #[.int .i64 a0_0, .int .i64 a0_1, .int .i64 a0_2, .int .i64 a0_3, .int .u64 a0_4, .int .i64 a0_5, .int .i64 a0_6] 36 (0, 0)) (by (with_reducible repeat (first | refine blk_drewN ?_ _ | refine blk_drew ?_ | refine blk_alloc ?_ _)); exact BK114.out) hb); have n2_ := Aside0.mk (below_step (by repeat (first | (with_reducible first | exact HB.out | apply below_alloc | apply pw_below_drewN | apply below_drew1 | refine below_set ?_ GE114.out) | exact HB.out)) hb); clear BK114; clear HB; have HO121 := n0_; have BK114 := n1_; have HB := n2_; clear n0_ n1_ n2_; (try clear hb); (try clear hb2); (try clear hk); (try clear hi); (try clear ho0)))
                  go_ret
                  exact ⟨by first | rfl | (simp [errW_none, errW_some] <;> rfl) | (simp [*, errW_none, errW_some] <;> rfl), by repeat (first | (with_reducible first | exact HB.out | apply below_alloc | apply pw_below_drewN | apply below_drew1 | refine below_set ?_ GE114.out) | exact HB.out)⟩

/-! ### meter_Read -/
theorem meter_Read.word {w : World} {A : Option Addr} {n : Nat} {xs : List Int} (h : Kd.C (Kd.int .u32) w A n xs) (i : Nat) (h1 : i < n) : ∃ ad, A = some ad ∧ w.cell? (ad.add i) = some (.int .u32 (rd xs (i : Int))) := by
  obtain ⟨ad, c, e, hl, hK, hc⟩ := Kd.C_get h 0 (i : Int) (by omega) (by omega)
  obtain rfl : c = [.int .u32 (xs.getD (i : Int).toNat 0)] := hK
  have := hc 0 _ rfl
  simp only [show (Kd.int IntKind.u32).sz = 1 from rfl, Int.toNat_natCast, Nat.mul_one, Nat.add_zero] at this
  exact ⟨ad, e, this⟩
def meter_Read.cells (a0 a1 a2 a3 cr hi bs : Int) : Nat → Array Value
  | 0 => #[.int .i64 0, .int .i64 0, .int .i64 cr, .int .i64 hi, .int .u64 bs, .int .i64 0, .int .i64 0]
  | 1 => #[.int .i64 a0, .int .i64 0, .int .i64 cr, .int .i64 hi, .int .u64 bs, .int .i64 0, .int .i64 0]
  | 2 => #[.int .i64 a0, .int .i64 a1, .int .i64 cr, .int .i64 hi, .int .u64 bs, .int .i64 0, .int .i64 0]
  | 3 => #[.int .i64 a0, .int .i64 a1, .int .i64 cr, .int .i64 hi, .int .u64 bs, .int .i64 a2, .int .i64 0]
  | _ => #[.int .i64 a0, .int .i64 a1, .int .i64 cr, .int .i64 hi, .int .u64 bs, .int .i64 a2, .int .i64 a3]
def meter_Read.f (k : Nat) (l0 : List Int) : Option (Int × Int × Int × Int × Int × Int × Int × Int) :=
  if (l0.length : Int) = 5 then (if ∀ i : Nat, i < 5 → 0 ≤ rd l0 (i : Int) ∧ rd l0 (i : Int) ≤ 4294967295 then
    ((meter_may.f k (rd l0 1 % 256) (rd l0 1 / 256 % 256) (rd l0 0) (rd l0 2) (Go.bits .or .u64 (rd l0 3) (rd l0 4 * 4294967296)) (rd l0 1 / 65536 % 256) (rd l0 1 / 16777216 % 256)).bind fun t =>
      if t = true then some (rd l0 1 % 256, rd l0 1 / 256 % 256, rd l0 0, rd l0 2, Go.bits .or .u64 (rd l0 3) (rd l0 4 * 4294967296), rd l0 1 / 65536 % 256, rd l0 1 / 16777216 % 256, 0) else some (0, 0, 0, 0, 0, 0, 0, 5)) else none) else some (0, 0, 0, 0, 0, 0, 0, 1)
theorem meter_Read.mono : ∀ a0 k, LeO (meter_Read.f k a0) (meter_Read.f (k + 1) a0) := by
  intro a0 k
  unfold meter_Read.f
  exact LeO.ite (LeO.ite (LeO.bind (meter_may.mono _ _ _ _ _ _ _ _) (fun _ => LeO.refl _)) (LeO.refl _)) (LeO.refl _)
set_option maxHeartbeats 4000000 in
set_option maxRecDepth 100000 in
theorem meter_Read.calls (k : Nat) (A0 : Option Addr) (c0 : Nat) (l0 : List Int) (r1 : Int) (r2 : Int) (r3 : Int) (r4 : Int) (r5 : Int) (r6 : Int) (r7 : Int) (r8 : Int) (w : World) (hr0 : Kd.C (Kd.int .u32) w A0 l0.length l0) (hc0 : l0.length ≤ c0) (h : meter_Read.f k l0 = some (r1, r2, r3, r4, r5, r6, r7, r8)) :
    Calls Try.prog 26 #[.slice A0 l0.length c0] w fun e w' => e = .returned (.tuple #[.agg #[.int .i64 r1, .int .i64 r2, .int .i64 r3, .int .i64 r4, .int .u64 r5, .int .i64 r6, .int .i64 r7], .int .i64 r8]) ∧ Below w.heap.size w w' := by
  have hu36 := Try.underlying36
  have hu34 := Try.underlying34
  have HR0 := Aside0.mk hr0
  have HC0 := Aside0.mk hc0
  clear hr0 hc0
  unfold meter_Read.f at h
  by_cases c1 : (l0.length : Int) = 5
  · rw [if_pos c1] at h
    have c1b : ((l0.length : Int) != 5) = false := bne_eq_false_iff_eq.mpr c1
    by_cases c2 : ∀ i : Nat, i < 5 → 0 ≤ rd l0 (i : Int) ∧ rd l0 (i : Int) ≤ 4294967295
    · rw [if_pos c2] at h
      obtain ⟨t, hm, h⟩ := Option.bind_eq_some_iff.mp h
      obtain ⟨q0, q0'⟩ := c2 0 (by omega)
      obtain ⟨q1, q1'⟩ := c2 1 (by omega)
      obtain ⟨q2, q2'⟩ := c2 2 (by omega)
      obtain ⟨q3, q3'⟩ := c2 3 (by omega)
      obtain ⟨q4, q4'⟩ := c2 4 (by omega)
      clear c2
      obtain ⟨ad, rfl, x0⟩ := meter_Read.word HR0.out 0 (by omega)
      obtain ⟨_, e1, x1⟩ := meter_Read.word HR0.out 1 (by omega)
      cases e1
      obtain ⟨_, e1, x2⟩ := meter_Read.word HR0.out 2 (by omega)
      cases e1
      obtain ⟨_, e1, x3⟩ := meter_Read.word HR0.out 3 (by omega)
      cases e1
      obtain ⟨_, e1, x4⟩ := meter_Read.word HR0.out 4 (by omega)
      cases e1
      have c5 : l0.length = 5 := by omega
      rw [c5]
      generalize hg0 : rd l0 ((0 : Nat) : Int) = g0 at *
      generalize hg1 : rd l0 ((1 : Nat) : Int) = g1 at *
      generalize hg2 : rd l0 ((2 : Nat) : Int) = g2 at *
      generalize hg3 : rd l0 ((3 : Nat) : Int) = g3 at *
      generalize hg4 : rd l0 ((4 : Nat) : Int) = g4 at *
      have hg0' : rd l0 0 = g0 := hg0
      have hg1' : rd l0 1 = g1 := hg1
      have hg2' : rd l0 2 = g2 := hg2
      have hg3' : rd l0 3 = g3 := hg3
      have hg4' : rd l0 4 = g4 := hg4
      try simp only [hg0', hg1', hg2', hg3', hg4'] at h
      try simp only [hg0', hg1', hg2', hg3', hg4'] at hm
      have HM := Aside0.mk hm
      have H := Aside0.mk h
      clear hm h hg0 hg1 hg2 hg3 hg4 hg0' hg1' hg2' hg3' hg4' c1 c5 c1b
      obtain ⟨b0, hb0⟩ : ∃ b0, b0 = g1 % 256 := ⟨_, rfl⟩
      obtain ⟨b1, hb1⟩ : ∃ b1, b1 = g1 / 256 % 256 := ⟨_, rfl⟩
      obtain ⟨b2, hb2⟩ : ∃ b2, b2 = g1 / 65536 % 256 := ⟨_, rfl⟩
      obtain ⟨b3, hb3⟩ : ∃ b3, b3 = g1 / 16777216 % 256 := ⟨_, rfl⟩
      rw [← hb0, ← hb1, ← hb2, ← hb3] at HM H
      have HB0 := Aside0.mk hb0
      have HB1 := Aside0.mk hb1
      have HB2 := Aside0.mk hb2
      have HB3 := Aside0.mk hb3
      clear hb0 hb1 hb2 hb3
      have x0 : w.cell? ad = some (.int .u32 g0) := by simpa [Addr.add] using x0
      have x1 : w.cell? ⟨ad.block, ad.off + 1, none⟩ = some (.int .u32 g1) := by simpa [Addr.add] using x1
      have x2 : w.cell? ⟨ad.block, ad.off + 2, none⟩ = some (.int .u32 g2) := by simpa [Addr.add] using x2
      have x3 : w.cell? ⟨ad.block, ad.off + 3, none⟩ = some (.int .u32 g3) := by simpa [Addr.add] using x3
      have x4 : w.cell? ⟨ad.block, ad.off + 4, none⟩ = some (.int .u32 g4) := by simpa [Addr.add] using x4
      have y0 := fun o => pw_cell_below (below_alloc (Below.refl w.heap.size w) o) x0
      have z0 := fun o o' => pw_cell_below (below_alloc (below_alloc (Below.refl w.heap.size w) o) o') x0
      have y2 := fun o => pw_cell_below (below_alloc (Below.refl w.heap.size w) o) x2
      have z2 := fun o o' => pw_cell_below (below_alloc (below_alloc (Below.refl w.heap.size w) o) o') x2
      have y3 := fun o => pw_cell_below (below_alloc (Below.refl w.heap.size w) o) x3
      have z3 := fun o o' => pw_cell_below (below_alloc (below_alloc (Below.refl w.heap.size w) o) o') x3
      have y4 := fun o => pw_cell_below (below_alloc (Below.refl w.heap.size w) o) x4
      have z4 := fun o o' => pw_cell_below (below_alloc (below_alloc (Below.refl w.heap.size w) o) o') x4
      have X1 := Aside0.mk x1
      clear x0 x1 x2 x3 x4
      go_enter Try.func26, Try.ntmps26
      go_wp2
      go_region
      go_wp2
      generalize Go.bits .or .u64 g3 (g4 * 4294967296) = bs at *
      go_loopg [37] 4 (fun kq v37 w' => ∃ i : Nat, v37 = .int .i64 (i : Int) ∧ i ≤ 4 ∧ kq = 4 - i ∧ Aside0 (w'.heap[w.heap.size]? = some (.cells #[.int .i64 0, .int .i64 0, .int .i64 0, .int .i64 0, .int .u64 0, .int .i64 0, .int .i64 0] 36 (0, 0))) ∧ Aside0 (w'.heap[w.heap.size + 1]? = some (.cells (meter_Read.cells b0 b1 b2 b3 g0 g2 bs i) 36 (0, 0))) ∧ Aside0 (w'.heap[w.heap.size + 2]? = some (.cells #[.pointer (some ⟨w.heap.size + 1, 0, none⟩), .pointer (some ⟨w.heap.size + 1, 1, none⟩), .pointer (some ⟨w.heap.size + 1, 5, none⟩), .pointer (some ⟨w.heap.size + 1, 6, none⟩)] 103 (0, 0))) ∧ Aside0 (Below w.heap.size w w'))
      case atStart =>
        refine ⟨0, rfl, by omega, rfl, ⟨?_⟩, ⟨?_⟩, ⟨?_⟩, ⟨?_⟩⟩
        · apply blk_drew; apply blk_alloc; apply blk_alloc; exact blk_new w _
        · have := blk_new (w.alloc (.cells #[.int .i64 0, .int .i64 0, .int .i64 0, .int .i64 0, .int .u64 0, .int .i64 0, .int .i64 0] 36)) (.cells #[.int .i64 0, .int .i64 0, .int .i64 g0, .int .i64 g2, .int .u64 bs, .int .i64 0, .int .i64 0] 36)
          rw [World.size_alloc] at this
          apply blk_drew; apply blk_alloc; exact this
        · have := blk_new ((w.alloc (.cells #[.int .i64 0, .int .i64 0, .int .i64 0, .int .i64 0, .int .u64 0, .int .i64 0, .int .i64 0] 36)).alloc (.cells #[.int .i64 0, .int .i64 0, .int .i64 g0, .int .i64 g2, .int .u64 bs, .int .i64 0, .int .i64 0] 36)) (.cells #[.pointer (some ⟨w.heap.size + 1, 0, none⟩), .pointer (some ⟨w.heap.size + 1, 1, none⟩), .pointer (some ⟨w.heap.size + 1, 5, none⟩), .pointer (some ⟨w.heap.size + 1, 6, none⟩)] 103)
          rw [World.size_alloc, World.size_alloc] at this
          apply blk_drew; exact this
        · repeat (first | exact Below.refl _ _ | apply below_drew1 | apply below_alloc)
      case round =>
        obtain ⟨i, rfl, hi, rfl, H2, H4, HS, HBW⟩ := hrel
        have x1 := pw_cell_below HBW.out X1.out
        have n24 : w.heap.size ≠ w.heap.size + 1 := by omega
        have n45 : w.heap.size + 2 ≠ w.heap.size + 1 := by omega
        rcases i with _ | _ | _ | _ | _ | i
        · have s0 := (blk_cell HS.out 0).trans rfl
          have c0 := (blk_cell H4.out 0).trans rfl
          have f0 := blk_frozen H4.out 0
          go_wp2
          go_roundg (4 - 1)
          case measure => omega
          case rel =>
            refine ⟨1, by first | rfl | go_num, by omega, by omega, ⟨blk_far H2.out (by simp) _⟩, ⟨?_⟩, ⟨blk_far HS.out (by simp) _⟩, ⟨HBW.out.setCell (by simp) _⟩⟩
            rw [show meter_Read.cells b0 b1 b2 b3 g0 g2 bs 1 = (meter_Read.cells b0 b1 b2 b3 g0 g2 bs 0).setIfInBounds 0 (.int .i64 b0) from rfl, HB0.out]
            exact blk_set H4.out _ _
        · have s0 := (blk_cell HS.out 1).trans rfl
          have c0 := (blk_cell H4.out 1).trans rfl
          have f0 := blk_frozen H4.out 1
          go_wp2
          go_roundg (4 - 2)
          case measure => omega
          case rel =>
            refine ⟨2, by first | rfl | go_num, by omega, by omega, ⟨blk_far H2.out (by simp) _⟩, ⟨?_⟩, ⟨blk_far HS.out (by simp) _⟩, ⟨HBW.out.setCell (by simp) _⟩⟩
            rw [show meter_Read.cells b0 b1 b2 b3 g0 g2 bs 2 = (meter_Read.cells b0 b1 b2 b3 g0 g2 bs 1).setIfInBounds 1 (.int .i64 b1) from rfl, HB1.out]
            exact blk_set H4.out _ _
        · have s0 := (blk_cell HS.out 2).trans rfl
          have c0 := (blk_cell H4.out 5).trans rfl
          have f0 := blk_frozen H4.out 5
          go_wp2
          go_roundg (4 - 3)
          case measure => omega
          case rel =>
            refine ⟨3, by first | rfl | go_num, by omega, by omega, ⟨blk_far H2.out (by simp) _⟩, ⟨?_⟩, ⟨blk_far HS.out (by simp) _⟩, ⟨HBW.out.setCell (by simp) _⟩⟩
            rw [show meter_Read.cells b0 b1 b2 b3 g0 g2 bs 3 = (meter_Read.cells b0 b1 b2 b3 g0 g2 bs 2).setIfInBounds 5 (.int .i64 b2) from rfl, HB2.out]
            exact blk_set H4.out _ _
        · have s0 := (blk_cell HS.out 3).trans rfl
          have c0 := (blk_cell H4.out 6).trans rfl
          have f0 := blk_frozen H4.out 6
          go_wp2
          go_roundg (4 - 4)
          case measure => omega
          case rel =>
            refine ⟨4, by first | rfl | go_num, by omega, by omega, ⟨blk_far H2.out (by simp) _⟩, ⟨?_⟩, ⟨blk_far HS.out (by simp) _⟩, ⟨HBW.out.setCell (by simp) _⟩⟩
            rw [show meter_Read.cells b0 b1 b2 b3 g0 g2 bs 4 = (meter_Read.cells b0 b1 b2 b3 g0 g2 bs 3).setIfInBounds 6 (.int .i64 b3) from rfl, show b3 = g1 / 16777216 by have := HB3.out; omega]
            exact blk_set H4.out _ _
        · clear HS HB0 HB1 HB2 HB3 X1
          have H4 : Aside0 (wr.heap[w.heap.size + 1]? = some (.cells #[.int .i64 b0, .int .i64 b1, .int .i64 g0, .int .i64 g2, .int .u64 bs, .int .i64 b2, .int .i64 b3] 36 (0, 0))) := ⟨H4.out⟩
          have e0 := (blk_cell H4.out 0).trans rfl
          have e1 := (blk_cell H4.out 1).trans rfl
          have e2 := (blk_cell H4.out 2).trans rfl
          have e3 := (blk_cell H4.out 3).trans rfl
          have e4 := (blk_cell H4.out 4).trans rfl
          have e5 := (blk_cell H4.out 5).trans rfl
          have e6 := (blk_cell H4.out 6).trans rfl
          clear y0 y2 y3 y4 z0 z2 z3 z4 x1
          cases t with
          | true =>
            have H' := H.out
            simp only [if_true, Option.some.injEq, Prod.mk.injEq] at H'
            obtain ⟨rfl, rfl, rfl, rfl, rfl, rfl, rfl, rfl⟩ := H'
            go_wp2_with (go_at_call 52; refine (meter_may.calls k _ _ _ _ _ _ _ _ _ HM.out).mono ?_; rintro e w1 ⟨rfl, hb1⟩; have H41 : Aside0 (w1.heap[w.heap.size + 1]? = some (.cells #[.int .i64 b0, .int .i64 b1, .int .i64 g0, .int .i64 g2, .int .u64 bs, .int .i64 b2, .int .i64 b3] 36 (0, 0))) := ⟨(hb1.block _ (blk_lt H4.out)).trans H4.out⟩; have H21 := Aside0.mk ((hb1.block _ (blk_lt H2.out)).trans H2.out); have HB1 := Aside0.mk (below_then HBW.out HBW.out.size hb1); clear hb1; have e0 := (blk_cell H41.out 0).trans rfl; have e1 := (blk_cell H41.out 1).trans rfl; have e2 := (blk_cell H41.out 2).trans rfl; have e3 := (blk_cell H41.out 3).trans rfl; have e4 := (blk_cell H41.out 4).trans rfl; have e5 := (blk_cell H41.out 5).trans rfl; have e6 := (blk_cell H41.out 6).trans rfl; have y0 := (blk_cell H21.out 0).trans rfl; have y1 := (blk_cell H21.out 1).trans rfl; have y2 := (blk_cell H21.out 2).trans rfl; have y3 := (blk_cell H21.out 3).trans rfl; have y4 := (blk_cell H21.out 4).trans rfl; have y5 := (blk_cell H21.out 5).trans rfl; have y6 := (blk_cell H21.out 6).trans rfl; have ff := blk_frozen H21.out)
            refine bodyPost_ret (results_ct rfl _ _ w.heap.size 36 #[.int .i64 b0, .int .i64 b1, .int .i64 g0, .int .i64 g2, .int .u64 bs, .int .i64 b2, .int .i64 b3] (0, 0) _ rfl (blk_set (blk_set (blk_set (blk_set (blk_set (blk_set (blk_set H21.out 0 (.int .i64 b0)) 1 (.int .i64 b1)) 2 (.int .i64 g0)) 3 (.int .i64 g2)) 4 (.int .u64 bs)) 5 (.int .i64 b2)) 6 (.int .i64 b3)) Try.underlying36 rfl (by kernel_rfl)) rfl ?_
            exact ⟨rfl, (((((((HB1.out.setCell (p := ⟨w.heap.size, 0, none⟩) (Nat.le_refl _) _).setCell (p := ⟨w.heap.size, 1, none⟩) (Nat.le_refl _) _).setCell (p := ⟨w.heap.size, 2, none⟩) (Nat.le_refl _) _).setCell (p := ⟨w.heap.size, 3, none⟩) (Nat.le_refl _) _).setCell (p := ⟨w.heap.size, 4, none⟩) (Nat.le_refl _) _).setCell (p := ⟨w.heap.size, 5, none⟩) (Nat.le_refl _) _).setCell (p := ⟨w.heap.size, 6, none⟩) (Nat.le_refl _) _)⟩
          | false =>
            have H' := H.out
            simp only [Bool.false_eq_true, if_false, Option.some.injEq, Prod.mk.injEq] at H'
            obtain ⟨rfl, rfl, rfl, rfl, rfl, rfl, rfl, rfl⟩ := H'
            go_wp2_with (go_at_call 52; refine (meter_may.calls k _ _ _ _ _ _ _ _ _ HM.out).mono ?_; rintro e w1 ⟨rfl, hb1⟩; have H41 : Aside0 (w1.heap[w.heap.size + 1]? = some (.cells #[.int .i64 b0, .int .i64 b1, .int .i64 g0, .int .i64 g2, .int .u64 bs, .int .i64 b2, .int .i64 b3] 36 (0, 0))) := ⟨(hb1.block _ (blk_lt H4.out)).trans H4.out⟩; have H21 := Aside0.mk ((hb1.block _ (blk_lt H2.out)).trans H2.out); have HB1 := Aside0.mk (below_then HBW.out HBW.out.size hb1); clear hb1; have e0 := (blk_cell H41.out 0).trans rfl; have e1 := (blk_cell H41.out 1).trans rfl; have e2 := (blk_cell H41.out 2).trans rfl; have e3 := (blk_cell H41.out 3).trans rfl; have e4 := (blk_cell H41.out 4).trans rfl; have e5 := (blk_cell H41.out 5).trans rfl; have e6 := (blk_cell H41.out 6).trans rfl; have y0 := (blk_cell H21.out 0).trans rfl; have y1 := (blk_cell H21.out 1).trans rfl; have y2 := (blk_cell H21.out 2).trans rfl; have y3 := (blk_cell H21.out 3).trans rfl; have y4 := (blk_cell H21.out 4).trans rfl; have y5 := (blk_cell H21.out 5).trans rfl; have y6 := (blk_cell H21.out 6).trans rfl; have ff := blk_frozen H21.out)
            refine bodyPost_ret (results_ct rfl _ _ w.heap.size 36 #[.int .i64 0, .int .i64 0, .int .i64 0, .int .i64 0, .int .u64 0, .int .i64 0, .int .i64 0] (0, 0) _ rfl (blk_set (blk_set (blk_set (blk_set (blk_set (blk_set (blk_set H21.out 0 (.int .i64 0)) 1 (.int .i64 0)) 2 (.int .i64 0)) 3 (.int .i64 0)) 4 (.int .u64 0)) 5 (.int .i64 0)) 6 (.int .i64 0)) Try.underlying36 rfl (by kernel_rfl)) rfl ?_
            exact ⟨rfl, (((((((HB1.out.setCell (p := ⟨w.heap.size, 0, none⟩) (Nat.le_refl _) _).setCell (p := ⟨w.heap.size, 1, none⟩) (Nat.le_refl _) _).setCell (p := ⟨w.heap.size, 2, none⟩) (Nat.le_refl _) _).setCell (p := ⟨w.heap.size, 3, none⟩) (Nat.le_refl _) _).setCell (p := ⟨w.heap.size, 4, none⟩) (Nat.le_refl _) _).setCell (p := ⟨w.heap.size, 5, none⟩) (Nat.le_refl _) _).setCell (p := ⟨w.heap.size, 6, none⟩) (Nat.le_refl _) _)⟩
        · omega
    · rw [if_neg c2] at h
      cases h
  · rw [if_neg c1] at h
    simp only [Option.some.injEq, Prod.mk.injEq] at h
    obtain ⟨rfl, rfl, rfl, rfl, rfl, rfl, rfl, rfl⟩ := h
    have c1b : ((l0.length : Int) != 5) = true := bne_iff_ne.mpr c1
    have c1c : (l0.length == 5) = false := by simp; omega
    go_enter Try.func26, Try.ntmps26
    go_wp2
    exact bodyPost_ret (v := .tuple #[.agg #[.int .i64 0, .int .i64 0, .int .i64 0, .int .i64 0, .int .u64 0, .int .i64 0, .int .i64 0], .int .i64 1]) (by simp [results, Try.results26, go_sem]) rfl ⟨rfl, (Below.refl _ _).alloc (Nat.le_refl _) _⟩

/-! ### slot_size: function 92 -/
def slot_size.f (a0 : Int) (a1 : Int) : Option (Bool) := if a1 ≥ 1 then (if a1 ≤ 64 then (some (a0 == (wrap64 (2 * (wrap64 (a1 + 1)))))) else (some false)) else (some false)
set_option maxHeartbeats 8000000 in
set_option maxRecDepth 100000 in
theorem slot_size.calls (a0 : Int) (a1 : Int) (r : Bool) (w : World) (h : slot_size.f a0 a1 = some r) :
    Calls Try.prog 92 #[.int .i64 a0, .int .i64 a1] w fun e w' => e = .returned (.bool r) ∧ Drawn0 w w' := by
  have H : (if a1 ≥ 1 then (if a1 ≤ 64 then (some (a0 == (wrap64 (2 * (wrap64 (a1 + 1)))))) else (some false)) else (some false)) = some r := h
  clear h
  by_cases c3 : a1 ≥ 1
  · rw [if_pos c3] at H
    have c3b0 : decide (1 ≤ a1) = true := decide_eq_true c3
    clear c3
    by_cases c4 : a1 ≤ 64
    · rw [if_pos c4] at H
      have c4b0 : decide (a1 ≤ 64) = true := decide_eq_true c4
      clear c4
      obtain rfl := Option.some.inj H
      go_enter Try.func92, Try.ntmps92
      go_wp2
      go_ret
      exact ⟨by first | rfl | (simp; done) | (simp [*]; done), by repeat (first | exact Drawn0.refl _ | apply Drawn0.step)⟩
    · rw [if_neg c4] at H
      have c4b0 : decide (a1 ≤ 64) = false := decide_eq_false c4
      clear c4
      obtain rfl := Option.some.inj H
      go_enter Try.func92, Try.ntmps92
      go_wp2
      go_ret
      exact ⟨by first | rfl | (simp; done) | (simp [*]; done), by repeat (first | exact Drawn0.refl _ | apply Drawn0.step)⟩
  · rw [if_neg c3] at H
    have c3b0 : decide (1 ≤ a1) = false := decide_eq_false c3
    clear c3
    obtain rfl := Option.some.inj H
    go_enter Try.func92, Try.ntmps92
    go_wp2
    go_ret
    exact ⟨by first | rfl | (simp; done) | (simp [*]; done), by repeat (first | exact Drawn0.refl _ | apply Drawn0.step)⟩

/-! ### slot_pair_mark: function 106 -/
def slot_pair_mark.f (l0_0 : List Int) (a0_1 : Int) (a1 : Int) : Option (Int) := if 0 ≤ (wrap64 (a1 * (wrap64 (a0_1 + 1)))) then (if (wrap64 (a1 * (wrap64 (a0_1 + 1)))) < (l0_0.length : Int) then (if (rd l0_0 (wrap64 (a1 * (wrap64 (a0_1 + 1))))) > 3 then (some 0) else (some (rd l0_0 (wrap64 (a1 * (wrap64 (a0_1 + 1))))))) else (none)) else (none)
set_option maxHeartbeats 8000000 in
set_option maxRecDepth 100000 in
theorem slot_pair_mark.calls (A0_0 : Option Addr) (c0_0 : Nat) (l0_0 : List Int) (a0_1 : Int) (a1 : Int) (r : Int) (w : World) (hr0_0 : Kd.C (Kd.int .u32) w A0_0 l0_0.length l0_0) (hc0_0 : l0_0.length ≤ c0_0) (h : slot_pair_mark.f l0_0 a0_1 a1 = some r) :
    Calls Try.prog 106 #[.agg #[.slice A0_0 l0_0.length c0_0, .int .i64 a0_1], .int .i64 a1] w fun e w' => e = .returned (.int .u32 r) ∧ Below w.heap.size w w' := by
  have hu132 := Try.underlying132
  have HR0_0 := Aside0.mk hr0_0
  have HC0_0 := Aside0.mk hc0_0
  clear hr0_0 hc0_0
  have HB := Aside0.mk (Below.refl w.heap.size w)
  have H : (if 0 ≤ (wrap64 (a1 * (wrap64 (a0_1 + 1)))) then (if (wrap64 (a1 * (wrap64 (a0_1 + 1)))) < (l0_0.length : Int) then (if (rd l0_0 (wrap64 (a1 * (wrap64 (a0_1 + 1))))) > 3 then (some 0) else (some (rd l0_0 (wrap64 (a1 * (wrap64 (a0_1 + 1))))))) else (none)) else (none)) = some r := h
  clear h
  obtain ⟨ji3, hji3⟩ : ∃ j_ : Int, (wrap64 (a1 * (wrap64 (a0_1 + 1)))) = j_ := ⟨_, rfl⟩
  replace H : (if 0 ≤ (ji3) then (if (ji3) < (l0_0.length : Int) then (if (rd l0_0 (ji3)) > 3 then (some 0) else (some (rd l0_0 (ji3)))) else (none)) else (none)) = some r := by first | (rw [hji3] at H; exact H) | (simp only [hji3] at H ⊢; exact H)
  have hji3w : (IntKind.i64.wrap (a1 * (wrap64 (a0_1 + 1)))) = ji3 := (i64_w _).trans hji3
  by_cases c4 : 0 ≤ (ji3)
  · rw [if_pos c4] at H
    have c4b0 : decide (0 ≤ (ji3)) = true := decide_eq_true c4
    clear c4
    by_cases c5 : (ji3) < (l0_0.length : Int)
    · rw [if_pos c5] at H
      have c5b0 : decide ((ji3) < (l0_0.length : Int)) = true := decide_eq_true c5
      clear c5
      by_cases c6 : (rd l0_0 (ji3)) > 3
      · rw [if_pos c6] at H
        have c6b0 : decide (3 < (rd l0_0 (ji3))) = true := decide_eq_true c6
        clear c6
        obtain rfl := Option.some.inj H
        go_enter Try.func106, Try.ntmps106
        go_wp2_with (first | ((with_reducible refine gate_dst (N := 2) rfl ?_); refine box_event ?hg (N := 2) ?hd (cs := #[.slice A0_0 l0_0.length c0_0, .int .i64 a0_1]) (t := 132) ?hr ?_; (case hd => rfl); (case hg => rfl); (case hr => first | (go_simp; done) | (go_simp; rfl)); intro gb123 hg w7 hbox hb; have n0_ := Aside0.mk (below_step (by repeat (first | (with_reducible first | exact HB.out | apply below_alloc | apply pw_below_drewN | apply below_drew1) | exact HB.out)) hb); have n1_ := Aside0.mk (hbox); have n2_ := Aside0.mk ((by rw [hg]; exact (below_size (by repeat (first | (with_reducible first | exact HB.out | apply below_alloc | apply pw_below_drewN | apply below_drew1) | exact HB.out))) : w.heap.size ≤ gb123)); have n3_ := Aside0.mk ((by rw [hg]; exact (below_size (by repeat (first | (with_reducible first | exact HB.out | apply below_alloc | apply pw_below_drewN | apply below_drew1) | exact HB.out))) : w.heap.size ≤ gb123)); clear HB; have HB := n0_; have BK123 := n1_; have GW123 := n2_; have GE123 := n3_; clear n0_ n1_ n2_ n3_; clear hb hbox hg; have hcz8_0 : w7.cell? ⟨gb123, 0, none⟩ = some (.slice A0_0 l0_0.length c0_0) := (blk_cell BK123.out 0).trans rfl; have hcz8_1 : w7.cell? ⟨gb123, 1, none⟩ = some (.int .i64 a0_1) := (blk_cell BK123.out 1).trans rfl; have hfz8_0 := blk_frozen BK123.out 0; have hfz8_1 := blk_frozen BK123.out 1; have p124 : 0 ≤ ((ji3) : Int) := of_decide_eq_true (by first | (with_reducible assumption) | assumption); have q124 : (ji3) < (l0_0.length : Int) := of_decide_eq_true (by first | (with_reducible assumption) | assumption); obtain ⟨ad124, e124, hx124_0⟩ := Kd.at_int HR0_0.out (ji3) p124 q124; cases e124; replace hx124_0 := (HB.out.cell (World.block_lt_of_cell? w _ hx124_0)).trans hx124_0; replace p124 := eq_true p124; replace q124 := eq_true q124))
        go_ret
        exact ⟨by first | rfl | (simp [errW_none, errW_some] <;> rfl) | (simp only [← hji3]; first | rfl | (simp [errW_none, errW_some] <;> rfl)) | (simp [*, errW_none, errW_some] <;> rfl), by repeat (first | (with_reducible first | exact HB.out | apply below_alloc | apply pw_below_drewN | apply below_drew1 | refine below_set ?_ GE123.out) | exact HB.out)⟩
      · rw [if_neg c6] at H
        have c6b0 : decide (3 < (rd l0_0 (ji3))) = false := decide_eq_false c6
        clear c6
        obtain rfl := Option.some.inj H
        go_enter Try.func106, Try.ntmps106
        go_wp2_with (first | ((with_reducible refine gate_dst (N := 2) rfl ?_); refine box_event ?hg (N := 2) ?hd (cs := #[.slice A0_0 l0_0.length c0_0, .int .i64 a0_1]) (t := 132) ?hr ?_; (case hd => rfl); (case hg => rfl); (case hr => first | (go_simp; done) | (go_simp; rfl)); intro gb123 hg w9 hbox hb; have n0_ := Aside0.mk (below_step (by repeat (first | (with_reducible first | exact HB.out | apply below_alloc | apply pw_below_drewN | apply below_drew1) | exact HB.out)) hb); have n1_ := Aside0.mk (hbox); have n2_ := Aside0.mk ((by rw [hg]; exact (below_size (by repeat (first | (with_reducible first | exact HB.out | apply below_alloc | apply pw_below_drewN | apply below_drew1) | exact HB.out))) : w.heap.size ≤ gb123)); have n3_ := Aside0.mk ((by rw [hg]; exact (below_size (by repeat (first | (with_reducible first | exact HB.out | apply below_alloc | apply pw_below_drewN | apply below_drew1) | exact HB.out))) : w.heap.size ≤ gb123)); clear HB; have HB := n0_; have BK123 := n1_; have GW123 := n2_; have GE123 := n3_; clear n0_ n1_ n2_ n3_; clear hb hbox hg; have hcz10_0 : w9.cell? ⟨gb123, 0, none⟩ = some (.slice A0_0 l0_0.length c0_0) := (blk_cell BK123.out 0).trans rfl; have hcz10_1 : w9.cell? ⟨gb123, 1, none⟩ = some (.int .i64 a0_1) := (blk_cell BK123.out 1).trans rfl; have hfz10_0 := blk_frozen BK123.out 0; have hfz10_1 := blk_frozen BK123.out 1; have p124 : 0 ≤ ((ji3) : Int) := of_decide_eq_true (by first | (with_reducible assumption) | assumption); have q124 : (ji3) < (l0_0.length : Int) := of_decide_eq_true (by first | (with_reducible assumption) | assumption); obtain ⟨ad124, e124, hx124_0⟩ := Kd.at_int HR0_0.out (ji3) p124 q124; cases e124; replace hx124_0 := (HB.out.cell (World.block_lt_of_cell? w _ hx124_0)).trans hx124_0; replace p124 := eq_true p124; replace q124 := eq_true q124))
        go_ret
        exact ⟨by first | rfl | (simp [errW_none, errW_some] <;> rfl) | (simp only [← hji3]; first | rfl | (simp [errW_none, errW_some] <;> rfl)) | (simp [*, errW_none, errW_some] <;> rfl), by repeat (first | (with_reducible first | exact HB.out | apply below_alloc | apply pw_below_drewN | apply below_drew1 | refine below_set ?_ GE123.out) | exact HB.out)⟩
    · rw [if_neg c5] at H
      exact absurd H (by simp)
  · rw [if_neg c4] at H
    exact absurd H (by simp)

/-! ### slot_next: function 107 -/
def slot_next.f (a0 : Int) : Option (Int) := some (((Int.tmod a0 3) + 1) % 4294967296)
set_option maxHeartbeats 8000000 in
set_option maxRecDepth 100000 in
theorem slot_next.calls (a0 : Int) (r : Int) (w : World) (h : slot_next.f a0 = some r) :
    Calls Try.prog 107 #[.int .u32 a0] w fun e w' => e = .returned (.int .u32 r) ∧ Drawn0 w w' := by
  have H : (some (((Int.tmod a0 3) + 1) % 4294967296)) = some r := h
  clear h
  obtain rfl := Option.some.inj H
  go_enter Try.func107, Try.ntmps107
  go_wp2
  go_ret
  exact ⟨by first | rfl | (simp; done) | (simp [*]; done), by repeat (first | exact Drawn0.refl _ | apply Drawn0.step)⟩

end Go.Proofs.Ytgelnjcohnfmhaa.PPocketBoots
