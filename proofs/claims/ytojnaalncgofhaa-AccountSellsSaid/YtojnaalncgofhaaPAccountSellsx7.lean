-- written by this session's program wip/xp/xprint.py (it drives the kit's print and adds to it)
import Derived.Test.YtojnaalncgofhaaPAccountSellsx0
import Derived.Test.YtojnaalncgofhaaPAccountSellsx6
namespace Go.Proofs.Ytojnaalncgofhaa.PAccountSells
open Go.RowKit Go.Proofs.YtojnaalncgofhaaW.PrintWords Go.Proofs.YtojnaalncgofhaaW.PrintLast Go.Proofs.YtojnaalncgofhaaW.PrintMore
attribute [local go_sem] max2_int min2_int max_two min_two max_three min_three max_four min_four   -- for this text's walks alone
set_option linter.unusedVariables false
set_option linter.unusedSimpArgs false

/-! ### vendmeterref_AccountMay: function 28 -/
def vendmeterref_AccountMay.j0 : Nat → Bool → Int → Int → Int → Int → Int → Int → List (S39) → Option (Bool)
  | 0, _, _, _, _, _, _, _, _ => none
  | k + 1, x18, x167000, x167001, x167002, x167003, x167004, x167005, x167006 => if x18 = true then (some false) else ((vendmeterref_In.f x167002 1 1048576).bind fun t170 => (if t170 = true then ((vendmeterref_In.f x167003 0 2399).bind fun t171 => (if t171 = true then ((vendmeterref_In.f x167004 0 10000000).bind fun t172 => (if t172 = true then ((vendmeterref_In.f x167005 (-1) x167003).bind fun t173 => (some t173)) else (some false))) else (some false))) else (some false)))
def vendmeterref_AccountMay.f (k : Nat) (a0_0 : Int) (a0_1 : Int) (a0_2 : Int) (a0_3 : Int) (a0_4 : Int) (a0_5 : Int) (l0_6 : List (S39)) : Option (Bool) := (vendmeterref_DebtFault.f k l0_6).bind fun t167 => (if t167 = 0 then ((vendmeterref_In.f a0_0 0 49).bind fun t168 => (if t168 = true then ((vendmeterref_In.f a0_1 0 15).bind fun t169 => (vendmeterref_AccountMay.j0 k (!t169) a0_0 a0_1 a0_2 a0_3 a0_4 a0_5 l0_6)) else (vendmeterref_AccountMay.j0 k true a0_0 a0_1 a0_2 a0_3 a0_4 a0_5 l0_6))) else (vendmeterref_AccountMay.j0 k true a0_0 a0_1 a0_2 a0_3 a0_4 a0_5 l0_6))
theorem vendmeterref_AccountMay.mono_l : ∀ k, (∀ y0 y1 y2 y3 y4 y5 y6 y7, LeO (vendmeterref_AccountMay.j0 k y0 y1 y2 y3 y4 y5 y6 y7) (vendmeterref_AccountMay.j0 (k + 1) y0 y1 y2 y3 y4 y5 y6 y7))
  | 0 => fun _ _ _ _ _ _ _ _ r h => by simp [vendmeterref_AccountMay.j0] at h
  | k + 1 => by
    have ih0 := vendmeterref_AccountMay.mono_l k
    · intro y0 y1 y2 y3 y4 y5 y6 y7
      unfold vendmeterref_AccountMay.j0
      repeat' first
      | (with_reducible exact ih0 _ _ _ _ _ _ _ _)
      | (with_reducible exact vendmeterref_DebtFault.mono _ _)
      | (with_reducible exact LeO.refl _)
      | (with_reducible exact LeO.none _)
      | (with_reducible refine LeO.ite ?_ ?_)
      | (with_reducible refine LeO.bind ?_ (fun _ => ?_))
      | exact ih0 _ _ _ _ _ _ _ _
      | exact vendmeterref_DebtFault.mono _ _
      | exact LeO.none _
      | refine LeO.ite ?_ ?_
      | refine LeO.bind ?_ (fun _ => ?_)
theorem vendmeterref_AccountMay.mono : ∀ a0 a1 a2 a3 a4 a5 a6 k, LeO (vendmeterref_AccountMay.f k a0 a1 a2 a3 a4 a5 a6) (vendmeterref_AccountMay.f (k + 1) a0 a1 a2 a3 a4 a5 a6) := by
  intro a0 a1 a2 a3 a4 a5 a6 k
  have ih0 := vendmeterref_AccountMay.mono_l k
  unfold vendmeterref_AccountMay.f
  repeat' first
      | (with_reducible exact ih0 _ _ _ _ _ _ _ _)
      | (with_reducible exact vendmeterref_DebtFault.mono _ _)
      | (with_reducible exact LeO.refl _)
      | (with_reducible exact LeO.none _)
      | (with_reducible refine LeO.ite ?_ ?_)
      | (with_reducible refine LeO.bind ?_ (fun _ => ?_))
      | exact ih0 _ _ _ _ _ _ _ _
      | exact vendmeterref_DebtFault.mono _ _
      | exact LeO.none _
      | refine LeO.ite ?_ ?_
      | refine LeO.bind ?_ (fun _ => ?_)
set_option maxHeartbeats 8000000 in
set_option maxRecDepth 100000 in
theorem vendmeterref_AccountMay.calls (k : Nat) (a0_0 : Int) (a0_1 : Int) (a0_2 : Int) (a0_3 : Int) (a0_4 : Int) (a0_5 : Int) (A0_6 : Option Addr) (c0_6 : Nat) (l0_6 : List (S39)) (r : Bool) (w : World) (hr0_6 : Kd.C k39 w A0_6 l0_6.length l0_6) (hc0_6 : l0_6.length ≤ c0_6) (h : vendmeterref_AccountMay.f k a0_0 a0_1 a0_2 a0_3 a0_4 a0_5 l0_6 = some r) :
    Calls Try.prog 28 #[.agg #[.int .i64 a0_0, .int .i64 a0_1, .int .i64 a0_2, .int .i64 a0_3, .int .i64 a0_4, .int .i64 a0_5, .slice A0_6 l0_6.length c0_6]] w fun e w' => e = .returned (.bool r) ∧ Below w.heap.size w w' := by
  have hu24 := Try.underlying24
  have HR0_6 := Aside0.mk hr0_6
  have HC0_6 := Aside0.mk hc0_6
  clear hr0_6 hc0_6
  have HB := Aside0.mk (Below.refl w.heap.size w)
  have H : ((vendmeterref_DebtFault.f k l0_6).bind fun t167 => (if t167 = 0 then ((vendmeterref_In.f a0_0 0 49).bind fun t168 => (if t168 = true then ((vendmeterref_In.f a0_1 0 15).bind fun t169 => (vendmeterref_AccountMay.j0 k (!t169) a0_0 a0_1 a0_2 a0_3 a0_4 a0_5 l0_6)) else (vendmeterref_AccountMay.j0 k true a0_0 a0_1 a0_2 a0_3 a0_4 a0_5 l0_6))) else (vendmeterref_AccountMay.j0 k true a0_0 a0_1 a0_2 a0_3 a0_4 a0_5 l0_6))) = some r := h
  clear h
  have HC2 := Aside0.mk H
  clear H
  go_enter Try.func28, Try.ntmps28
  go_upto_region 1 with (first | ((with_reducible refine gate_dst (N := 1) rfl ?_); refine box_event ?hg (N := 1) ?hd (cs := #[.int .i64 a0_0, .int .i64 a0_1, .int .i64 a0_2, .int .i64 a0_3, .int .i64 a0_4, .int .i64 a0_5, .slice A0_6 l0_6.length c0_6]) (t := 24) ?hr ?_; (case hd => rfl); (case hg => rfl); (case hr => first | (go_simp; done) | (go_simp; rfl)); intro gb166 hg w3 hbox hb; have n0_ := Aside0.mk (below_step (by repeat (first | (with_reducible first | exact HB.out | apply below_alloc | apply pw_below_drewN | apply below_drew1) | exact HB.out)) hb); have n1_ := Aside0.mk (hbox); have n2_ := Aside0.mk ((by rw [hg]; exact (below_size (by repeat (first | (with_reducible first | exact HB.out | apply below_alloc | apply pw_below_drewN | apply below_drew1) | exact HB.out))) : w.heap.size ≤ gb166)); have n3_ := Aside0.mk ((by rw [hg]; exact (below_size (by repeat (first | (with_reducible first | exact HB.out | apply below_alloc | apply pw_below_drewN | apply below_drew1) | exact HB.out))) : w.heap.size ≤ gb166)); clear HB; have HB := n0_; have BK166 := n1_; have GW166 := n2_; have GE166 := n3_; clear n0_ n1_ n2_ n3_; clear hb hbox hg))
  (try simp only [Act.put, List.setIfInBounds_toArray, List.set_cons_zero, List.set_cons_succ])
  go_cut [18] (fun v18 wc => ∃ (kq : Nat) (x18_1 : Bool), v18 = .bool x18_1 ∧ Aside0 (vendmeterref_AccountMay.j0 kq x18_1 a0_0 a0_1 a0_2 a0_3 a0_4 a0_5 l0_6 = some r) ∧ Aside0 (kq ≤ k) ∧ Aside0 (wc.heap[gb166]? = some (.cells #[.int .i64 a0_0, .int .i64 a0_1, .int .i64 a0_2, .int .i64 a0_3, .int .i64 a0_4, .int .i64 a0_5, (.slice A0_6 l0_6.length c0_6)] 24 (0, 0))) ∧ Aside0 (Below w.heap.size w wc))
  case first =>
    have H := HC2.out
    clear HC2
    replace H := Option.bind_eq_some_iff.mp H
    obtain ⟨t167, A40, H⟩ := H
    replace H : (if t167 = 0 then ((vendmeterref_In.f a0_0 0 49).bind fun t168 => (if t168 = true then ((vendmeterref_In.f a0_1 0 15).bind fun t169 => (vendmeterref_AccountMay.j0 k (!t169) a0_0 a0_1 a0_2 a0_3 a0_4 a0_5 l0_6)) else (vendmeterref_AccountMay.j0 k true a0_0 a0_1 a0_2 a0_3 a0_4 a0_5 l0_6))) else (vendmeterref_AccountMay.j0 k true a0_0 a0_1 a0_2 a0_3 a0_4 a0_5 l0_6)) = some r := H
    have A4 := Aside0.mk A40
    clear A40
    by_cases c5 : t167 = 0
    · rw [if_pos c5] at H
      have c5b0 : (t167 == 0) = true := beq_iff_eq.mpr c5
      have c5b1 : (t167 != 0) = false := bne_eq_false_iff_eq.mpr c5
      clear c5
      (first | rw [c5b0] | (simp only [i64_w, i32_w]; rw [c5b0]) | skip)
      replace H := Option.bind_eq_some_iff.mp H
      obtain ⟨t168, A60, H⟩ := H
      replace H : (if t168 = true then ((vendmeterref_In.f a0_1 0 15).bind fun t169 => (vendmeterref_AccountMay.j0 k (!t169) a0_0 a0_1 a0_2 a0_3 a0_4 a0_5 l0_6)) else (vendmeterref_AccountMay.j0 k true a0_0 a0_1 a0_2 a0_3 a0_4 a0_5 l0_6)) = some r := H
      have A6 := Aside0.mk A60
      clear A60
      by_cases c7 : t168 = true
      · subst c7
        have H1 : ((vendmeterref_In.f a0_1 0 15).bind fun t169 => (vendmeterref_AccountMay.j0 k (!t169) a0_0 a0_1 a0_2 a0_3 a0_4 a0_5 l0_6)) = some r := by rw [if_pos rfl] at H; exact H
        clear H
        have H := H1
        clear H1
        replace H := Option.bind_eq_some_iff.mp H
        obtain ⟨t169, A80, H⟩ := H
        replace H : (vendmeterref_AccountMay.j0 k (!t169) a0_0 a0_1 a0_2 a0_3 a0_4 a0_5 l0_6) = some r := H
        have A8 := Aside0.mk A80
        clear A80
        have H' := Aside0.mk H
        clear H
        have hcz9_0 : w3.cell? ⟨gb166, 0, none⟩ = some (.int .i64 a0_0) := (blk_cell BK166.out 0).trans rfl
        have hcz9_1 : w3.cell? ⟨gb166, 1, none⟩ = some (.int .i64 a0_1) := (blk_cell BK166.out 1).trans rfl
        have hcz9_2 : w3.cell? ⟨gb166, 2, none⟩ = some (.int .i64 a0_2) := (blk_cell BK166.out 2).trans rfl
        have hcz9_3 : w3.cell? ⟨gb166, 3, none⟩ = some (.int .i64 a0_3) := (blk_cell BK166.out 3).trans rfl
        have hcz9_4 : w3.cell? ⟨gb166, 4, none⟩ = some (.int .i64 a0_4) := (blk_cell BK166.out 4).trans rfl
        have hcz9_5 : w3.cell? ⟨gb166, 5, none⟩ = some (.int .i64 a0_5) := (blk_cell BK166.out 5).trans rfl
        have hcz9_6 : w3.cell? ⟨gb166, 6, none⟩ = some (.slice A0_6 l0_6.length c0_6) := (blk_cell BK166.out 6).trans rfl
        have hfz9_0 := blk_frozen BK166.out 0
        have hfz9_1 := blk_frozen BK166.out 1
        have hfz9_2 := blk_frozen BK166.out 2
        have hfz9_3 := blk_frozen BK166.out 3
        have hfz9_4 := blk_frozen BK166.out 4
        have hfz9_5 := blk_frozen BK166.out 5
        have hfz9_6 := blk_frozen BK166.out 6
        go_wp2_with (first | ((with_reducible refine gate_callee (f := 55) rfl ?_); refine goesL_ (some 5) rfl rfl Try.func55 (by kernel_rfl) rfl #[.slice A0_6 l0_6.length c0_6] rfl (by (try simp only [List.map_toArray, List.map_cons, List.map_nil]); first | done | rfl | (simp only [List.length_drop, List.length_take]; rfl)) ?_; (with_reducible refine (vendmeterref_DebtFault.calls k _ _ l0_6 t167 _ ?side1 ?side2 A4.out).mono ?_); (case side1 => repeat (first | exact (Kd.C_below HR0_6.out HB.out) | (with_reducible refine Kd.C_alloc ?_ _) | (with_reducible refine Kd.C_drewN ?_ _) | (with_reducible refine Kd.C_drew ?_))); (case side2 => exact HC0_6.out); rintro e w' ⟨rfl, ⟨nd, rfl⟩⟩; refine ⟨_, rfl, ?_⟩) | (go_at_call 31; (with_reducible refine (vendmeterref_In.calls a0_0 0 49 true _ A6.out).mono ?_); rintro e w' ⟨rfl, ⟨nd, rfl⟩⟩) | (go_at_call 31; (with_reducible refine (vendmeterref_In.calls a0_1 0 15 t169 _ A8.out).mono ?_); rintro e w' ⟨rfl, ⟨nd, rfl⟩⟩))
        go_meet
        case rel => exact ⟨_, (!t169), (by first | rfl | (simp; done) | (simp [*]; done)), H', ⟨by first | omega | exact Nat.le_refl _⟩, ⟨by (with_reducible repeat (first | refine blk_drewN ?_ _ | refine blk_drew ?_ | refine blk_alloc ?_ _)); exact BK166.out⟩, ⟨by repeat (first | (with_reducible first | exact HB.out | apply below_alloc | apply pw_below_drewN | apply below_drew1 | refine below_set ?_ GE166.out) | exact HB.out)⟩⟩
      · replace c7 := Bool.eq_false_iff.mpr c7
        subst c7
        have H1 : (vendmeterref_AccountMay.j0 k true a0_0 a0_1 a0_2 a0_3 a0_4 a0_5 l0_6) = some r := by rw [if_neg (show ¬ (false = true) by decide)] at H; exact H
        clear H
        have H := H1
        clear H1
        have H' := Aside0.mk H
        clear H
        have hcz10_0 : w3.cell? ⟨gb166, 0, none⟩ = some (.int .i64 a0_0) := (blk_cell BK166.out 0).trans rfl
        have hcz10_1 : w3.cell? ⟨gb166, 1, none⟩ = some (.int .i64 a0_1) := (blk_cell BK166.out 1).trans rfl
        have hcz10_2 : w3.cell? ⟨gb166, 2, none⟩ = some (.int .i64 a0_2) := (blk_cell BK166.out 2).trans rfl
        have hcz10_3 : w3.cell? ⟨gb166, 3, none⟩ = some (.int .i64 a0_3) := (blk_cell BK166.out 3).trans rfl
        have hcz10_4 : w3.cell? ⟨gb166, 4, none⟩ = some (.int .i64 a0_4) := (blk_cell BK166.out 4).trans rfl
        have hcz10_5 : w3.cell? ⟨gb166, 5, none⟩ = some (.int .i64 a0_5) := (blk_cell BK166.out 5).trans rfl
        have hcz10_6 : w3.cell? ⟨gb166, 6, none⟩ = some (.slice A0_6 l0_6.length c0_6) := (blk_cell BK166.out 6).trans rfl
        have hfz10_0 := blk_frozen BK166.out 0
        have hfz10_1 := blk_frozen BK166.out 1
        have hfz10_2 := blk_frozen BK166.out 2
        have hfz10_3 := blk_frozen BK166.out 3
        have hfz10_4 := blk_frozen BK166.out 4
        have hfz10_5 := blk_frozen BK166.out 5
        have hfz10_6 := blk_frozen BK166.out 6
        go_wp2_with (first | ((with_reducible refine gate_callee (f := 55) rfl ?_); refine goesL_ (some 5) rfl rfl Try.func55 (by kernel_rfl) rfl #[.slice A0_6 l0_6.length c0_6] rfl (by (try simp only [List.map_toArray, List.map_cons, List.map_nil]); first | done | rfl | (simp only [List.length_drop, List.length_take]; rfl)) ?_; (with_reducible refine (vendmeterref_DebtFault.calls k _ _ l0_6 t167 _ ?side1 ?side2 A4.out).mono ?_); (case side1 => repeat (first | exact (Kd.C_below HR0_6.out HB.out) | (with_reducible refine Kd.C_alloc ?_ _) | (with_reducible refine Kd.C_drewN ?_ _) | (with_reducible refine Kd.C_drew ?_))); (case side2 => exact HC0_6.out); rintro e w' ⟨rfl, ⟨nd, rfl⟩⟩; refine ⟨_, rfl, ?_⟩) | (go_at_call 31; (with_reducible refine (vendmeterref_In.calls a0_0 0 49 false _ A6.out).mono ?_); rintro e w' ⟨rfl, ⟨nd, rfl⟩⟩))
        go_meet
        case rel => exact ⟨_, (true), (by first | rfl | (simp; done) | (simp [*]; done)), H', ⟨by first | omega | exact Nat.le_refl _⟩, ⟨by (with_reducible repeat (first | refine blk_drewN ?_ _ | refine blk_drew ?_ | refine blk_alloc ?_ _)); exact BK166.out⟩, ⟨by repeat (first | (with_reducible first | exact HB.out | apply below_alloc | apply pw_below_drewN | apply below_drew1 | refine below_set ?_ GE166.out) | exact HB.out)⟩⟩
    · rw [if_neg c5] at H
      have c5b0 : (t167 == 0) = false := beq_eq_false_iff_ne.mpr c5
      have c5b1 : (t167 != 0) = true := bne_iff_ne.mpr c5
      (first | rw [c5b0] | (simp only [i64_w, i32_w]; rw [c5b0]) | skip)
      have H' := Aside0.mk H
      clear H
      have hcz11_0 : w3.cell? ⟨gb166, 0, none⟩ = some (.int .i64 a0_0) := (blk_cell BK166.out 0).trans rfl
      have hcz11_1 : w3.cell? ⟨gb166, 1, none⟩ = some (.int .i64 a0_1) := (blk_cell BK166.out 1).trans rfl
      have hcz11_2 : w3.cell? ⟨gb166, 2, none⟩ = some (.int .i64 a0_2) := (blk_cell BK166.out 2).trans rfl
      have hcz11_3 : w3.cell? ⟨gb166, 3, none⟩ = some (.int .i64 a0_3) := (blk_cell BK166.out 3).trans rfl
      have hcz11_4 : w3.cell? ⟨gb166, 4, none⟩ = some (.int .i64 a0_4) := (blk_cell BK166.out 4).trans rfl
      have hcz11_5 : w3.cell? ⟨gb166, 5, none⟩ = some (.int .i64 a0_5) := (blk_cell BK166.out 5).trans rfl
      have hcz11_6 : w3.cell? ⟨gb166, 6, none⟩ = some (.slice A0_6 l0_6.length c0_6) := (blk_cell BK166.out 6).trans rfl
      have hfz11_0 := blk_frozen BK166.out 0
      have hfz11_1 := blk_frozen BK166.out 1
      have hfz11_2 := blk_frozen BK166.out 2
      have hfz11_3 := blk_frozen BK166.out 3
      have hfz11_4 := blk_frozen BK166.out 4
      have hfz11_5 := blk_frozen BK166.out 5
      have hfz11_6 := blk_frozen BK166.out 6
      go_wp2_with (first | ((with_reducible refine gate_callee (f := 55) rfl ?_); refine goesL_ (some 5) rfl rfl Try.func55 (by kernel_rfl) rfl #[.slice A0_6 l0_6.length c0_6] rfl (by (try simp only [List.map_toArray, List.map_cons, List.map_nil]); first | done | rfl | (simp only [List.length_drop, List.length_take]; rfl)) ?_; (with_reducible refine (vendmeterref_DebtFault.calls k _ _ l0_6 t167 _ ?side1 ?side2 A4.out).mono ?_); (case side1 => repeat (first | exact (Kd.C_below HR0_6.out HB.out) | (with_reducible refine Kd.C_alloc ?_ _) | (with_reducible refine Kd.C_drewN ?_ _) | (with_reducible refine Kd.C_drew ?_))); (case side2 => exact HC0_6.out); rintro e w' ⟨rfl, ⟨nd, rfl⟩⟩; refine ⟨_, rfl, ?_⟩))
      go_meet
      case rel => exact ⟨_, (true), (by first | rfl | (simp; done) | (simp [*]; done)), H', ⟨by first | omega | exact Nat.le_refl _⟩, ⟨by (with_reducible repeat (first | refine blk_drewN ?_ _ | refine blk_drew ?_ | refine blk_alloc ?_ _)); exact BK166.out⟩, ⟨by repeat (first | (with_reducible first | exact HB.out | apply below_alloc | apply pw_below_drewN | apply below_drew1 | refine below_set ?_ GE166.out) | exact HB.out)⟩⟩
  case rest =>
    clear HC2
    try clear c2
    try clear p2
    try clear c5
    try clear c5b0
    try clear c5b1
    try clear c7
    try clear hcz10_0
    try clear hcz10_1
    try clear hcz10_2
    try clear hcz10_3
    try clear hcz10_4
    try clear hcz10_5
    try clear hcz10_6
    try clear hcz11_0
    try clear hcz11_1
    try clear hcz11_2
    try clear hcz11_3
    try clear hcz11_4
    try clear hcz11_5
    try clear hcz11_6
    try clear hcz9_0
    try clear hcz9_1
    try clear hcz9_2
    try clear hcz9_3
    try clear hcz9_4
    try clear hcz9_5
    try clear hcz9_6
    try clear hfz10_0
    try clear hfz10_1
    try clear hfz10_2
    try clear hfz10_3
    try clear hfz10_4
    try clear hfz10_5
    try clear hfz10_6
    try clear hfz11_0
    try clear hfz11_1
    try clear hfz11_2
    try clear hfz11_3
    try clear hfz11_4
    try clear hfz11_5
    try clear hfz11_6
    try clear hfz9_0
    try clear hfz9_1
    try clear hfz9_2
    try clear hfz9_3
    try clear hfz9_4
    try clear hfz9_5
    try clear hfz9_6
    obtain ⟨kq, x18_1, rfl, HA, HJ1, BK166, HB⟩ := hcut
    cases kq with
    | zero => exact absurd HA.out (by simp [vendmeterref_AccountMay.j0])
    | succ kj1 =>
      have H := HA.out
      clear HA
      simp only [vendmeterref_AccountMay.j0] at H
      by_cases c12 : x18_1 = true
      · subst c12
        have H1 : (some false) = some r := by rw [if_pos rfl] at H; exact H
        clear H
        have H := H1
        clear H1
        obtain rfl := Option.some.inj H
        go_wp2
        go_ret
        exact ⟨by first | rfl | (simp [errW_none, errW_some] <;> rfl) | (simp [*, errW_none, errW_some] <;> rfl), by repeat (first | (with_reducible first | exact HB.out | apply below_alloc | apply pw_below_drewN | apply below_drew1 | refine below_set ?_ GE166.out) | exact HB.out)⟩
      · replace c12 := Bool.eq_false_iff.mpr c12
        subst c12
        have H1 : ((vendmeterref_In.f a0_2 1 1048576).bind fun t170 => (if t170 = true then ((vendmeterref_In.f a0_3 0 2399).bind fun t171 => (if t171 = true then ((vendmeterref_In.f a0_4 0 10000000).bind fun t172 => (if t172 = true then ((vendmeterref_In.f a0_5 (-1) a0_3).bind fun t173 => (some t173)) else (some false))) else (some false))) else (some false))) = some r := by rw [if_neg (show ¬ (false = true) by decide)] at H; exact H
        clear H
        have H := H1
        clear H1
        replace H := Option.bind_eq_some_iff.mp H
        obtain ⟨t170, A130, H⟩ := H
        replace H : (if t170 = true then ((vendmeterref_In.f a0_3 0 2399).bind fun t171 => (if t171 = true then ((vendmeterref_In.f a0_4 0 10000000).bind fun t172 => (if t172 = true then ((vendmeterref_In.f a0_5 (-1) a0_3).bind fun t173 => (some t173)) else (some false))) else (some false))) else (some false)) = some r := H
        have A13 := Aside0.mk A130
        clear A130
        by_cases c14 : t170 = true
        · subst c14
          have H1 : ((vendmeterref_In.f a0_3 0 2399).bind fun t171 => (if t171 = true then ((vendmeterref_In.f a0_4 0 10000000).bind fun t172 => (if t172 = true then ((vendmeterref_In.f a0_5 (-1) a0_3).bind fun t173 => (some t173)) else (some false))) else (some false))) = some r := by rw [if_pos rfl] at H; exact H
          clear H
          have H := H1
          clear H1
          replace H := Option.bind_eq_some_iff.mp H
          obtain ⟨t171, A150, H⟩ := H
          replace H : (if t171 = true then ((vendmeterref_In.f a0_4 0 10000000).bind fun t172 => (if t172 = true then ((vendmeterref_In.f a0_5 (-1) a0_3).bind fun t173 => (some t173)) else (some false))) else (some false)) = some r := H
          have A15 := Aside0.mk A150
          clear A150
          by_cases c16 : t171 = true
          · subst c16
            have H1 : ((vendmeterref_In.f a0_4 0 10000000).bind fun t172 => (if t172 = true then ((vendmeterref_In.f a0_5 (-1) a0_3).bind fun t173 => (some t173)) else (some false))) = some r := by rw [if_pos rfl] at H; exact H
            clear H
            have H := H1
            clear H1
            replace H := Option.bind_eq_some_iff.mp H
            obtain ⟨t172, A170, H⟩ := H
            replace H : (if t172 = true then ((vendmeterref_In.f a0_5 (-1) a0_3).bind fun t173 => (some t173)) else (some false)) = some r := H
            have A17 := Aside0.mk A170
            clear A170
            by_cases c18 : t172 = true
            · subst c18
              have H1 : ((vendmeterref_In.f a0_5 (-1) a0_3).bind fun t173 => (some t173)) = some r := by rw [if_pos rfl] at H; exact H
              clear H
              have H := H1
              clear H1
              replace H := Option.bind_eq_some_iff.mp H
              obtain ⟨t173, A190, H⟩ := H
              replace H : (some t173) = some r := H
              have A19 := Aside0.mk A190
              clear A190
              obtain rfl := Option.some.inj H
              have hcz20_0 : wc.cell? ⟨gb166, 0, none⟩ = some (.int .i64 a0_0) := (blk_cell BK166.out 0).trans rfl
              have hcz20_1 : wc.cell? ⟨gb166, 1, none⟩ = some (.int .i64 a0_1) := (blk_cell BK166.out 1).trans rfl
              have hcz20_2 : wc.cell? ⟨gb166, 2, none⟩ = some (.int .i64 a0_2) := (blk_cell BK166.out 2).trans rfl
              have hcz20_3 : wc.cell? ⟨gb166, 3, none⟩ = some (.int .i64 a0_3) := (blk_cell BK166.out 3).trans rfl
              have hcz20_4 : wc.cell? ⟨gb166, 4, none⟩ = some (.int .i64 a0_4) := (blk_cell BK166.out 4).trans rfl
              have hcz20_5 : wc.cell? ⟨gb166, 5, none⟩ = some (.int .i64 a0_5) := (blk_cell BK166.out 5).trans rfl
              have hcz20_6 : wc.cell? ⟨gb166, 6, none⟩ = some (.slice A0_6 l0_6.length c0_6) := (blk_cell BK166.out 6).trans rfl
              have hfz20_0 := blk_frozen BK166.out 0
              have hfz20_1 := blk_frozen BK166.out 1
              have hfz20_2 := blk_frozen BK166.out 2
              have hfz20_3 := blk_frozen BK166.out 3
              have hfz20_4 := blk_frozen BK166.out 4
              have hfz20_5 := blk_frozen BK166.out 5
              have hfz20_6 := blk_frozen BK166.out 6
              go_wp2_with (first | ((with_reducible refine gate_callee (f := 31) rfl ?_); refine goesL_ (some 21) rfl rfl Try.func31 (by kernel_rfl) rfl #[.int .i64 a0_2, .int .i64 1, .int .i64 1048576] rfl (by (try simp only [List.map_toArray, List.map_cons, List.map_nil]); first | done | rfl | (simp only [List.length_drop, List.length_take]; rfl)) ?_; (with_reducible refine (vendmeterref_In.calls a0_2 1 1048576 true _ A13.out).mono ?_); rintro e w' ⟨rfl, ⟨nd, rfl⟩⟩; refine ⟨_, rfl, ?_⟩) | (go_at_call 31; (with_reducible refine (vendmeterref_In.calls a0_3 0 2399 true _ A15.out).mono ?_); rintro e w' ⟨rfl, ⟨nd, rfl⟩⟩) | (go_at_call 31; (with_reducible refine (vendmeterref_In.calls a0_4 0 10000000 true _ A17.out).mono ?_); rintro e w' ⟨rfl, ⟨nd, rfl⟩⟩) | ((with_reducible refine gate_callee (f := 31) rfl ?_); refine goesL_ (some 39) rfl rfl Try.func31 (by kernel_rfl) rfl #[.int .i64 a0_5, .int .i64 (-1), .int .i64 a0_3] rfl (by (try simp only [List.map_toArray, List.map_cons, List.map_nil]); first | done | rfl | (simp only [List.length_drop, List.length_take]; rfl)) ?_; (with_reducible refine (vendmeterref_In.calls a0_5 (-1) a0_3 t173 _ A19.out).mono ?_); rintro e w' ⟨rfl, ⟨nd, rfl⟩⟩; refine ⟨_, rfl, ?_⟩))
              go_ret
              exact ⟨by first | rfl | (simp [errW_none, errW_some] <;> rfl) | (simp [*, errW_none, errW_some] <;> rfl), by repeat (first | (with_reducible first | exact HB.out | apply below_alloc | apply pw_below_drewN | apply below_drew1 | refine below_set ?_ GE166.out) | exact HB.out)⟩
            · replace c18 := Bool.eq_false_iff.mpr c18
              subst c18
              have H1 : (some false) = some r := by rw [if_neg (show ¬ (false = true) by decide)] at H; exact H
              clear H
              have H := H1
              clear H1
              obtain rfl := Option.some.inj H
              have hcz21_0 : wc.cell? ⟨gb166, 0, none⟩ = some (.int .i64 a0_0) := (blk_cell BK166.out 0).trans rfl
              have hcz21_1 : wc.cell? ⟨gb166, 1, none⟩ = some (.int .i64 a0_1) := (blk_cell BK166.out 1).trans rfl
              have hcz21_2 : wc.cell? ⟨gb166, 2, none⟩ = some (.int .i64 a0_2) := (blk_cell BK166.out 2).trans rfl
              have hcz21_3 : wc.cell? ⟨gb166, 3, none⟩ = some (.int .i64 a0_3) := (blk_cell BK166.out 3).trans rfl
              have hcz21_4 : wc.cell? ⟨gb166, 4, none⟩ = some (.int .i64 a0_4) := (blk_cell BK166.out 4).trans rfl
              have hcz21_5 : wc.cell? ⟨gb166, 5, none⟩ = some (.int .i64 a0_5) := (blk_cell BK166.out 5).trans rfl
              have hcz21_6 : wc.cell? ⟨gb166, 6, none⟩ = some (.slice A0_6 l0_6.length c0_6) := (blk_cell BK166.out 6).trans rfl
              have hfz21_0 := blk_frozen BK166.out 0
              have hfz21_1 := blk_frozen BK166.out 1
              have hfz21_2 := blk_frozen BK166.out 2
              have hfz21_3 := blk_frozen BK166.out 3
              have hfz21_4 := blk_frozen BK166.out 4
              have hfz21_5 := blk_frozen BK166.out 5
              have hfz21_6 := blk_frozen BK166.out 6
              go_wp2_with (first | ((with_reducible refine gate_callee (f := 31) rfl ?_); refine goesL_ (some 21) rfl rfl Try.func31 (by kernel_rfl) rfl #[.int .i64 a0_2, .int .i64 1, .int .i64 1048576] rfl (by (try simp only [List.map_toArray, List.map_cons, List.map_nil]); first | done | rfl | (simp only [List.length_drop, List.length_take]; rfl)) ?_; (with_reducible refine (vendmeterref_In.calls a0_2 1 1048576 true _ A13.out).mono ?_); rintro e w' ⟨rfl, ⟨nd, rfl⟩⟩; refine ⟨_, rfl, ?_⟩) | (go_at_call 31; (with_reducible refine (vendmeterref_In.calls a0_3 0 2399 true _ A15.out).mono ?_); rintro e w' ⟨rfl, ⟨nd, rfl⟩⟩) | (go_at_call 31; (with_reducible refine (vendmeterref_In.calls a0_4 0 10000000 false _ A17.out).mono ?_); rintro e w' ⟨rfl, ⟨nd, rfl⟩⟩))
              go_ret
              exact ⟨by first | rfl | (simp [errW_none, errW_some] <;> rfl) | (simp [*, errW_none, errW_some] <;> rfl), by repeat (first | (with_reducible first | exact HB.out | apply below_alloc | apply pw_below_drewN | apply below_drew1 | refine below_set ?_ GE166.out) | exact HB.out)⟩
          · replace c16 := Bool.eq_false_iff.mpr c16
            subst c16
            have H1 : (some false) = some r := by rw [if_neg (show ¬ (false = true) by decide)] at H; exact H
            clear H
            have H := H1
            clear H1
            obtain rfl := Option.some.inj H
            have hcz22_0 : wc.cell? ⟨gb166, 0, none⟩ = some (.int .i64 a0_0) := (blk_cell BK166.out 0).trans rfl
            have hcz22_1 : wc.cell? ⟨gb166, 1, none⟩ = some (.int .i64 a0_1) := (blk_cell BK166.out 1).trans rfl
            have hcz22_2 : wc.cell? ⟨gb166, 2, none⟩ = some (.int .i64 a0_2) := (blk_cell BK166.out 2).trans rfl
            have hcz22_3 : wc.cell? ⟨gb166, 3, none⟩ = some (.int .i64 a0_3) := (blk_cell BK166.out 3).trans rfl
            have hcz22_4 : wc.cell? ⟨gb166, 4, none⟩ = some (.int .i64 a0_4) := (blk_cell BK166.out 4).trans rfl
            have hcz22_5 : wc.cell? ⟨gb166, 5, none⟩ = some (.int .i64 a0_5) := (blk_cell BK166.out 5).trans rfl
            have hcz22_6 : wc.cell? ⟨gb166, 6, none⟩ = some (.slice A0_6 l0_6.length c0_6) := (blk_cell BK166.out 6).trans rfl
            have hfz22_0 := blk_frozen BK166.out 0
            have hfz22_1 := blk_frozen BK166.out 1
            have hfz22_2 := blk_frozen BK166.out 2
            have hfz22_3 := blk_frozen BK166.out 3
            have hfz22_4 := blk_frozen BK166.out 4
            have hfz22_5 := blk_frozen BK166.out 5
            have hfz22_6 := blk_frozen BK166.out 6
            go_wp2_with (first | ((with_reducible refine gate_callee (f := 31) rfl ?_); refine goesL_ (some 21) rfl rfl Try.func31 (by kernel_rfl) rfl #[.int .i64 a0_2, .int .i64 1, .int .i64 1048576] rfl (by (try simp only [List.map_toArray, List.map_cons, List.map_nil]); first | done | rfl | (simp only [List.length_drop, List.length_take]; rfl)) ?_; (with_reducible refine (vendmeterref_In.calls a0_2 1 1048576 true _ A13.out).mono ?_); rintro e w' ⟨rfl, ⟨nd, rfl⟩⟩; refine ⟨_, rfl, ?_⟩) | (go_at_call 31; (with_reducible refine (vendmeterref_In.calls a0_3 0 2399 false _ A15.out).mono ?_); rintro e w' ⟨rfl, ⟨nd, rfl⟩⟩))
            go_ret
            exact ⟨by first | rfl | (simp [errW_none, errW_some] <;> rfl) | (simp [*, errW_none, errW_some] <;> rfl), by repeat (first | (with_reducible first | exact HB.out | apply below_alloc | apply pw_below_drewN | apply below_drew1 | refine below_set ?_ GE166.out) | exact HB.out)⟩
        · replace c14 := Bool.eq_false_iff.mpr c14
          subst c14
          have H1 : (some false) = some r := by rw [if_neg (show ¬ (false = true) by decide)] at H; exact H
          clear H
          have H := H1
          clear H1
          obtain rfl := Option.some.inj H
          have hcz23_0 : wc.cell? ⟨gb166, 0, none⟩ = some (.int .i64 a0_0) := (blk_cell BK166.out 0).trans rfl
          have hcz23_1 : wc.cell? ⟨gb166, 1, none⟩ = some (.int .i64 a0_1) := (blk_cell BK166.out 1).trans rfl
          have hcz23_2 : wc.cell? ⟨gb166, 2, none⟩ = some (.int .i64 a0_2) := (blk_cell BK166.out 2).trans rfl
          have hcz23_3 : wc.cell? ⟨gb166, 3, none⟩ = some (.int .i64 a0_3) := (blk_cell BK166.out 3).trans rfl
          have hcz23_4 : wc.cell? ⟨gb166, 4, none⟩ = some (.int .i64 a0_4) := (blk_cell BK166.out 4).trans rfl
          have hcz23_5 : wc.cell? ⟨gb166, 5, none⟩ = some (.int .i64 a0_5) := (blk_cell BK166.out 5).trans rfl
          have hcz23_6 : wc.cell? ⟨gb166, 6, none⟩ = some (.slice A0_6 l0_6.length c0_6) := (blk_cell BK166.out 6).trans rfl
          have hfz23_0 := blk_frozen BK166.out 0
          have hfz23_1 := blk_frozen BK166.out 1
          have hfz23_2 := blk_frozen BK166.out 2
          have hfz23_3 := blk_frozen BK166.out 3
          have hfz23_4 := blk_frozen BK166.out 4
          have hfz23_5 := blk_frozen BK166.out 5
          have hfz23_6 := blk_frozen BK166.out 6
          go_wp2_with (first | ((with_reducible refine gate_callee (f := 31) rfl ?_); refine goesL_ (some 21) rfl rfl Try.func31 (by kernel_rfl) rfl #[.int .i64 a0_2, .int .i64 1, .int .i64 1048576] rfl (by (try simp only [List.map_toArray, List.map_cons, List.map_nil]); first | done | rfl | (simp only [List.length_drop, List.length_take]; rfl)) ?_; (with_reducible refine (vendmeterref_In.calls a0_2 1 1048576 false _ A13.out).mono ?_); rintro e w' ⟨rfl, ⟨nd, rfl⟩⟩; refine ⟨_, rfl, ?_⟩))
          go_ret
          exact ⟨by first | rfl | (simp [errW_none, errW_some] <;> rfl) | (simp [*, errW_none, errW_some] <;> rfl), by repeat (first | (with_reducible first | exact HB.out | apply below_alloc | apply pw_below_drewN | apply below_drew1 | refine below_set ?_ GE166.out) | exact HB.out)⟩

/-! ### vendmeterref_TariffFault: function 56 -/
mutual
def vendmeterref_TariffFault.l0 : Nat → List (S99) → Int → Option (Int)
  | 0, _, _ => none
  | k + 1, x0, x3 => if x3 < (x0.length : Int) then (if 0 ≤ x3 then ((vendmeterref_In.f ((rd_T99 x0 x3).f0) 1 10000000).bind fun t176 => (if t176 = true then ((vendmeterref_In.f ((rd_T99 x0 x3).f1) 1 100000).bind fun t178 => (if t178 = true then (vendmeterref_TariffFault.l0 k x0 (wrap64 (x3 + 1))) else (some 2))) else (some 2))) else (none)) else (vendmeterref_TariffFault.l1 k x0 1)
def vendmeterref_TariffFault.l1 : Nat → List (S99) → Int → Option (Int)
  | 0, _, _ => none
  | k + 1, x0, x4 => if x4 < (x0.length : Int) then (if 0 ≤ x4 then (if 0 ≤ (wrap64 (x4 - 1)) then (if (wrap64 (x4 - 1)) < (x0.length : Int) then (if ((rd_T99 x0 x4).f0) ≤ ((rd_T99 x0 (wrap64 (x4 - 1))).f0) then (some 3) else (vendmeterref_TariffFault.l1 k x0 (wrap64 (x4 + 1)))) else (none)) else (none)) else (none)) else (if 0 ≤ (wrap64 ((x0.length : Int) - 1)) then (if (wrap64 ((x0.length : Int) - 1)) < (x0.length : Int) then (if ((rd_T99 x0 (wrap64 ((x0.length : Int) - 1))).f0) = 10000000 then (some 0) else (some 3)) else (none)) else (none))
end
def vendmeterref_TariffFault.f (k : Nat) (l0 : List (S99)) : Option (Int) := (vendmeterref_In.f (l0.length : Int) 1 8).bind fun t174 => (if t174 = true then (vendmeterref_TariffFault.l0 k l0 0) else (some 1))
theorem vendmeterref_TariffFault.mono_l : ∀ k, (∀ y0 y1, LeO (vendmeterref_TariffFault.l0 k y0 y1) (vendmeterref_TariffFault.l0 (k + 1) y0 y1)) ∧ (∀ y0 y1, LeO (vendmeterref_TariffFault.l1 k y0 y1) (vendmeterref_TariffFault.l1 (k + 1) y0 y1))
  | 0 => ⟨fun _ _ r h => by simp [vendmeterref_TariffFault.l0] at h, fun _ _ r h => by simp [vendmeterref_TariffFault.l1] at h⟩
  | k + 1 => by
    obtain ⟨ih0, ih1⟩ := vendmeterref_TariffFault.mono_l k
    refine ⟨?_, ?_⟩
    · intro y0 y1
      unfold vendmeterref_TariffFault.l0
      repeat' first
      | (with_reducible exact ih0 _ _)
      | (with_reducible exact ih1 _ _)
      | (with_reducible exact LeO.refl _)
      | (with_reducible exact LeO.none _)
      | (with_reducible refine LeO.ite ?_ ?_)
      | (with_reducible refine LeO.bind ?_ (fun _ => ?_))
      | exact ih0 _ _
      | exact ih1 _ _
      | exact LeO.none _
      | refine LeO.ite ?_ ?_
      | refine LeO.bind ?_ (fun _ => ?_)
    · intro y0 y1
      unfold vendmeterref_TariffFault.l1
      repeat' first
      | (with_reducible exact ih0 _ _)
      | (with_reducible exact ih1 _ _)
      | (with_reducible exact LeO.refl _)
      | (with_reducible exact LeO.none _)
      | (with_reducible refine LeO.ite ?_ ?_)
      | (with_reducible refine LeO.bind ?_ (fun _ => ?_))
      | exact ih0 _ _
      | exact ih1 _ _
      | exact LeO.none _
      | refine LeO.ite ?_ ?_
      | refine LeO.bind ?_ (fun _ => ?_)
theorem vendmeterref_TariffFault.mono : ∀ a0 k, LeO (vendmeterref_TariffFault.f k a0) (vendmeterref_TariffFault.f (k + 1) a0) := by
  intro a0 k
  obtain ⟨ih0, ih1⟩ := vendmeterref_TariffFault.mono_l k
  unfold vendmeterref_TariffFault.f
  repeat' first
      | (with_reducible exact ih0 _ _)
      | (with_reducible exact ih1 _ _)
      | (with_reducible exact LeO.refl _)
      | (with_reducible exact LeO.none _)
      | (with_reducible refine LeO.ite ?_ ?_)
      | (with_reducible refine LeO.bind ?_ (fun _ => ?_))
      | exact ih0 _ _
      | exact ih1 _ _
      | exact LeO.none _
      | refine LeO.ite ?_ ?_
      | refine LeO.bind ?_ (fun _ => ?_)
set_option maxHeartbeats 8000000 in
set_option maxRecDepth 100000 in
theorem vendmeterref_TariffFault.calls (k : Nat) (A0 : Option Addr) (c0 : Nat) (l0 : List (S99)) (r : Int) (w : World) (hr0 : Kd.C k99 w A0 l0.length l0) (hc0 : l0.length ≤ c0) (h : vendmeterref_TariffFault.f k l0 = some r) :
    Calls Try.prog 56 #[.slice A0 l0.length c0] w fun e w' => e = .returned (.int .i64 r) ∧ Drawn0 w w' := by
  have HR0 := Aside0.mk hr0
  have HC0 := Aside0.mk hc0
  clear hr0 hc0
  have H : ((vendmeterref_In.f (l0.length : Int) 1 8).bind fun t174 => (if t174 = true then (vendmeterref_TariffFault.l0 k l0 0) else (some 1))) = some r := h
  clear h
  replace H := Option.bind_eq_some_iff.mp H
  obtain ⟨t174, A20, H⟩ := H
  replace H : (if t174 = true then (vendmeterref_TariffFault.l0 k l0 0) else (some 1)) = some r := H
  have A2 := Aside0.mk A20
  clear A20
  by_cases c3 : t174 = true
  · subst c3
    have H1 : (vendmeterref_TariffFault.l0 k l0 0) = some r := by rw [if_pos rfl] at H; exact H
    clear H
    have H := H1
    clear H1
    have H' := Aside0.mk H
    clear H
    go_enter Try.func56, Try.ntmps56
    go_wp2_with (first | (go_at_call 31; (with_reducible refine (vendmeterref_In.calls (l0.length : Int) 1 8 true _ A2.out).mono ?_); rintro e w' ⟨rfl, ⟨nd, rfl⟩⟩; (try first | exact ⟨rfl, _, World.drewN_drewN _ _ _⟩ | exact ⟨rfl, _, Eq.trans (World.drewN_drewN _ _ _) (congrArg (World.drewN _) (Nat.add_assoc _ _ _))⟩)))
    repeat (go_quiet (first | (go_at_call 31; (with_reducible refine (vendmeterref_In.calls (l0.length : Int) 1 8 true _ A2.out).mono ?_); rintro e w' ⟨rfl, ⟨nd, rfl⟩⟩; (try first | exact ⟨rfl, _, World.drewN_drewN _ _ _⟩ | exact ⟨rfl, _, Eq.trans (World.drewN_drewN _ _ _) (congrArg (World.drewN _) (Nat.add_assoc _ _ _))⟩))); try go_wp2_with (first | (go_at_call 31; (with_reducible refine (vendmeterref_In.calls (l0.length : Int) 1 8 true _ A2.out).mono ?_); rintro e w' ⟨rfl, ⟨nd, rfl⟩⟩; (try first | exact ⟨rfl, _, World.drewN_drewN _ _ _⟩ | exact ⟨rfl, _, Eq.trans (World.drewN_drewN _ _ _) (congrArg (World.drewN _) (Nat.add_assoc _ _ _))⟩))))
    go_loopg [3] k (fun kq v3 w' => ∃ (x3_1 : Int), v3 = .int .i64 x3_1 ∧ Aside0 (vendmeterref_TariffFault.l0 kq l0 x3_1 = some r) ∧ Aside0 (kq ≤ k) ∧ Drawn0 w w')
    case atStart => exact ⟨(0), (by first | rfl | (simp; done) | (simp [*]; done)), H', ⟨Nat.le_refl _⟩, by repeat (first | exact Drawn0.refl _ | apply Drawn0.step)⟩
    case round =>
      clear H'
      try clear p2
      try clear c3
      obtain ⟨x3_1, rfl, HA, HK1, ⟨m1, rfl⟩⟩ := hrel
      cases gk with
      | zero => exact absurd HA.out (by simp [vendmeterref_TariffFault.l0])
      | succ k1 =>
        have H := HA.out
        clear HA
        simp only [vendmeterref_TariffFault.l0] at H
        by_cases c4 : x3_1 < (l0.length : Int)
        · rw [if_pos c4] at H
          have c4b0 : decide (x3_1 < (l0.length : Int)) = true := decide_eq_true c4
          clear c4
          by_cases c5 : 0 ≤ x3_1
          · rw [if_pos c5] at H
            have c5b0 : decide (0 ≤ x3_1) = true := decide_eq_true c5
            clear c5
            replace H := Option.bind_eq_some_iff.mp H
            obtain ⟨t176, A60, H⟩ := H
            replace H : (if t176 = true then ((vendmeterref_In.f ((rd_T99 l0 x3_1).f1) 1 100000).bind fun t178 => (if t178 = true then (vendmeterref_TariffFault.l0 k1 l0 (wrap64 (x3_1 + 1))) else (some 2))) else (some 2)) = some r := H
            have A6 := Aside0.mk A60
            clear A60
            by_cases c7 : t176 = true
            · subst c7
              have H1 : ((vendmeterref_In.f ((rd_T99 l0 x3_1).f1) 1 100000).bind fun t178 => (if t178 = true then (vendmeterref_TariffFault.l0 k1 l0 (wrap64 (x3_1 + 1))) else (some 2))) = some r := by rw [if_pos rfl] at H; exact H
              clear H
              have H := H1
              clear H1
              replace H := Option.bind_eq_some_iff.mp H
              obtain ⟨t178, A80, H⟩ := H
              replace H : (if t178 = true then (vendmeterref_TariffFault.l0 k1 l0 (wrap64 (x3_1 + 1))) else (some 2)) = some r := H
              have A8 := Aside0.mk A80
              clear A80
              by_cases c9 : t178 = true
              · subst c9
                have H1 : (vendmeterref_TariffFault.l0 k1 l0 (wrap64 (x3_1 + 1))) = some r := by rw [if_pos rfl] at H; exact H
                clear H
                have H := H1
                clear H1
                have H' := Aside0.mk H
                clear H
                have p175 : 0 ≤ (x3_1 : Int) := of_decide_eq_true (by first | (with_reducible assumption) | assumption)
                have q175 : x3_1 < (l0.length : Int) := of_decide_eq_true (by first | (with_reducible assumption) | assumption)
                obtain ⟨ad175, e175, hx175_0, hx175_1⟩ := at_T99 HR0.out x3_1 p175 q175
                cases e175
                replace p175 := eq_true p175
                replace q175 := eq_true q175
                go_wp2_with (first | (go_at_call 31; (with_reducible refine (vendmeterref_In.calls ((rd_T99 l0 x3_1).f0) 1 10000000 true _ A6.out).mono ?_); rintro e w' ⟨rfl, ⟨nd, rfl⟩⟩; (try first | exact ⟨rfl, _, World.drewN_drewN _ _ _⟩ | exact ⟨rfl, _, Eq.trans (World.drewN_drewN _ _ _) (congrArg (World.drewN _) (Nat.add_assoc _ _ _))⟩); have p177 : 0 ≤ (x3_1 : Int) := of_decide_eq_true (by first | (with_reducible assumption) | assumption); have q177 : x3_1 < (l0.length : Int) := of_decide_eq_true (by first | (with_reducible assumption) | assumption); obtain ⟨ad177, e177, hx177_0, hx177_1⟩ := at_T99 HR0.out x3_1 p177 q177; obtain rfl : ad175 = ad177 := (by injection e177); replace p177 := eq_true p177; replace q177 := eq_true q177) | (go_at_call 31; (with_reducible refine (vendmeterref_In.calls ((rd_T99 l0 x3_1).f1) 1 100000 true _ A8.out).mono ?_); rintro e w' ⟨rfl, ⟨nd, rfl⟩⟩; (try first | exact ⟨rfl, _, World.drewN_drewN _ _ _⟩ | exact ⟨rfl, _, Eq.trans (World.drewN_drewN _ _ _) (congrArg (World.drewN _) (Nat.add_assoc _ _ _))⟩)))
                repeat (go_quiet (first | (go_at_call 31; (with_reducible refine (vendmeterref_In.calls ((rd_T99 l0 x3_1).f0) 1 10000000 true _ A6.out).mono ?_); rintro e w' ⟨rfl, ⟨nd, rfl⟩⟩; (try first | exact ⟨rfl, _, World.drewN_drewN _ _ _⟩ | exact ⟨rfl, _, Eq.trans (World.drewN_drewN _ _ _) (congrArg (World.drewN _) (Nat.add_assoc _ _ _))⟩); have p177 : 0 ≤ (x3_1 : Int) := of_decide_eq_true (by first | (with_reducible assumption) | assumption); have q177 : x3_1 < (l0.length : Int) := of_decide_eq_true (by first | (with_reducible assumption) | assumption); obtain ⟨ad177, e177, hx177_0, hx177_1⟩ := at_T99 HR0.out x3_1 p177 q177; obtain rfl : ad175 = ad177 := (by injection e177); replace p177 := eq_true p177; replace q177 := eq_true q177) | (go_at_call 31; (with_reducible refine (vendmeterref_In.calls ((rd_T99 l0 x3_1).f1) 1 100000 true _ A8.out).mono ?_); rintro e w' ⟨rfl, ⟨nd, rfl⟩⟩; (try first | exact ⟨rfl, _, World.drewN_drewN _ _ _⟩ | exact ⟨rfl, _, Eq.trans (World.drewN_drewN _ _ _) (congrArg (World.drewN _) (Nat.add_assoc _ _ _))⟩))); try go_wp2_with (first | (go_at_call 31; (with_reducible refine (vendmeterref_In.calls ((rd_T99 l0 x3_1).f0) 1 10000000 true _ A6.out).mono ?_); rintro e w' ⟨rfl, ⟨nd, rfl⟩⟩; (try first | exact ⟨rfl, _, World.drewN_drewN _ _ _⟩ | exact ⟨rfl, _, Eq.trans (World.drewN_drewN _ _ _) (congrArg (World.drewN _) (Nat.add_assoc _ _ _))⟩); have p177 : 0 ≤ (x3_1 : Int) := of_decide_eq_true (by first | (with_reducible assumption) | assumption); have q177 : x3_1 < (l0.length : Int) := of_decide_eq_true (by first | (with_reducible assumption) | assumption); obtain ⟨ad177, e177, hx177_0, hx177_1⟩ := at_T99 HR0.out x3_1 p177 q177; obtain rfl : ad175 = ad177 := (by injection e177); replace p177 := eq_true p177; replace q177 := eq_true q177) | (go_at_call 31; (with_reducible refine (vendmeterref_In.calls ((rd_T99 l0 x3_1).f1) 1 100000 true _ A8.out).mono ?_); rintro e w' ⟨rfl, ⟨nd, rfl⟩⟩; (try first | exact ⟨rfl, _, World.drewN_drewN _ _ _⟩ | exact ⟨rfl, _, Eq.trans (World.drewN_drewN _ _ _) (congrArg (World.drewN _) (Nat.add_assoc _ _ _))⟩))))
                go_roundg k1
                case measure => have := HK1.out; omega
                case rel => exact ⟨(wrap64 (x3_1 + 1)), (by first | rfl | (simp; done) | (simp [*]; done)), H', ⟨by have := HK1.out; omega⟩, by repeat (first | exact Drawn0.refl _ | apply Drawn0.step)⟩
              · replace c9 := Bool.eq_false_iff.mpr c9
                subst c9
                have H1 : (some 2) = some r := by rw [if_neg (show ¬ (false = true) by decide)] at H; exact H
                clear H
                have H := H1
                clear H1
                obtain rfl := Option.some.inj H
                have p175 : 0 ≤ (x3_1 : Int) := of_decide_eq_true (by first | (with_reducible assumption) | assumption)
                have q175 : x3_1 < (l0.length : Int) := of_decide_eq_true (by first | (with_reducible assumption) | assumption)
                obtain ⟨ad175, e175, hx175_0, hx175_1⟩ := at_T99 HR0.out x3_1 p175 q175
                cases e175
                replace p175 := eq_true p175
                replace q175 := eq_true q175
                go_wp2_with (first | (go_at_call 31; (with_reducible refine (vendmeterref_In.calls ((rd_T99 l0 x3_1).f0) 1 10000000 true _ A6.out).mono ?_); rintro e w' ⟨rfl, ⟨nd, rfl⟩⟩; (try first | exact ⟨rfl, _, World.drewN_drewN _ _ _⟩ | exact ⟨rfl, _, Eq.trans (World.drewN_drewN _ _ _) (congrArg (World.drewN _) (Nat.add_assoc _ _ _))⟩); have p177 : 0 ≤ (x3_1 : Int) := of_decide_eq_true (by first | (with_reducible assumption) | assumption); have q177 : x3_1 < (l0.length : Int) := of_decide_eq_true (by first | (with_reducible assumption) | assumption); obtain ⟨ad177, e177, hx177_0, hx177_1⟩ := at_T99 HR0.out x3_1 p177 q177; obtain rfl : ad175 = ad177 := (by injection e177); replace p177 := eq_true p177; replace q177 := eq_true q177) | (go_at_call 31; (with_reducible refine (vendmeterref_In.calls ((rd_T99 l0 x3_1).f1) 1 100000 false _ A8.out).mono ?_); rintro e w' ⟨rfl, ⟨nd, rfl⟩⟩; (try first | exact ⟨rfl, _, World.drewN_drewN _ _ _⟩ | exact ⟨rfl, _, Eq.trans (World.drewN_drewN _ _ _) (congrArg (World.drewN _) (Nat.add_assoc _ _ _))⟩)))
                repeat (go_quiet (first | (go_at_call 31; (with_reducible refine (vendmeterref_In.calls ((rd_T99 l0 x3_1).f0) 1 10000000 true _ A6.out).mono ?_); rintro e w' ⟨rfl, ⟨nd, rfl⟩⟩; (try first | exact ⟨rfl, _, World.drewN_drewN _ _ _⟩ | exact ⟨rfl, _, Eq.trans (World.drewN_drewN _ _ _) (congrArg (World.drewN _) (Nat.add_assoc _ _ _))⟩); have p177 : 0 ≤ (x3_1 : Int) := of_decide_eq_true (by first | (with_reducible assumption) | assumption); have q177 : x3_1 < (l0.length : Int) := of_decide_eq_true (by first | (with_reducible assumption) | assumption); obtain ⟨ad177, e177, hx177_0, hx177_1⟩ := at_T99 HR0.out x3_1 p177 q177; obtain rfl : ad175 = ad177 := (by injection e177); replace p177 := eq_true p177; replace q177 := eq_true q177) | (go_at_call 31; (with_reducible refine (vendmeterref_In.calls ((rd_T99 l0 x3_1).f1) 1 100000 false _ A8.out).mono ?_); rintro e w' ⟨rfl, ⟨nd, rfl⟩⟩; (try first | exact ⟨rfl, _, World.drewN_drewN _ _ _⟩ | exact ⟨rfl, _, Eq.trans (World.drewN_drewN _ _ _) (congrArg (World.drewN _) (Nat.add_assoc _ _ _))⟩))); try go_wp2_with (first | (go_at_call 31; (with_reducible refine (vendmeterref_In.calls ((rd_T99 l0 x3_1).f0) 1 10000000 true _ A6.out).mono ?_); rintro e w' ⟨rfl, ⟨nd, rfl⟩⟩; (try first | exact ⟨rfl, _, World.drewN_drewN _ _ _⟩ | exact ⟨rfl, _, Eq.trans (World.drewN_drewN _ _ _) (congrArg (World.drewN _) (Nat.add_assoc _ _ _))⟩); have p177 : 0 ≤ (x3_1 : Int) := of_decide_eq_true (by first | (with_reducible assumption) | assumption); have q177 : x3_1 < (l0.length : Int) := of_decide_eq_true (by first | (with_reducible assumption) | assumption); obtain ⟨ad177, e177, hx177_0, hx177_1⟩ := at_T99 HR0.out x3_1 p177 q177; obtain rfl : ad175 = ad177 := (by injection e177); replace p177 := eq_true p177; replace q177 := eq_true q177) | (go_at_call 31; (with_reducible refine (vendmeterref_In.calls ((rd_T99 l0 x3_1).f1) 1 100000 false _ A8.out).mono ?_); rintro e w' ⟨rfl, ⟨nd, rfl⟩⟩; (try first | exact ⟨rfl, _, World.drewN_drewN _ _ _⟩ | exact ⟨rfl, _, Eq.trans (World.drewN_drewN _ _ _) (congrArg (World.drewN _) (Nat.add_assoc _ _ _))⟩))))
                go_ret
                exact ⟨by first | rfl | (simp; done) | (simp [*]; done), by repeat (first | exact Drawn0.refl _ | apply Drawn0.step)⟩
            · replace c7 := Bool.eq_false_iff.mpr c7
              subst c7
              have H1 : (some 2) = some r := by rw [if_neg (show ¬ (false = true) by decide)] at H; exact H
              clear H
              have H := H1
              clear H1
              obtain rfl := Option.some.inj H
              have p175 : 0 ≤ (x3_1 : Int) := of_decide_eq_true (by first | (with_reducible assumption) | assumption)
              have q175 : x3_1 < (l0.length : Int) := of_decide_eq_true (by first | (with_reducible assumption) | assumption)
              obtain ⟨ad175, e175, hx175_0, hx175_1⟩ := at_T99 HR0.out x3_1 p175 q175
              cases e175
              replace p175 := eq_true p175
              replace q175 := eq_true q175
              go_wp2_with (first | (go_at_call 31; (with_reducible refine (vendmeterref_In.calls ((rd_T99 l0 x3_1).f0) 1 10000000 false _ A6.out).mono ?_); rintro e w' ⟨rfl, ⟨nd, rfl⟩⟩; (try first | exact ⟨rfl, _, World.drewN_drewN _ _ _⟩ | exact ⟨rfl, _, Eq.trans (World.drewN_drewN _ _ _) (congrArg (World.drewN _) (Nat.add_assoc _ _ _))⟩)))
              repeat (go_quiet (first | (go_at_call 31; (with_reducible refine (vendmeterref_In.calls ((rd_T99 l0 x3_1).f0) 1 10000000 false _ A6.out).mono ?_); rintro e w' ⟨rfl, ⟨nd, rfl⟩⟩; (try first | exact ⟨rfl, _, World.drewN_drewN _ _ _⟩ | exact ⟨rfl, _, Eq.trans (World.drewN_drewN _ _ _) (congrArg (World.drewN _) (Nat.add_assoc _ _ _))⟩))); try go_wp2_with (first | (go_at_call 31; (with_reducible refine (vendmeterref_In.calls ((rd_T99 l0 x3_1).f0) 1 10000000 false _ A6.out).mono ?_); rintro e w' ⟨rfl, ⟨nd, rfl⟩⟩; (try first | exact ⟨rfl, _, World.drewN_drewN _ _ _⟩ | exact ⟨rfl, _, Eq.trans (World.drewN_drewN _ _ _) (congrArg (World.drewN _) (Nat.add_assoc _ _ _))⟩))))
              go_ret
              exact ⟨by first | rfl | (simp; done) | (simp [*]; done), by repeat (first | exact Drawn0.refl _ | apply Drawn0.step)⟩
          · rw [if_neg c5] at H
            exact absurd H (by simp)
        · rw [if_neg c4] at H
          have c4b0 : decide (x3_1 < (l0.length : Int)) = false := decide_eq_false c4
          clear c4
          have H' := Aside0.mk H
          clear H
          go_wp2
          repeat (go_quiet (fail); try go_wp2)
          go_loopg [4] k1 (fun kq v4 w' => ∃ (x4_2 : Int), v4 = .int .i64 x4_2 ∧ Aside0 (vendmeterref_TariffFault.l1 kq l0 x4_2 = some r) ∧ Aside0 (kq ≤ k1) ∧ Drawn0 w w')
          case atStart => exact ⟨(1), (by first | rfl | (simp; done) | (simp [*]; done)), H', ⟨Nat.le_refl _⟩, by repeat (first | exact Drawn0.refl _ | apply Drawn0.step)⟩
          case round =>
            clear H'
            try clear p1
            try clear q1
            try clear hx1
            try clear p2
            try clear c3
            try clear c4
            try clear c4b0
            try clear c5
            try clear c5b0
            try clear p6
            try clear c7
            try clear c9
            try clear hx175_0
            try clear hx175_1
            try clear hx177_0
            try clear hx177_1
            try clear p175
            try clear p177
            try clear p2
            try clear q175
            try clear q177
            obtain ⟨x4_2, rfl, HA, HK2, ⟨m2, rfl⟩⟩ := hrel
            cases gk with
            | zero => exact absurd HA.out (by simp [vendmeterref_TariffFault.l1])
            | succ k2 =>
              have H := HA.out
              clear HA
              simp only [vendmeterref_TariffFault.l1] at H
              by_cases c10 : x4_2 < (l0.length : Int)
              · rw [if_pos c10] at H
                have c10b0 : decide (x4_2 < (l0.length : Int)) = true := decide_eq_true c10
                clear c10
                by_cases c11 : 0 ≤ x4_2
                · rw [if_pos c11] at H
                  have c11b0 : decide (0 ≤ x4_2) = true := decide_eq_true c11
                  clear c11
                  obtain ⟨ji12, hji12⟩ : ∃ j_ : Int, (wrap64 (x4_2 - 1)) = j_ := ⟨_, rfl⟩
                  replace H : (if 0 ≤ (ji12) then (if (ji12) < (l0.length : Int) then (if ((rd_T99 l0 x4_2).f0) ≤ ((rd_T99 l0 (ji12)).f0) then (some 3) else (vendmeterref_TariffFault.l1 k2 l0 (wrap64 (x4_2 + 1)))) else (none)) else (none)) = some r := by first | (rw [hji12] at H; exact H) | (simp only [hji12] at H ⊢; exact H)
                  have hji12w : (IntKind.i64.wrap (x4_2 - 1)) = ji12 := (i64_w _).trans hji12
                  by_cases c13 : 0 ≤ (ji12)
                  · rw [if_pos c13] at H
                    have c13b0 : decide (0 ≤ (ji12)) = true := decide_eq_true c13
                    clear c13
                    by_cases c14 : (ji12) < (l0.length : Int)
                    · rw [if_pos c14] at H
                      have c14b0 : decide ((ji12) < (l0.length : Int)) = true := decide_eq_true c14
                      clear c14
                      by_cases c15 : ((rd_T99 l0 x4_2).f0) ≤ ((rd_T99 l0 (ji12)).f0)
                      · rw [if_pos c15] at H
                        have c15b0 : decide (((rd_T99 l0 x4_2).f0) ≤ ((rd_T99 l0 (ji12)).f0)) = true := decide_eq_true c15
                        clear c15
                        obtain rfl := Option.some.inj H
                        have p179 : 0 ≤ (x4_2 : Int) := of_decide_eq_true (by first | (with_reducible assumption) | assumption)
                        have q179 : x4_2 < (l0.length : Int) := of_decide_eq_true (by first | (with_reducible assumption) | assumption)
                        obtain ⟨ad179, e179, hx179_0, hx179_1⟩ := at_T99 HR0.out x4_2 p179 q179
                        cases e179
                        replace p179 := eq_true p179
                        replace q179 := eq_true q179
                        have p180 : 0 ≤ ((ji12) : Int) := of_decide_eq_true (by first | (with_reducible assumption) | assumption)
                        have q180 : (ji12) < (l0.length : Int) := of_decide_eq_true (by first | (with_reducible assumption) | assumption)
                        obtain ⟨ad180, e180, hx180_0, hx180_1⟩ := at_T99 HR0.out (ji12) p180 q180
                        obtain rfl : ad179 = ad180 := (by injection e180)
                        replace p180 := eq_true p180
                        replace q180 := eq_true q180
                        go_wp2
                        repeat (go_quiet (fail); try go_wp2)
                        go_ret
                        exact ⟨by first | rfl | (simp; done) | (simp only [← hji12] <;> (first | rfl | simp)) | (simp [*]; done), by repeat (first | exact Drawn0.refl _ | apply Drawn0.step)⟩
                      · rw [if_neg c15] at H
                        have c15b0 : decide (((rd_T99 l0 x4_2).f0) ≤ ((rd_T99 l0 (ji12)).f0)) = false := decide_eq_false c15
                        clear c15
                        have H' := Aside0.mk H
                        clear H
                        have p179 : 0 ≤ (x4_2 : Int) := of_decide_eq_true (by first | (with_reducible assumption) | assumption)
                        have q179 : x4_2 < (l0.length : Int) := of_decide_eq_true (by first | (with_reducible assumption) | assumption)
                        obtain ⟨ad179, e179, hx179_0, hx179_1⟩ := at_T99 HR0.out x4_2 p179 q179
                        cases e179
                        replace p179 := eq_true p179
                        replace q179 := eq_true q179
                        have p180 : 0 ≤ ((ji12) : Int) := of_decide_eq_true (by first | (with_reducible assumption) | assumption)
                        have q180 : (ji12) < (l0.length : Int) := of_decide_eq_true (by first | (with_reducible assumption) | assumption)
                        obtain ⟨ad180, e180, hx180_0, hx180_1⟩ := at_T99 HR0.out (ji12) p180 q180
                        obtain rfl : ad179 = ad180 := (by injection e180)
                        replace p180 := eq_true p180
                        replace q180 := eq_true q180
                        go_wp2
                        repeat (go_quiet (fail); try go_wp2)
                        go_roundg k2
                        case measure => have := HK1.out; have := HK2.out; omega
                        case rel => exact ⟨(wrap64 (x4_2 + 1)), (by first | rfl | (simp; done) | (simp [*]; done)), H', ⟨by have := HK1.out; have := HK2.out; omega⟩, by repeat (first | exact Drawn0.refl _ | apply Drawn0.step)⟩
                    · rw [if_neg c14] at H
                      exact absurd H (by simp)
                  · rw [if_neg c13] at H
                    exact absurd H (by simp)
                · rw [if_neg c11] at H
                  exact absurd H (by simp)
              · rw [if_neg c10] at H
                have c10b0 : decide (x4_2 < (l0.length : Int)) = false := decide_eq_false c10
                clear c10
                obtain ⟨ji16, hji16⟩ : ∃ j_ : Int, (wrap64 ((l0.length : Int) - 1)) = j_ := ⟨_, rfl⟩
                replace H : (if 0 ≤ (ji16) then (if (ji16) < (l0.length : Int) then (if ((rd_T99 l0 (ji16)).f0) = 10000000 then (some 0) else (some 3)) else (none)) else (none)) = some r := by first | (rw [hji16] at H; exact H) | (simp only [hji16] at H ⊢; exact H)
                have hji16w : (IntKind.i64.wrap ((l0.length : Int) - 1)) = ji16 := (i64_w _).trans hji16
                by_cases c17 : 0 ≤ (ji16)
                · rw [if_pos c17] at H
                  have c17b0 : decide (0 ≤ (ji16)) = true := decide_eq_true c17
                  clear c17
                  by_cases c18 : (ji16) < (l0.length : Int)
                  · rw [if_pos c18] at H
                    have c18b0 : decide ((ji16) < (l0.length : Int)) = true := decide_eq_true c18
                    clear c18
                    by_cases c19 : ((rd_T99 l0 (ji16)).f0) = 10000000
                    · rw [if_pos c19] at H
                      have c19b0 : (((rd_T99 l0 (ji16)).f0) == 10000000) = true := beq_iff_eq.mpr c19
                      have c19b1 : (((rd_T99 l0 (ji16)).f0) != 10000000) = false := bne_eq_false_iff_eq.mpr c19
                      clear c19
                      obtain rfl := Option.some.inj H
                      have p181 : 0 ≤ ((ji16) : Int) := of_decide_eq_true (by first | (with_reducible assumption) | assumption)
                      have q181 : (ji16) < (l0.length : Int) := of_decide_eq_true (by first | (with_reducible assumption) | assumption)
                      obtain ⟨ad181, e181, hx181_0, hx181_1⟩ := at_T99 HR0.out (ji16) p181 q181
                      cases e181
                      replace p181 := eq_true p181
                      replace q181 := eq_true q181
                      go_wp2
                      repeat (go_quiet (fail); try go_wp2)
                      go_ret
                      exact ⟨by first | rfl | (simp; done) | (simp only [← hji16] <;> (first | rfl | simp)) | (simp [*]; done), by repeat (first | exact Drawn0.refl _ | apply Drawn0.step)⟩
                    · rw [if_neg c19] at H
                      have c19b0 : (((rd_T99 l0 (ji16)).f0) == 10000000) = false := beq_eq_false_iff_ne.mpr c19
                      have c19b1 : (((rd_T99 l0 (ji16)).f0) != 10000000) = true := bne_iff_ne.mpr c19
                      obtain rfl := Option.some.inj H
                      have p181 : 0 ≤ ((ji16) : Int) := of_decide_eq_true (by first | (with_reducible assumption) | assumption)
                      have q181 : (ji16) < (l0.length : Int) := of_decide_eq_true (by first | (with_reducible assumption) | assumption)
                      obtain ⟨ad181, e181, hx181_0, hx181_1⟩ := at_T99 HR0.out (ji16) p181 q181
                      cases e181
                      replace p181 := eq_true p181
                      replace q181 := eq_true q181
                      go_wp2
                      repeat (go_quiet (fail); try go_wp2)
                      go_ret
                      exact ⟨by first | rfl | (simp; done) | (simp only [← hji16] <;> (first | rfl | simp)) | (simp [*]; done), by repeat (first | exact Drawn0.refl _ | apply Drawn0.step)⟩
                  · rw [if_neg c18] at H
                    exact absurd H (by simp)
                · rw [if_neg c17] at H
                  exact absurd H (by simp)
  · replace c3 := Bool.eq_false_iff.mpr c3
    subst c3
    have H1 : (some 1) = some r := by rw [if_neg (show ¬ (false = true) by decide)] at H; exact H
    clear H
    have H := H1
    clear H1
    obtain rfl := Option.some.inj H
    go_enter Try.func56, Try.ntmps56
    go_wp2_with (first | (go_at_call 31; (with_reducible refine (vendmeterref_In.calls (l0.length : Int) 1 8 false _ A2.out).mono ?_); rintro e w' ⟨rfl, ⟨nd, rfl⟩⟩; (try first | exact ⟨rfl, _, World.drewN_drewN _ _ _⟩ | exact ⟨rfl, _, Eq.trans (World.drewN_drewN _ _ _) (congrArg (World.drewN _) (Nat.add_assoc _ _ _))⟩)))
    repeat (go_quiet (first | (go_at_call 31; (with_reducible refine (vendmeterref_In.calls (l0.length : Int) 1 8 false _ A2.out).mono ?_); rintro e w' ⟨rfl, ⟨nd, rfl⟩⟩; (try first | exact ⟨rfl, _, World.drewN_drewN _ _ _⟩ | exact ⟨rfl, _, Eq.trans (World.drewN_drewN _ _ _) (congrArg (World.drewN _) (Nat.add_assoc _ _ _))⟩))); try go_wp2_with (first | (go_at_call 31; (with_reducible refine (vendmeterref_In.calls (l0.length : Int) 1 8 false _ A2.out).mono ?_); rintro e w' ⟨rfl, ⟨nd, rfl⟩⟩; (try first | exact ⟨rfl, _, World.drewN_drewN _ _ _⟩ | exact ⟨rfl, _, Eq.trans (World.drewN_drewN _ _ _) (congrArg (World.drewN _) (Nat.add_assoc _ _ _))⟩))))
    go_ret
    exact ⟨by first | rfl | (simp; done) | (simp [*]; done), by repeat (first | exact Drawn0.refl _ | apply Drawn0.step)⟩

/-! ### vendmeterref_TermsFault: function 29 -/
def vendmeterref_TermsFault.f (k : Nat) (l0_0 : List (S99)) (a0_1 : Int) (a0_2 : Int) (a0_3 : Int) (a0_4 : Int) : Option (Int) := (vendmeterref_TariffFault.f k l0_0).bind fun t183 => (if t183 = 0 then ((vendmeterref_In.f a0_1 0 100000).bind fun t184 => (if t184 = true then ((vendmeterref_In.f a0_2 0 10000).bind fun t185 => (if t185 = true then ((vendmeterref_In.f a0_3 0 10000).bind fun t186 => (if t186 = true then ((vendmeterref_In.f a0_4 0 2097151).bind fun t187 => (if t187 = true then (some 0) else (some 2))) else (some 2))) else (some 2))) else (some 2))) else (some t183))
theorem vendmeterref_TermsFault.mono : ∀ a0 a1 a2 a3 a4 k, LeO (vendmeterref_TermsFault.f k a0 a1 a2 a3 a4) (vendmeterref_TermsFault.f (k + 1) a0 a1 a2 a3 a4) := by
  intro a0 a1 a2 a3 a4 k
  unfold vendmeterref_TermsFault.f
  repeat' first
      | (with_reducible exact vendmeterref_TariffFault.mono _ _)
      | (with_reducible exact LeO.refl _)
      | (with_reducible exact LeO.none _)
      | (with_reducible refine LeO.ite ?_ ?_)
      | (with_reducible refine LeO.bind ?_ (fun _ => ?_))
      | exact vendmeterref_TariffFault.mono _ _
      | exact LeO.none _
      | refine LeO.ite ?_ ?_
      | refine LeO.bind ?_ (fun _ => ?_)
set_option maxHeartbeats 8000000 in
set_option maxRecDepth 100000 in
theorem vendmeterref_TermsFault.calls (k : Nat) (A0_0 : Option Addr) (c0_0 : Nat) (l0_0 : List (S99)) (a0_1 : Int) (a0_2 : Int) (a0_3 : Int) (a0_4 : Int) (r : Int) (w : World) (hr0_0 : Kd.C k99 w A0_0 l0_0.length l0_0) (hc0_0 : l0_0.length ≤ c0_0) (h : vendmeterref_TermsFault.f k l0_0 a0_1 a0_2 a0_3 a0_4 = some r) :
    Calls Try.prog 29 #[.agg #[.slice A0_0 l0_0.length c0_0, .int .i64 a0_1, .int .i64 a0_2, .int .i64 a0_3, .int .i64 a0_4]] w fun e w' => e = .returned (.int .i64 r) ∧ Below w.heap.size w w' := by
  have hu27 := Try.underlying27
  have HR0_0 := Aside0.mk hr0_0
  have HC0_0 := Aside0.mk hc0_0
  clear hr0_0 hc0_0
  have HB := Aside0.mk (Below.refl w.heap.size w)
  have H : ((vendmeterref_TariffFault.f k l0_0).bind fun t183 => (if t183 = 0 then ((vendmeterref_In.f a0_1 0 100000).bind fun t184 => (if t184 = true then ((vendmeterref_In.f a0_2 0 10000).bind fun t185 => (if t185 = true then ((vendmeterref_In.f a0_3 0 10000).bind fun t186 => (if t186 = true then ((vendmeterref_In.f a0_4 0 2097151).bind fun t187 => (if t187 = true then (some 0) else (some 2))) else (some 2))) else (some 2))) else (some 2))) else (some t183))) = some r := h
  clear h
  replace H := Option.bind_eq_some_iff.mp H
  obtain ⟨t183, A20, H⟩ := H
  replace H : (if t183 = 0 then ((vendmeterref_In.f a0_1 0 100000).bind fun t184 => (if t184 = true then ((vendmeterref_In.f a0_2 0 10000).bind fun t185 => (if t185 = true then ((vendmeterref_In.f a0_3 0 10000).bind fun t186 => (if t186 = true then ((vendmeterref_In.f a0_4 0 2097151).bind fun t187 => (if t187 = true then (some 0) else (some 2))) else (some 2))) else (some 2))) else (some 2))) else (some t183)) = some r := H
  have A2 := Aside0.mk A20
  clear A20
  by_cases c3 : t183 = 0
  · rw [if_pos c3] at H
    have c3b0 : (t183 == 0) = true := beq_iff_eq.mpr c3
    have c3b1 : (t183 != 0) = false := bne_eq_false_iff_eq.mpr c3
    clear c3
    replace H := Option.bind_eq_some_iff.mp H
    obtain ⟨t184, A40, H⟩ := H
    replace H : (if t184 = true then ((vendmeterref_In.f a0_2 0 10000).bind fun t185 => (if t185 = true then ((vendmeterref_In.f a0_3 0 10000).bind fun t186 => (if t186 = true then ((vendmeterref_In.f a0_4 0 2097151).bind fun t187 => (if t187 = true then (some 0) else (some 2))) else (some 2))) else (some 2))) else (some 2)) = some r := H
    have A4 := Aside0.mk A40
    clear A40
    by_cases c5 : t184 = true
    · subst c5
      have H1 : ((vendmeterref_In.f a0_2 0 10000).bind fun t185 => (if t185 = true then ((vendmeterref_In.f a0_3 0 10000).bind fun t186 => (if t186 = true then ((vendmeterref_In.f a0_4 0 2097151).bind fun t187 => (if t187 = true then (some 0) else (some 2))) else (some 2))) else (some 2))) = some r := by rw [if_pos rfl] at H; exact H
      clear H
      have H := H1
      clear H1
      replace H := Option.bind_eq_some_iff.mp H
      obtain ⟨t185, A60, H⟩ := H
      replace H : (if t185 = true then ((vendmeterref_In.f a0_3 0 10000).bind fun t186 => (if t186 = true then ((vendmeterref_In.f a0_4 0 2097151).bind fun t187 => (if t187 = true then (some 0) else (some 2))) else (some 2))) else (some 2)) = some r := H
      have A6 := Aside0.mk A60
      clear A60
      by_cases c7 : t185 = true
      · subst c7
        have H1 : ((vendmeterref_In.f a0_3 0 10000).bind fun t186 => (if t186 = true then ((vendmeterref_In.f a0_4 0 2097151).bind fun t187 => (if t187 = true then (some 0) else (some 2))) else (some 2))) = some r := by rw [if_pos rfl] at H; exact H
        clear H
        have H := H1
        clear H1
        replace H := Option.bind_eq_some_iff.mp H
        obtain ⟨t186, A80, H⟩ := H
        replace H : (if t186 = true then ((vendmeterref_In.f a0_4 0 2097151).bind fun t187 => (if t187 = true then (some 0) else (some 2))) else (some 2)) = some r := H
        have A8 := Aside0.mk A80
        clear A80
        by_cases c9 : t186 = true
        · subst c9
          have H1 : ((vendmeterref_In.f a0_4 0 2097151).bind fun t187 => (if t187 = true then (some 0) else (some 2))) = some r := by rw [if_pos rfl] at H; exact H
          clear H
          have H := H1
          clear H1
          replace H := Option.bind_eq_some_iff.mp H
          obtain ⟨t187, A100, H⟩ := H
          replace H : (if t187 = true then (some 0) else (some 2)) = some r := H
          have A10 := Aside0.mk A100
          clear A100
          by_cases c11 : t187 = true
          · subst c11
            have H1 : (some 0) = some r := by rw [if_pos rfl] at H; exact H
            clear H
            have H := H1
            clear H1
            obtain rfl := Option.some.inj H
            go_enter Try.func29, Try.ntmps29
            go_wp2_with (first | ((with_reducible refine gate_dst (N := 1) rfl ?_); refine box_event ?hg (N := 1) ?hd (cs := #[.slice A0_0 l0_0.length c0_0, .int .i64 a0_1, .int .i64 a0_2, .int .i64 a0_3, .int .i64 a0_4]) (t := 27) ?hr ?_; (case hd => rfl); (case hg => rfl); (case hr => first | (go_simp; done) | (go_simp; rfl)); intro gb182 hg w12 hbox hb; have n0_ := Aside0.mk (below_step (by repeat (first | (with_reducible first | exact HB.out | apply below_alloc | apply pw_below_drewN | apply below_drew1) | exact HB.out)) hb); have n1_ := Aside0.mk (hbox); have n2_ := Aside0.mk ((by rw [hg]; exact (below_size (by repeat (first | (with_reducible first | exact HB.out | apply below_alloc | apply pw_below_drewN | apply below_drew1) | exact HB.out))) : w.heap.size ≤ gb182)); have n3_ := Aside0.mk ((by rw [hg]; exact (below_size (by repeat (first | (with_reducible first | exact HB.out | apply below_alloc | apply pw_below_drewN | apply below_drew1) | exact HB.out))) : w.heap.size ≤ gb182)); clear HB; have HB := n0_; have BK182 := n1_; have GW182 := n2_; have GE182 := n3_; clear n0_ n1_ n2_ n3_; clear hb hbox hg; have hcz13_0 : w12.cell? ⟨gb182, 0, none⟩ = some (.slice A0_0 l0_0.length c0_0) := (blk_cell BK182.out 0).trans rfl; have hcz13_1 : w12.cell? ⟨gb182, 1, none⟩ = some (.int .i64 a0_1) := (blk_cell BK182.out 1).trans rfl; have hcz13_2 : w12.cell? ⟨gb182, 2, none⟩ = some (.int .i64 a0_2) := (blk_cell BK182.out 2).trans rfl; have hcz13_3 : w12.cell? ⟨gb182, 3, none⟩ = some (.int .i64 a0_3) := (blk_cell BK182.out 3).trans rfl; have hcz13_4 : w12.cell? ⟨gb182, 4, none⟩ = some (.int .i64 a0_4) := (blk_cell BK182.out 4).trans rfl; have hfz13_0 := blk_frozen BK182.out 0; have hfz13_1 := blk_frozen BK182.out 1; have hfz13_2 := blk_frozen BK182.out 2; have hfz13_3 := blk_frozen BK182.out 3; have hfz13_4 := blk_frozen BK182.out 4) | ((with_reducible refine gate_callee (f := 56) rfl ?_); refine goesL_ (some 6) rfl rfl Try.func56 (by kernel_rfl) rfl #[.slice A0_0 l0_0.length c0_0] rfl (by (try simp only [List.map_toArray, List.map_cons, List.map_nil]); first | done | rfl | (simp only [List.length_drop, List.length_take]; rfl)) ?_; (with_reducible refine (vendmeterref_TariffFault.calls k _ _ l0_0 t183 _ ?side1 ?side2 A2.out).mono ?_); (case side1 => repeat (first | exact (Kd.C_below HR0_0.out HB.out) | (with_reducible refine Kd.C_alloc ?_ _) | (with_reducible refine Kd.C_drewN ?_ _) | (with_reducible refine Kd.C_drew ?_))); (case side2 => exact HC0_0.out); rintro e w' ⟨rfl, ⟨nd, rfl⟩⟩; refine ⟨_, rfl, ?_⟩) | ((with_reducible refine gate_callee (f := 31) rfl ?_); refine goesL_ (some 12) rfl rfl Try.func31 (by kernel_rfl) rfl #[.int .i64 a0_1, .int .i64 0, .int .i64 100000] rfl (by (try simp only [List.map_toArray, List.map_cons, List.map_nil]); first | done | rfl | (simp only [List.length_drop, List.length_take]; rfl)) ?_; (with_reducible refine (vendmeterref_In.calls a0_1 0 100000 true _ A4.out).mono ?_); rintro e w' ⟨rfl, ⟨nd, rfl⟩⟩; refine ⟨_, rfl, ?_⟩) | (go_at_call 31; (with_reducible refine (vendmeterref_In.calls a0_2 0 10000 true _ A6.out).mono ?_); rintro e w' ⟨rfl, ⟨nd, rfl⟩⟩) | (go_at_call 31; (with_reducible refine (vendmeterref_In.calls a0_3 0 10000 true _ A8.out).mono ?_); rintro e w' ⟨rfl, ⟨nd, rfl⟩⟩) | (go_at_call 31; (with_reducible refine (vendmeterref_In.calls a0_4 0 2097151 true _ A10.out).mono ?_); rintro e w' ⟨rfl, ⟨nd, rfl⟩⟩))
            go_ret
            exact ⟨by first | rfl | (simp [errW_none, errW_some] <;> rfl) | (simp [*, errW_none, errW_some] <;> rfl), by repeat (first | (with_reducible first | exact HB.out | apply below_alloc | apply pw_below_drewN | apply below_drew1 | refine below_set ?_ GE182.out) | exact HB.out)⟩
          · replace c11 := Bool.eq_false_iff.mpr c11
            subst c11
            have H1 : (some 2) = some r := by rw [if_neg (show ¬ (false = true) by decide)] at H; exact H
            clear H
            have H := H1
            clear H1
            obtain rfl := Option.some.inj H
            go_enter Try.func29, Try.ntmps29
            go_wp2_with (first | ((with_reducible refine gate_dst (N := 1) rfl ?_); refine box_event ?hg (N := 1) ?hd (cs := #[.slice A0_0 l0_0.length c0_0, .int .i64 a0_1, .int .i64 a0_2, .int .i64 a0_3, .int .i64 a0_4]) (t := 27) ?hr ?_; (case hd => rfl); (case hg => rfl); (case hr => first | (go_simp; done) | (go_simp; rfl)); intro gb182 hg w14 hbox hb; have n0_ := Aside0.mk (below_step (by repeat (first | (with_reducible first | exact HB.out | apply below_alloc | apply pw_below_drewN | apply below_drew1) | exact HB.out)) hb); have n1_ := Aside0.mk (hbox); have n2_ := Aside0.mk ((by rw [hg]; exact (below_size (by repeat (first | (with_reducible first | exact HB.out | apply below_alloc | apply pw_below_drewN | apply below_drew1) | exact HB.out))) : w.heap.size ≤ gb182)); have n3_ := Aside0.mk ((by rw [hg]; exact (below_size (by repeat (first | (with_reducible first | exact HB.out | apply below_alloc | apply pw_below_drewN | apply below_drew1) | exact HB.out))) : w.heap.size ≤ gb182)); clear HB; have HB := n0_; have BK182 := n1_; have GW182 := n2_; have GE182 := n3_; clear n0_ n1_ n2_ n3_; clear hb hbox hg; have hcz15_0 : w14.cell? ⟨gb182, 0, none⟩ = some (.slice A0_0 l0_0.length c0_0) := (blk_cell BK182.out 0).trans rfl; have hcz15_1 : w14.cell? ⟨gb182, 1, none⟩ = some (.int .i64 a0_1) := (blk_cell BK182.out 1).trans rfl; have hcz15_2 : w14.cell? ⟨gb182, 2, none⟩ = some (.int .i64 a0_2) := (blk_cell BK182.out 2).trans rfl; have hcz15_3 : w14.cell? ⟨gb182, 3, none⟩ = some (.int .i64 a0_3) := (blk_cell BK182.out 3).trans rfl; have hcz15_4 : w14.cell? ⟨gb182, 4, none⟩ = some (.int .i64 a0_4) := (blk_cell BK182.out 4).trans rfl; have hfz15_0 := blk_frozen BK182.out 0; have hfz15_1 := blk_frozen BK182.out 1; have hfz15_2 := blk_frozen BK182.out 2; have hfz15_3 := blk_frozen BK182.out 3; have hfz15_4 := blk_frozen BK182.out 4) | ((with_reducible refine gate_callee (f := 56) rfl ?_); refine goesL_ (some 6) rfl rfl Try.func56 (by kernel_rfl) rfl #[.slice A0_0 l0_0.length c0_0] rfl (by (try simp only [List.map_toArray, List.map_cons, List.map_nil]); first | done | rfl | (simp only [List.length_drop, List.length_take]; rfl)) ?_; (with_reducible refine (vendmeterref_TariffFault.calls k _ _ l0_0 t183 _ ?side1 ?side2 A2.out).mono ?_); (case side1 => repeat (first | exact (Kd.C_below HR0_0.out HB.out) | (with_reducible refine Kd.C_alloc ?_ _) | (with_reducible refine Kd.C_drewN ?_ _) | (with_reducible refine Kd.C_drew ?_))); (case side2 => exact HC0_0.out); rintro e w' ⟨rfl, ⟨nd, rfl⟩⟩; refine ⟨_, rfl, ?_⟩) | ((with_reducible refine gate_callee (f := 31) rfl ?_); refine goesL_ (some 12) rfl rfl Try.func31 (by kernel_rfl) rfl #[.int .i64 a0_1, .int .i64 0, .int .i64 100000] rfl (by (try simp only [List.map_toArray, List.map_cons, List.map_nil]); first | done | rfl | (simp only [List.length_drop, List.length_take]; rfl)) ?_; (with_reducible refine (vendmeterref_In.calls a0_1 0 100000 true _ A4.out).mono ?_); rintro e w' ⟨rfl, ⟨nd, rfl⟩⟩; refine ⟨_, rfl, ?_⟩) | (go_at_call 31; (with_reducible refine (vendmeterref_In.calls a0_2 0 10000 true _ A6.out).mono ?_); rintro e w' ⟨rfl, ⟨nd, rfl⟩⟩) | (go_at_call 31; (with_reducible refine (vendmeterref_In.calls a0_3 0 10000 true _ A8.out).mono ?_); rintro e w' ⟨rfl, ⟨nd, rfl⟩⟩) | (go_at_call 31; (with_reducible refine (vendmeterref_In.calls a0_4 0 2097151 false _ A10.out).mono ?_); rintro e w' ⟨rfl, ⟨nd, rfl⟩⟩))
            go_ret
            exact ⟨by first | rfl | (simp [errW_none, errW_some] <;> rfl) | (simp [*, errW_none, errW_some] <;> rfl), by repeat (first | (with_reducible first | exact HB.out | apply below_alloc | apply pw_below_drewN | apply below_drew1 | refine below_set ?_ GE182.out) | exact HB.out)⟩
        · replace c9 := Bool.eq_false_iff.mpr c9
          subst c9
          have H1 : (some 2) = some r := by rw [if_neg (show ¬ (false = true) by decide)] at H; exact H
          clear H
          have H := H1
          clear H1
          obtain rfl := Option.some.inj H
          go_enter Try.func29, Try.ntmps29
          go_wp2_with (first | ((with_reducible refine gate_dst (N := 1) rfl ?_); refine box_event ?hg (N := 1) ?hd (cs := #[.slice A0_0 l0_0.length c0_0, .int .i64 a0_1, .int .i64 a0_2, .int .i64 a0_3, .int .i64 a0_4]) (t := 27) ?hr ?_; (case hd => rfl); (case hg => rfl); (case hr => first | (go_simp; done) | (go_simp; rfl)); intro gb182 hg w16 hbox hb; have n0_ := Aside0.mk (below_step (by repeat (first | (with_reducible first | exact HB.out | apply below_alloc | apply pw_below_drewN | apply below_drew1) | exact HB.out)) hb); have n1_ := Aside0.mk (hbox); have n2_ := Aside0.mk ((by rw [hg]; exact (below_size (by repeat (first | (with_reducible first | exact HB.out | apply below_alloc | apply pw_below_drewN | apply below_drew1) | exact HB.out))) : w.heap.size ≤ gb182)); have n3_ := Aside0.mk ((by rw [hg]; exact (below_size (by repeat (first | (with_reducible first | exact HB.out | apply below_alloc | apply pw_below_drewN | apply below_drew1) | exact HB.out))) : w.heap.size ≤ gb182)); clear HB; have HB := n0_; have BK182 := n1_; have GW182 := n2_; have GE182 := n3_; clear n0_ n1_ n2_ n3_; clear hb hbox hg; have hcz17_0 : w16.cell? ⟨gb182, 0, none⟩ = some (.slice A0_0 l0_0.length c0_0) := (blk_cell BK182.out 0).trans rfl; have hcz17_1 : w16.cell? ⟨gb182, 1, none⟩ = some (.int .i64 a0_1) := (blk_cell BK182.out 1).trans rfl; have hcz17_2 : w16.cell? ⟨gb182, 2, none⟩ = some (.int .i64 a0_2) := (blk_cell BK182.out 2).trans rfl; have hcz17_3 : w16.cell? ⟨gb182, 3, none⟩ = some (.int .i64 a0_3) := (blk_cell BK182.out 3).trans rfl; have hcz17_4 : w16.cell? ⟨gb182, 4, none⟩ = some (.int .i64 a0_4) := (blk_cell BK182.out 4).trans rfl; have hfz17_0 := blk_frozen BK182.out 0; have hfz17_1 := blk_frozen BK182.out 1; have hfz17_2 := blk_frozen BK182.out 2; have hfz17_3 := blk_frozen BK182.out 3; have hfz17_4 := blk_frozen BK182.out 4) | ((with_reducible refine gate_callee (f := 56) rfl ?_); refine goesL_ (some 6) rfl rfl Try.func56 (by kernel_rfl) rfl #[.slice A0_0 l0_0.length c0_0] rfl (by (try simp only [List.map_toArray, List.map_cons, List.map_nil]); first | done | rfl | (simp only [List.length_drop, List.length_take]; rfl)) ?_; (with_reducible refine (vendmeterref_TariffFault.calls k _ _ l0_0 t183 _ ?side1 ?side2 A2.out).mono ?_); (case side1 => repeat (first | exact (Kd.C_below HR0_0.out HB.out) | (with_reducible refine Kd.C_alloc ?_ _) | (with_reducible refine Kd.C_drewN ?_ _) | (with_reducible refine Kd.C_drew ?_))); (case side2 => exact HC0_0.out); rintro e w' ⟨rfl, ⟨nd, rfl⟩⟩; refine ⟨_, rfl, ?_⟩) | ((with_reducible refine gate_callee (f := 31) rfl ?_); refine goesL_ (some 12) rfl rfl Try.func31 (by kernel_rfl) rfl #[.int .i64 a0_1, .int .i64 0, .int .i64 100000] rfl (by (try simp only [List.map_toArray, List.map_cons, List.map_nil]); first | done | rfl | (simp only [List.length_drop, List.length_take]; rfl)) ?_; (with_reducible refine (vendmeterref_In.calls a0_1 0 100000 true _ A4.out).mono ?_); rintro e w' ⟨rfl, ⟨nd, rfl⟩⟩; refine ⟨_, rfl, ?_⟩) | (go_at_call 31; (with_reducible refine (vendmeterref_In.calls a0_2 0 10000 true _ A6.out).mono ?_); rintro e w' ⟨rfl, ⟨nd, rfl⟩⟩) | (go_at_call 31; (with_reducible refine (vendmeterref_In.calls a0_3 0 10000 false _ A8.out).mono ?_); rintro e w' ⟨rfl, ⟨nd, rfl⟩⟩))
          go_ret
          exact ⟨by first | rfl | (simp [errW_none, errW_some] <;> rfl) | (simp [*, errW_none, errW_some] <;> rfl), by repeat (first | (with_reducible first | exact HB.out | apply below_alloc | apply pw_below_drewN | apply below_drew1 | refine below_set ?_ GE182.out) | exact HB.out)⟩
      · replace c7 := Bool.eq_false_iff.mpr c7
        subst c7
        have H1 : (some 2) = some r := by rw [if_neg (show ¬ (false = true) by decide)] at H; exact H
        clear H
        have H := H1
        clear H1
        obtain rfl := Option.some.inj H
        go_enter Try.func29, Try.ntmps29
        go_wp2_with (first | ((with_reducible refine gate_dst (N := 1) rfl ?_); refine box_event ?hg (N := 1) ?hd (cs := #[.slice A0_0 l0_0.length c0_0, .int .i64 a0_1, .int .i64 a0_2, .int .i64 a0_3, .int .i64 a0_4]) (t := 27) ?hr ?_; (case hd => rfl); (case hg => rfl); (case hr => first | (go_simp; done) | (go_simp; rfl)); intro gb182 hg w18 hbox hb; have n0_ := Aside0.mk (below_step (by repeat (first | (with_reducible first | exact HB.out | apply below_alloc | apply pw_below_drewN | apply below_drew1) | exact HB.out)) hb); have n1_ := Aside0.mk (hbox); have n2_ := Aside0.mk ((by rw [hg]; exact (below_size (by repeat (first | (with_reducible first | exact HB.out | apply below_alloc | apply pw_below_drewN | apply below_drew1) | exact HB.out))) : w.heap.size ≤ gb182)); have n3_ := Aside0.mk ((by rw [hg]; exact (below_size (by repeat (first | (with_reducible first | exact HB.out | apply below_alloc | apply pw_below_drewN | apply below_drew1) | exact HB.out))) : w.heap.size ≤ gb182)); clear HB; have HB := n0_; have BK182 := n1_; have GW182 := n2_; have GE182 := n3_; clear n0_ n1_ n2_ n3_; clear hb hbox hg; have hcz19_0 : w18.cell? ⟨gb182, 0, none⟩ = some (.slice A0_0 l0_0.length c0_0) := (blk_cell BK182.out 0).trans rfl; have hcz19_1 : w18.cell? ⟨gb182, 1, none⟩ = some (.int .i64 a0_1) := (blk_cell BK182.out 1).trans rfl; have hcz19_2 : w18.cell? ⟨gb182, 2, none⟩ = some (.int .i64 a0_2) := (blk_cell BK182.out 2).trans rfl; have hcz19_3 : w18.cell? ⟨gb182, 3, none⟩ = some (.int .i64 a0_3) := (blk_cell BK182.out 3).trans rfl; have hcz19_4 : w18.cell? ⟨gb182, 4, none⟩ = some (.int .i64 a0_4) := (blk_cell BK182.out 4).trans rfl; have hfz19_0 := blk_frozen BK182.out 0; have hfz19_1 := blk_frozen BK182.out 1; have hfz19_2 := blk_frozen BK182.out 2; have hfz19_3 := blk_frozen BK182.out 3; have hfz19_4 := blk_frozen BK182.out 4) | ((with_reducible refine gate_callee (f := 56) rfl ?_); refine goesL_ (some 6) rfl rfl Try.func56 (by kernel_rfl) rfl #[.slice A0_0 l0_0.length c0_0] rfl (by (try simp only [List.map_toArray, List.map_cons, List.map_nil]); first | done | rfl | (simp only [List.length_drop, List.length_take]; rfl)) ?_; (with_reducible refine (vendmeterref_TariffFault.calls k _ _ l0_0 t183 _ ?side1 ?side2 A2.out).mono ?_); (case side1 => repeat (first | exact (Kd.C_below HR0_0.out HB.out) | (with_reducible refine Kd.C_alloc ?_ _) | (with_reducible refine Kd.C_drewN ?_ _) | (with_reducible refine Kd.C_drew ?_))); (case side2 => exact HC0_0.out); rintro e w' ⟨rfl, ⟨nd, rfl⟩⟩; refine ⟨_, rfl, ?_⟩) | ((with_reducible refine gate_callee (f := 31) rfl ?_); refine goesL_ (some 12) rfl rfl Try.func31 (by kernel_rfl) rfl #[.int .i64 a0_1, .int .i64 0, .int .i64 100000] rfl (by (try simp only [List.map_toArray, List.map_cons, List.map_nil]); first | done | rfl | (simp only [List.length_drop, List.length_take]; rfl)) ?_; (with_reducible refine (vendmeterref_In.calls a0_1 0 100000 true _ A4.out).mono ?_); rintro e w' ⟨rfl, ⟨nd, rfl⟩⟩; refine ⟨_, rfl, ?_⟩) | (go_at_call 31; (with_reducible refine (vendmeterref_In.calls a0_2 0 10000 false _ A6.out).mono ?_); rintro e w' ⟨rfl, ⟨nd, rfl⟩⟩))
        go_ret
        exact ⟨by first | rfl | (simp [errW_none, errW_some] <;> rfl) | (simp [*, errW_none, errW_some] <;> rfl), by repeat (first | (with_reducible first | exact HB.out | apply below_alloc | apply pw_below_drewN | apply below_drew1 | refine below_set ?_ GE182.out) | exact HB.out)⟩
    · replace c5 := Bool.eq_false_iff.mpr c5
      subst c5
      have H1 : (some 2) = some r := by rw [if_neg (show ¬ (false = true) by decide)] at H; exact H
      clear H
      have H := H1
      clear H1
      obtain rfl := Option.some.inj H
      go_enter Try.func29, Try.ntmps29
      go_wp2_with (first | ((with_reducible refine gate_dst (N := 1) rfl ?_); refine box_event ?hg (N := 1) ?hd (cs := #[.slice A0_0 l0_0.length c0_0, .int .i64 a0_1, .int .i64 a0_2, .int .i64 a0_3, .int .i64 a0_4]) (t := 27) ?hr ?_; (case hd => rfl); (case hg => rfl); (case hr => first | (go_simp; done) | (go_simp; rfl)); intro gb182 hg w20 hbox hb; have n0_ := Aside0.mk (below_step (by repeat (first | (with_reducible first | exact HB.out | apply below_alloc | apply pw_below_drewN | apply below_drew1) | exact HB.out)) hb); have n1_ := Aside0.mk (hbox); have n2_ := Aside0.mk ((by rw [hg]; exact (below_size (by repeat (first | (with_reducible first | exact HB.out | apply below_alloc | apply pw_below_drewN | apply below_drew1) | exact HB.out))) : w.heap.size ≤ gb182)); have n3_ := Aside0.mk ((by rw [hg]; exact (below_size (by repeat (first | (with_reducible first | exact HB.out | apply below_alloc | apply pw_below_drewN | apply below_drew1) | exact HB.out))) : w.heap.size ≤ gb182)); clear HB; have HB := n0_; have BK182 := n1_; have GW182 := n2_; have GE182 := n3_; clear n0_ n1_ n2_ n3_; clear hb hbox hg; have hcz21_0 : w20.cell? ⟨gb182, 0, none⟩ = some (.slice A0_0 l0_0.length c0_0) := (blk_cell BK182.out 0).trans rfl; have hcz21_1 : w20.cell? ⟨gb182, 1, none⟩ = some (.int .i64 a0_1) := (blk_cell BK182.out 1).trans rfl; have hcz21_2 : w20.cell? ⟨gb182, 2, none⟩ = some (.int .i64 a0_2) := (blk_cell BK182.out 2).trans rfl; have hcz21_3 : w20.cell? ⟨gb182, 3, none⟩ = some (.int .i64 a0_3) := (blk_cell BK182.out 3).trans rfl; have hcz21_4 : w20.cell? ⟨gb182, 4, none⟩ = some (.int .i64 a0_4) := (blk_cell BK182.out 4).trans rfl; have hfz21_0 := blk_frozen BK182.out 0; have hfz21_1 := blk_frozen BK182.out 1; have hfz21_2 := blk_frozen BK182.out 2; have hfz21_3 := blk_frozen BK182.out 3; have hfz21_4 := blk_frozen BK182.out 4) | ((with_reducible refine gate_callee (f := 56) rfl ?_); refine goesL_ (some 6) rfl rfl Try.func56 (by kernel_rfl) rfl #[.slice A0_0 l0_0.length c0_0] rfl (by (try simp only [List.map_toArray, List.map_cons, List.map_nil]); first | done | rfl | (simp only [List.length_drop, List.length_take]; rfl)) ?_; (with_reducible refine (vendmeterref_TariffFault.calls k _ _ l0_0 t183 _ ?side1 ?side2 A2.out).mono ?_); (case side1 => repeat (first | exact (Kd.C_below HR0_0.out HB.out) | (with_reducible refine Kd.C_alloc ?_ _) | (with_reducible refine Kd.C_drewN ?_ _) | (with_reducible refine Kd.C_drew ?_))); (case side2 => exact HC0_0.out); rintro e w' ⟨rfl, ⟨nd, rfl⟩⟩; refine ⟨_, rfl, ?_⟩) | ((with_reducible refine gate_callee (f := 31) rfl ?_); refine goesL_ (some 12) rfl rfl Try.func31 (by kernel_rfl) rfl #[.int .i64 a0_1, .int .i64 0, .int .i64 100000] rfl (by (try simp only [List.map_toArray, List.map_cons, List.map_nil]); first | done | rfl | (simp only [List.length_drop, List.length_take]; rfl)) ?_; (with_reducible refine (vendmeterref_In.calls a0_1 0 100000 false _ A4.out).mono ?_); rintro e w' ⟨rfl, ⟨nd, rfl⟩⟩; refine ⟨_, rfl, ?_⟩))
      go_ret
      exact ⟨by first | rfl | (simp [errW_none, errW_some] <;> rfl) | (simp [*, errW_none, errW_some] <;> rfl), by repeat (first | (with_reducible first | exact HB.out | apply below_alloc | apply pw_below_drewN | apply below_drew1 | refine below_set ?_ GE182.out) | exact HB.out)⟩
  · rw [if_neg c3] at H
    have c3b0 : (t183 == 0) = false := beq_eq_false_iff_ne.mpr c3
    have c3b1 : (t183 != 0) = true := bne_iff_ne.mpr c3
    obtain rfl := Option.some.inj H
    go_enter Try.func29, Try.ntmps29
    go_wp2_with (first | ((with_reducible refine gate_dst (N := 1) rfl ?_); refine box_event ?hg (N := 1) ?hd (cs := #[.slice A0_0 l0_0.length c0_0, .int .i64 a0_1, .int .i64 a0_2, .int .i64 a0_3, .int .i64 a0_4]) (t := 27) ?hr ?_; (case hd => rfl); (case hg => rfl); (case hr => first | (go_simp; done) | (go_simp; rfl)); intro gb182 hg w22 hbox hb; have n0_ := Aside0.mk (below_step (by repeat (first | (with_reducible first | exact HB.out | apply below_alloc | apply pw_below_drewN | apply below_drew1) | exact HB.out)) hb); have n1_ := Aside0.mk (hbox); have n2_ := Aside0.mk ((by rw [hg]; exact (below_size (by repeat (first | (with_reducible first | exact HB.out | apply below_alloc | apply pw_below_drewN | apply below_drew1) | exact HB.out))) : w.heap.size ≤ gb182)); have n3_ := Aside0.mk ((by rw [hg]; exact (below_size (by repeat (first | (with_reducible first | exact HB.out | apply below_alloc | apply pw_below_drewN | apply below_drew1) | exact HB.out))) : w.heap.size ≤ gb182)); clear HB; have HB := n0_; have BK182 := n1_; have GW182 := n2_; have GE182 := n3_; clear n0_ n1_ n2_ n3_; clear hb hbox hg; have hcz23_0 : w22.cell? ⟨gb182, 0, none⟩ = some (.slice A0_0 l0_0.length c0_0) := (blk_cell BK182.out 0).trans rfl; have hcz23_1 : w22.cell? ⟨gb182, 1, none⟩ = some (.int .i64 a0_1) := (blk_cell BK182.out 1).trans rfl; have hcz23_2 : w22.cell? ⟨gb182, 2, none⟩ = some (.int .i64 a0_2) := (blk_cell BK182.out 2).trans rfl; have hcz23_3 : w22.cell? ⟨gb182, 3, none⟩ = some (.int .i64 a0_3) := (blk_cell BK182.out 3).trans rfl; have hcz23_4 : w22.cell? ⟨gb182, 4, none⟩ = some (.int .i64 a0_4) := (blk_cell BK182.out 4).trans rfl; have hfz23_0 := blk_frozen BK182.out 0; have hfz23_1 := blk_frozen BK182.out 1; have hfz23_2 := blk_frozen BK182.out 2; have hfz23_3 := blk_frozen BK182.out 3; have hfz23_4 := blk_frozen BK182.out 4) | ((with_reducible refine gate_callee (f := 56) rfl ?_); refine goesL_ (some 6) rfl rfl Try.func56 (by kernel_rfl) rfl #[.slice A0_0 l0_0.length c0_0] rfl (by (try simp only [List.map_toArray, List.map_cons, List.map_nil]); first | done | rfl | (simp only [List.length_drop, List.length_take]; rfl)) ?_; (with_reducible refine (vendmeterref_TariffFault.calls k _ _ l0_0 t183 _ ?side1 ?side2 A2.out).mono ?_); (case side1 => repeat (first | exact (Kd.C_below HR0_0.out HB.out) | (with_reducible refine Kd.C_alloc ?_ _) | (with_reducible refine Kd.C_drewN ?_ _) | (with_reducible refine Kd.C_drew ?_))); (case side2 => exact HC0_0.out); rintro e w' ⟨rfl, ⟨nd, rfl⟩⟩; refine ⟨_, rfl, ?_⟩))
    go_ret
    exact ⟨by first | rfl | (simp [errW_none, errW_some] <;> rfl) | (simp [*, errW_none, errW_some] <;> rfl), by repeat (first | (with_reducible first | exact HB.out | apply below_alloc | apply pw_below_drewN | apply below_drew1 | refine below_set ?_ GE182.out) | exact HB.out)⟩

end Go.Proofs.Ytojnaalncgofhaa.PAccountSells
