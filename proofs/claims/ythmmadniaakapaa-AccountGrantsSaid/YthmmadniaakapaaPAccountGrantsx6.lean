-- written by this session's program wip/xp/xprint.py (it drives the kit's print and adds to it)
import Derived.Test.YthmmadniaakapaaPAccountGrantsx0
import Derived.Test.YthmmadniaakapaaPAccountGrantsx4
import Derived.Test.YthmmadniaakapaaPAccountGrantsx5
namespace Go.Proofs.Ythmmadniaakapaa.PAccountGrants
open Go.RowKit Go.Proofs.YthmmadniaakapaaW.PrintWords Go.Proofs.YthmmadniaakapaaW.PrintLast Go.Proofs.YthmmadniaakapaaW.PrintMore
attribute [local go_sem] max2_int min2_int max_two min_two max_three min_three max_four min_four   -- for this text's walks alone
set_option linter.unusedVariables false
set_option linter.unusedSimpArgs false

/-! ### vendmeterref_AccountMay: function 78 -/
def vendmeterref_AccountMay.j0 : Nat → Bool → Int → Int → Int → Int → Int → Int → List (S76) → Option (Bool)
  | 0, _, _, _, _, _, _, _, _ => none
  | k + 1, x18, x167000, x167001, x167002, x167003, x167004, x167005, x167006 => if x18 = true then (some false) else ((vendmeterref_In.f x167002 1 1048576).bind fun t170 => (if t170 = true then ((vendmeterref_In.f x167003 0 2399).bind fun t171 => (if t171 = true then ((vendmeterref_In.f x167004 0 10000000).bind fun t172 => (if t172 = true then ((vendmeterref_In.f x167005 (-1) x167003).bind fun t173 => (some t173)) else (some false))) else (some false))) else (some false)))
def vendmeterref_AccountMay.f (k : Nat) (a0_0 : Int) (a0_1 : Int) (a0_2 : Int) (a0_3 : Int) (a0_4 : Int) (a0_5 : Int) (l0_6 : List (S76)) : Option (Bool) := (vendmeterref_DebtFault.f k l0_6).bind fun t167 => (if t167 = 0 then ((vendmeterref_In.f a0_0 0 49).bind fun t168 => (if t168 = true then ((vendmeterref_In.f a0_1 0 15).bind fun t169 => (vendmeterref_AccountMay.j0 k (!t169) a0_0 a0_1 a0_2 a0_3 a0_4 a0_5 l0_6)) else (vendmeterref_AccountMay.j0 k true a0_0 a0_1 a0_2 a0_3 a0_4 a0_5 l0_6))) else (vendmeterref_AccountMay.j0 k true a0_0 a0_1 a0_2 a0_3 a0_4 a0_5 l0_6))
theorem vendmeterref_AccountMay.mono_l : ∀ k, (∀ y0 y1 y2 y3 y4 y5 y6 y7, LeO (vendmeterref_AccountMay.j0 k y0 y1 y2 y3 y4 y5 y6 y7) (vendmeterref_AccountMay.j0 (k + 1) y0 y1 y2 y3 y4 y5 y6 y7))
  | 0 => fun _ _ _ _ _ _ _ _ r h => by simp [vendmeterref_AccountMay.j0] at h
  | k + 1 => by
    have ih0 := vendmeterref_AccountMay.mono_l k
    · intro y0 y1 y2 y3 y4 y5 y6 y7
      unfold vendmeterref_AccountMay.j0
      repeat' first
      | (with_reducible exact ih0 _ _ _ _ _ _ _ _)
      | (with_reducible exact vendmeterref_DebtFault.mono _ _)
      | (with_reducible exact LeO.refl _)
      | (with_reducible exact LeO.none _)
      | (with_reducible refine LeO.ite ?_ ?_)
      | (with_reducible refine LeO.bind ?_ (fun _ => ?_))
      | exact ih0 _ _ _ _ _ _ _ _
      | exact vendmeterref_DebtFault.mono _ _
      | exact LeO.none _
      | refine LeO.ite ?_ ?_
      | refine LeO.bind ?_ (fun _ => ?_)
theorem vendmeterref_AccountMay.mono : ∀ a0 a1 a2 a3 a4 a5 a6 k, LeO (vendmeterref_AccountMay.f k a0 a1 a2 a3 a4 a5 a6) (vendmeterref_AccountMay.f (k + 1) a0 a1 a2 a3 a4 a5 a6) := by
  intro a0 a1 a2 a3 a4 a5 a6 k
  have ih0 := vendmeterref_AccountMay.mono_l k
  unfold vendmeterref_AccountMay.f
  repeat' first
      | (with_reducible exact ih0 _ _ _ _ _ _ _ _)
      | (with_reducible exact vendmeterref_DebtFault.mono _ _)
      | (with_reducible exact LeO.refl _)
      | (with_reducible exact LeO.none _)
      | (with_reducible refine LeO.ite ?_ ?_)
      | (with_reducible refine LeO.bind ?_ (fun _ => ?_))
      | exact ih0 _ _ _ _ _ _ _ _
      | exact vendmeterref_DebtFault.mono _ _
      | exact LeO.none _
      | refine LeO.ite ?_ ?_
      | refine LeO.bind ?_ (fun _ => ?_)
set_option maxHeartbeats 8000000 in
set_option maxRecDepth 100000 in
theorem vendmeterref_AccountMay.calls (k : Nat) (a0_0 : Int) (a0_1 : Int) (a0_2 : Int) (a0_3 : Int) (a0_4 : Int) (a0_5 : Int) (A0_6 : Option Addr) (c0_6 : Nat) (l0_6 : List (S76)) (r : Bool) (w : World) (hr0_6 : Kd.C k76 w A0_6 l0_6.length l0_6) (hc0_6 : l0_6.length ≤ c0_6) (h : vendmeterref_AccountMay.f k a0_0 a0_1 a0_2 a0_3 a0_4 a0_5 l0_6 = some r) :
    Calls Try.prog 78 #[.agg #[.int .i64 a0_0, .int .i64 a0_1, .int .i64 a0_2, .int .i64 a0_3, .int .i64 a0_4, .int .i64 a0_5, .slice A0_6 l0_6.length c0_6]] w fun e w' => e = .returned (.bool r) ∧ Below w.heap.size w w' := by
  have hu60 := Try.underlying60
  have HR0_6 := Aside0.mk hr0_6
  have HC0_6 := Aside0.mk hc0_6
  clear hr0_6 hc0_6
  have HB := Aside0.mk (Below.refl w.heap.size w)
  have H : ((vendmeterref_DebtFault.f k l0_6).bind fun t167 => (if t167 = 0 then ((vendmeterref_In.f a0_0 0 49).bind fun t168 => (if t168 = true then ((vendmeterref_In.f a0_1 0 15).bind fun t169 => (vendmeterref_AccountMay.j0 k (!t169) a0_0 a0_1 a0_2 a0_3 a0_4 a0_5 l0_6)) else (vendmeterref_AccountMay.j0 k true a0_0 a0_1 a0_2 a0_3 a0_4 a0_5 l0_6))) else (vendmeterref_AccountMay.j0 k true a0_0 a0_1 a0_2 a0_3 a0_4 a0_5 l0_6))) = some r := h
  clear h
  have HC2 := Aside0.mk H
  clear H
  go_enter Try.func78, Try.ntmps78
  go_upto_region 1 with (first | ((with_reducible refine gate_dst (N := 1) rfl ?_); refine box_event ?hg (N := 1) ?hd (cs := #[.int .i64 a0_0, .int .i64 a0_1, .int .i64 a0_2, .int .i64 a0_3, .int .i64 a0_4, .int .i64 a0_5, .slice A0_6 l0_6.length c0_6]) (t := 60) ?hr ?_; (case hd => rfl); (case hg => rfl); (case hr => first | (go_simp; done) | (go_simp; rfl)); intro gb166 hg w3 hbox hb; have n0_ := Aside0.mk (below_step (by repeat (first | (with_reducible first | exact HB.out | apply below_alloc | apply pw_below_drewN | apply below_drew1) | exact HB.out)) hb); have n1_ := Aside0.mk (hbox); have n2_ := Aside0.mk ((by rw [hg]; exact (below_size (by repeat (first | (with_reducible first | exact HB.out | apply below_alloc | apply pw_below_drewN | apply below_drew1) | exact HB.out))) : w.heap.size ≤ gb166)); have n3_ := Aside0.mk ((by rw [hg]; exact (below_size (by repeat (first | (with_reducible first | exact HB.out | apply below_alloc | apply pw_below_drewN | apply below_drew1) | exact HB.out))) : w.heap.size ≤ gb166)); clear HB; have HB := n0_; have BK166 := n1_; have GW166 := n2_; have GE166 := n3_; clear n0_ n1_ n2_ n3_; clear hb hbox hg))
  (try simp only [Act.put, List.setIfInBounds_toArray, List.set_cons_zero, List.set_cons_succ])
  go_cut [18] (fun v18 wc => ∃ (kq : Nat) (x18_1 : Bool), v18 = .bool x18_1 ∧ Aside0 (vendmeterref_AccountMay.j0 kq x18_1 a0_0 a0_1 a0_2 a0_3 a0_4 a0_5 l0_6 = some r) ∧ Aside0 (kq ≤ k) ∧ Aside0 (wc.heap[gb166]? = some (.cells #[.int .i64 a0_0, .int .i64 a0_1, .int .i64 a0_2, .int .i64 a0_3, .int .i64 a0_4, .int .i64 a0_5, (.slice A0_6 l0_6.length c0_6)] 60 (0, 0))) ∧ Aside0 (Below w.heap.size w wc))
  case first =>
    have H := HC2.out
    clear HC2
    replace H := Option.bind_eq_some_iff.mp H
    obtain ⟨t167, A40, H⟩ := H
    replace H : (if t167 = 0 then ((vendmeterref_In.f a0_0 0 49).bind fun t168 => (if t168 = true then ((vendmeterref_In.f a0_1 0 15).bind fun t169 => (vendmeterref_AccountMay.j0 k (!t169) a0_0 a0_1 a0_2 a0_3 a0_4 a0_5 l0_6)) else (vendmeterref_AccountMay.j0 k true a0_0 a0_1 a0_2 a0_3 a0_4 a0_5 l0_6))) else (vendmeterref_AccountMay.j0 k true a0_0 a0_1 a0_2 a0_3 a0_4 a0_5 l0_6)) = some r := H
    have A4 := Aside0.mk A40
    clear A40
    by_cases c5 : t167 = 0
    · rw [if_pos c5] at H
      have c5b0 : (t167 == 0) = true := beq_iff_eq.mpr c5
      have c5b1 : (t167 != 0) = false := bne_eq_false_iff_eq.mpr c5
      clear c5
      (first | rw [c5b0] | (simp only [i64_w, i32_w]; rw [c5b0]) | skip)
      replace H := Option.bind_eq_some_iff.mp H
      obtain ⟨t168, A60, H⟩ := H
      replace H : (if t168 = true then ((vendmeterref_In.f a0_1 0 15).bind fun t169 => (vendmeterref_AccountMay.j0 k (!t169) a0_0 a0_1 a0_2 a0_3 a0_4 a0_5 l0_6)) else (vendmeterref_AccountMay.j0 k true a0_0 a0_1 a0_2 a0_3 a0_4 a0_5 l0_6)) = some r := H
      have A6 := Aside0.mk A60
      clear A60
      by_cases c7 : t168 = true
      · subst c7
        have H1 : ((vendmeterref_In.f a0_1 0 15).bind fun t169 => (vendmeterref_AccountMay.j0 k (!t169) a0_0 a0_1 a0_2 a0_3 a0_4 a0_5 l0_6)) = some r := by rw [if_pos rfl] at H; exact H
        clear H
        have H := H1
        clear H1
        replace H := Option.bind_eq_some_iff.mp H
        obtain ⟨t169, A80, H⟩ := H
        replace H : (vendmeterref_AccountMay.j0 k (!t169) a0_0 a0_1 a0_2 a0_3 a0_4 a0_5 l0_6) = some r := H
        have A8 := Aside0.mk A80
        clear A80
        have H' := Aside0.mk H
        clear H
        have hcz9_0 : w3.cell? ⟨gb166, 0, none⟩ = some (.int .i64 a0_0) := (blk_cell BK166.out 0).trans rfl
        have hcz9_1 : w3.cell? ⟨gb166, 1, none⟩ = some (.int .i64 a0_1) := (blk_cell BK166.out 1).trans rfl
        have hcz9_2 : w3.cell? ⟨gb166, 2, none⟩ = some (.int .i64 a0_2) := (blk_cell BK166.out 2).trans rfl
        have hcz9_3 : w3.cell? ⟨gb166, 3, none⟩ = some (.int .i64 a0_3) := (blk_cell BK166.out 3).trans rfl
        have hcz9_4 : w3.cell? ⟨gb166, 4, none⟩ = some (.int .i64 a0_4) := (blk_cell BK166.out 4).trans rfl
        have hcz9_5 : w3.cell? ⟨gb166, 5, none⟩ = some (.int .i64 a0_5) := (blk_cell BK166.out 5).trans rfl
        have hcz9_6 : w3.cell? ⟨gb166, 6, none⟩ = some (.slice A0_6 l0_6.length c0_6) := (blk_cell BK166.out 6).trans rfl
        have hfz9_0 := blk_frozen BK166.out 0
        have hfz9_1 := blk_frozen BK166.out 1
        have hfz9_2 := blk_frozen BK166.out 2
        have hfz9_3 := blk_frozen BK166.out 3
        have hfz9_4 := blk_frozen BK166.out 4
        have hfz9_5 := blk_frozen BK166.out 5
        have hfz9_6 := blk_frozen BK166.out 6
        go_wp2_with (first | ((with_reducible refine gate_callee (f := 125) rfl ?_); refine goesL_ (some 5) rfl rfl Try.func125 (by kernel_rfl) rfl #[.slice A0_6 l0_6.length c0_6] rfl (by (try simp only [List.map_toArray, List.map_cons, List.map_nil]); first | done | rfl | (simp only [List.length_drop, List.length_take]; rfl)) ?_; (with_reducible refine (vendmeterref_DebtFault.calls k _ _ l0_6 t167 _ ?side1 ?side2 A4.out).mono ?_); (case side1 => repeat (first | exact (Kd.C_below HR0_6.out HB.out) | (with_reducible refine Kd.C_alloc ?_ _) | (with_reducible refine Kd.C_drewN ?_ _) | (with_reducible refine Kd.C_drew ?_))); (case side2 => exact HC0_6.out); rintro e w' ⟨rfl, ⟨nd, rfl⟩⟩; refine ⟨_, rfl, ?_⟩) | (go_at_call 54; (with_reducible refine (vendmeterref_In.calls a0_0 0 49 true _ A6.out).mono ?_); rintro e w' ⟨rfl, ⟨nd, rfl⟩⟩) | (go_at_call 54; (with_reducible refine (vendmeterref_In.calls a0_1 0 15 t169 _ A8.out).mono ?_); rintro e w' ⟨rfl, ⟨nd, rfl⟩⟩))
        go_meet
        case rel => exact ⟨_, (!t169), (by first | rfl | (simp; done) | (simp [*]; done)), H', ⟨by first | omega | exact Nat.le_refl _⟩, ⟨by (with_reducible repeat (first | refine blk_drewN ?_ _ | refine blk_drew ?_ | refine blk_alloc ?_ _)); exact BK166.out⟩, ⟨by repeat (first | (with_reducible first | exact HB.out | apply below_alloc | apply pw_below_drewN | apply below_drew1 | refine below_set ?_ GE166.out) | exact HB.out)⟩⟩
      · replace c7 := Bool.eq_false_iff.mpr c7
        subst c7
        have H1 : (vendmeterref_AccountMay.j0 k true a0_0 a0_1 a0_2 a0_3 a0_4 a0_5 l0_6) = some r := by rw [if_neg (show ¬ (false = true) by decide)] at H; exact H
        clear H
        have H := H1
        clear H1
        have H' := Aside0.mk H
        clear H
        have hcz10_0 : w3.cell? ⟨gb166, 0, none⟩ = some (.int .i64 a0_0) := (blk_cell BK166.out 0).trans rfl
        have hcz10_1 : w3.cell? ⟨gb166, 1, none⟩ = some (.int .i64 a0_1) := (blk_cell BK166.out 1).trans rfl
        have hcz10_2 : w3.cell? ⟨gb166, 2, none⟩ = some (.int .i64 a0_2) := (blk_cell BK166.out 2).trans rfl
        have hcz10_3 : w3.cell? ⟨gb166, 3, none⟩ = some (.int .i64 a0_3) := (blk_cell BK166.out 3).trans rfl
        have hcz10_4 : w3.cell? ⟨gb166, 4, none⟩ = some (.int .i64 a0_4) := (blk_cell BK166.out 4).trans rfl
        have hcz10_5 : w3.cell? ⟨gb166, 5, none⟩ = some (.int .i64 a0_5) := (blk_cell BK166.out 5).trans rfl
        have hcz10_6 : w3.cell? ⟨gb166, 6, none⟩ = some (.slice A0_6 l0_6.length c0_6) := (blk_cell BK166.out 6).trans rfl
        have hfz10_0 := blk_frozen BK166.out 0
        have hfz10_1 := blk_frozen BK166.out 1
        have hfz10_2 := blk_frozen BK166.out 2
        have hfz10_3 := blk_frozen BK166.out 3
        have hfz10_4 := blk_frozen BK166.out 4
        have hfz10_5 := blk_frozen BK166.out 5
        have hfz10_6 := blk_frozen BK166.out 6
        go_wp2_with (first | ((with_reducible refine gate_callee (f := 125) rfl ?_); refine goesL_ (some 5) rfl rfl Try.func125 (by kernel_rfl) rfl #[.slice A0_6 l0_6.length c0_6] rfl (by (try simp only [List.map_toArray, List.map_cons, List.map_nil]); first | done | rfl | (simp only [List.length_drop, List.length_take]; rfl)) ?_; (with_reducible refine (vendmeterref_DebtFault.calls k _ _ l0_6 t167 _ ?side1 ?side2 A4.out).mono ?_); (case side1 => repeat (first | exact (Kd.C_below HR0_6.out HB.out) | (with_reducible refine Kd.C_alloc ?_ _) | (with_reducible refine Kd.C_drewN ?_ _) | (with_reducible refine Kd.C_drew ?_))); (case side2 => exact HC0_6.out); rintro e w' ⟨rfl, ⟨nd, rfl⟩⟩; refine ⟨_, rfl, ?_⟩) | (go_at_call 54; (with_reducible refine (vendmeterref_In.calls a0_0 0 49 false _ A6.out).mono ?_); rintro e w' ⟨rfl, ⟨nd, rfl⟩⟩))
        go_meet
        case rel => exact ⟨_, (true), (by first | rfl | (simp; done) | (simp [*]; done)), H', ⟨by first | omega | exact Nat.le_refl _⟩, ⟨by (with_reducible repeat (first | refine blk_drewN ?_ _ | refine blk_drew ?_ | refine blk_alloc ?_ _)); exact BK166.out⟩, ⟨by repeat (first | (with_reducible first | exact HB.out | apply below_alloc | apply pw_below_drewN | apply below_drew1 | refine below_set ?_ GE166.out) | exact HB.out)⟩⟩
    · rw [if_neg c5] at H
      have c5b0 : (t167 == 0) = false := beq_eq_false_iff_ne.mpr c5
      have c5b1 : (t167 != 0) = true := bne_iff_ne.mpr c5
      (first | rw [c5b0] | (simp only [i64_w, i32_w]; rw [c5b0]) | skip)
      have H' := Aside0.mk H
      clear H
      have hcz11_0 : w3.cell? ⟨gb166, 0, none⟩ = some (.int .i64 a0_0) := (blk_cell BK166.out 0).trans rfl
      have hcz11_1 : w3.cell? ⟨gb166, 1, none⟩ = some (.int .i64 a0_1) := (blk_cell BK166.out 1).trans rfl
      have hcz11_2 : w3.cell? ⟨gb166, 2, none⟩ = some (.int .i64 a0_2) := (blk_cell BK166.out 2).trans rfl
      have hcz11_3 : w3.cell? ⟨gb166, 3, none⟩ = some (.int .i64 a0_3) := (blk_cell BK166.out 3).trans rfl
      have hcz11_4 : w3.cell? ⟨gb166, 4, none⟩ = some (.int .i64 a0_4) := (blk_cell BK166.out 4).trans rfl
      have hcz11_5 : w3.cell? ⟨gb166, 5, none⟩ = some (.int .i64 a0_5) := (blk_cell BK166.out 5).trans rfl
      have hcz11_6 : w3.cell? ⟨gb166, 6, none⟩ = some (.slice A0_6 l0_6.length c0_6) := (blk_cell BK166.out 6).trans rfl
      have hfz11_0 := blk_frozen BK166.out 0
      have hfz11_1 := blk_frozen BK166.out 1
      have hfz11_2 := blk_frozen BK166.out 2
      have hfz11_3 := blk_frozen BK166.out 3
      have hfz11_4 := blk_frozen BK166.out 4
      have hfz11_5 := blk_frozen BK166.out 5
      have hfz11_6 := blk_frozen BK166.out 6
      go_wp2_with (first | ((with_reducible refine gate_callee (f := 125) rfl ?_); refine goesL_ (some 5) rfl rfl Try.func125 (by kernel_rfl) rfl #[.slice A0_6 l0_6.length c0_6] rfl (by (try simp only [List.map_toArray, List.map_cons, List.map_nil]); first | done | rfl | (simp only [List.length_drop, List.length_take]; rfl)) ?_; (with_reducible refine (vendmeterref_DebtFault.calls k _ _ l0_6 t167 _ ?side1 ?side2 A4.out).mono ?_); (case side1 => repeat (first | exact (Kd.C_below HR0_6.out HB.out) | (with_reducible refine Kd.C_alloc ?_ _) | (with_reducible refine Kd.C_drewN ?_ _) | (with_reducible refine Kd.C_drew ?_))); (case side2 => exact HC0_6.out); rintro e w' ⟨rfl, ⟨nd, rfl⟩⟩; refine ⟨_, rfl, ?_⟩))
      go_meet
      case rel => exact ⟨_, (true), (by first | rfl | (simp; done) | (simp [*]; done)), H', ⟨by first | omega | exact Nat.le_refl _⟩, ⟨by (with_reducible repeat (first | refine blk_drewN ?_ _ | refine blk_drew ?_ | refine blk_alloc ?_ _)); exact BK166.out⟩, ⟨by repeat (first | (with_reducible first | exact HB.out | apply below_alloc | apply pw_below_drewN | apply below_drew1 | refine below_set ?_ GE166.out) | exact HB.out)⟩⟩
  case rest =>
    clear HC2
    try clear c1
    try clear p2
    try clear c5
    try clear c5b0
    try clear c5b1
    try clear c7
    try clear hcz10_0
    try clear hcz10_1
    try clear hcz10_2
    try clear hcz10_3
    try clear hcz10_4
    try clear hcz10_5
    try clear hcz10_6
    try clear hcz11_0
    try clear hcz11_1
    try clear hcz11_2
    try clear hcz11_3
    try clear hcz11_4
    try clear hcz11_5
    try clear hcz11_6
    try clear hcz9_0
    try clear hcz9_1
    try clear hcz9_2
    try clear hcz9_3
    try clear hcz9_4
    try clear hcz9_5
    try clear hcz9_6
    try clear hfz10_0
    try clear hfz10_1
    try clear hfz10_2
    try clear hfz10_3
    try clear hfz10_4
    try clear hfz10_5
    try clear hfz10_6
    try clear hfz11_0
    try clear hfz11_1
    try clear hfz11_2
    try clear hfz11_3
    try clear hfz11_4
    try clear hfz11_5
    try clear hfz11_6
    try clear hfz9_0
    try clear hfz9_1
    try clear hfz9_2
    try clear hfz9_3
    try clear hfz9_4
    try clear hfz9_5
    try clear hfz9_6
    obtain ⟨kq, x18_1, rfl, HA, HJ1, BK166, HB⟩ := hcut
    cases kq with
    | zero => exact absurd HA.out (by simp [vendmeterref_AccountMay.j0])
    | succ kj1 =>
      have H := HA.out
      clear HA
      simp only [vendmeterref_AccountMay.j0] at H
      by_cases c12 : x18_1 = true
      · subst c12
        have H1 : (some false) = some r := by rw [if_pos rfl] at H; exact H
        clear H
        have H := H1
        clear H1
        obtain rfl := Option.some.inj H
        go_wp2
        go_ret
        exact ⟨by first | rfl | (simp [errW_none, errW_some] <;> rfl) | (simp [*, errW_none, errW_some] <;> rfl), by repeat (first | (with_reducible first | exact HB.out | apply below_alloc | apply pw_below_drewN | apply below_drew1 | refine below_set ?_ GE166.out) | exact HB.out)⟩
      · replace c12 := Bool.eq_false_iff.mpr c12
        subst c12
        have H1 : ((vendmeterref_In.f a0_2 1 1048576).bind fun t170 => (if t170 = true then ((vendmeterref_In.f a0_3 0 2399).bind fun t171 => (if t171 = true then ((vendmeterref_In.f a0_4 0 10000000).bind fun t172 => (if t172 = true then ((vendmeterref_In.f a0_5 (-1) a0_3).bind fun t173 => (some t173)) else (some false))) else (some false))) else (some false))) = some r := by rw [if_neg (show ¬ (false = true) by decide)] at H; exact H
        clear H
        have H := H1
        clear H1
        replace H := Option.bind_eq_some_iff.mp H
        obtain ⟨t170, A130, H⟩ := H
        replace H : (if t170 = true then ((vendmeterref_In.f a0_3 0 2399).bind fun t171 => (if t171 = true then ((vendmeterref_In.f a0_4 0 10000000).bind fun t172 => (if t172 = true then ((vendmeterref_In.f a0_5 (-1) a0_3).bind fun t173 => (some t173)) else (some false))) else (some false))) else (some false)) = some r := H
        have A13 := Aside0.mk A130
        clear A130
        by_cases c14 : t170 = true
        · subst c14
          have H1 : ((vendmeterref_In.f a0_3 0 2399).bind fun t171 => (if t171 = true then ((vendmeterref_In.f a0_4 0 10000000).bind fun t172 => (if t172 = true then ((vendmeterref_In.f a0_5 (-1) a0_3).bind fun t173 => (some t173)) else (some false))) else (some false))) = some r := by rw [if_pos rfl] at H; exact H
          clear H
          have H := H1
          clear H1
          replace H := Option.bind_eq_some_iff.mp H
          obtain ⟨t171, A150, H⟩ := H
          replace H : (if t171 = true then ((vendmeterref_In.f a0_4 0 10000000).bind fun t172 => (if t172 = true then ((vendmeterref_In.f a0_5 (-1) a0_3).bind fun t173 => (some t173)) else (some false))) else (some false)) = some r := H
          have A15 := Aside0.mk A150
          clear A150
          by_cases c16 : t171 = true
          · subst c16
            have H1 : ((vendmeterref_In.f a0_4 0 10000000).bind fun t172 => (if t172 = true then ((vendmeterref_In.f a0_5 (-1) a0_3).bind fun t173 => (some t173)) else (some false))) = some r := by rw [if_pos rfl] at H; exact H
            clear H
            have H := H1
            clear H1
            replace H := Option.bind_eq_some_iff.mp H
            obtain ⟨t172, A170, H⟩ := H
            replace H : (if t172 = true then ((vendmeterref_In.f a0_5 (-1) a0_3).bind fun t173 => (some t173)) else (some false)) = some r := H
            have A17 := Aside0.mk A170
            clear A170
            by_cases c18 : t172 = true
            · subst c18
              have H1 : ((vendmeterref_In.f a0_5 (-1) a0_3).bind fun t173 => (some t173)) = some r := by rw [if_pos rfl] at H; exact H
              clear H
              have H := H1
              clear H1
              replace H := Option.bind_eq_some_iff.mp H
              obtain ⟨t173, A190, H⟩ := H
              replace H : (some t173) = some r := H
              have A19 := Aside0.mk A190
              clear A190
              obtain rfl := Option.some.inj H
              have hcz20_0 : wc.cell? ⟨gb166, 0, none⟩ = some (.int .i64 a0_0) := (blk_cell BK166.out 0).trans rfl
              have hcz20_1 : wc.cell? ⟨gb166, 1, none⟩ = some (.int .i64 a0_1) := (blk_cell BK166.out 1).trans rfl
              have hcz20_2 : wc.cell? ⟨gb166, 2, none⟩ = some (.int .i64 a0_2) := (blk_cell BK166.out 2).trans rfl
              have hcz20_3 : wc.cell? ⟨gb166, 3, none⟩ = some (.int .i64 a0_3) := (blk_cell BK166.out 3).trans rfl
              have hcz20_4 : wc.cell? ⟨gb166, 4, none⟩ = some (.int .i64 a0_4) := (blk_cell BK166.out 4).trans rfl
              have hcz20_5 : wc.cell? ⟨gb166, 5, none⟩ = some (.int .i64 a0_5) := (blk_cell BK166.out 5).trans rfl
              have hcz20_6 : wc.cell? ⟨gb166, 6, none⟩ = some (.slice A0_6 l0_6.length c0_6) := (blk_cell BK166.out 6).trans rfl
              have hfz20_0 := blk_frozen BK166.out 0
              have hfz20_1 := blk_frozen BK166.out 1
              have hfz20_2 := blk_frozen BK166.out 2
              have hfz20_3 := blk_frozen BK166.out 3
              have hfz20_4 := blk_frozen BK166.out 4
              have hfz20_5 := blk_frozen BK166.out 5
              have hfz20_6 := blk_frozen BK166.out 6
              go_wp2_with (first | ((with_reducible refine gate_callee (f := 54) rfl ?_); refine goesL_ (some 21) rfl rfl Try.func54 (by kernel_rfl) rfl #[.int .i64 a0_2, .int .i64 1, .int .i64 1048576] rfl (by (try simp only [List.map_toArray, List.map_cons, List.map_nil]); first | done | rfl | (simp only [List.length_drop, List.length_take]; rfl)) ?_; (with_reducible refine (vendmeterref_In.calls a0_2 1 1048576 true _ A13.out).mono ?_); rintro e w' ⟨rfl, ⟨nd, rfl⟩⟩; refine ⟨_, rfl, ?_⟩) | (go_at_call 54; (with_reducible refine (vendmeterref_In.calls a0_3 0 2399 true _ A15.out).mono ?_); rintro e w' ⟨rfl, ⟨nd, rfl⟩⟩) | (go_at_call 54; (with_reducible refine (vendmeterref_In.calls a0_4 0 10000000 true _ A17.out).mono ?_); rintro e w' ⟨rfl, ⟨nd, rfl⟩⟩) | ((with_reducible refine gate_callee (f := 54) rfl ?_); refine goesL_ (some 39) rfl rfl Try.func54 (by kernel_rfl) rfl #[.int .i64 a0_5, .int .i64 (-1), .int .i64 a0_3] rfl (by (try simp only [List.map_toArray, List.map_cons, List.map_nil]); first | done | rfl | (simp only [List.length_drop, List.length_take]; rfl)) ?_; (with_reducible refine (vendmeterref_In.calls a0_5 (-1) a0_3 t173 _ A19.out).mono ?_); rintro e w' ⟨rfl, ⟨nd, rfl⟩⟩; refine ⟨_, rfl, ?_⟩))
              go_ret
              exact ⟨by first | rfl | (simp [errW_none, errW_some] <;> rfl) | (simp [*, errW_none, errW_some] <;> rfl), by repeat (first | (with_reducible first | exact HB.out | apply below_alloc | apply pw_below_drewN | apply below_drew1 | refine below_set ?_ GE166.out) | exact HB.out)⟩
            · replace c18 := Bool.eq_false_iff.mpr c18
              subst c18
              have H1 : (some false) = some r := by rw [if_neg (show ¬ (false = true) by decide)] at H; exact H
              clear H
              have H := H1
              clear H1
              obtain rfl := Option.some.inj H
              have hcz21_0 : wc.cell? ⟨gb166, 0, none⟩ = some (.int .i64 a0_0) := (blk_cell BK166.out 0).trans rfl
              have hcz21_1 : wc.cell? ⟨gb166, 1, none⟩ = some (.int .i64 a0_1) := (blk_cell BK166.out 1).trans rfl
              have hcz21_2 : wc.cell? ⟨gb166, 2, none⟩ = some (.int .i64 a0_2) := (blk_cell BK166.out 2).trans rfl
              have hcz21_3 : wc.cell? ⟨gb166, 3, none⟩ = some (.int .i64 a0_3) := (blk_cell BK166.out 3).trans rfl
              have hcz21_4 : wc.cell? ⟨gb166, 4, none⟩ = some (.int .i64 a0_4) := (blk_cell BK166.out 4).trans rfl
              have hcz21_5 : wc.cell? ⟨gb166, 5, none⟩ = some (.int .i64 a0_5) := (blk_cell BK166.out 5).trans rfl
              have hcz21_6 : wc.cell? ⟨gb166, 6, none⟩ = some (.slice A0_6 l0_6.length c0_6) := (blk_cell BK166.out 6).trans rfl
              have hfz21_0 := blk_frozen BK166.out 0
              have hfz21_1 := blk_frozen BK166.out 1
              have hfz21_2 := blk_frozen BK166.out 2
              have hfz21_3 := blk_frozen BK166.out 3
              have hfz21_4 := blk_frozen BK166.out 4
              have hfz21_5 := blk_frozen BK166.out 5
              have hfz21_6 := blk_frozen BK166.out 6
              go_wp2_with (first | ((with_reducible refine gate_callee (f := 54) rfl ?_); refine goesL_ (some 21) rfl rfl Try.func54 (by kernel_rfl) rfl #[.int .i64 a0_2, .int .i64 1, .int .i64 1048576] rfl (by (try simp only [List.map_toArray, List.map_cons, List.map_nil]); first | done | rfl | (simp only [List.length_drop, List.length_take]; rfl)) ?_; (with_reducible refine (vendmeterref_In.calls a0_2 1 1048576 true _ A13.out).mono ?_); rintro e w' ⟨rfl, ⟨nd, rfl⟩⟩; refine ⟨_, rfl, ?_⟩) | (go_at_call 54; (with_reducible refine (vendmeterref_In.calls a0_3 0 2399 true _ A15.out).mono ?_); rintro e w' ⟨rfl, ⟨nd, rfl⟩⟩) | (go_at_call 54; (with_reducible refine (vendmeterref_In.calls a0_4 0 10000000 false _ A17.out).mono ?_); rintro e w' ⟨rfl, ⟨nd, rfl⟩⟩))
              go_ret
              exact ⟨by first | rfl | (simp [errW_none, errW_some] <;> rfl) | (simp [*, errW_none, errW_some] <;> rfl), by repeat (first | (with_reducible first | exact HB.out | apply below_alloc | apply pw_below_drewN | apply below_drew1 | refine below_set ?_ GE166.out) | exact HB.out)⟩
          · replace c16 := Bool.eq_false_iff.mpr c16
            subst c16
            have H1 : (some false) = some r := by rw [if_neg (show ¬ (false = true) by decide)] at H; exact H
            clear H
            have H := H1
            clear H1
            obtain rfl := Option.some.inj H
            have hcz22_0 : wc.cell? ⟨gb166, 0, none⟩ = some (.int .i64 a0_0) := (blk_cell BK166.out 0).trans rfl
            have hcz22_1 : wc.cell? ⟨gb166, 1, none⟩ = some (.int .i64 a0_1) := (blk_cell BK166.out 1).trans rfl
            have hcz22_2 : wc.cell? ⟨gb166, 2, none⟩ = some (.int .i64 a0_2) := (blk_cell BK166.out 2).trans rfl
            have hcz22_3 : wc.cell? ⟨gb166, 3, none⟩ = some (.int .i64 a0_3) := (blk_cell BK166.out 3).trans rfl
            have hcz22_4 : wc.cell? ⟨gb166, 4, none⟩ = some (.int .i64 a0_4) := (blk_cell BK166.out 4).trans rfl
            have hcz22_5 : wc.cell? ⟨gb166, 5, none⟩ = some (.int .i64 a0_5) := (blk_cell BK166.out 5).trans rfl
            have hcz22_6 : wc.cell? ⟨gb166, 6, none⟩ = some (.slice A0_6 l0_6.length c0_6) := (blk_cell BK166.out 6).trans rfl
            have hfz22_0 := blk_frozen BK166.out 0
            have hfz22_1 := blk_frozen BK166.out 1
            have hfz22_2 := blk_frozen BK166.out 2
            have hfz22_3 := blk_frozen BK166.out 3
            have hfz22_4 := blk_frozen BK166.out 4
            have hfz22_5 := blk_frozen BK166.out 5
            have hfz22_6 := blk_frozen BK166.out 6
            go_wp2_with (first | ((with_reducible refine gate_callee (f := 54) rfl ?_); refine goesL_ (some 21) rfl rfl Try.func54 (by kernel_rfl) rfl #[.int .i64 a0_2, .int .i64 1, .int .i64 1048576] rfl (by (try simp only [List.map_toArray, List.map_cons, List.map_nil]); first | done | rfl | (simp only [List.length_drop, List.length_take]; rfl)) ?_; (with_reducible refine (vendmeterref_In.calls a0_2 1 1048576 true _ A13.out).mono ?_); rintro e w' ⟨rfl, ⟨nd, rfl⟩⟩; refine ⟨_, rfl, ?_⟩) | (go_at_call 54; (with_reducible refine (vendmeterref_In.calls a0_3 0 2399 false _ A15.out).mono ?_); rintro e w' ⟨rfl, ⟨nd, rfl⟩⟩))
            go_ret
            exact ⟨by first | rfl | (simp [errW_none, errW_some] <;> rfl) | (simp [*, errW_none, errW_some] <;> rfl), by repeat (first | (with_reducible first | exact HB.out | apply below_alloc | apply pw_below_drewN | apply below_drew1 | refine below_set ?_ GE166.out) | exact HB.out)⟩
        · replace c14 := Bool.eq_false_iff.mpr c14
          subst c14
          have H1 : (some false) = some r := by rw [if_neg (show ¬ (false = true) by decide)] at H; exact H
          clear H
          have H := H1
          clear H1
          obtain rfl := Option.some.inj H
          have hcz23_0 : wc.cell? ⟨gb166, 0, none⟩ = some (.int .i64 a0_0) := (blk_cell BK166.out 0).trans rfl
          have hcz23_1 : wc.cell? ⟨gb166, 1, none⟩ = some (.int .i64 a0_1) := (blk_cell BK166.out 1).trans rfl
          have hcz23_2 : wc.cell? ⟨gb166, 2, none⟩ = some (.int .i64 a0_2) := (blk_cell BK166.out 2).trans rfl
          have hcz23_3 : wc.cell? ⟨gb166, 3, none⟩ = some (.int .i64 a0_3) := (blk_cell BK166.out 3).trans rfl
          have hcz23_4 : wc.cell? ⟨gb166, 4, none⟩ = some (.int .i64 a0_4) := (blk_cell BK166.out 4).trans rfl
          have hcz23_5 : wc.cell? ⟨gb166, 5, none⟩ = some (.int .i64 a0_5) := (blk_cell BK166.out 5).trans rfl
          have hcz23_6 : wc.cell? ⟨gb166, 6, none⟩ = some (.slice A0_6 l0_6.length c0_6) := (blk_cell BK166.out 6).trans rfl
          have hfz23_0 := blk_frozen BK166.out 0
          have hfz23_1 := blk_frozen BK166.out 1
          have hfz23_2 := blk_frozen BK166.out 2
          have hfz23_3 := blk_frozen BK166.out 3
          have hfz23_4 := blk_frozen BK166.out 4
          have hfz23_5 := blk_frozen BK166.out 5
          have hfz23_6 := blk_frozen BK166.out 6
          go_wp2_with (first | ((with_reducible refine gate_callee (f := 54) rfl ?_); refine goesL_ (some 21) rfl rfl Try.func54 (by kernel_rfl) rfl #[.int .i64 a0_2, .int .i64 1, .int .i64 1048576] rfl (by (try simp only [List.map_toArray, List.map_cons, List.map_nil]); first | done | rfl | (simp only [List.length_drop, List.length_take]; rfl)) ?_; (with_reducible refine (vendmeterref_In.calls a0_2 1 1048576 false _ A13.out).mono ?_); rintro e w' ⟨rfl, ⟨nd, rfl⟩⟩; refine ⟨_, rfl, ?_⟩))
          go_ret
          exact ⟨by first | rfl | (simp [errW_none, errW_some] <;> rfl) | (simp [*, errW_none, errW_some] <;> rfl), by repeat (first | (with_reducible first | exact HB.out | apply below_alloc | apply pw_below_drewN | apply below_drew1 | refine below_set ?_ GE166.out) | exact HB.out)⟩

/-! ### vendmeterref_AccountCopy: function 79 -/
def vendmeterref_AccountCopy.l0 : Nat → List (S76) → Int → Int → Int → Int → Int → Int → Int → List (S76) → Option (Int × Int × Int × Int × Int × Int × (List (S76)))
  | 0, _, _, _, _, _, _, _, _, _ => none
  | k + 1, x3, x4, x175000, x175001, x175002, x175003, x175004, x175005, x175006 => if x4 < (x175006.length : Int) then (if 0 ≤ x4 then (if x3.length < 8796093022208 then (vendmeterref_AccountCopy.l0 k (x3 ++ [(⟨(rd_T76 x175006 x4).f0, (rd_T76 x175006 x4).f1⟩ : S76)]) (wrap64 (x4 + 1)) x175000 x175001 x175002 x175003 x175004 x175005 x175006) else (none)) else (none)) else (some (x175000, x175001, x175002, x175003, x175004, x175005, x3))
def vendmeterref_AccountCopy.f (k : Nat) (a0_0 : Int) (a0_1 : Int) (a0_2 : Int) (a0_3 : Int) (a0_4 : Int) (a0_5 : Int) (l0_6 : List (S76)) : Option (Int × Int × Int × Int × Int × Int × (List (S76))) := vendmeterref_AccountCopy.l0 k ([] : List (S76)) 0 a0_0 a0_1 a0_2 a0_3 a0_4 a0_5 l0_6
theorem vendmeterref_AccountCopy.mono_l : ∀ k, (∀ y0 y1 y2 y3 y4 y5 y6 y7 y8, LeO (vendmeterref_AccountCopy.l0 k y0 y1 y2 y3 y4 y5 y6 y7 y8) (vendmeterref_AccountCopy.l0 (k + 1) y0 y1 y2 y3 y4 y5 y6 y7 y8))
  | 0 => fun _ _ _ _ _ _ _ _ _ r h => by simp [vendmeterref_AccountCopy.l0] at h
  | k + 1 => by
    have ih0 := vendmeterref_AccountCopy.mono_l k
    · intro y0 y1 y2 y3 y4 y5 y6 y7 y8
      unfold vendmeterref_AccountCopy.l0
      repeat' first
      | (with_reducible exact ih0 _ _ _ _ _ _ _ _ _)
      | (with_reducible exact LeO.refl _)
      | (with_reducible exact LeO.none _)
      | (with_reducible refine LeO.ite ?_ ?_)
      | (with_reducible refine LeO.bind ?_ (fun _ => ?_))
      | exact ih0 _ _ _ _ _ _ _ _ _
      | exact LeO.none _
      | refine LeO.ite ?_ ?_
      | refine LeO.bind ?_ (fun _ => ?_)
theorem vendmeterref_AccountCopy.mono : ∀ a0 a1 a2 a3 a4 a5 a6 k, LeO (vendmeterref_AccountCopy.f k a0 a1 a2 a3 a4 a5 a6) (vendmeterref_AccountCopy.f (k + 1) a0 a1 a2 a3 a4 a5 a6) := by
  intro a0 a1 a2 a3 a4 a5 a6 k
  have ih0 := vendmeterref_AccountCopy.mono_l k
  unfold vendmeterref_AccountCopy.f
  repeat' first
      | (with_reducible exact ih0 _ _ _ _ _ _ _ _ _)
      | (with_reducible exact LeO.refl _)
      | (with_reducible exact LeO.none _)
      | (with_reducible refine LeO.ite ?_ ?_)
      | (with_reducible refine LeO.bind ?_ (fun _ => ?_))
      | exact ih0 _ _ _ _ _ _ _ _ _
      | exact LeO.none _
      | refine LeO.ite ?_ ?_
      | refine LeO.bind ?_ (fun _ => ?_)
set_option maxHeartbeats 8000000 in
set_option maxRecDepth 100000 in
theorem vendmeterref_AccountCopy.calls (k : Nat) (a0_0 : Int) (a0_1 : Int) (a0_2 : Int) (a0_3 : Int) (a0_4 : Int) (a0_5 : Int) (A0_6 : Option Addr) (c0_6 : Nat) (l0_6 : List (S76)) (r1 : Int) (r2 : Int) (r3 : Int) (r4 : Int) (r5 : Int) (r6 : Int) (r7 : List (S76)) (w : World) (hr0_6 : Kd.C k76 w A0_6 l0_6.length l0_6) (hc0_6 : l0_6.length ≤ c0_6) (h : vendmeterref_AccountCopy.f k a0_0 a0_1 a0_2 a0_3 a0_4 a0_5 l0_6 = some (r1, r2, r3, r4, r5, r6, r7)) :
    Calls Try.prog 79 #[.agg #[.int .i64 a0_0, .int .i64 a0_1, .int .i64 a0_2, .int .i64 a0_3, .int .i64 a0_4, .int .i64 a0_5, .slice A0_6 l0_6.length c0_6]] w fun e w' => ∃ v6_ : Value, e = .returned (.agg #[.int .i64 r1, .int .i64 r2, .int .i64 r3, .int .i64 r4, .int .i64 r5, .int .i64 r6, v6_]) ∧ Kd.R k76 76 w' w.heap.size (fun _ => True) v6_ r7 ∧ Below w.heap.size w w' := by
  have hu60 := Try.underlying60
  have hu76 := Try.underlying76
  have HR0_6 := Aside0.mk hr0_6
  have HC0_6 := Aside0.mk hc0_6
  clear hr0_6 hc0_6
  have HB := Aside0.mk (Below.refl w.heap.size w)
  have H : (vendmeterref_AccountCopy.l0 k ([] : List (S76)) 0 a0_0 a0_1 a0_2 a0_3 a0_4 a0_5 l0_6) = some (r1, r2, r3, r4, r5, r6, r7) := h
  clear h
  have H' := Aside0.mk H
  clear H
  go_enter Try.func79, Try.ntmps79
  go_wp2_with (first | ((with_reducible refine gate_dst (N := 1) rfl ?_); refine box_event ?hg (N := 1) ?hd (cs := #[.int .i64 a0_0, .int .i64 a0_1, .int .i64 a0_2, .int .i64 a0_3, .int .i64 a0_4, .int .i64 a0_5, .slice A0_6 l0_6.length c0_6]) (t := 60) ?hr ?_; (case hd => rfl); (case hg => rfl); (case hr => first | (go_simp; done) | (go_simp; rfl)); intro gb174 hg w2 hbox hb; have n0_ := Aside0.mk (below_step (by repeat (first | (with_reducible first | exact HB.out | apply below_alloc | apply pw_below_drewN | apply below_drew1) | exact HB.out)) hb); have n1_ := Aside0.mk (hbox); have n2_ := Aside0.mk ((by rw [hg]; exact (below_size (by repeat (first | (with_reducible first | exact HB.out | apply below_alloc | apply pw_below_drewN | apply below_drew1) | exact HB.out))) : w.heap.size ≤ gb174)); have n3_ := Aside0.mk ((by rw [hg]; exact (below_size (by repeat (first | (with_reducible first | exact HB.out | apply below_alloc | apply pw_below_drewN | apply below_drew1) | exact HB.out))) : w.heap.size ≤ gb174)); clear HB; have HB := n0_; have BK174 := n1_; have GW174 := n2_; have GE174 := n3_; clear n0_ n1_ n2_ n3_; clear hb hbox hg) | ((with_reducible refine gate_dst (N := 2) rfl ?_); refine box_event ?hg (N := 2) ?hd (cs := #[.int .i64 0, .int .i64 0, .int .i64 0, .int .i64 0, .int .i64 0, .int .i64 0, .slice none 0 0]) (t := 60) ?hr ?_; (case hd => rfl); (case hg => rfl); (case hr => first | (go_simp; done) | (go_simp; rfl)); intro gb175 hg w3 hbox hb; have n0_ := Aside0.mk (blk_below (g := gb174) (o := .cells #[.int .i64 a0_0, .int .i64 a0_1, .int .i64 a0_2, .int .i64 a0_3, .int .i64 a0_4, .int .i64 a0_5, .slice A0_6 l0_6.length c0_6] 60 (0, 0)) (by (with_reducible repeat (first | refine blk_drewN ?_ _ | refine blk_drew ?_ | refine blk_alloc ?_ _)); exact BK174.out) hb); have n1_ := Aside0.mk (below_step (by repeat (first | (with_reducible first | exact HB.out | apply below_alloc | apply pw_below_drewN | apply below_drew1 | refine below_set ?_ GE174.out) | exact HB.out)) hb); have n2_ := Aside0.mk (hbox); have n3_ := Aside0.mk ((by rw [hg]; exact (below_size (by repeat (first | (with_reducible first | exact HB.out | apply below_alloc | apply pw_below_drewN | apply below_drew1 | refine below_set ?_ GE174.out) | exact HB.out))) : w.heap.size ≤ gb175)); have n4_ := Aside0.mk ((by rw [hg]; exact (below_size (by repeat (first | (with_reducible first | exact HB.out | apply below_alloc | apply pw_below_drewN | apply below_drew1 | refine below_set ?_ GE174.out) | exact HB.out))) : w.heap.size ≤ gb175)); have n5_ := Aside0.mk ((by rw [hg]; exact Nat.ne_of_lt (blk_lt (g := gb174) (o := .cells #[.int .i64 a0_0, .int .i64 a0_1, .int .i64 a0_2, .int .i64 a0_3, .int .i64 a0_4, .int .i64 a0_5, .slice A0_6 l0_6.length c0_6] 60 (0, 0)) (by (with_reducible repeat (first | refine blk_drewN ?_ _ | refine blk_drew ?_ | refine blk_alloc ?_ _)); exact BK174.out)) : gb174 ≠ gb175)); have n6_ := Aside0.mk ((by rw [hg]; exact Nat.ne_of_gt (blk_lt (g := gb174) (o := .cells #[.int .i64 a0_0, .int .i64 a0_1, .int .i64 a0_2, .int .i64 a0_3, .int .i64 a0_4, .int .i64 a0_5, .slice A0_6 l0_6.length c0_6] 60 (0, 0)) (by (with_reducible repeat (first | refine blk_drewN ?_ _ | refine blk_drew ?_ | refine blk_alloc ?_ _)); exact BK174.out)) : gb175 ≠ gb174)); clear BK174; clear HB; have BK174 := n0_; have HB := n1_; have BK175 := n2_; have GW175 := n3_; have GE175 := n4_; have NB174_175 := n5_; have NB175_174 := n6_; clear n0_ n1_ n2_ n3_ n4_ n5_ n6_; clear hb hbox hg))
  go_loopg [3, 4] k (fun kq v3 v4 w' => ∃ (x3_1 : List (S76)) (x4_1 : Int), v4 = .int .i64 x4_1 ∧ Aside0 (vendmeterref_AccountCopy.l0 kq x3_1 x4_1 a0_0 a0_1 a0_2 a0_3 a0_4 a0_5 l0_6 = some (r1, r2, r3, r4, r5, r6, r7)) ∧ Aside0 (kq ≤ k) ∧ Aside0 (Kd.R k76 76 w' w.heap.size (fun _ => True) v3 x3_1) ∧ Aside0 (w'.heap[gb174]? = some (.cells #[.int .i64 a0_0, .int .i64 a0_1, .int .i64 a0_2, .int .i64 a0_3, .int .i64 a0_4, .int .i64 a0_5, (.slice A0_6 l0_6.length c0_6)] 60 (0, 0))) ∧ Aside0 (w'.heap[gb175]? = some (.cells #[.int .i64 0, .int .i64 0, .int .i64 0, .int .i64 0, .int .i64 0, .int .i64 0, (.slice none 0 0)] 60 (0, 0))) ∧ Aside0 (Below w.heap.size w w'))
  case atStart => exact ⟨(([] : List (S76))), (0), (by first | rfl | (simp; done) | (simp [*]; done)), H', ⟨Nat.le_refl _⟩, ⟨by first | exact Kd.R_nil _ _ _ _ _ | exact Kd.N_nil _ _ _ _ _ | exact Kd.V_nil _ _ _ _ _ | exact Kd.Q_nil _ _ _ _ _ | exact Kd.S_nil _ _ _ _ _⟩, ⟨by (with_reducible repeat (first | refine blk_drewN ?_ _ | refine blk_drew ?_ | refine blk_alloc ?_ _)); exact BK174.out⟩, ⟨by (with_reducible repeat (first | refine blk_drewN ?_ _ | refine blk_drew ?_ | refine blk_alloc ?_ _)); exact BK175.out⟩, ⟨by repeat (first | (with_reducible first | exact HB.out | apply below_alloc | apply pw_below_drewN | apply below_drew1 | refine below_set ?_ GE174.out | refine below_set ?_ GE175.out) | exact HB.out)⟩⟩
  case round =>
    clear H'
    try clear p2
    obtain ⟨x3_1, x4_1, rfl, HA, HK1, HO_3, BK174, BK175, HB⟩ := hrel
    cases gk with
    | zero => exact absurd HA.out (by simp [vendmeterref_AccountCopy.l0])
    | succ k1 =>
      have H := HA.out
      clear HA
      simp only [vendmeterref_AccountCopy.l0] at H
      by_cases c4 : x4_1 < (l0_6.length : Int)
      · rw [if_pos c4] at H
        have c4b0 : decide (x4_1 < (l0_6.length : Int)) = true := decide_eq_true c4
        clear c4
        by_cases c5 : 0 ≤ x4_1
        · rw [if_pos c5] at H
          have c5b0 : decide (0 ≤ x4_1) = true := decide_eq_true c5
          clear c5
          by_cases c6 : x3_1.length < 8796093022208
          · rw [if_pos c6] at H
            have LMc6 := Aside0.mk c6
            clear c6
            obtain ⟨y177, hy177⟩ : ∃ y_ : List (S76), y_ = (x3_1 ++ [(⟨(rd_T76 l0_6 x4_1).f0, (rd_T76 l0_6 x4_1).f1⟩ : S76)]) := ⟨_, rfl⟩
            replace H : (vendmeterref_AccountCopy.l0 k1 y177 (wrap64 (x4_1 + 1)) a0_0 a0_1 a0_2 a0_3 a0_4 a0_5 l0_6) = some (r1, r2, r3, r4, r5, r6, r7) := by first | (rw [hy177]; with_reducible exact H) | (have H2_ := (Option.bind_some _ _).symm.trans H; rw [hy177]; with_reducible exact H2_) | (have H2_ := (Option.bind_some _ _).symm.trans H; with_reducible exact H2_) | with_reducible exact H | (rw [hy177]; exact H) | exact H
            have Ny177 := Aside0.mk hy177
            clear hy177
            have H' := Aside0.mk H
            clear H
            have hnb7 := NB174_175.out
            have hnc7 := NB175_174.out
            have hcz8_0 : wr.cell? ⟨gb174, 0, none⟩ = some (.int .i64 a0_0) := (blk_cell BK174.out 0).trans rfl
            have hcz8_1 : wr.cell? ⟨gb174, 1, none⟩ = some (.int .i64 a0_1) := (blk_cell BK174.out 1).trans rfl
            have hcz8_2 : wr.cell? ⟨gb174, 2, none⟩ = some (.int .i64 a0_2) := (blk_cell BK174.out 2).trans rfl
            have hcz8_3 : wr.cell? ⟨gb174, 3, none⟩ = some (.int .i64 a0_3) := (blk_cell BK174.out 3).trans rfl
            have hcz8_4 : wr.cell? ⟨gb174, 4, none⟩ = some (.int .i64 a0_4) := (blk_cell BK174.out 4).trans rfl
            have hcz8_5 : wr.cell? ⟨gb174, 5, none⟩ = some (.int .i64 a0_5) := (blk_cell BK174.out 5).trans rfl
            have hcz8_6 : wr.cell? ⟨gb174, 6, none⟩ = some (.slice A0_6 l0_6.length c0_6) := (blk_cell BK174.out 6).trans rfl
            have hfz8_0 := blk_frozen BK174.out 0
            have hfz8_1 := blk_frozen BK174.out 1
            have hfz8_2 := blk_frozen BK174.out 2
            have hfz8_3 := blk_frozen BK174.out 3
            have hfz8_4 := blk_frozen BK174.out 4
            have hfz8_5 := blk_frozen BK174.out 5
            have hfz8_6 := blk_frozen BK174.out 6
            have p176 : 0 ≤ (x4_1 : Int) := of_decide_eq_true (by first | (with_reducible assumption) | assumption)
            have q176 : x4_1 < (l0_6.length : Int) := of_decide_eq_true (by first | (with_reducible assumption) | assumption)
            obtain ⟨ad176, e176, hx176_0, hx176_1⟩ := at_T76 HR0_6.out x4_1 p176 q176
            cases e176
            replace hx176_0 := (HB.out.cell (World.block_lt_of_cell? w _ hx176_0)).trans hx176_0
            replace hx176_1 := (HB.out.cell (World.block_lt_of_cell? w _ hx176_1)).trans hx176_1
            replace p176 := eq_true p176
            replace q176 := eq_true q176
            go_wp2_with (first | ((with_reducible refine gate_builtin (b := .append) (xs := #[.tmp 12, .tmp 18]) rfl ?_); at_builtin; refine Kd.R_append k76 (w0 := w) w.heap.size rfl (.tmp 12) (.tmp 18) 58 76 (.agg #[(.int .i64 0), (.int .i64 0)]) 16 rfl Try.underlying58 info76 rfl (by decide) (by omega) u3 x3_1 (⟨(rd_T76 l0_6 x4_1).f0, (rd_T76 l0_6 x4_1).f1⟩ : S76) [.int .i64 ((rd_T76 l0_6 x4_1).f0), .int .i64 ((rd_T76 l0_6 x4_1).f1)] (fun _ => True) (fun _ => False) rfl rfl ?aP (fun _ hk => hk.elim) ?aF ?aO ?aB ?aS ?aL ?_; (case aP => exact k76_mkM _ _ _ (⟨(rd_T76 l0_6 x4_1).f0, (rd_T76 l0_6 x4_1).f1⟩ : S76)); (case aB => exact (by repeat (first | (with_reducible first | exact HB.out | apply below_alloc | apply pw_below_drewN | apply below_drew1 | refine below_set ?_ GE174.out | refine below_set ?_ GE175.out) | exact HB.out))); (case aF => exact (fun _ _ => trivial)); (case aO => exact (by (with_reducible repeat (first | apply Kd.R_alloc | apply Kd.R_drewN | apply Kd.R_drew)); exact HO_3.out)); (case aS => exact (below_size (by repeat (first | (with_reducible first | exact HB.out | apply below_alloc | apply pw_below_drewN | apply below_drew1 | refine below_set ?_ GE174.out | refine below_set ?_ GE175.out) | exact HB.out)))); (case aL => have := LMc6.out; omega); intro v178 w9 ho hb hg hat; rw [← Ny177.out] at ho; have n0_ := Aside0.mk (blk_grown (g := gb174) (o := .cells #[.int .i64 a0_0, .int .i64 a0_1, .int .i64 a0_2, .int .i64 a0_3, .int .i64 a0_4, .int .i64 a0_5, .slice (some ad176) l0_6.length c0_6] 60 (0, 0)) (by (with_reducible repeat (first | refine blk_drewN ?_ _ | refine blk_drew ?_ | refine blk_alloc ?_ _)); exact BK174.out) hg (Kd.R_ne HO_3.out BK174.out (by decide))); have n1_ := Aside0.mk (blk_grown (g := gb175) (o := .cells #[.int .i64 0, .int .i64 0, .int .i64 0, .int .i64 0, .int .i64 0, .int .i64 0, .slice none 0 0] 60 (0, 0)) (by (with_reducible repeat (first | refine blk_drewN ?_ _ | refine blk_drew ?_ | refine blk_alloc ?_ _)); exact BK175.out) hg (Kd.R_ne HO_3.out BK175.out (by decide))); have n2_ := Aside0.mk (hb); have n3_ := Aside0.mk (ho); clear BK174; clear BK175; clear HB; clear HO_3; have BK174 := n0_; have BK175 := n1_; have HB := n2_; have HO179 := n3_; clear n0_ n1_ n2_ n3_; clear ho hb hg hat))
            go_roundg k1
            case measure => have := HK1.out; omega
            case rel => exact ⟨(y177), (wrap64 (x4_1 + 1)), (by first | rfl | (simp; done) | (simp [*]; done)), H', ⟨by have := HK1.out; omega⟩, ⟨by (with_reducible repeat (first | apply Kd.R_alloc | apply Kd.R_drewN | apply Kd.R_drew)); exact HO179.out⟩, ⟨by (with_reducible repeat (first | refine blk_drewN ?_ _ | refine blk_drew ?_ | refine blk_alloc ?_ _)); exact BK174.out⟩, ⟨by (with_reducible repeat (first | refine blk_drewN ?_ _ | refine blk_drew ?_ | refine blk_alloc ?_ _)); exact BK175.out⟩, ⟨by repeat (first | (with_reducible first | exact HB.out | apply below_alloc | apply pw_below_drewN | apply below_drew1 | refine below_set ?_ GE174.out | refine below_set ?_ GE175.out) | exact HB.out)⟩⟩
          · rw [if_neg c6] at H
            exact absurd H (by simp)
        · rw [if_neg c5] at H
          exact absurd H (by simp)
      · rw [if_neg c4] at H
        have c4b0 : decide (x4_1 < (l0_6.length : Int)) = false := decide_eq_false c4
        clear c4
        simp only [Option.some.injEq, Prod.mk.injEq] at H
        obtain ⟨rfl, rfl, rfl, rfl, rfl, rfl, rfl⟩ := H
        have hnb10 := NB174_175.out
        have hnc10 := NB175_174.out
        have hcz11_0 : wr.cell? ⟨gb174, 0, none⟩ = some (.int .i64 a0_0) := (blk_cell BK174.out 0).trans rfl
        have hcz11_1 : wr.cell? ⟨gb174, 1, none⟩ = some (.int .i64 a0_1) := (blk_cell BK174.out 1).trans rfl
        have hcz11_2 : wr.cell? ⟨gb174, 2, none⟩ = some (.int .i64 a0_2) := (blk_cell BK174.out 2).trans rfl
        have hcz11_3 : wr.cell? ⟨gb174, 3, none⟩ = some (.int .i64 a0_3) := (blk_cell BK174.out 3).trans rfl
        have hcz11_4 : wr.cell? ⟨gb174, 4, none⟩ = some (.int .i64 a0_4) := (blk_cell BK174.out 4).trans rfl
        have hcz11_5 : wr.cell? ⟨gb174, 5, none⟩ = some (.int .i64 a0_5) := (blk_cell BK174.out 5).trans rfl
        have hcz11_6 : wr.cell? ⟨gb174, 6, none⟩ = some (.slice A0_6 l0_6.length c0_6) := (blk_cell BK174.out 6).trans rfl
        have hfz11_0 := blk_frozen BK174.out 0
        have hfz11_1 := blk_frozen BK174.out 1
        have hfz11_2 := blk_frozen BK174.out 2
        have hfz11_3 := blk_frozen BK174.out 3
        have hfz11_4 := blk_frozen BK174.out 4
        have hfz11_5 := blk_frozen BK174.out 5
        have hfz11_6 := blk_frozen BK174.out 6
        obtain ⟨Ao12, co12, eo12⟩ := Kd.R_slice HO_3.out
        subst eo12
        have hcz13_0 : wr.cell? ⟨gb175, 0, none⟩ = some (.int .i64 0) := (blk_cell BK175.out 0).trans rfl
        have hcz13_1 : wr.cell? ⟨gb175, 1, none⟩ = some (.int .i64 0) := (blk_cell BK175.out 1).trans rfl
        have hcz13_2 : wr.cell? ⟨gb175, 2, none⟩ = some (.int .i64 0) := (blk_cell BK175.out 2).trans rfl
        have hcz13_3 : wr.cell? ⟨gb175, 3, none⟩ = some (.int .i64 0) := (blk_cell BK175.out 3).trans rfl
        have hcz13_4 : wr.cell? ⟨gb175, 4, none⟩ = some (.int .i64 0) := (blk_cell BK175.out 4).trans rfl
        have hcz13_5 : wr.cell? ⟨gb175, 5, none⟩ = some (.int .i64 0) := (blk_cell BK175.out 5).trans rfl
        have hcz13_6 : wr.cell? ⟨gb175, 6, none⟩ = some (.slice none 0 0) := (blk_cell BK175.out 6).trans rfl
        have hfz13_0 := blk_frozen BK175.out 0
        have hfz13_1 := blk_frozen BK175.out 1
        have hfz13_2 := blk_frozen BK175.out 2
        have hfz13_3 := blk_frozen BK175.out 3
        have hfz13_4 := blk_frozen BK175.out 4
        have hfz13_5 := blk_frozen BK175.out 5
        have hfz13_6 := blk_frozen BK175.out 6
        go_wp2
        refine bodyPost_ret (results_cell_row rfl _ _ gb175 60 #[.int .i64 a0_0, .int .i64 a0_1, .int .i64 a0_2, .int .i64 a0_3, .int .i64 a0_4, .int .i64 a0_5, .slice Ao12 x3_1.length co12] (0, 0) _ rfl (by (with_reducible repeat (first | refine blk_drewN ?_ _ | refine blk_drew ?_ | refine blk_alloc ?_ _)); refine blk_put (cs := #[.int .i64 a0_0, .int .i64 a0_1, .int .i64 a0_2, .int .i64 a0_3, .int .i64 a0_4, .int .i64 a0_5, .slice none 0 0]) ?_ 6 _ rfl; (with_reducible repeat (first | refine blk_drewN ?_ _ | refine blk_drew ?_ | refine blk_alloc ?_ _)); refine blk_put (cs := #[.int .i64 a0_0, .int .i64 a0_1, .int .i64 a0_2, .int .i64 a0_3, .int .i64 a0_4, .int .i64 0, .slice none 0 0]) ?_ 5 _ rfl; (with_reducible repeat (first | refine blk_drewN ?_ _ | refine blk_drew ?_ | refine blk_alloc ?_ _)); refine blk_put (cs := #[.int .i64 a0_0, .int .i64 a0_1, .int .i64 a0_2, .int .i64 a0_3, .int .i64 0, .int .i64 0, .slice none 0 0]) ?_ 4 _ rfl; (with_reducible repeat (first | refine blk_drewN ?_ _ | refine blk_drew ?_ | refine blk_alloc ?_ _)); refine blk_put (cs := #[.int .i64 a0_0, .int .i64 a0_1, .int .i64 a0_2, .int .i64 0, .int .i64 0, .int .i64 0, .slice none 0 0]) ?_ 3 _ rfl; (with_reducible repeat (first | refine blk_drewN ?_ _ | refine blk_drew ?_ | refine blk_alloc ?_ _)); refine blk_put (cs := #[.int .i64 a0_0, .int .i64 a0_1, .int .i64 0, .int .i64 0, .int .i64 0, .int .i64 0, .slice none 0 0]) ?_ 2 _ rfl; (with_reducible repeat (first | refine blk_drewN ?_ _ | refine blk_drew ?_ | refine blk_alloc ?_ _)); refine blk_put (cs := #[.int .i64 a0_0, .int .i64 0, .int .i64 0, .int .i64 0, .int .i64 0, .int .i64 0, .slice none 0 0]) ?_ 1 _ rfl; (with_reducible repeat (first | refine blk_drewN ?_ _ | refine blk_drew ?_ | refine blk_alloc ?_ _)); refine blk_put (cs := #[.int .i64 0, .int .i64 0, .int .i64 0, .int .i64 0, .int .i64 0, .int .i64 0, .slice none 0 0]) ?_ 0 _ rfl; (with_reducible repeat (first | refine blk_drewN ?_ _ | refine blk_drew ?_ | refine blk_alloc ?_ _)); refine blk_far ?_ NB175_174.out _; (with_reducible repeat (first | refine blk_drewN ?_ _ | refine blk_drew ?_ | refine blk_alloc ?_ _)); exact BK175.out) Try.underlying60 rfl (by kernel_rfl)) rfl ?_
        exact ⟨_, by first | rfl | (simp [errW_none, errW_some] <;> rfl) | (simp [*, errW_none, errW_some] <;> rfl), by (with_reducible repeat (first | apply Kd.R_alloc | apply Kd.R_drewN | apply Kd.R_drew)); exact Kd.R_mono (Kd.R_far (p := ⟨gb175, 6, none⟩) (Kd.R_far (p := ⟨gb175, 5, none⟩) (Kd.R_far (p := ⟨gb175, 4, none⟩) (Kd.R_far (p := ⟨gb175, 3, none⟩) (Kd.R_far (p := ⟨gb175, 2, none⟩) (Kd.R_far (p := ⟨gb175, 1, none⟩) (Kd.R_far (p := ⟨gb175, 0, none⟩) (Kd.R_far (p := ⟨gb174, 6, none⟩) (Kd.R_types (Kd.R_types HO_3.out BK174.out (by decide)) BK175.out (by decide)) (fun _ hk => hk.1.2) (.slice Ao12 x3_1.length co12)) (fun _ hk => hk.2) (.int .i64 a0_0)) (fun _ hk => hk.2) (.int .i64 a0_1)) (fun _ hk => hk.2) (.int .i64 a0_2)) (fun _ hk => hk.2) (.int .i64 a0_3)) (fun _ hk => hk.2) (.int .i64 a0_4)) (fun _ hk => hk.2) (.int .i64 a0_5)) (fun _ hk => hk.2) (.slice Ao12 x3_1.length co12)) (fun _ hk => trivial), by repeat (first | (with_reducible first | exact HB.out | apply below_alloc | apply pw_below_drewN | apply below_drew1 | refine below_set ?_ GE174.out | refine below_set ?_ GE175.out) | exact HB.out)⟩

/-! ### vendmeterref_aged: function 126 -/
def vendmeterref_aged.l0 : Nat → Int → Int → Int → Int → Option (Int × Int)
  | 0, _, _, _, _ => none
  | k + 1, x1, x5, x181000, x181001 => if x5 < x1 then (if (wrap64 (x181000 + (wrap64 (Int.tdiv (wrap64 (x181000 * x181001)) 10000)))) > 1000000000 then (vendmeterref_aged.l0 k x1 (wrap64 (x5 + 1)) 1000000000 x181001) else (vendmeterref_aged.l0 k x1 (wrap64 (x5 + 1)) (wrap64 (x181000 + (wrap64 (Int.tdiv (wrap64 (x181000 * x181001)) 10000)))) x181001)) else (some (x181000, x181001))
def vendmeterref_aged.f (k : Nat) (a0_0 : Int) (a0_1 : Int) (a1 : Int) : Option (Int × Int) := vendmeterref_aged.l0 k a1 0 a0_0 a0_1
theorem vendmeterref_aged.mono_l : ∀ k, (∀ y0 y1 y2 y3, LeO (vendmeterref_aged.l0 k y0 y1 y2 y3) (vendmeterref_aged.l0 (k + 1) y0 y1 y2 y3))
  | 0 => fun _ _ _ _ r h => by simp [vendmeterref_aged.l0] at h
  | k + 1 => by
    have ih0 := vendmeterref_aged.mono_l k
    · intro y0 y1 y2 y3
      unfold vendmeterref_aged.l0
      repeat' first
      | (with_reducible exact ih0 _ _ _ _)
      | (with_reducible exact LeO.refl _)
      | (with_reducible exact LeO.none _)
      | (with_reducible refine LeO.ite ?_ ?_)
      | (with_reducible refine LeO.bind ?_ (fun _ => ?_))
      | exact ih0 _ _ _ _
      | exact LeO.none _
      | refine LeO.ite ?_ ?_
      | refine LeO.bind ?_ (fun _ => ?_)
theorem vendmeterref_aged.mono : ∀ a0 a1 a2 k, LeO (vendmeterref_aged.f k a0 a1 a2) (vendmeterref_aged.f (k + 1) a0 a1 a2) := by
  intro a0 a1 a2 k
  have ih0 := vendmeterref_aged.mono_l k
  unfold vendmeterref_aged.f
  repeat' first
      | (with_reducible exact ih0 _ _ _ _)
      | (with_reducible exact LeO.refl _)
      | (with_reducible exact LeO.none _)
      | (with_reducible refine LeO.ite ?_ ?_)
      | (with_reducible refine LeO.bind ?_ (fun _ => ?_))
      | exact ih0 _ _ _ _
      | exact LeO.none _
      | refine LeO.ite ?_ ?_
      | refine LeO.bind ?_ (fun _ => ?_)
set_option maxHeartbeats 8000000 in
set_option maxRecDepth 100000 in
theorem vendmeterref_aged.calls (k : Nat) (a0_0 : Int) (a0_1 : Int) (a1 : Int) (r1 : Int) (r2 : Int) (w : World) (h : vendmeterref_aged.f k a0_0 a0_1 a1 = some (r1, r2)) :
    Calls Try.prog 126 #[.agg #[.int .i64 a0_0, .int .i64 a0_1], .int .i64 a1] w fun e w' => e = .returned (.agg #[.int .i64 r1, .int .i64 r2]) ∧ Below w.heap.size w w' := by
  have hu76 := Try.underlying76
  have HB := Aside0.mk (Below.refl w.heap.size w)
  have H : (vendmeterref_aged.l0 k a1 0 a0_0 a0_1) = some (r1, r2) := h
  clear h
  have H' := Aside0.mk H
  clear H
  go_enter Try.func126, Try.ntmps126
  go_wp2_with (first | ((with_reducible refine gate_dst (N := 2) rfl ?_); refine box_event ?hg (N := 2) ?hd (cs := #[.int .i64 a0_0, .int .i64 a0_1]) (t := 76) ?hr ?_; (case hd => rfl); (case hg => rfl); (case hr => first | (go_simp; done) | (go_simp; rfl)); intro gb180 hg w3 hbox hb; have n0_ := Aside0.mk (below_step (by repeat (first | (with_reducible first | exact HB.out | apply below_alloc | apply pw_below_drewN | apply below_drew1) | exact HB.out)) hb); have n1_ := Aside0.mk (hbox); have n2_ := Aside0.mk ((by rw [hg]; exact (below_size (by repeat (first | (with_reducible first | exact HB.out | apply below_alloc | apply pw_below_drewN | apply below_drew1) | exact HB.out))) : w.heap.size ≤ gb180)); have n3_ := Aside0.mk ((by rw [hg]; exact (below_size (by repeat (first | (with_reducible first | exact HB.out | apply below_alloc | apply pw_below_drewN | apply below_drew1) | exact HB.out))) : w.heap.size ≤ gb180)); clear HB; have HB := n0_; have BK180 := n1_; have GW180 := n2_; have GE180 := n3_; clear n0_ n1_ n2_ n3_; clear hb hbox hg) | ((with_reducible refine gate_dst (N := 4) rfl ?_); refine box_event ?hg (N := 4) ?hd (cs := #[.int .i64 0, .int .i64 0]) (t := 76) ?hr ?_; (case hd => rfl); (case hg => rfl); (case hr => first | (go_simp; done) | (go_simp; rfl)); intro gb181 hg w4 hbox hb; have n0_ := Aside0.mk (blk_below (g := gb180) (o := .cells #[.int .i64 a0_0, .int .i64 a0_1] 76 (0, 0)) (by (with_reducible repeat (first | refine blk_drewN ?_ _ | refine blk_drew ?_ | refine blk_alloc ?_ _)); exact BK180.out) hb); have n1_ := Aside0.mk (below_step (by repeat (first | (with_reducible first | exact HB.out | apply below_alloc | apply pw_below_drewN | apply below_drew1 | refine below_set ?_ GE180.out) | exact HB.out)) hb); have n2_ := Aside0.mk (hbox); have n3_ := Aside0.mk ((by rw [hg]; exact (below_size (by repeat (first | (with_reducible first | exact HB.out | apply below_alloc | apply pw_below_drewN | apply below_drew1 | refine below_set ?_ GE180.out) | exact HB.out))) : w.heap.size ≤ gb181)); have n4_ := Aside0.mk ((by rw [hg]; exact (below_size (by repeat (first | (with_reducible first | exact HB.out | apply below_alloc | apply pw_below_drewN | apply below_drew1 | refine below_set ?_ GE180.out) | exact HB.out))) : w.heap.size ≤ gb181)); have n5_ := Aside0.mk ((by rw [hg]; exact Nat.ne_of_lt (blk_lt (g := gb180) (o := .cells #[.int .i64 a0_0, .int .i64 a0_1] 76 (0, 0)) (by (with_reducible repeat (first | refine blk_drewN ?_ _ | refine blk_drew ?_ | refine blk_alloc ?_ _)); exact BK180.out)) : gb180 ≠ gb181)); have n6_ := Aside0.mk ((by rw [hg]; exact Nat.ne_of_gt (blk_lt (g := gb180) (o := .cells #[.int .i64 a0_0, .int .i64 a0_1] 76 (0, 0)) (by (with_reducible repeat (first | refine blk_drewN ?_ _ | refine blk_drew ?_ | refine blk_alloc ?_ _)); exact BK180.out)) : gb181 ≠ gb180)); clear BK180; clear HB; have BK180 := n0_; have HB := n1_; have BK181 := n2_; have GW181 := n3_; have GE181 := n4_; have NB180_181 := n5_; have NB181_180 := n6_; clear n0_ n1_ n2_ n3_ n4_ n5_ n6_; clear hb hbox hg))
  go_loopg [5] k (fun kq v5 w' => ∃ (x5_1 : Int) (x181000_1 : Int), v5 = .int .i64 x5_1 ∧ Aside0 (vendmeterref_aged.l0 kq a1 x5_1 x181000_1 a0_1 = some (r1, r2)) ∧ Aside0 (kq ≤ k) ∧ Aside0 (w'.heap[gb180]? = some (.cells #[.int .i64 x181000_1, .int .i64 a0_1] 76 (0, 0))) ∧ Aside0 (w'.heap[gb181]? = some (.cells #[.int .i64 0, .int .i64 0] 76 (0, 0))) ∧ Aside0 (Below w.heap.size w w'))
  case atStart => exact ⟨(0), (a0_0), (by first | rfl | (simp; done) | (simp [*]; done)), H', ⟨Nat.le_refl _⟩, ⟨by (with_reducible repeat (first | refine blk_drewN ?_ _ | refine blk_drew ?_ | refine blk_alloc ?_ _)); exact BK180.out⟩, ⟨by (with_reducible repeat (first | refine blk_drewN ?_ _ | refine blk_drew ?_ | refine blk_alloc ?_ _)); exact BK181.out⟩, ⟨by repeat (first | (with_reducible first | exact HB.out | apply below_alloc | apply pw_below_drewN | apply below_drew1 | refine below_set ?_ GE180.out | refine below_set ?_ GE181.out) | exact HB.out)⟩⟩
  case round =>
    clear H'
    try clear c1
    try clear p2
    obtain ⟨x5_1, x181000_1, rfl, HA, HK1, BK180, BK181, HB⟩ := hrel
    cases gk with
    | zero => exact absurd HA.out (by simp [vendmeterref_aged.l0])
    | succ k1 =>
      have H := HA.out
      clear HA
      simp only [vendmeterref_aged.l0] at H
      by_cases c5 : x5_1 < a1
      · rw [if_pos c5] at H
        have c5b0 : decide (x5_1 < a1) = true := decide_eq_true c5
        clear c5
        by_cases c6 : (wrap64 (x181000_1 + (wrap64 (Int.tdiv (wrap64 (x181000_1 * a0_1)) 10000)))) > 1000000000
        · rw [if_pos c6] at H
          have c6b0 : decide (1000000000 < (wrap64 (x181000_1 + (wrap64 (Int.tdiv (wrap64 (x181000_1 * a0_1)) 10000))))) = true := decide_eq_true c6
          clear c6
          have H' := Aside0.mk H
          clear H
          have hnb7 := NB180_181.out
          have hnc7 := NB181_180.out
          have hcz8_0 : wr.cell? ⟨gb180, 0, none⟩ = some (.int .i64 x181000_1) := (blk_cell BK180.out 0).trans rfl
          have hcz8_1 : wr.cell? ⟨gb180, 1, none⟩ = some (.int .i64 a0_1) := (blk_cell BK180.out 1).trans rfl
          have hfz8_0 := blk_frozen BK180.out 0
          have hfz8_1 := blk_frozen BK180.out 1
          go_wp2
          go_roundg k1
          case measure => have := HK1.out; omega
          case rel => exact ⟨(wrap64 (x5_1 + 1)), (1000000000), (by first | rfl | (simp; done) | (simp [*]; done)), H', ⟨by have := HK1.out; omega⟩, ⟨by (with_reducible repeat (first | refine blk_drewN ?_ _ | refine blk_drew ?_ | refine blk_alloc ?_ _)); refine blk_put (cs := #[.int .i64 (wrap64 (x181000_1 + (wrap64 (Int.tdiv (wrap64 (x181000_1 * a0_1)) 10000)))), .int .i64 a0_1]) ?_ 0 _ rfl; (with_reducible repeat (first | refine blk_drewN ?_ _ | refine blk_drew ?_ | refine blk_alloc ?_ _)); refine blk_put (cs := #[.int .i64 x181000_1, .int .i64 a0_1]) ?_ 0 _ rfl; (with_reducible repeat (first | refine blk_drewN ?_ _ | refine blk_drew ?_ | refine blk_alloc ?_ _)); exact BK180.out⟩, ⟨by (with_reducible repeat (first | refine blk_drewN ?_ _ | refine blk_drew ?_ | refine blk_alloc ?_ _)); refine blk_far ?_ NB181_180.out _; (with_reducible repeat (first | refine blk_drewN ?_ _ | refine blk_drew ?_ | refine blk_alloc ?_ _)); refine blk_far ?_ NB181_180.out _; (with_reducible repeat (first | refine blk_drewN ?_ _ | refine blk_drew ?_ | refine blk_alloc ?_ _)); exact BK181.out⟩, ⟨by repeat (first | (with_reducible first | exact HB.out | apply below_alloc | apply pw_below_drewN | apply below_drew1 | refine below_set ?_ GE180.out | refine below_set ?_ GE181.out) | exact HB.out)⟩⟩
        · rw [if_neg c6] at H
          have c6b0 : decide (1000000000 < (wrap64 (x181000_1 + (wrap64 (Int.tdiv (wrap64 (x181000_1 * a0_1)) 10000))))) = false := decide_eq_false c6
          clear c6
          have H' := Aside0.mk H
          clear H
          have hnb9 := NB180_181.out
          have hnc9 := NB181_180.out
          have hcz10_0 : wr.cell? ⟨gb180, 0, none⟩ = some (.int .i64 x181000_1) := (blk_cell BK180.out 0).trans rfl
          have hcz10_1 : wr.cell? ⟨gb180, 1, none⟩ = some (.int .i64 a0_1) := (blk_cell BK180.out 1).trans rfl
          have hfz10_0 := blk_frozen BK180.out 0
          have hfz10_1 := blk_frozen BK180.out 1
          go_wp2
          go_roundg k1
          case measure => have := HK1.out; omega
          case rel => exact ⟨(wrap64 (x5_1 + 1)), (wrap64 (x181000_1 + (wrap64 (Int.tdiv (wrap64 (x181000_1 * a0_1)) 10000)))), (by first | rfl | (simp; done) | (simp [*]; done)), H', ⟨by have := HK1.out; omega⟩, ⟨by (with_reducible repeat (first | refine blk_drewN ?_ _ | refine blk_drew ?_ | refine blk_alloc ?_ _)); refine blk_put (cs := #[.int .i64 x181000_1, .int .i64 a0_1]) ?_ 0 _ rfl; (with_reducible repeat (first | refine blk_drewN ?_ _ | refine blk_drew ?_ | refine blk_alloc ?_ _)); exact BK180.out⟩, ⟨by (with_reducible repeat (first | refine blk_drewN ?_ _ | refine blk_drew ?_ | refine blk_alloc ?_ _)); refine blk_far ?_ NB181_180.out _; (with_reducible repeat (first | refine blk_drewN ?_ _ | refine blk_drew ?_ | refine blk_alloc ?_ _)); exact BK181.out⟩, ⟨by repeat (first | (with_reducible first | exact HB.out | apply below_alloc | apply pw_below_drewN | apply below_drew1 | refine below_set ?_ GE180.out | refine below_set ?_ GE181.out) | exact HB.out)⟩⟩
      · rw [if_neg c5] at H
        have c5b0 : decide (x5_1 < a1) = false := decide_eq_false c5
        clear c5
        simp only [Option.some.injEq, Prod.mk.injEq] at H
        obtain ⟨rfl, rfl⟩ := H
        have hnb11 := NB180_181.out
        have hnc11 := NB181_180.out
        have hcz12_0 : wr.cell? ⟨gb180, 0, none⟩ = some (.int .i64 x181000_1) := (blk_cell BK180.out 0).trans rfl
        have hcz12_1 : wr.cell? ⟨gb180, 1, none⟩ = some (.int .i64 a0_1) := (blk_cell BK180.out 1).trans rfl
        have hfz12_0 := blk_frozen BK180.out 0
        have hfz12_1 := blk_frozen BK180.out 1
        have hcz13_0 : wr.cell? ⟨gb181, 0, none⟩ = some (.int .i64 0) := (blk_cell BK181.out 0).trans rfl
        have hcz13_1 : wr.cell? ⟨gb181, 1, none⟩ = some (.int .i64 0) := (blk_cell BK181.out 1).trans rfl
        have hfz13_0 := blk_frozen BK181.out 0
        have hfz13_1 := blk_frozen BK181.out 1
        go_wp2
        refine bodyPost_ret (results_cell_row rfl _ _ gb181 76 #[.int .i64 x181000_1, .int .i64 a0_1] (0, 0) _ rfl (by (with_reducible repeat (first | refine blk_drewN ?_ _ | refine blk_drew ?_ | refine blk_alloc ?_ _)); refine blk_put (cs := #[.int .i64 x181000_1, .int .i64 0]) ?_ 1 _ rfl; (with_reducible repeat (first | refine blk_drewN ?_ _ | refine blk_drew ?_ | refine blk_alloc ?_ _)); refine blk_put (cs := #[.int .i64 0, .int .i64 0]) ?_ 0 _ rfl; (with_reducible repeat (first | refine blk_drewN ?_ _ | refine blk_drew ?_ | refine blk_alloc ?_ _)); exact BK181.out) Try.underlying76 rfl (by kernel_rfl)) rfl ?_
        exact ⟨by first | rfl | (simp [errW_none, errW_some] <;> rfl) | (simp [*, errW_none, errW_some] <;> rfl), by repeat (first | (with_reducible first | exact HB.out | apply below_alloc | apply pw_below_drewN | apply below_drew1 | refine below_set ?_ GE180.out | refine below_set ?_ GE181.out) | exact HB.out)⟩

/-! ### vendmeterref_Aged: function 80 -/
def vendmeterref_Aged.l0 : Nat → List (S76) → Int → List (S76) → Int → Option ((List (S76)) × Int)
  | 0, _, _, _, _ => none
  | k + 1, x0, x1, x7, x8 => if x8 < (x0.length : Int) then (if 0 ≤ x8 then ((vendmeterref_aged.f k ((rd_T76 x0 x8).f0) ((rd_T76 x0 x8).f1) x1).bind fun bt185 => (if x7.length < 8796093022208 then (vendmeterref_Aged.l0 k x0 x1 (x7 ++ [(⟨bt185.1, bt185.2⟩ : S76)]) (wrap64 (x8 + 1))) else (none))) else (none)) else (some (x7, 0))
def vendmeterref_Aged.f (k : Nat) (l0 : List (S76)) (a1 : Int) : Option ((List (S76)) × Int) := (vendmeterref_DebtFault.f k l0).bind fun t182 => (if t182 = 0 then ((vendmeterref_In.f a1 0 2400).bind fun t183 => (if t183 = true then (vendmeterref_Aged.l0 k l0 a1 ([] : List (S76)) 0) else (some (([] : List (S76)), 2)))) else (some (([] : List (S76)), t182)))
theorem vendmeterref_Aged.mono_l : ∀ k, (∀ y0 y1 y2 y3, LeO (vendmeterref_Aged.l0 k y0 y1 y2 y3) (vendmeterref_Aged.l0 (k + 1) y0 y1 y2 y3))
  | 0 => fun _ _ _ _ r h => by simp [vendmeterref_Aged.l0] at h
  | k + 1 => by
    have ih0 := vendmeterref_Aged.mono_l k
    · intro y0 y1 y2 y3
      unfold vendmeterref_Aged.l0
      repeat' first
      | (with_reducible exact ih0 _ _ _ _)
      | (with_reducible exact vendmeterref_DebtFault.mono _ _)
      | (with_reducible exact vendmeterref_aged.mono _ _ _ _)
      | (with_reducible exact LeO.refl _)
      | (with_reducible exact LeO.none _)
      | (with_reducible refine LeO.ite ?_ ?_)
      | (with_reducible refine LeO.bind ?_ (fun _ => ?_))
      | exact ih0 _ _ _ _
      | exact vendmeterref_DebtFault.mono _ _
      | exact vendmeterref_aged.mono _ _ _ _
      | exact LeO.none _
      | refine LeO.ite ?_ ?_
      | refine LeO.bind ?_ (fun _ => ?_)
theorem vendmeterref_Aged.mono : ∀ a0 a1 k, LeO (vendmeterref_Aged.f k a0 a1) (vendmeterref_Aged.f (k + 1) a0 a1) := by
  intro a0 a1 k
  have ih0 := vendmeterref_Aged.mono_l k
  unfold vendmeterref_Aged.f
  repeat' first
      | (with_reducible exact ih0 _ _ _ _)
      | (with_reducible exact vendmeterref_DebtFault.mono _ _)
      | (with_reducible exact vendmeterref_aged.mono _ _ _ _)
      | (with_reducible exact LeO.refl _)
      | (with_reducible exact LeO.none _)
      | (with_reducible refine LeO.ite ?_ ?_)
      | (with_reducible refine LeO.bind ?_ (fun _ => ?_))
      | exact ih0 _ _ _ _
      | exact vendmeterref_DebtFault.mono _ _
      | exact vendmeterref_aged.mono _ _ _ _
      | exact LeO.none _
      | refine LeO.ite ?_ ?_
      | refine LeO.bind ?_ (fun _ => ?_)
set_option maxHeartbeats 8000000 in
set_option maxRecDepth 100000 in
theorem vendmeterref_Aged.calls (k : Nat) (A0 : Option Addr) (c0 : Nat) (l0 : List (S76)) (a1 : Int) (r1 : List (S76)) (r2 : Int) (w : World) (hr0 : Kd.C k76 w A0 l0.length l0) (hc0 : l0.length ≤ c0) (h : vendmeterref_Aged.f k l0 a1 = some (r1, r2)) :
    Calls Try.prog 80 #[.slice A0 l0.length c0, .int .i64 a1] w fun e w' => ∃ v0_ : Value, e = .returned (.tuple #[v0_, .int .i64 r2]) ∧ Kd.R k76 76 w' w.heap.size (fun _ => True) v0_ r1 ∧ Below w.heap.size w w' := by
  have hu76 := Try.underlying76
  have HR0 := Aside0.mk hr0
  have HC0 := Aside0.mk hc0
  clear hr0 hc0
  have HB := Aside0.mk (Below.refl w.heap.size w)
  have H : ((vendmeterref_DebtFault.f k l0).bind fun t182 => (if t182 = 0 then ((vendmeterref_In.f a1 0 2400).bind fun t183 => (if t183 = true then (vendmeterref_Aged.l0 k l0 a1 ([] : List (S76)) 0) else (some (([] : List (S76)), 2)))) else (some (([] : List (S76)), t182)))) = some (r1, r2) := h
  clear h
  replace H := Option.bind_eq_some_iff.mp H
  obtain ⟨t182, A30, H⟩ := H
  replace H : (if t182 = 0 then ((vendmeterref_In.f a1 0 2400).bind fun t183 => (if t183 = true then (vendmeterref_Aged.l0 k l0 a1 ([] : List (S76)) 0) else (some (([] : List (S76)), 2)))) else (some (([] : List (S76)), t182))) = some (r1, r2) := H
  have A3 := Aside0.mk A30
  clear A30
  by_cases c4 : t182 = 0
  · rw [if_pos c4] at H
    have c4b0 : (t182 == 0) = true := beq_iff_eq.mpr c4
    have c4b1 : (t182 != 0) = false := bne_eq_false_iff_eq.mpr c4
    clear c4
    replace H := Option.bind_eq_some_iff.mp H
    obtain ⟨t183, A50, H⟩ := H
    replace H : (if t183 = true then (vendmeterref_Aged.l0 k l0 a1 ([] : List (S76)) 0) else (some (([] : List (S76)), 2))) = some (r1, r2) := H
    have A5 := Aside0.mk A50
    clear A50
    by_cases c6 : t183 = true
    · subst c6
      have H1 : (vendmeterref_Aged.l0 k l0 a1 ([] : List (S76)) 0) = some (r1, r2) := by rw [if_pos rfl] at H; exact H
      clear H
      have H := H1
      clear H1
      have H' := Aside0.mk H
      clear H
      go_enter Try.func80, Try.ntmps80
      go_wp2_with (first | ((with_reducible refine gate_callee (f := 125) rfl ?_); refine goesL_ (some 11) rfl rfl Try.func125 (by kernel_rfl) rfl #[.slice A0 l0.length c0] rfl (by (try simp only [List.map_toArray, List.map_cons, List.map_nil]); first | done | rfl | (simp only [List.length_drop, List.length_take]; rfl)) ?_; (with_reducible refine (vendmeterref_DebtFault.calls k _ _ l0 t182 _ ?side1 ?side2 A3.out).mono ?_); (case side1 => repeat (first | exact HR0.out | (with_reducible refine Kd.C_alloc ?_ _) | (with_reducible refine Kd.C_drewN ?_ _) | (with_reducible refine Kd.C_drew ?_))); (case side2 => exact HC0.out); rintro e w' ⟨rfl, ⟨nd, rfl⟩⟩; refine ⟨_, rfl, ?_⟩) | ((with_reducible refine gate_callee (f := 54) rfl ?_); refine goesL_ (some 16) rfl rfl Try.func54 (by kernel_rfl) rfl #[.int .i64 a1, .int .i64 0, .int .i64 2400] rfl (by (try simp only [List.map_toArray, List.map_cons, List.map_nil]); first | done | rfl | (simp only [List.length_drop, List.length_take]; rfl)) ?_; (with_reducible refine (vendmeterref_In.calls a1 0 2400 true _ A5.out).mono ?_); rintro e w' ⟨rfl, ⟨nd, rfl⟩⟩; refine ⟨_, rfl, ?_⟩))
      go_loopg [7, 8] k (fun kq v7 v8 w' => ∃ (x7_1 : List (S76)) (x8_1 : Int), v8 = .int .i64 x8_1 ∧ Aside0 (vendmeterref_Aged.l0 kq l0 a1 x7_1 x8_1 = some (r1, r2)) ∧ Aside0 (kq ≤ k) ∧ Aside0 (Kd.R k76 76 w' w.heap.size (fun _ => True) v7 x7_1) ∧ Aside0 (Below w.heap.size w w'))
      case atStart => exact ⟨(([] : List (S76))), (0), (by first | rfl | (simp; done) | (simp [*]; done)), H', ⟨Nat.le_refl _⟩, ⟨by first | exact Kd.R_nil _ _ _ _ _ | exact Kd.N_nil _ _ _ _ _ | exact Kd.V_nil _ _ _ _ _ | exact Kd.Q_nil _ _ _ _ _ | exact Kd.S_nil _ _ _ _ _⟩, ⟨by repeat (first | (with_reducible first | exact HB.out | apply below_alloc | apply pw_below_drewN | apply below_drew1) | exact HB.out)⟩⟩
      case round =>
        clear H'
        try clear c1
        try clear p2
        try clear c4
        try clear c4b0
        try clear c4b1
        try clear c5
        try clear c6
        obtain ⟨x7_1, x8_1, rfl, HA, HK1, HO_7, HB⟩ := hrel
        cases gk with
        | zero => exact absurd HA.out (by simp [vendmeterref_Aged.l0])
        | succ k1 =>
          have H := HA.out
          clear HA
          simp only [vendmeterref_Aged.l0] at H
          by_cases c7 : x8_1 < (l0.length : Int)
          · rw [if_pos c7] at H
            have c7b0 : decide (x8_1 < (l0.length : Int)) = true := decide_eq_true c7
            clear c7
            by_cases c8 : 0 ≤ x8_1
            · rw [if_pos c8] at H
              have c8b0 : decide (0 ≤ x8_1) = true := decide_eq_true c8
              clear c8
              replace H := Option.bind_eq_some_iff.mp H
              obtain ⟨⟨t185, t186⟩, A90, H⟩ := H
              replace H : (if x7_1.length < 8796093022208 then (vendmeterref_Aged.l0 k1 l0 a1 (x7_1 ++ [(⟨t185, t186⟩ : S76)]) (wrap64 (x8_1 + 1))) else (none)) = some (r1, r2) := H
              have A9 := Aside0.mk A90
              clear A90
              by_cases c10 : x7_1.length < 8796093022208
              · rw [if_pos c10] at H
                have LMc10 := Aside0.mk c10
                clear c10
                obtain ⟨y188, hy188⟩ : ∃ y_ : List (S76), y_ = (x7_1 ++ [(⟨t185, t186⟩ : S76)]) := ⟨_, rfl⟩
                replace H : (vendmeterref_Aged.l0 k1 l0 a1 y188 (wrap64 (x8_1 + 1))) = some (r1, r2) := by first | (rw [hy188]; with_reducible exact H) | (have H2_ := (Option.bind_some _ _).symm.trans H; rw [hy188]; with_reducible exact H2_) | (have H2_ := (Option.bind_some _ _).symm.trans H; with_reducible exact H2_) | with_reducible exact H | (rw [hy188]; exact H) | exact H
                have Ny188 := Aside0.mk hy188
                clear hy188
                have H' := Aside0.mk H
                clear H
                have p184 : 0 ≤ (x8_1 : Int) := of_decide_eq_true (by first | (with_reducible assumption) | assumption)
                have q184 : x8_1 < (l0.length : Int) := of_decide_eq_true (by first | (with_reducible assumption) | assumption)
                obtain ⟨ad184, e184, hx184_0, hx184_1⟩ := at_T76 HR0.out x8_1 p184 q184
                cases e184
                replace hx184_0 := (HB.out.cell (World.block_lt_of_cell? w _ hx184_0)).trans hx184_0
                replace hx184_1 := (HB.out.cell (World.block_lt_of_cell? w _ hx184_1)).trans hx184_1
                replace p184 := eq_true p184
                replace q184 := eq_true q184
                go_wp2_with (first | ((with_reducible refine gate_callee (f := 126) rfl ?_); refine goesL_ (some 29) rfl rfl Try.func126 (by kernel_rfl) rfl #[.agg #[.int .i64 ((rd_T76 l0 x8_1).f0), .int .i64 ((rd_T76 l0 x8_1).f1)], .int .i64 a1] rfl (by (try simp only [List.map_toArray, List.map_cons, List.map_nil]); first | done | rfl | (simp only [List.length_drop, List.length_take]; rfl)) ?_; (with_reducible refine (vendmeterref_aged.calls k1 ((rd_T76 l0 x8_1).f0) ((rd_T76 l0 x8_1).f1) a1 t185 t186 _ A9.out).mono ?_); rintro e w11 ⟨rfl, hb⟩; refine ⟨_, rfl, ?_⟩; have n0_ := Aside0.mk (Kd.R_below (by (with_reducible repeat (first | apply Kd.R_alloc | apply Kd.R_drewN | apply Kd.R_drew)); exact HO_7.out) hb); have n1_ := Aside0.mk (below_step (by repeat (first | (with_reducible first | exact HB.out | apply below_alloc | apply pw_below_drewN | apply below_drew1) | exact HB.out)) hb); clear HO_7; clear HB; have HO_7 := n0_; have HB := n1_; clear n0_ n1_; (try clear hb); (try clear hb2); (try clear hk); (try clear hi)) | ((with_reducible refine gate_dst (N := 9) rfl ?_); refine box_event ?hg (N := 9) ?hd (cs := #[.int .i64 0, .int .i64 0]) (t := 76) ?hr ?_; (case hd => rfl); (case hg => rfl); (case hr => first | (go_simp; done) | (go_simp; rfl)); intro gb187 hg w12 hbox hb; have n0_ := Aside0.mk (Kd.R_below (Kd.R_elderB (by (with_reducible repeat (first | apply Kd.R_alloc | apply Kd.R_drewN | apply Kd.R_drew)); exact HO_7.out) gb187 (Nat.le_of_eq hg.symm)) hb); have n1_ := Aside0.mk (below_step (by repeat (first | (with_reducible first | exact HB.out | apply below_alloc | apply pw_below_drewN | apply below_drew1) | exact HB.out)) hb); have n2_ := Aside0.mk (hbox); have n3_ := Aside0.mk ((by rw [hg]; exact (below_size (by repeat (first | (with_reducible first | exact HB.out | apply below_alloc | apply pw_below_drewN | apply below_drew1) | exact HB.out))) : w.heap.size ≤ gb187)); have n4_ := Aside0.mk ((by rw [hg]; exact (below_size (by repeat (first | (with_reducible first | exact HB.out | apply below_alloc | apply pw_below_drewN | apply below_drew1) | exact HB.out))) : w.heap.size ≤ gb187)); clear HO_7; clear HB; have HO_7 := n0_; have HB := n1_; have BK187 := n2_; have GW187 := n3_; have GE187 := n4_; clear n0_ n1_ n2_ n3_ n4_; clear hb hbox hg; have hcz13_0 : w12.cell? ⟨gb187, 0, none⟩ = some (.int .i64 0) := (blk_cell BK187.out 0).trans rfl; have hcz13_1 : w12.cell? ⟨gb187, 1, none⟩ = some (.int .i64 0) := (blk_cell BK187.out 1).trans rfl; have hfz13_0 := blk_frozen BK187.out 0; have hfz13_1 := blk_frozen BK187.out 1) | ((with_reducible refine gate_builtin (b := .append) (xs := #[.tmp 30, .tmp 32]) rfl ?_); at_builtin; refine Kd.R_append k76 (w0 := w) w.heap.size rfl (.tmp 30) (.tmp 32) 58 76 (.agg #[(.int .i64 0), (.int .i64 0)]) 16 rfl Try.underlying58 info76 rfl (by decide) (by omega) u7 x7_1 (⟨t185, t186⟩ : S76) [.int .i64 t185, .int .i64 t186] (fun k_ => k_ ≠ gb187) (fun _ => False) rfl (by first | (go_simp; done) | (go_simp; rfl)) ?aP (fun _ hk => hk.elim) ?aF ?aO ?aB ?aS ?aL ?_; (case aP => exact k76_mkM _ _ _ (⟨t185, t186⟩ : S76)); (case aB => exact (by repeat (first | (with_reducible first | exact HB.out | apply below_alloc | apply pw_below_drewN | apply below_drew1 | refine below_set ?_ GE187.out) | exact HB.out))); (case aF => exact (fun k_ hk => Kd.freshB (g := gb187) (o := .cells #[.int .i64 t185, .int .i64 t186] 76 (0, 0)) (by (with_reducible repeat (first | refine blk_drewN ?_ _ | refine blk_drew ?_ | refine blk_alloc ?_ _)); refine blk_put (cs := #[.int .i64 t185, .int .i64 0]) ?_ 1 _ rfl; (with_reducible repeat (first | refine blk_drewN ?_ _ | refine blk_drew ?_ | refine blk_alloc ?_ _)); refine blk_put (cs := #[.int .i64 0, .int .i64 0]) ?_ 0 _ rfl; (with_reducible repeat (first | refine blk_drewN ?_ _ | refine blk_drew ?_ | refine blk_alloc ?_ _)); exact BK187.out) k_ hk)); (case aO => exact (by (with_reducible repeat (first | apply Kd.R_alloc | apply Kd.R_drewN | apply Kd.R_drew)); exact Kd.R_mono (Kd.R_far (p := ⟨gb187, 1, none⟩) (Kd.R_far (p := ⟨gb187, 0, none⟩) (Kd.R_mono HO_7.out (fun k_ hk => (⟨hk, hk.2⟩ : _ ∧ k_ ≠ gb187))) (fun _ hk => hk.2) (.int .i64 t185)) (fun _ hk => hk.2) (.int .i64 t186)) (fun _ hk => hk.1.2))); (case aS => exact (below_size (by repeat (first | (with_reducible first | exact HB.out | apply below_alloc | apply pw_below_drewN | apply below_drew1 | refine below_set ?_ GE187.out) | exact HB.out)))); (case aL => have := LMc10.out; omega); intro v189 w14 ho hb hg hat; rw [← Ny188.out] at ho; have n0_ := Aside0.mk (blk_grown (g := gb187) (o := .cells #[.int .i64 t185, .int .i64 t186] 76 (0, 0)) (by (with_reducible repeat (first | refine blk_drewN ?_ _ | refine blk_drew ?_ | refine blk_alloc ?_ _)); refine blk_put (cs := #[.int .i64 t185, .int .i64 0]) ?_ 1 _ rfl; (with_reducible repeat (first | refine blk_drewN ?_ _ | refine blk_drew ?_ | refine blk_alloc ?_ _)); refine blk_put (cs := #[.int .i64 0, .int .i64 0]) ?_ 0 _ rfl; (with_reducible repeat (first | refine blk_drewN ?_ _ | refine blk_drew ?_ | refine blk_alloc ?_ _)); exact BK187.out) hg (Kd.R_away HO_7.out (fun _ hk => hk.2))); have n1_ := Aside0.mk (hb); have n2_ := Aside0.mk (ho); clear BK187; clear HB; clear HO_7; have BK187 := n0_; have HB := n1_; have HO190 := n2_; clear n0_ n1_ n2_; clear ho hb hg hat))
                go_roundg k1
                case measure => have := HK1.out; omega
                case rel => exact ⟨(y188), (wrap64 (x8_1 + 1)), (by first | rfl | (simp; done) | (simp [*]; done)), H', ⟨by have := HK1.out; omega⟩, ⟨by (with_reducible repeat (first | apply Kd.R_alloc | apply Kd.R_drewN | apply Kd.R_drew)); exact Kd.R_mono HO190.out (fun _ hk => trivial)⟩, ⟨by repeat (first | (with_reducible first | exact HB.out | apply below_alloc | apply pw_below_drewN | apply below_drew1 | refine below_set ?_ GE187.out) | exact HB.out)⟩⟩
              · rw [if_neg c10] at H
                exact absurd H (by simp)
            · rw [if_neg c8] at H
              exact absurd H (by simp)
          · rw [if_neg c7] at H
            have c7b0 : decide (x8_1 < (l0.length : Int)) = false := decide_eq_false c7
            clear c7
            simp only [Option.some.injEq, Prod.mk.injEq] at H
            obtain ⟨rfl, rfl⟩ := H
            go_wp2
            go_ret2
            exact ⟨_, by first | rfl | (simp [errW_none, errW_some] <;> rfl) | (simp [*, errW_none, errW_some] <;> rfl), by (with_reducible repeat (first | apply Kd.R_alloc | apply Kd.R_drewN | apply Kd.R_drew)); exact HO_7.out, by repeat (first | (with_reducible first | exact HB.out | apply below_alloc | apply pw_below_drewN | apply below_drew1) | exact HB.out)⟩
    · replace c6 := Bool.eq_false_iff.mpr c6
      subst c6
      have H1 : (some (([] : List (S76)), 2)) = some (r1, r2) := by rw [if_neg (show ¬ (false = true) by decide)] at H; exact H
      clear H
      have H := H1
      clear H1
      simp only [Option.some.injEq, Prod.mk.injEq] at H
      obtain ⟨rfl, rfl⟩ := H
      go_enter Try.func80, Try.ntmps80
      go_wp2_with (first | ((with_reducible refine gate_callee (f := 125) rfl ?_); refine goesL_ (some 11) rfl rfl Try.func125 (by kernel_rfl) rfl #[.slice A0 l0.length c0] rfl (by (try simp only [List.map_toArray, List.map_cons, List.map_nil]); first | done | rfl | (simp only [List.length_drop, List.length_take]; rfl)) ?_; (with_reducible refine (vendmeterref_DebtFault.calls k _ _ l0 t182 _ ?side1 ?side2 A3.out).mono ?_); (case side1 => repeat (first | exact HR0.out | (with_reducible refine Kd.C_alloc ?_ _) | (with_reducible refine Kd.C_drewN ?_ _) | (with_reducible refine Kd.C_drew ?_))); (case side2 => exact HC0.out); rintro e w' ⟨rfl, ⟨nd, rfl⟩⟩; refine ⟨_, rfl, ?_⟩) | ((with_reducible refine gate_callee (f := 54) rfl ?_); refine goesL_ (some 16) rfl rfl Try.func54 (by kernel_rfl) rfl #[.int .i64 a1, .int .i64 0, .int .i64 2400] rfl (by (try simp only [List.map_toArray, List.map_cons, List.map_nil]); first | done | rfl | (simp only [List.length_drop, List.length_take]; rfl)) ?_; (with_reducible refine (vendmeterref_In.calls a1 0 2400 false _ A5.out).mono ?_); rintro e w' ⟨rfl, ⟨nd, rfl⟩⟩; refine ⟨_, rfl, ?_⟩))
      go_ret2
      exact ⟨_, by first | rfl | (simp [errW_none, errW_some] <;> rfl) | (simp [*, errW_none, errW_some] <;> rfl), by first | exact Kd.R_nil _ _ _ _ _ | exact Kd.N_nil _ _ _ _ _ | exact Kd.V_nil _ _ _ _ _ | exact Kd.Q_nil _ _ _ _ _ | exact Kd.S_nil _ _ _ _ _, by repeat (first | (with_reducible first | exact HB.out | apply below_alloc | apply pw_below_drewN | apply below_drew1) | exact HB.out)⟩
  · rw [if_neg c4] at H
    have c4b0 : (t182 == 0) = false := beq_eq_false_iff_ne.mpr c4
    have c4b1 : (t182 != 0) = true := bne_iff_ne.mpr c4
    simp only [Option.some.injEq, Prod.mk.injEq] at H
    obtain ⟨rfl, rfl⟩ := H
    go_enter Try.func80, Try.ntmps80
    go_wp2_with (first | ((with_reducible refine gate_callee (f := 125) rfl ?_); refine goesL_ (some 11) rfl rfl Try.func125 (by kernel_rfl) rfl #[.slice A0 l0.length c0] rfl (by (try simp only [List.map_toArray, List.map_cons, List.map_nil]); first | done | rfl | (simp only [List.length_drop, List.length_take]; rfl)) ?_; (with_reducible refine (vendmeterref_DebtFault.calls k _ _ l0 t182 _ ?side1 ?side2 A3.out).mono ?_); (case side1 => repeat (first | exact HR0.out | (with_reducible refine Kd.C_alloc ?_ _) | (with_reducible refine Kd.C_drewN ?_ _) | (with_reducible refine Kd.C_drew ?_))); (case side2 => exact HC0.out); rintro e w' ⟨rfl, ⟨nd, rfl⟩⟩; refine ⟨_, rfl, ?_⟩))
    go_ret2
    exact ⟨_, by first | rfl | (simp [errW_none, errW_some] <;> rfl) | (simp [*, errW_none, errW_some] <;> rfl), by first | exact Kd.R_nil _ _ _ _ _ | exact Kd.N_nil _ _ _ _ _ | exact Kd.V_nil _ _ _ _ _ | exact Kd.Q_nil _ _ _ _ _ | exact Kd.S_nil _ _ _ _ _, by repeat (first | (with_reducible first | exact HB.out | apply below_alloc | apply pw_below_drewN | apply below_drew1) | exact HB.out)⟩

end Go.Proofs.Ythmmadniaakapaa.PAccountGrants
