-- written by this session's program wip/xp/xprint.py (it drives the kit's print and adds to it)
import Derived.Test.YthmmadniaakapaaPAccountRollsx0
import Derived.Test.YthmmadniaakapaaPAccountRollsx1
import Derived.Test.YthmmadniaakapaaPAccountRollsx2
namespace Go.Proofs.Ythmmadniaakapaa.PAccountRolls
open Go.RowKit Go.Proofs.YthmmadniaakapaaW.PrintWords Go.Proofs.YthmmadniaakapaaW.PrintLast Go.Proofs.YthmmadniaakapaaW.PrintMore
attribute [local go_sem] max2_int min2_int max_two min_two max_three min_three max_four min_four   -- for this text's walks alone
set_option linter.unusedVariables false
set_option linter.unusedSimpArgs false

/-! ### account_may: function 85 -/
def account_may.f (k : Nat) (a0_0 : Int) (a0_1 : Int) (a0_2 : Int) (a0_3 : Int) (a0_4 : Int) (a0_5 : Int) (l0_6 : List (S76)) : Option (Bool) := (debt_Total.f k l0_6).bind fun bt122 => (if bt122.2 = 0 then ((account_within.f a0_0 0 49).bind fun t124 => (if t124 = true then ((account_within.f a0_1 0 15).bind fun t125 => (if t125 = true then ((account_within.f a0_2 1 1048576).bind fun t126 => (if t126 = true then ((account_within.f a0_3 0 2399).bind fun t127 => (if t127 = true then ((account_within.f a0_4 0 10000000).bind fun t128 => (if t128 = true then ((account_within.f a0_5 (-1) a0_3).bind fun t129 => (some t129)) else (some false))) else (some false))) else (some false))) else (some false))) else (some false))) else (some false))
theorem account_may.mono : ∀ a0 a1 a2 a3 a4 a5 a6 k, LeO (account_may.f k a0 a1 a2 a3 a4 a5 a6) (account_may.f (k + 1) a0 a1 a2 a3 a4 a5 a6) := by
  intro a0 a1 a2 a3 a4 a5 a6 k
  unfold account_may.f
  repeat' first
      | (with_reducible exact debt_Total.mono _ _)
      | (with_reducible exact LeO.refl _)
      | (with_reducible exact LeO.none _)
      | (with_reducible refine LeO.ite ?_ ?_)
      | (with_reducible refine LeO.bind ?_ (fun _ => ?_))
      | exact debt_Total.mono _ _
      | exact LeO.none _
      | refine LeO.ite ?_ ?_
      | refine LeO.bind ?_ (fun _ => ?_)
set_option maxHeartbeats 8000000 in
set_option maxRecDepth 100000 in
theorem account_may.calls (k : Nat) (a0_0 : Int) (a0_1 : Int) (a0_2 : Int) (a0_3 : Int) (a0_4 : Int) (a0_5 : Int) (A0_6 : Option Addr) (c0_6 : Nat) (l0_6 : List (S76)) (r : Bool) (w : World) (hr0_6 : Kd.C k76 w A0_6 l0_6.length l0_6) (hc0_6 : l0_6.length ≤ c0_6) (h : account_may.f k a0_0 a0_1 a0_2 a0_3 a0_4 a0_5 l0_6 = some r) :
    Calls Try.prog 85 #[.agg #[.int .i64 a0_0, .int .i64 a0_1, .int .i64 a0_2, .int .i64 a0_3, .int .i64 a0_4, .int .i64 a0_5, .slice A0_6 l0_6.length c0_6]] w fun e w' => e = .returned (.bool r) ∧ Below w.heap.size w w' := by
  have hu60 := Try.underlying60
  have HR0_6 := Aside0.mk hr0_6
  have HC0_6 := Aside0.mk hc0_6
  clear hr0_6 hc0_6
  have HB := Aside0.mk (Below.refl w.heap.size w)
  have H : ((debt_Total.f k l0_6).bind fun bt122 => (if bt122.2 = 0 then ((account_within.f a0_0 0 49).bind fun t124 => (if t124 = true then ((account_within.f a0_1 0 15).bind fun t125 => (if t125 = true then ((account_within.f a0_2 1 1048576).bind fun t126 => (if t126 = true then ((account_within.f a0_3 0 2399).bind fun t127 => (if t127 = true then ((account_within.f a0_4 0 10000000).bind fun t128 => (if t128 = true then ((account_within.f a0_5 (-1) a0_3).bind fun t129 => (some t129)) else (some false))) else (some false))) else (some false))) else (some false))) else (some false))) else (some false))) = some r := h
  clear h
  replace H := Option.bind_eq_some_iff.mp H
  obtain ⟨⟨t122, t123⟩, A20, H⟩ := H
  replace H : (if t123 = 0 then ((account_within.f a0_0 0 49).bind fun t124 => (if t124 = true then ((account_within.f a0_1 0 15).bind fun t125 => (if t125 = true then ((account_within.f a0_2 1 1048576).bind fun t126 => (if t126 = true then ((account_within.f a0_3 0 2399).bind fun t127 => (if t127 = true then ((account_within.f a0_4 0 10000000).bind fun t128 => (if t128 = true then ((account_within.f a0_5 (-1) a0_3).bind fun t129 => (some t129)) else (some false))) else (some false))) else (some false))) else (some false))) else (some false))) else (some false)) = some r := H
  have A2 := Aside0.mk A20
  clear A20
  by_cases c3 : t123 = 0
  · rw [if_pos c3] at H
    have c3b0 : (t123 == 0) = true := beq_iff_eq.mpr c3
    have c3b1 : (t123 != 0) = false := bne_eq_false_iff_eq.mpr c3
    clear c3
    replace H := Option.bind_eq_some_iff.mp H
    obtain ⟨t124, A40, H⟩ := H
    replace H : (if t124 = true then ((account_within.f a0_1 0 15).bind fun t125 => (if t125 = true then ((account_within.f a0_2 1 1048576).bind fun t126 => (if t126 = true then ((account_within.f a0_3 0 2399).bind fun t127 => (if t127 = true then ((account_within.f a0_4 0 10000000).bind fun t128 => (if t128 = true then ((account_within.f a0_5 (-1) a0_3).bind fun t129 => (some t129)) else (some false))) else (some false))) else (some false))) else (some false))) else (some false)) = some r := H
    have A4 := Aside0.mk A40
    clear A40
    by_cases c5 : t124 = true
    · subst c5
      have H1 : ((account_within.f a0_1 0 15).bind fun t125 => (if t125 = true then ((account_within.f a0_2 1 1048576).bind fun t126 => (if t126 = true then ((account_within.f a0_3 0 2399).bind fun t127 => (if t127 = true then ((account_within.f a0_4 0 10000000).bind fun t128 => (if t128 = true then ((account_within.f a0_5 (-1) a0_3).bind fun t129 => (some t129)) else (some false))) else (some false))) else (some false))) else (some false))) = some r := by rw [if_pos rfl] at H; exact H
      clear H
      have H := H1
      clear H1
      replace H := Option.bind_eq_some_iff.mp H
      obtain ⟨t125, A60, H⟩ := H
      replace H : (if t125 = true then ((account_within.f a0_2 1 1048576).bind fun t126 => (if t126 = true then ((account_within.f a0_3 0 2399).bind fun t127 => (if t127 = true then ((account_within.f a0_4 0 10000000).bind fun t128 => (if t128 = true then ((account_within.f a0_5 (-1) a0_3).bind fun t129 => (some t129)) else (some false))) else (some false))) else (some false))) else (some false)) = some r := H
      have A6 := Aside0.mk A60
      clear A60
      by_cases c7 : t125 = true
      · subst c7
        have H1 : ((account_within.f a0_2 1 1048576).bind fun t126 => (if t126 = true then ((account_within.f a0_3 0 2399).bind fun t127 => (if t127 = true then ((account_within.f a0_4 0 10000000).bind fun t128 => (if t128 = true then ((account_within.f a0_5 (-1) a0_3).bind fun t129 => (some t129)) else (some false))) else (some false))) else (some false))) = some r := by rw [if_pos rfl] at H; exact H
        clear H
        have H := H1
        clear H1
        replace H := Option.bind_eq_some_iff.mp H
        obtain ⟨t126, A80, H⟩ := H
        replace H : (if t126 = true then ((account_within.f a0_3 0 2399).bind fun t127 => (if t127 = true then ((account_within.f a0_4 0 10000000).bind fun t128 => (if t128 = true then ((account_within.f a0_5 (-1) a0_3).bind fun t129 => (some t129)) else (some false))) else (some false))) else (some false)) = some r := H
        have A8 := Aside0.mk A80
        clear A80
        by_cases c9 : t126 = true
        · subst c9
          have H1 : ((account_within.f a0_3 0 2399).bind fun t127 => (if t127 = true then ((account_within.f a0_4 0 10000000).bind fun t128 => (if t128 = true then ((account_within.f a0_5 (-1) a0_3).bind fun t129 => (some t129)) else (some false))) else (some false))) = some r := by rw [if_pos rfl] at H; exact H
          clear H
          have H := H1
          clear H1
          replace H := Option.bind_eq_some_iff.mp H
          obtain ⟨t127, A100, H⟩ := H
          replace H : (if t127 = true then ((account_within.f a0_4 0 10000000).bind fun t128 => (if t128 = true then ((account_within.f a0_5 (-1) a0_3).bind fun t129 => (some t129)) else (some false))) else (some false)) = some r := H
          have A10 := Aside0.mk A100
          clear A100
          by_cases c11 : t127 = true
          · subst c11
            have H1 : ((account_within.f a0_4 0 10000000).bind fun t128 => (if t128 = true then ((account_within.f a0_5 (-1) a0_3).bind fun t129 => (some t129)) else (some false))) = some r := by rw [if_pos rfl] at H; exact H
            clear H
            have H := H1
            clear H1
            replace H := Option.bind_eq_some_iff.mp H
            obtain ⟨t128, A120, H⟩ := H
            replace H : (if t128 = true then ((account_within.f a0_5 (-1) a0_3).bind fun t129 => (some t129)) else (some false)) = some r := H
            have A12 := Aside0.mk A120
            clear A120
            by_cases c13 : t128 = true
            · subst c13
              have H1 : ((account_within.f a0_5 (-1) a0_3).bind fun t129 => (some t129)) = some r := by rw [if_pos rfl] at H; exact H
              clear H
              have H := H1
              clear H1
              replace H := Option.bind_eq_some_iff.mp H
              obtain ⟨t129, A140, H⟩ := H
              replace H : (some t129) = some r := H
              have A14 := Aside0.mk A140
              clear A140
              obtain rfl := Option.some.inj H
              go_enter Try.func85, Try.ntmps85
              go_wp2_with (first | ((with_reducible refine gate_dst (N := 1) rfl ?_); refine box_event ?hg (N := 1) ?hd (cs := #[.int .i64 a0_0, .int .i64 a0_1, .int .i64 a0_2, .int .i64 a0_3, .int .i64 a0_4, .int .i64 a0_5, .slice A0_6 l0_6.length c0_6]) (t := 60) ?hr ?_; (case hd => rfl); (case hg => rfl); (case hr => first | (go_simp; done) | (go_simp; rfl)); intro gb121 hg w15 hbox hb; have n0_ := Aside0.mk (below_step (by repeat (first | (with_reducible first | exact HB.out | apply below_alloc | apply pw_below_drewN | apply below_drew1) | exact HB.out)) hb); have n1_ := Aside0.mk (hbox); have n2_ := Aside0.mk ((by rw [hg]; exact (below_size (by repeat (first | (with_reducible first | exact HB.out | apply below_alloc | apply pw_below_drewN | apply below_drew1) | exact HB.out))) : w.heap.size ≤ gb121)); have n3_ := Aside0.mk ((by rw [hg]; exact (below_size (by repeat (first | (with_reducible first | exact HB.out | apply below_alloc | apply pw_below_drewN | apply below_drew1) | exact HB.out))) : w.heap.size ≤ gb121)); clear HB; have HB := n0_; have BK121 := n1_; have GW121 := n2_; have GE121 := n3_; clear n0_ n1_ n2_ n3_; clear hb hbox hg; have hcz16_0 : w15.cell? ⟨gb121, 0, none⟩ = some (.int .i64 a0_0) := (blk_cell BK121.out 0).trans rfl; have hcz16_1 : w15.cell? ⟨gb121, 1, none⟩ = some (.int .i64 a0_1) := (blk_cell BK121.out 1).trans rfl; have hcz16_2 : w15.cell? ⟨gb121, 2, none⟩ = some (.int .i64 a0_2) := (blk_cell BK121.out 2).trans rfl; have hcz16_3 : w15.cell? ⟨gb121, 3, none⟩ = some (.int .i64 a0_3) := (blk_cell BK121.out 3).trans rfl; have hcz16_4 : w15.cell? ⟨gb121, 4, none⟩ = some (.int .i64 a0_4) := (blk_cell BK121.out 4).trans rfl; have hcz16_5 : w15.cell? ⟨gb121, 5, none⟩ = some (.int .i64 a0_5) := (blk_cell BK121.out 5).trans rfl; have hcz16_6 : w15.cell? ⟨gb121, 6, none⟩ = some (.slice A0_6 l0_6.length c0_6) := (blk_cell BK121.out 6).trans rfl; have hfz16_0 := blk_frozen BK121.out 0; have hfz16_1 := blk_frozen BK121.out 1; have hfz16_2 := blk_frozen BK121.out 2; have hfz16_3 := blk_frozen BK121.out 3; have hfz16_4 := blk_frozen BK121.out 4; have hfz16_5 := blk_frozen BK121.out 5; have hfz16_6 := blk_frozen BK121.out 6) | ((with_reducible refine gate_callee (f := 130) rfl ?_); refine goesL_ (some 8) rfl rfl Try.func130 (by kernel_rfl) rfl #[.slice A0_6 l0_6.length c0_6] rfl (by (try simp only [List.map_toArray, List.map_cons, List.map_nil]); first | done | rfl | (simp only [List.length_drop, List.length_take]; rfl)) ?_; (with_reducible refine (debt_Total.calls k _ _ l0_6 t122 t123 _ ?side1 ?side2 A2.out).mono ?_); (case side1 => repeat (first | exact (Kd.C_below HR0_6.out HB.out) | (with_reducible refine Kd.C_alloc ?_ _) | (with_reducible refine Kd.C_drewN ?_ _) | (with_reducible refine Kd.C_drew ?_))); (case side2 => exact HC0_6.out); rintro e w17 ⟨rfl, hb⟩; refine ⟨_, rfl, ?_⟩; have n0_ := Aside0.mk (blk_below (g := gb121) (o := .cells #[.int .i64 a0_0, .int .i64 a0_1, .int .i64 a0_2, .int .i64 a0_3, .int .i64 a0_4, .int .i64 a0_5, .slice A0_6 l0_6.length c0_6] 60 (0, 0)) (by (with_reducible repeat (first | refine blk_drewN ?_ _ | refine blk_drew ?_ | refine blk_alloc ?_ _)); exact BK121.out) hb); have n1_ := Aside0.mk (below_step (by repeat (first | (with_reducible first | exact HB.out | apply below_alloc | apply pw_below_drewN | apply below_drew1 | refine below_set ?_ GE121.out) | exact HB.out)) hb); clear BK121; clear HB; have BK121 := n0_; have HB := n1_; clear n0_ n1_; (try clear hb); (try clear hb2); (try clear hk); (try clear hi); have hcz18_0 : w17.cell? ⟨gb121, 0, none⟩ = some (.int .i64 a0_0) := (blk_cell BK121.out 0).trans rfl; have hcz18_1 : w17.cell? ⟨gb121, 1, none⟩ = some (.int .i64 a0_1) := (blk_cell BK121.out 1).trans rfl; have hcz18_2 : w17.cell? ⟨gb121, 2, none⟩ = some (.int .i64 a0_2) := (blk_cell BK121.out 2).trans rfl; have hcz18_3 : w17.cell? ⟨gb121, 3, none⟩ = some (.int .i64 a0_3) := (blk_cell BK121.out 3).trans rfl; have hcz18_4 : w17.cell? ⟨gb121, 4, none⟩ = some (.int .i64 a0_4) := (blk_cell BK121.out 4).trans rfl; have hcz18_5 : w17.cell? ⟨gb121, 5, none⟩ = some (.int .i64 a0_5) := (blk_cell BK121.out 5).trans rfl; have hcz18_6 : w17.cell? ⟨gb121, 6, none⟩ = some (.slice A0_6 l0_6.length c0_6) := (blk_cell BK121.out 6).trans rfl; have hfz18_0 := blk_frozen BK121.out 0; have hfz18_1 := blk_frozen BK121.out 1; have hfz18_2 := blk_frozen BK121.out 2; have hfz18_3 := blk_frozen BK121.out 3; have hfz18_4 := blk_frozen BK121.out 4; have hfz18_5 := blk_frozen BK121.out 5; have hfz18_6 := blk_frozen BK121.out 6) | (go_at_call 73; (with_reducible refine (account_within.calls a0_0 0 49 true _ A4.out).mono ?_); rintro e w' ⟨rfl, ⟨nd, rfl⟩⟩) | (go_at_call 73; (with_reducible refine (account_within.calls a0_1 0 15 true _ A6.out).mono ?_); rintro e w' ⟨rfl, ⟨nd, rfl⟩⟩) | (go_at_call 73; (with_reducible refine (account_within.calls a0_2 1 1048576 true _ A8.out).mono ?_); rintro e w' ⟨rfl, ⟨nd, rfl⟩⟩) | (go_at_call 73; (with_reducible refine (account_within.calls a0_3 0 2399 true _ A10.out).mono ?_); rintro e w' ⟨rfl, ⟨nd, rfl⟩⟩) | (go_at_call 73; (with_reducible refine (account_within.calls a0_4 0 10000000 true _ A12.out).mono ?_); rintro e w' ⟨rfl, ⟨nd, rfl⟩⟩) | (go_at_call 73; (with_reducible refine (account_within.calls a0_5 (-1) a0_3 t129 _ A14.out).mono ?_); rintro e w' ⟨rfl, ⟨nd, rfl⟩⟩))
              go_ret
              exact ⟨by first | rfl | (simp [errW_none, errW_some] <;> rfl) | (simp [*, errW_none, errW_some] <;> rfl), by repeat (first | (with_reducible first | exact HB.out | apply below_alloc | apply pw_below_drewN | apply below_drew1 | refine below_set ?_ GE121.out) | exact HB.out)⟩
            · replace c13 := Bool.eq_false_iff.mpr c13
              subst c13
              have H1 : (some false) = some r := by rw [if_neg (show ¬ (false = true) by decide)] at H; exact H
              clear H
              have H := H1
              clear H1
              obtain rfl := Option.some.inj H
              go_enter Try.func85, Try.ntmps85
              go_wp2_with (first | ((with_reducible refine gate_dst (N := 1) rfl ?_); refine box_event ?hg (N := 1) ?hd (cs := #[.int .i64 a0_0, .int .i64 a0_1, .int .i64 a0_2, .int .i64 a0_3, .int .i64 a0_4, .int .i64 a0_5, .slice A0_6 l0_6.length c0_6]) (t := 60) ?hr ?_; (case hd => rfl); (case hg => rfl); (case hr => first | (go_simp; done) | (go_simp; rfl)); intro gb121 hg w19 hbox hb; have n0_ := Aside0.mk (below_step (by repeat (first | (with_reducible first | exact HB.out | apply below_alloc | apply pw_below_drewN | apply below_drew1) | exact HB.out)) hb); have n1_ := Aside0.mk (hbox); have n2_ := Aside0.mk ((by rw [hg]; exact (below_size (by repeat (first | (with_reducible first | exact HB.out | apply below_alloc | apply pw_below_drewN | apply below_drew1) | exact HB.out))) : w.heap.size ≤ gb121)); have n3_ := Aside0.mk ((by rw [hg]; exact (below_size (by repeat (first | (with_reducible first | exact HB.out | apply below_alloc | apply pw_below_drewN | apply below_drew1) | exact HB.out))) : w.heap.size ≤ gb121)); clear HB; have HB := n0_; have BK121 := n1_; have GW121 := n2_; have GE121 := n3_; clear n0_ n1_ n2_ n3_; clear hb hbox hg; have hcz20_0 : w19.cell? ⟨gb121, 0, none⟩ = some (.int .i64 a0_0) := (blk_cell BK121.out 0).trans rfl; have hcz20_1 : w19.cell? ⟨gb121, 1, none⟩ = some (.int .i64 a0_1) := (blk_cell BK121.out 1).trans rfl; have hcz20_2 : w19.cell? ⟨gb121, 2, none⟩ = some (.int .i64 a0_2) := (blk_cell BK121.out 2).trans rfl; have hcz20_3 : w19.cell? ⟨gb121, 3, none⟩ = some (.int .i64 a0_3) := (blk_cell BK121.out 3).trans rfl; have hcz20_4 : w19.cell? ⟨gb121, 4, none⟩ = some (.int .i64 a0_4) := (blk_cell BK121.out 4).trans rfl; have hcz20_5 : w19.cell? ⟨gb121, 5, none⟩ = some (.int .i64 a0_5) := (blk_cell BK121.out 5).trans rfl; have hcz20_6 : w19.cell? ⟨gb121, 6, none⟩ = some (.slice A0_6 l0_6.length c0_6) := (blk_cell BK121.out 6).trans rfl; have hfz20_0 := blk_frozen BK121.out 0; have hfz20_1 := blk_frozen BK121.out 1; have hfz20_2 := blk_frozen BK121.out 2; have hfz20_3 := blk_frozen BK121.out 3; have hfz20_4 := blk_frozen BK121.out 4; have hfz20_5 := blk_frozen BK121.out 5; have hfz20_6 := blk_frozen BK121.out 6) | ((with_reducible refine gate_callee (f := 130) rfl ?_); refine goesL_ (some 8) rfl rfl Try.func130 (by kernel_rfl) rfl #[.slice A0_6 l0_6.length c0_6] rfl (by (try simp only [List.map_toArray, List.map_cons, List.map_nil]); first | done | rfl | (simp only [List.length_drop, List.length_take]; rfl)) ?_; (with_reducible refine (debt_Total.calls k _ _ l0_6 t122 t123 _ ?side1 ?side2 A2.out).mono ?_); (case side1 => repeat (first | exact (Kd.C_below HR0_6.out HB.out) | (with_reducible refine Kd.C_alloc ?_ _) | (with_reducible refine Kd.C_drewN ?_ _) | (with_reducible refine Kd.C_drew ?_))); (case side2 => exact HC0_6.out); rintro e w21 ⟨rfl, hb⟩; refine ⟨_, rfl, ?_⟩; have n0_ := Aside0.mk (blk_below (g := gb121) (o := .cells #[.int .i64 a0_0, .int .i64 a0_1, .int .i64 a0_2, .int .i64 a0_3, .int .i64 a0_4, .int .i64 a0_5, .slice A0_6 l0_6.length c0_6] 60 (0, 0)) (by (with_reducible repeat (first | refine blk_drewN ?_ _ | refine blk_drew ?_ | refine blk_alloc ?_ _)); exact BK121.out) hb); have n1_ := Aside0.mk (below_step (by repeat (first | (with_reducible first | exact HB.out | apply below_alloc | apply pw_below_drewN | apply below_drew1 | refine below_set ?_ GE121.out) | exact HB.out)) hb); clear BK121; clear HB; have BK121 := n0_; have HB := n1_; clear n0_ n1_; (try clear hb); (try clear hb2); (try clear hk); (try clear hi); have hcz22_0 : w21.cell? ⟨gb121, 0, none⟩ = some (.int .i64 a0_0) := (blk_cell BK121.out 0).trans rfl; have hcz22_1 : w21.cell? ⟨gb121, 1, none⟩ = some (.int .i64 a0_1) := (blk_cell BK121.out 1).trans rfl; have hcz22_2 : w21.cell? ⟨gb121, 2, none⟩ = some (.int .i64 a0_2) := (blk_cell BK121.out 2).trans rfl; have hcz22_3 : w21.cell? ⟨gb121, 3, none⟩ = some (.int .i64 a0_3) := (blk_cell BK121.out 3).trans rfl; have hcz22_4 : w21.cell? ⟨gb121, 4, none⟩ = some (.int .i64 a0_4) := (blk_cell BK121.out 4).trans rfl; have hcz22_5 : w21.cell? ⟨gb121, 5, none⟩ = some (.int .i64 a0_5) := (blk_cell BK121.out 5).trans rfl; have hcz22_6 : w21.cell? ⟨gb121, 6, none⟩ = some (.slice A0_6 l0_6.length c0_6) := (blk_cell BK121.out 6).trans rfl; have hfz22_0 := blk_frozen BK121.out 0; have hfz22_1 := blk_frozen BK121.out 1; have hfz22_2 := blk_frozen BK121.out 2; have hfz22_3 := blk_frozen BK121.out 3; have hfz22_4 := blk_frozen BK121.out 4; have hfz22_5 := blk_frozen BK121.out 5; have hfz22_6 := blk_frozen BK121.out 6) | (go_at_call 73; (with_reducible refine (account_within.calls a0_0 0 49 true _ A4.out).mono ?_); rintro e w' ⟨rfl, ⟨nd, rfl⟩⟩) | (go_at_call 73; (with_reducible refine (account_within.calls a0_1 0 15 true _ A6.out).mono ?_); rintro e w' ⟨rfl, ⟨nd, rfl⟩⟩) | (go_at_call 73; (with_reducible refine (account_within.calls a0_2 1 1048576 true _ A8.out).mono ?_); rintro e w' ⟨rfl, ⟨nd, rfl⟩⟩) | (go_at_call 73; (with_reducible refine (account_within.calls a0_3 0 2399 true _ A10.out).mono ?_); rintro e w' ⟨rfl, ⟨nd, rfl⟩⟩) | (go_at_call 73; (with_reducible refine (account_within.calls a0_4 0 10000000 false _ A12.out).mono ?_); rintro e w' ⟨rfl, ⟨nd, rfl⟩⟩))
              go_ret
              exact ⟨by first | rfl | (simp [errW_none, errW_some] <;> rfl) | (simp [*, errW_none, errW_some] <;> rfl), by repeat (first | (with_reducible first | exact HB.out | apply below_alloc | apply pw_below_drewN | apply below_drew1 | refine below_set ?_ GE121.out) | exact HB.out)⟩
          · replace c11 := Bool.eq_false_iff.mpr c11
            subst c11
            have H1 : (some false) = some r := by rw [if_neg (show ¬ (false = true) by decide)] at H; exact H
            clear H
            have H := H1
            clear H1
            obtain rfl := Option.some.inj H
            go_enter Try.func85, Try.ntmps85
            go_wp2_with (first | ((with_reducible refine gate_dst (N := 1) rfl ?_); refine box_event ?hg (N := 1) ?hd (cs := #[.int .i64 a0_0, .int .i64 a0_1, .int .i64 a0_2, .int .i64 a0_3, .int .i64 a0_4, .int .i64 a0_5, .slice A0_6 l0_6.length c0_6]) (t := 60) ?hr ?_; (case hd => rfl); (case hg => rfl); (case hr => first | (go_simp; done) | (go_simp; rfl)); intro gb121 hg w23 hbox hb; have n0_ := Aside0.mk (below_step (by repeat (first | (with_reducible first | exact HB.out | apply below_alloc | apply pw_below_drewN | apply below_drew1) | exact HB.out)) hb); have n1_ := Aside0.mk (hbox); have n2_ := Aside0.mk ((by rw [hg]; exact (below_size (by repeat (first | (with_reducible first | exact HB.out | apply below_alloc | apply pw_below_drewN | apply below_drew1) | exact HB.out))) : w.heap.size ≤ gb121)); have n3_ := Aside0.mk ((by rw [hg]; exact (below_size (by repeat (first | (with_reducible first | exact HB.out | apply below_alloc | apply pw_below_drewN | apply below_drew1) | exact HB.out))) : w.heap.size ≤ gb121)); clear HB; have HB := n0_; have BK121 := n1_; have GW121 := n2_; have GE121 := n3_; clear n0_ n1_ n2_ n3_; clear hb hbox hg; have hcz24_0 : w23.cell? ⟨gb121, 0, none⟩ = some (.int .i64 a0_0) := (blk_cell BK121.out 0).trans rfl; have hcz24_1 : w23.cell? ⟨gb121, 1, none⟩ = some (.int .i64 a0_1) := (blk_cell BK121.out 1).trans rfl; have hcz24_2 : w23.cell? ⟨gb121, 2, none⟩ = some (.int .i64 a0_2) := (blk_cell BK121.out 2).trans rfl; have hcz24_3 : w23.cell? ⟨gb121, 3, none⟩ = some (.int .i64 a0_3) := (blk_cell BK121.out 3).trans rfl; have hcz24_4 : w23.cell? ⟨gb121, 4, none⟩ = some (.int .i64 a0_4) := (blk_cell BK121.out 4).trans rfl; have hcz24_5 : w23.cell? ⟨gb121, 5, none⟩ = some (.int .i64 a0_5) := (blk_cell BK121.out 5).trans rfl; have hcz24_6 : w23.cell? ⟨gb121, 6, none⟩ = some (.slice A0_6 l0_6.length c0_6) := (blk_cell BK121.out 6).trans rfl; have hfz24_0 := blk_frozen BK121.out 0; have hfz24_1 := blk_frozen BK121.out 1; have hfz24_2 := blk_frozen BK121.out 2; have hfz24_3 := blk_frozen BK121.out 3; have hfz24_4 := blk_frozen BK121.out 4; have hfz24_5 := blk_frozen BK121.out 5; have hfz24_6 := blk_frozen BK121.out 6) | ((with_reducible refine gate_callee (f := 130) rfl ?_); refine goesL_ (some 8) rfl rfl Try.func130 (by kernel_rfl) rfl #[.slice A0_6 l0_6.length c0_6] rfl (by (try simp only [List.map_toArray, List.map_cons, List.map_nil]); first | done | rfl | (simp only [List.length_drop, List.length_take]; rfl)) ?_; (with_reducible refine (debt_Total.calls k _ _ l0_6 t122 t123 _ ?side1 ?side2 A2.out).mono ?_); (case side1 => repeat (first | exact (Kd.C_below HR0_6.out HB.out) | (with_reducible refine Kd.C_alloc ?_ _) | (with_reducible refine Kd.C_drewN ?_ _) | (with_reducible refine Kd.C_drew ?_))); (case side2 => exact HC0_6.out); rintro e w25 ⟨rfl, hb⟩; refine ⟨_, rfl, ?_⟩; have n0_ := Aside0.mk (blk_below (g := gb121) (o := .cells #[.int .i64 a0_0, .int .i64 a0_1, .int .i64 a0_2, .int .i64 a0_3, .int .i64 a0_4, .int .i64 a0_5, .slice A0_6 l0_6.length c0_6] 60 (0, 0)) (by (with_reducible repeat (first | refine blk_drewN ?_ _ | refine blk_drew ?_ | refine blk_alloc ?_ _)); exact BK121.out) hb); have n1_ := Aside0.mk (below_step (by repeat (first | (with_reducible first | exact HB.out | apply below_alloc | apply pw_below_drewN | apply below_drew1 | refine below_set ?_ GE121.out) | exact HB.out)) hb); clear BK121; clear HB; have BK121 := n0_; have HB := n1_; clear n0_ n1_; (try clear hb); (try clear hb2); (try clear hk); (try clear hi); have hcz26_0 : w25.cell? ⟨gb121, 0, none⟩ = some (.int .i64 a0_0) := (blk_cell BK121.out 0).trans rfl; have hcz26_1 : w25.cell? ⟨gb121, 1, none⟩ = some (.int .i64 a0_1) := (blk_cell BK121.out 1).trans rfl; have hcz26_2 : w25.cell? ⟨gb121, 2, none⟩ = some (.int .i64 a0_2) := (blk_cell BK121.out 2).trans rfl; have hcz26_3 : w25.cell? ⟨gb121, 3, none⟩ = some (.int .i64 a0_3) := (blk_cell BK121.out 3).trans rfl; have hcz26_4 : w25.cell? ⟨gb121, 4, none⟩ = some (.int .i64 a0_4) := (blk_cell BK121.out 4).trans rfl; have hcz26_5 : w25.cell? ⟨gb121, 5, none⟩ = some (.int .i64 a0_5) := (blk_cell BK121.out 5).trans rfl; have hcz26_6 : w25.cell? ⟨gb121, 6, none⟩ = some (.slice A0_6 l0_6.length c0_6) := (blk_cell BK121.out 6).trans rfl; have hfz26_0 := blk_frozen BK121.out 0; have hfz26_1 := blk_frozen BK121.out 1; have hfz26_2 := blk_frozen BK121.out 2; have hfz26_3 := blk_frozen BK121.out 3; have hfz26_4 := blk_frozen BK121.out 4; have hfz26_5 := blk_frozen BK121.out 5; have hfz26_6 := blk_frozen BK121.out 6) | (go_at_call 73; (with_reducible refine (account_within.calls a0_0 0 49 true _ A4.out).mono ?_); rintro e w' ⟨rfl, ⟨nd, rfl⟩⟩) | (go_at_call 73; (with_reducible refine (account_within.calls a0_1 0 15 true _ A6.out).mono ?_); rintro e w' ⟨rfl, ⟨nd, rfl⟩⟩) | (go_at_call 73; (with_reducible refine (account_within.calls a0_2 1 1048576 true _ A8.out).mono ?_); rintro e w' ⟨rfl, ⟨nd, rfl⟩⟩) | (go_at_call 73; (with_reducible refine (account_within.calls a0_3 0 2399 false _ A10.out).mono ?_); rintro e w' ⟨rfl, ⟨nd, rfl⟩⟩))
            go_ret
            exact ⟨by first | rfl | (simp [errW_none, errW_some] <;> rfl) | (simp [*, errW_none, errW_some] <;> rfl), by repeat (first | (with_reducible first | exact HB.out | apply below_alloc | apply pw_below_drewN | apply below_drew1 | refine below_set ?_ GE121.out) | exact HB.out)⟩
        · replace c9 := Bool.eq_false_iff.mpr c9
          subst c9
          have H1 : (some false) = some r := by rw [if_neg (show ¬ (false = true) by decide)] at H; exact H
          clear H
          have H := H1
          clear H1
          obtain rfl := Option.some.inj H
          go_enter Try.func85, Try.ntmps85
          go_wp2_with (first | ((with_reducible refine gate_dst (N := 1) rfl ?_); refine box_event ?hg (N := 1) ?hd (cs := #[.int .i64 a0_0, .int .i64 a0_1, .int .i64 a0_2, .int .i64 a0_3, .int .i64 a0_4, .int .i64 a0_5, .slice A0_6 l0_6.length c0_6]) (t := 60) ?hr ?_; (case hd => rfl); (case hg => rfl); (case hr => first | (go_simp; done) | (go_simp; rfl)); intro gb121 hg w27 hbox hb; have n0_ := Aside0.mk (below_step (by repeat (first | (with_reducible first | exact HB.out | apply below_alloc | apply pw_below_drewN | apply below_drew1) | exact HB.out)) hb); have n1_ := Aside0.mk (hbox); have n2_ := Aside0.mk ((by rw [hg]; exact (below_size (by repeat (first | (with_reducible first | exact HB.out | apply below_alloc | apply pw_below_drewN | apply below_drew1) | exact HB.out))) : w.heap.size ≤ gb121)); have n3_ := Aside0.mk ((by rw [hg]; exact (below_size (by repeat (first | (with_reducible first | exact HB.out | apply below_alloc | apply pw_below_drewN | apply below_drew1) | exact HB.out))) : w.heap.size ≤ gb121)); clear HB; have HB := n0_; have BK121 := n1_; have GW121 := n2_; have GE121 := n3_; clear n0_ n1_ n2_ n3_; clear hb hbox hg; have hcz28_0 : w27.cell? ⟨gb121, 0, none⟩ = some (.int .i64 a0_0) := (blk_cell BK121.out 0).trans rfl; have hcz28_1 : w27.cell? ⟨gb121, 1, none⟩ = some (.int .i64 a0_1) := (blk_cell BK121.out 1).trans rfl; have hcz28_2 : w27.cell? ⟨gb121, 2, none⟩ = some (.int .i64 a0_2) := (blk_cell BK121.out 2).trans rfl; have hcz28_3 : w27.cell? ⟨gb121, 3, none⟩ = some (.int .i64 a0_3) := (blk_cell BK121.out 3).trans rfl; have hcz28_4 : w27.cell? ⟨gb121, 4, none⟩ = some (.int .i64 a0_4) := (blk_cell BK121.out 4).trans rfl; have hcz28_5 : w27.cell? ⟨gb121, 5, none⟩ = some (.int .i64 a0_5) := (blk_cell BK121.out 5).trans rfl; have hcz28_6 : w27.cell? ⟨gb121, 6, none⟩ = some (.slice A0_6 l0_6.length c0_6) := (blk_cell BK121.out 6).trans rfl; have hfz28_0 := blk_frozen BK121.out 0; have hfz28_1 := blk_frozen BK121.out 1; have hfz28_2 := blk_frozen BK121.out 2; have hfz28_3 := blk_frozen BK121.out 3; have hfz28_4 := blk_frozen BK121.out 4; have hfz28_5 := blk_frozen BK121.out 5; have hfz28_6 := blk_frozen BK121.out 6) | ((with_reducible refine gate_callee (f := 130) rfl ?_); refine goesL_ (some 8) rfl rfl Try.func130 (by kernel_rfl) rfl #[.slice A0_6 l0_6.length c0_6] rfl (by (try simp only [List.map_toArray, List.map_cons, List.map_nil]); first | done | rfl | (simp only [List.length_drop, List.length_take]; rfl)) ?_; (with_reducible refine (debt_Total.calls k _ _ l0_6 t122 t123 _ ?side1 ?side2 A2.out).mono ?_); (case side1 => repeat (first | exact (Kd.C_below HR0_6.out HB.out) | (with_reducible refine Kd.C_alloc ?_ _) | (with_reducible refine Kd.C_drewN ?_ _) | (with_reducible refine Kd.C_drew ?_))); (case side2 => exact HC0_6.out); rintro e w29 ⟨rfl, hb⟩; refine ⟨_, rfl, ?_⟩; have n0_ := Aside0.mk (blk_below (g := gb121) (o := .cells #[.int .i64 a0_0, .int .i64 a0_1, .int .i64 a0_2, .int .i64 a0_3, .int .i64 a0_4, .int .i64 a0_5, .slice A0_6 l0_6.length c0_6] 60 (0, 0)) (by (with_reducible repeat (first | refine blk_drewN ?_ _ | refine blk_drew ?_ | refine blk_alloc ?_ _)); exact BK121.out) hb); have n1_ := Aside0.mk (below_step (by repeat (first | (with_reducible first | exact HB.out | apply below_alloc | apply pw_below_drewN | apply below_drew1 | refine below_set ?_ GE121.out) | exact HB.out)) hb); clear BK121; clear HB; have BK121 := n0_; have HB := n1_; clear n0_ n1_; (try clear hb); (try clear hb2); (try clear hk); (try clear hi); have hcz30_0 : w29.cell? ⟨gb121, 0, none⟩ = some (.int .i64 a0_0) := (blk_cell BK121.out 0).trans rfl; have hcz30_1 : w29.cell? ⟨gb121, 1, none⟩ = some (.int .i64 a0_1) := (blk_cell BK121.out 1).trans rfl; have hcz30_2 : w29.cell? ⟨gb121, 2, none⟩ = some (.int .i64 a0_2) := (blk_cell BK121.out 2).trans rfl; have hcz30_3 : w29.cell? ⟨gb121, 3, none⟩ = some (.int .i64 a0_3) := (blk_cell BK121.out 3).trans rfl; have hcz30_4 : w29.cell? ⟨gb121, 4, none⟩ = some (.int .i64 a0_4) := (blk_cell BK121.out 4).trans rfl; have hcz30_5 : w29.cell? ⟨gb121, 5, none⟩ = some (.int .i64 a0_5) := (blk_cell BK121.out 5).trans rfl; have hcz30_6 : w29.cell? ⟨gb121, 6, none⟩ = some (.slice A0_6 l0_6.length c0_6) := (blk_cell BK121.out 6).trans rfl; have hfz30_0 := blk_frozen BK121.out 0; have hfz30_1 := blk_frozen BK121.out 1; have hfz30_2 := blk_frozen BK121.out 2; have hfz30_3 := blk_frozen BK121.out 3; have hfz30_4 := blk_frozen BK121.out 4; have hfz30_5 := blk_frozen BK121.out 5; have hfz30_6 := blk_frozen BK121.out 6) | (go_at_call 73; (with_reducible refine (account_within.calls a0_0 0 49 true _ A4.out).mono ?_); rintro e w' ⟨rfl, ⟨nd, rfl⟩⟩) | (go_at_call 73; (with_reducible refine (account_within.calls a0_1 0 15 true _ A6.out).mono ?_); rintro e w' ⟨rfl, ⟨nd, rfl⟩⟩) | (go_at_call 73; (with_reducible refine (account_within.calls a0_2 1 1048576 false _ A8.out).mono ?_); rintro e w' ⟨rfl, ⟨nd, rfl⟩⟩))
          go_ret
          exact ⟨by first | rfl | (simp [errW_none, errW_some] <;> rfl) | (simp [*, errW_none, errW_some] <;> rfl), by repeat (first | (with_reducible first | exact HB.out | apply below_alloc | apply pw_below_drewN | apply below_drew1 | refine below_set ?_ GE121.out) | exact HB.out)⟩
      · replace c7 := Bool.eq_false_iff.mpr c7
        subst c7
        have H1 : (some false) = some r := by rw [if_neg (show ¬ (false = true) by decide)] at H; exact H
        clear H
        have H := H1
        clear H1
        obtain rfl := Option.some.inj H
        go_enter Try.func85, Try.ntmps85
        go_wp2_with (first | ((with_reducible refine gate_dst (N := 1) rfl ?_); refine box_event ?hg (N := 1) ?hd (cs := #[.int .i64 a0_0, .int .i64 a0_1, .int .i64 a0_2, .int .i64 a0_3, .int .i64 a0_4, .int .i64 a0_5, .slice A0_6 l0_6.length c0_6]) (t := 60) ?hr ?_; (case hd => rfl); (case hg => rfl); (case hr => first | (go_simp; done) | (go_simp; rfl)); intro gb121 hg w31 hbox hb; have n0_ := Aside0.mk (below_step (by repeat (first | (with_reducible first | exact HB.out | apply below_alloc | apply pw_below_drewN | apply below_drew1) | exact HB.out)) hb); have n1_ := Aside0.mk (hbox); have n2_ := Aside0.mk ((by rw [hg]; exact (below_size (by repeat (first | (with_reducible first | exact HB.out | apply below_alloc | apply pw_below_drewN | apply below_drew1) | exact HB.out))) : w.heap.size ≤ gb121)); have n3_ := Aside0.mk ((by rw [hg]; exact (below_size (by repeat (first | (with_reducible first | exact HB.out | apply below_alloc | apply pw_below_drewN | apply below_drew1) | exact HB.out))) : w.heap.size ≤ gb121)); clear HB; have HB := n0_; have BK121 := n1_; have GW121 := n2_; have GE121 := n3_; clear n0_ n1_ n2_ n3_; clear hb hbox hg; have hcz32_0 : w31.cell? ⟨gb121, 0, none⟩ = some (.int .i64 a0_0) := (blk_cell BK121.out 0).trans rfl; have hcz32_1 : w31.cell? ⟨gb121, 1, none⟩ = some (.int .i64 a0_1) := (blk_cell BK121.out 1).trans rfl; have hcz32_2 : w31.cell? ⟨gb121, 2, none⟩ = some (.int .i64 a0_2) := (blk_cell BK121.out 2).trans rfl; have hcz32_3 : w31.cell? ⟨gb121, 3, none⟩ = some (.int .i64 a0_3) := (blk_cell BK121.out 3).trans rfl; have hcz32_4 : w31.cell? ⟨gb121, 4, none⟩ = some (.int .i64 a0_4) := (blk_cell BK121.out 4).trans rfl; have hcz32_5 : w31.cell? ⟨gb121, 5, none⟩ = some (.int .i64 a0_5) := (blk_cell BK121.out 5).trans rfl; have hcz32_6 : w31.cell? ⟨gb121, 6, none⟩ = some (.slice A0_6 l0_6.length c0_6) := (blk_cell BK121.out 6).trans rfl; have hfz32_0 := blk_frozen BK121.out 0; have hfz32_1 := blk_frozen BK121.out 1; have hfz32_2 := blk_frozen BK121.out 2; have hfz32_3 := blk_frozen BK121.out 3; have hfz32_4 := blk_frozen BK121.out 4; have hfz32_5 := blk_frozen BK121.out 5; have hfz32_6 := blk_frozen BK121.out 6) | ((with_reducible refine gate_callee (f := 130) rfl ?_); refine goesL_ (some 8) rfl rfl Try.func130 (by kernel_rfl) rfl #[.slice A0_6 l0_6.length c0_6] rfl (by (try simp only [List.map_toArray, List.map_cons, List.map_nil]); first | done | rfl | (simp only [List.length_drop, List.length_take]; rfl)) ?_; (with_reducible refine (debt_Total.calls k _ _ l0_6 t122 t123 _ ?side1 ?side2 A2.out).mono ?_); (case side1 => repeat (first | exact (Kd.C_below HR0_6.out HB.out) | (with_reducible refine Kd.C_alloc ?_ _) | (with_reducible refine Kd.C_drewN ?_ _) | (with_reducible refine Kd.C_drew ?_))); (case side2 => exact HC0_6.out); rintro e w33 ⟨rfl, hb⟩; refine ⟨_, rfl, ?_⟩; have n0_ := Aside0.mk (blk_below (g := gb121) (o := .cells #[.int .i64 a0_0, .int .i64 a0_1, .int .i64 a0_2, .int .i64 a0_3, .int .i64 a0_4, .int .i64 a0_5, .slice A0_6 l0_6.length c0_6] 60 (0, 0)) (by (with_reducible repeat (first | refine blk_drewN ?_ _ | refine blk_drew ?_ | refine blk_alloc ?_ _)); exact BK121.out) hb); have n1_ := Aside0.mk (below_step (by repeat (first | (with_reducible first | exact HB.out | apply below_alloc | apply pw_below_drewN | apply below_drew1 | refine below_set ?_ GE121.out) | exact HB.out)) hb); clear BK121; clear HB; have BK121 := n0_; have HB := n1_; clear n0_ n1_; (try clear hb); (try clear hb2); (try clear hk); (try clear hi); have hcz34_0 : w33.cell? ⟨gb121, 0, none⟩ = some (.int .i64 a0_0) := (blk_cell BK121.out 0).trans rfl; have hcz34_1 : w33.cell? ⟨gb121, 1, none⟩ = some (.int .i64 a0_1) := (blk_cell BK121.out 1).trans rfl; have hcz34_2 : w33.cell? ⟨gb121, 2, none⟩ = some (.int .i64 a0_2) := (blk_cell BK121.out 2).trans rfl; have hcz34_3 : w33.cell? ⟨gb121, 3, none⟩ = some (.int .i64 a0_3) := (blk_cell BK121.out 3).trans rfl; have hcz34_4 : w33.cell? ⟨gb121, 4, none⟩ = some (.int .i64 a0_4) := (blk_cell BK121.out 4).trans rfl; have hcz34_5 : w33.cell? ⟨gb121, 5, none⟩ = some (.int .i64 a0_5) := (blk_cell BK121.out 5).trans rfl; have hcz34_6 : w33.cell? ⟨gb121, 6, none⟩ = some (.slice A0_6 l0_6.length c0_6) := (blk_cell BK121.out 6).trans rfl; have hfz34_0 := blk_frozen BK121.out 0; have hfz34_1 := blk_frozen BK121.out 1; have hfz34_2 := blk_frozen BK121.out 2; have hfz34_3 := blk_frozen BK121.out 3; have hfz34_4 := blk_frozen BK121.out 4; have hfz34_5 := blk_frozen BK121.out 5; have hfz34_6 := blk_frozen BK121.out 6) | (go_at_call 73; (with_reducible refine (account_within.calls a0_0 0 49 true _ A4.out).mono ?_); rintro e w' ⟨rfl, ⟨nd, rfl⟩⟩) | (go_at_call 73; (with_reducible refine (account_within.calls a0_1 0 15 false _ A6.out).mono ?_); rintro e w' ⟨rfl, ⟨nd, rfl⟩⟩))
        go_ret
        exact ⟨by first | rfl | (simp [errW_none, errW_some] <;> rfl) | (simp [*, errW_none, errW_some] <;> rfl), by repeat (first | (with_reducible first | exact HB.out | apply below_alloc | apply pw_below_drewN | apply below_drew1 | refine below_set ?_ GE121.out) | exact HB.out)⟩
    · replace c5 := Bool.eq_false_iff.mpr c5
      subst c5
      have H1 : (some false) = some r := by rw [if_neg (show ¬ (false = true) by decide)] at H; exact H
      clear H
      have H := H1
      clear H1
      obtain rfl := Option.some.inj H
      go_enter Try.func85, Try.ntmps85
      go_wp2_with (first | ((with_reducible refine gate_dst (N := 1) rfl ?_); refine box_event ?hg (N := 1) ?hd (cs := #[.int .i64 a0_0, .int .i64 a0_1, .int .i64 a0_2, .int .i64 a0_3, .int .i64 a0_4, .int .i64 a0_5, .slice A0_6 l0_6.length c0_6]) (t := 60) ?hr ?_; (case hd => rfl); (case hg => rfl); (case hr => first | (go_simp; done) | (go_simp; rfl)); intro gb121 hg w35 hbox hb; have n0_ := Aside0.mk (below_step (by repeat (first | (with_reducible first | exact HB.out | apply below_alloc | apply pw_below_drewN | apply below_drew1) | exact HB.out)) hb); have n1_ := Aside0.mk (hbox); have n2_ := Aside0.mk ((by rw [hg]; exact (below_size (by repeat (first | (with_reducible first | exact HB.out | apply below_alloc | apply pw_below_drewN | apply below_drew1) | exact HB.out))) : w.heap.size ≤ gb121)); have n3_ := Aside0.mk ((by rw [hg]; exact (below_size (by repeat (first | (with_reducible first | exact HB.out | apply below_alloc | apply pw_below_drewN | apply below_drew1) | exact HB.out))) : w.heap.size ≤ gb121)); clear HB; have HB := n0_; have BK121 := n1_; have GW121 := n2_; have GE121 := n3_; clear n0_ n1_ n2_ n3_; clear hb hbox hg; have hcz36_0 : w35.cell? ⟨gb121, 0, none⟩ = some (.int .i64 a0_0) := (blk_cell BK121.out 0).trans rfl; have hcz36_1 : w35.cell? ⟨gb121, 1, none⟩ = some (.int .i64 a0_1) := (blk_cell BK121.out 1).trans rfl; have hcz36_2 : w35.cell? ⟨gb121, 2, none⟩ = some (.int .i64 a0_2) := (blk_cell BK121.out 2).trans rfl; have hcz36_3 : w35.cell? ⟨gb121, 3, none⟩ = some (.int .i64 a0_3) := (blk_cell BK121.out 3).trans rfl; have hcz36_4 : w35.cell? ⟨gb121, 4, none⟩ = some (.int .i64 a0_4) := (blk_cell BK121.out 4).trans rfl; have hcz36_5 : w35.cell? ⟨gb121, 5, none⟩ = some (.int .i64 a0_5) := (blk_cell BK121.out 5).trans rfl; have hcz36_6 : w35.cell? ⟨gb121, 6, none⟩ = some (.slice A0_6 l0_6.length c0_6) := (blk_cell BK121.out 6).trans rfl; have hfz36_0 := blk_frozen BK121.out 0; have hfz36_1 := blk_frozen BK121.out 1; have hfz36_2 := blk_frozen BK121.out 2; have hfz36_3 := blk_frozen BK121.out 3; have hfz36_4 := blk_frozen BK121.out 4; have hfz36_5 := blk_frozen BK121.out 5; have hfz36_6 := blk_frozen BK121.out 6) | ((with_reducible refine gate_callee (f := 130) rfl ?_); refine goesL_ (some 8) rfl rfl Try.func130 (by kernel_rfl) rfl #[.slice A0_6 l0_6.length c0_6] rfl (by (try simp only [List.map_toArray, List.map_cons, List.map_nil]); first | done | rfl | (simp only [List.length_drop, List.length_take]; rfl)) ?_; (with_reducible refine (debt_Total.calls k _ _ l0_6 t122 t123 _ ?side1 ?side2 A2.out).mono ?_); (case side1 => repeat (first | exact (Kd.C_below HR0_6.out HB.out) | (with_reducible refine Kd.C_alloc ?_ _) | (with_reducible refine Kd.C_drewN ?_ _) | (with_reducible refine Kd.C_drew ?_))); (case side2 => exact HC0_6.out); rintro e w37 ⟨rfl, hb⟩; refine ⟨_, rfl, ?_⟩; have n0_ := Aside0.mk (blk_below (g := gb121) (o := .cells #[.int .i64 a0_0, .int .i64 a0_1, .int .i64 a0_2, .int .i64 a0_3, .int .i64 a0_4, .int .i64 a0_5, .slice A0_6 l0_6.length c0_6] 60 (0, 0)) (by (with_reducible repeat (first | refine blk_drewN ?_ _ | refine blk_drew ?_ | refine blk_alloc ?_ _)); exact BK121.out) hb); have n1_ := Aside0.mk (below_step (by repeat (first | (with_reducible first | exact HB.out | apply below_alloc | apply pw_below_drewN | apply below_drew1 | refine below_set ?_ GE121.out) | exact HB.out)) hb); clear BK121; clear HB; have BK121 := n0_; have HB := n1_; clear n0_ n1_; (try clear hb); (try clear hb2); (try clear hk); (try clear hi); have hcz38_0 : w37.cell? ⟨gb121, 0, none⟩ = some (.int .i64 a0_0) := (blk_cell BK121.out 0).trans rfl; have hcz38_1 : w37.cell? ⟨gb121, 1, none⟩ = some (.int .i64 a0_1) := (blk_cell BK121.out 1).trans rfl; have hcz38_2 : w37.cell? ⟨gb121, 2, none⟩ = some (.int .i64 a0_2) := (blk_cell BK121.out 2).trans rfl; have hcz38_3 : w37.cell? ⟨gb121, 3, none⟩ = some (.int .i64 a0_3) := (blk_cell BK121.out 3).trans rfl; have hcz38_4 : w37.cell? ⟨gb121, 4, none⟩ = some (.int .i64 a0_4) := (blk_cell BK121.out 4).trans rfl; have hcz38_5 : w37.cell? ⟨gb121, 5, none⟩ = some (.int .i64 a0_5) := (blk_cell BK121.out 5).trans rfl; have hcz38_6 : w37.cell? ⟨gb121, 6, none⟩ = some (.slice A0_6 l0_6.length c0_6) := (blk_cell BK121.out 6).trans rfl; have hfz38_0 := blk_frozen BK121.out 0; have hfz38_1 := blk_frozen BK121.out 1; have hfz38_2 := blk_frozen BK121.out 2; have hfz38_3 := blk_frozen BK121.out 3; have hfz38_4 := blk_frozen BK121.out 4; have hfz38_5 := blk_frozen BK121.out 5; have hfz38_6 := blk_frozen BK121.out 6) | (go_at_call 73; (with_reducible refine (account_within.calls a0_0 0 49 false _ A4.out).mono ?_); rintro e w' ⟨rfl, ⟨nd, rfl⟩⟩))
      go_ret
      exact ⟨by first | rfl | (simp [errW_none, errW_some] <;> rfl) | (simp [*, errW_none, errW_some] <;> rfl), by repeat (first | (with_reducible first | exact HB.out | apply below_alloc | apply pw_below_drewN | apply below_drew1 | refine below_set ?_ GE121.out) | exact HB.out)⟩
  · rw [if_neg c3] at H
    have c3b0 : (t123 == 0) = false := beq_eq_false_iff_ne.mpr c3
    have c3b1 : (t123 != 0) = true := bne_iff_ne.mpr c3
    obtain rfl := Option.some.inj H
    go_enter Try.func85, Try.ntmps85
    go_wp2_with (first | ((with_reducible refine gate_dst (N := 1) rfl ?_); refine box_event ?hg (N := 1) ?hd (cs := #[.int .i64 a0_0, .int .i64 a0_1, .int .i64 a0_2, .int .i64 a0_3, .int .i64 a0_4, .int .i64 a0_5, .slice A0_6 l0_6.length c0_6]) (t := 60) ?hr ?_; (case hd => rfl); (case hg => rfl); (case hr => first | (go_simp; done) | (go_simp; rfl)); intro gb121 hg w39 hbox hb; have n0_ := Aside0.mk (below_step (by repeat (first | (with_reducible first | exact HB.out | apply below_alloc | apply pw_below_drewN | apply below_drew1) | exact HB.out)) hb); have n1_ := Aside0.mk (hbox); have n2_ := Aside0.mk ((by rw [hg]; exact (below_size (by repeat (first | (with_reducible first | exact HB.out | apply below_alloc | apply pw_below_drewN | apply below_drew1) | exact HB.out))) : w.heap.size ≤ gb121)); have n3_ := Aside0.mk ((by rw [hg]; exact (below_size (by repeat (first | (with_reducible first | exact HB.out | apply below_alloc | apply pw_below_drewN | apply below_drew1) | exact HB.out))) : w.heap.size ≤ gb121)); clear HB; have HB := n0_; have BK121 := n1_; have GW121 := n2_; have GE121 := n3_; clear n0_ n1_ n2_ n3_; clear hb hbox hg; have hcz40_0 : w39.cell? ⟨gb121, 0, none⟩ = some (.int .i64 a0_0) := (blk_cell BK121.out 0).trans rfl; have hcz40_1 : w39.cell? ⟨gb121, 1, none⟩ = some (.int .i64 a0_1) := (blk_cell BK121.out 1).trans rfl; have hcz40_2 : w39.cell? ⟨gb121, 2, none⟩ = some (.int .i64 a0_2) := (blk_cell BK121.out 2).trans rfl; have hcz40_3 : w39.cell? ⟨gb121, 3, none⟩ = some (.int .i64 a0_3) := (blk_cell BK121.out 3).trans rfl; have hcz40_4 : w39.cell? ⟨gb121, 4, none⟩ = some (.int .i64 a0_4) := (blk_cell BK121.out 4).trans rfl; have hcz40_5 : w39.cell? ⟨gb121, 5, none⟩ = some (.int .i64 a0_5) := (blk_cell BK121.out 5).trans rfl; have hcz40_6 : w39.cell? ⟨gb121, 6, none⟩ = some (.slice A0_6 l0_6.length c0_6) := (blk_cell BK121.out 6).trans rfl; have hfz40_0 := blk_frozen BK121.out 0; have hfz40_1 := blk_frozen BK121.out 1; have hfz40_2 := blk_frozen BK121.out 2; have hfz40_3 := blk_frozen BK121.out 3; have hfz40_4 := blk_frozen BK121.out 4; have hfz40_5 := blk_frozen BK121.out 5; have hfz40_6 := blk_frozen BK121.out 6) | ((with_reducible refine gate_callee (f := 130) rfl ?_); refine goesL_ (some 8) rfl rfl Try.func130 (by kernel_rfl) rfl #[.slice A0_6 l0_6.length c0_6] rfl (by (try simp only [List.map_toArray, List.map_cons, List.map_nil]); first | done | rfl | (simp only [List.length_drop, List.length_take]; rfl)) ?_; (with_reducible refine (debt_Total.calls k _ _ l0_6 t122 t123 _ ?side1 ?side2 A2.out).mono ?_); (case side1 => repeat (first | exact (Kd.C_below HR0_6.out HB.out) | (with_reducible refine Kd.C_alloc ?_ _) | (with_reducible refine Kd.C_drewN ?_ _) | (with_reducible refine Kd.C_drew ?_))); (case side2 => exact HC0_6.out); rintro e w41 ⟨rfl, hb⟩; refine ⟨_, rfl, ?_⟩; have n0_ := Aside0.mk (blk_below (g := gb121) (o := .cells #[.int .i64 a0_0, .int .i64 a0_1, .int .i64 a0_2, .int .i64 a0_3, .int .i64 a0_4, .int .i64 a0_5, .slice A0_6 l0_6.length c0_6] 60 (0, 0)) (by (with_reducible repeat (first | refine blk_drewN ?_ _ | refine blk_drew ?_ | refine blk_alloc ?_ _)); exact BK121.out) hb); have n1_ := Aside0.mk (below_step (by repeat (first | (with_reducible first | exact HB.out | apply below_alloc | apply pw_below_drewN | apply below_drew1 | refine below_set ?_ GE121.out) | exact HB.out)) hb); clear BK121; clear HB; have BK121 := n0_; have HB := n1_; clear n0_ n1_; (try clear hb); (try clear hb2); (try clear hk); (try clear hi)))
    go_ret
    exact ⟨by first | rfl | (simp [errW_none, errW_some] <;> rfl) | (simp [*, errW_none, errW_some] <;> rfl), by repeat (first | (with_reducible first | exact HB.out | apply below_alloc | apply pw_below_drewN | apply below_drew1 | refine below_set ?_ GE121.out) | exact HB.out)⟩

-- NOT PRINTED: function 76 (account_open)

attribute [local go_sem high] eqA76
/-! ### debt_Age -/
def debt_Age.ag : Nat → Int → Int → Int
  | 0, o, _ => o
  | n + 1, o, b => if o * b / 10000 = 0 then o else debt_Age.ag n (mn (o + o * b / 10000) 1000000000) b
def debt_Age.one (n : Nat) (d : S76) : S76 := ⟨debt_Age.ag n d.f0 d.f1, d.f1⟩
def debt_Age.upto (n : Nat) (l : List S76) (i : Nat) : List S76 := (l.take i).map (debt_Age.one n) ++ l.drop i
def debt_Age.ok (d : S76) : Bool := decide (0 ≤ d.f0 ∧ d.f0 ≤ 1000000000 ∧ 0 ≤ d.f1 ∧ d.f1 ≤ 10000)
def debt_Age.f (k : Nat) (l0 : List S76) (a1 : Int) : Option (List S76 × Int) := (debt_list_fault.f k l0).bind fun e => if e = 0 then (if l0.all debt_Age.ok = true ∧ l0.length < 8796093022208 then (if a1 < 0 then some ([], 2) else if a1 > 2400 then some ([], 2) else some (l0.map (debt_Age.one a1.toNat), 0)) else none) else some ([], e)
theorem debt_Age.mono : ∀ a0 a1 k, LeO (debt_Age.f k a0 a1) (debt_Age.f (k + 1) a0 a1) := by
  intro a0 a1 k
  unfold debt_Age.f
  exact LeO.bind (debt_list_fault.mono _ _) (fun _ => LeO.refl _)
theorem debt_Age.upto_len (n : Nat) (l : List S76) (i : Nat) (h : i ≤ l.length) : (debt_Age.upto n l i).length = l.length := by
  simp [debt_Age.upto]; omega
theorem debt_Age.upto_at (n : Nat) (l : List S76) (i : Nat) (h : i < l.length) : (debt_Age.upto n l i).getD i z76 = l.getD i z76 := by
  unfold debt_Age.upto
  rw [List.getD_eq_getElem?_getD, List.getElem?_append_right (by rw [List.length_map, List.length_take]; omega), List.getD_eq_getElem?_getD]
  rw [List.length_map, List.length_take, Nat.min_eq_left (Nat.le_of_lt h), Nat.sub_self, List.getElem?_drop, Nat.add_zero]
theorem debt_Age.upto_set (n : Nat) (l : List S76) (i : Nat) (h : i < l.length) : (debt_Age.upto n l i).set i (debt_Age.one n (l.getD i z76)) = debt_Age.upto n l (i + 1) := by
  unfold debt_Age.upto
  rw [List.set_append_right _ _ (by rw [List.length_map, List.length_take]; omega)]
  rw [List.take_succ_eq_append_getElem h, List.map_append, List.append_assoc]
  congr 1
  have : i - (List.map (debt_Age.one n) (l.take i)).length = 0 := by simp; omega
  rw [this, List.drop_eq_getElem_cons h, List.getD_eq_getElem?_getD, List.getElem?_eq_getElem h]
  rfl
theorem debt_Age.ag_bd (n : Nat) : ∀ (o b : Int), 0 ≤ o → o ≤ 1000000000 → 0 ≤ b → b ≤ 10000 → 0 ≤ o * b ∧ o * b ≤ 10000000000000 := fun o b h1 h2 h3 h4 =>
  ⟨Int.mul_nonneg h1 h3, Int.le_trans (Int.mul_le_mul_of_nonneg_left h4 h1) (by omega)⟩
theorem debt_Age.store {W : World} {base g n cap : Nat} {xs : List S76} (HR : Kd.R k76 76 W base (fun _ => True) (.slice (some ⟨g, 0, none⟩) n cap) xs) (i : Nat) (hi : i < n) (o b o' : Int)
    (x0 : W.cell? ⟨g, i * 2, none⟩ = some (.int .i64 o)) (x1 : W.cell? ⟨g, i * 2 + 1, none⟩ = some (.int .i64 b)) :
    Kd.R k76 76 (W.setCell ⟨g, i * 2, none⟩ (.int .i64 o')) base (fun _ => True) (.slice (some ⟨g, 0, none⟩) n cap) (xs.set i ⟨o', b⟩) := by
  have h := (Kd.R_seg HR (i : Int) (by omega) (by omega) (c := [.int .i64 o, .int .i64 b]) (seg := [.int .i64 o']) (j := 0) (x' := ⟨o', b⟩) (okp := fun _ => False) rfl (fun j u hu => ?_) (Nat.le_succ 1) (k76_mkM _ _ _ ⟨_, _⟩) (fun _ h => h.elim)).1
  · simpa [show k76.sz = 2 from rfl, World.setCells] using h
  · rcases j with _ | _ | j
    · cases hu; simpa [show k76.sz = 2 from rfl] using x0
    · cases hu; simpa [show k76.sz = 2 from rfl] using x1
    · cases hu
set_option maxHeartbeats 4000000 in
set_option maxRecDepth 100000 in
theorem debt_Age.calls (k : Nat) (A0 : Option Addr) (c0 : Nat) (l0 : List (S76)) (a1 : Int) (r1 : List (S76)) (r2 : Int) (w : World) (hr0 : Kd.C k76 w A0 l0.length l0) (hc0 : l0.length ≤ c0) (h : debt_Age.f k l0 a1 = some (r1, r2)) :
    Calls Try.prog 124 #[.slice A0 l0.length c0, .int .i64 a1] w fun e w' => ∃ v0_ : Value, e = .returned (.tuple #[v0_, .int .i64 r2]) ∧ Kd.R k76 76 w' w.heap.size (fun _ => True) v0_ r1 ∧ Below w.heap.size w w' := by
  have hu76 := Try.underlying76
  have HR0 := Aside0.mk hr0
  have HC0 := Aside0.mk hc0
  clear hr0 hc0
  unfold debt_Age.f at h
  obtain ⟨e0, hf0, h⟩ := Option.bind_eq_some_iff.mp h
  have HF := Aside0.mk hf0
  clear hf0
  by_cases c1 : e0 = 0
  · rw [if_pos c1] at h
    subst c1
    by_cases c2 : l0.all debt_Age.ok = true ∧ l0.length < 8796093022208
    · rw [if_pos c2] at h
      by_cases c3 : a1 < 0
      · rw [if_pos c3] at h
        simp only [Option.some.injEq, Prod.mk.injEq] at h
        obtain ⟨rfl, rfl⟩ := h
        have d3 := decide_eq_true c3
        clear c3
        go_enter Try.func124, Try.ntmps124
        go_wp2_with (go_at_call 148; refine (debt_list_fault.calls k _ _ l0 _ _ HR0.out HC0.out HF.out).mono ?_; rintro e w1 ⟨rfl, hb1⟩; have HR1w := Aside0.mk (Kd.C_below HR0.out hb1); have HB1 := Aside0.mk hb1; clear hb1)
        go_ret2
        exact ⟨_, rfl, Kd.R_nil _ _ _ _ _, HB1.out⟩
      · rw [if_neg c3] at h
        have d3 := decide_eq_false c3
        by_cases c4 : a1 > 2400
        · rw [if_pos c4] at h
          simp only [Option.some.injEq, Prod.mk.injEq] at h
          obtain ⟨rfl, rfl⟩ := h
          have d4 := decide_eq_true c4
          clear c3 c4
          go_enter Try.func124, Try.ntmps124
          go_wp2_with (go_at_call 148; refine (debt_list_fault.calls k _ _ l0 _ _ HR0.out HC0.out HF.out).mono ?_; rintro e w1 ⟨rfl, hb1⟩; have HR1w := Aside0.mk (Kd.C_below HR0.out hb1); have HB1 := Aside0.mk hb1; clear hb1)
          go_ret2
          exact ⟨_, rfl, Kd.R_nil _ _ _ _ _, HB1.out⟩
        · rw [if_neg c4] at h
          have d4 := decide_eq_false c4
          simp only [Option.some.injEq, Prod.mk.injEq] at h
          obtain ⟨hr1, rfl⟩ := h
          have HR1 := Aside0.mk hr1
          have HALL := Aside0.mk c2.1
          have HLEN := Aside0.mk c2.2
          clear hr1 c2
          go_enter Try.func124, Try.ntmps124
          go_wp2_with (first | (go_at_call 148; refine (debt_list_fault.calls k _ _ l0 _ _ HR0.out HC0.out HF.out).mono ?_; rintro e w1 ⟨rfl, hb1⟩; have HR1w := Aside0.mk (Kd.C_below HR0.out hb1); have HB1 := Aside0.mk hb1; clear hb1) | ((with_reducible refine gate_builtin (b := .append) (xs := #[.const (.slice none 0 0), .tmp 22]) rfl ?_); at_builtin; refine Kd.R_append_rows k76 (w0 := w) w.heap.size rfl (.const (.slice none 0 0)) (.tmp 22) 58 76 (.agg #[(.int .i64 0), (.int .i64 0)]) 16 rfl Try.underlying58 info76 rfl (by decide) (by omega) (.slice none 0 0) ([] : List (S76)) l0 _ _ _ (fun _ => True) (fun _ => False) rfl rfl ?aO ?aR (fun _ _ h => h) (fun _ h => h.elim) ?aF ?aB ?aS ?aL ?_; (case aR => exact HR1w.out); (case aB => exact HB1.out); (case aF => exact (fun _ _ => trivial)); (case aO => exact (Kd.R_nil _ _ _ _ (fun _ => True))); (case aS => exact HB1.out.size); (case aL => have := HLEN.out; simp; omega); intro v2 w2 ho hb hg hat; have HB2 := Aside0.mk hb; have HO2 := Aside0.mk ho; obtain ⟨A2, c2, rfl, hA2⟩ := Kd.R_slice HO2.out; clear ho hb hg hat))
          rw [List.nil_append] at HO2
          have HO2 : Aside0 (Kd.R k76 76 w2 w.heap.size (fun _ => True) (.slice A2 l0.length c2) l0) := HO2
          go_loopg [26] l0.length (fun kq v26 w' => ∃ i : Nat, v26 = .int .i64 (i : Int) ∧ i ≤ l0.length ∧ kq = l0.length - i ∧ Aside0 (Kd.R k76 76 w' w.heap.size (fun _ => True) (.slice A2 l0.length c2) (debt_Age.upto a1.toNat l0 i)) ∧ Aside0 (Below w.heap.size w w'))
          case atStart => exact ⟨0, rfl, Nat.zero_le _, rfl, ⟨by simpa [debt_Age.upto] using HO2.out⟩, ⟨HB2.out⟩⟩
          case round =>
            obtain ⟨i, rfl, hi, rfl, HRW, HBW⟩ := hrel
            have hln := HLEN.out
            clear HB1 HB2 HO2
            by_cases hlt : i < l0.length
            · have hltb : decide ((i : Int) < (l0.length : Int)) = true := decide_eq_true (by omega)
              have hlen := debt_Age.upto_len a1.toNat l0 i hi
              obtain ⟨g, cap, hv, hgb, hgl, _⟩ := Kd.R_form HRW.out (by omega)
              injection hv with hv1 hv2 hv3
              subst hv1; subst hv3
              clear hv2
              have hD : debt_Age.ok (l0.getD i z76) = true := List.all_eq_true.mp HALL.out _ (by rw [List.getD_eq_getElem?_getD, List.getElem?_eq_getElem hlt]; exact List.getElem_mem _)
              simp only [debt_Age.ok, decide_eq_true_eq] at hD
              obtain ⟨hD0, hD1, hD2, hD3⟩ := hD
              obtain ⟨D, hDe⟩ : ∃ D, D = l0.getD i z76 := ⟨_, rfl⟩
              rw [← hDe] at hD0 hD1 hD2 hD3
              have HDE := Aside0.mk hDe
              clear hDe
              go_wp2
              go_step3
              go_wp2
              go_step3
              go_wp2
              go_loopg [33] a1.toNat (fun kq v33 w' => ∃ (j : Nat) (o : Int), v33 = .int .i64 (j : Int) ∧ (j : Int) ≤ a1 ∧ kq = a1.toNat - j ∧ 0 ≤ o ∧ o ≤ 1000000000 ∧ Aside0 (debt_Age.ag (a1.toNat - j) o D.f1 = debt_Age.ag a1.toNat D.f0 D.f1) ∧ Aside0 (Kd.R k76 76 w' w.heap.size (fun _ => True) (.slice (some ⟨g, 0, none⟩) l0.length c2) ((debt_Age.upto a1.toNat l0 i).set i ⟨o, D.f1⟩)) ∧ Aside0 (Below w.heap.size w w'))
              case atStart =>
                refine ⟨0, D.f0, rfl, by omega, rfl, hD0, hD1, ⟨rfl⟩, ⟨?_⟩, ⟨HBW.out⟩⟩
                have e : (debt_Age.upto a1.toNat l0 i).set i ⟨D.f0, D.f1⟩ = debt_Age.upto a1.toNat l0 i := by
                  have := debt_Age.upto_at a1.toNat l0 i hlt
                  rw [← HDE.out] at this
                  apply List.ext_getElem?
                  intro m
                  by_cases hm : m = i
                  · subst hm
                    rw [List.getElem?_set_self (by omega), List.getElem?_eq_getElem (by omega)]
                    rw [List.getD_eq_getElem?_getD, List.getElem?_eq_getElem (by omega)] at this
                    exact congrArg some this.symm
                  · rw [List.getElem?_set_ne (fun h => hm h.symm)]
                rw [e]
                exact HRW.out
              case round =>
                clear HRW HBW
                obtain ⟨j, o, rfl, hj, rfl, ho0, ho1, HAG, HRI, HBI⟩ := hrel
                obtain ⟨c, hcl, hcm, hcc, hff⟩ := Kd.R_elem HRI.out z76 (i : Int) (by omega) (by omega)
                have hget : ((debt_Age.upto a1.toNat l0 i).set i ⟨o, D.f1⟩).getD (i : Int).toNat z76 = ⟨o, D.f1⟩ := by
                  rw [Int.toNat_natCast, List.getD_eq_getElem?_getD, List.getElem?_set_self (by omega)]; rfl
                rw [hget] at hcm
                obtain rfl := k76_openM hcm
                have x0 := hcc 0 _ rfl
                have x1 := hcc 1 _ rfl
                have f0 := hff 0
                have f1 := hff 1
                simp only [show k76.sz = 2 from rfl, Int.toNat_natCast, Nat.add_zero] at x0 x1 f0 f1
                clear hcc hff hcm hget
                obtain ⟨hm0, hm1⟩ := debt_Age.ag_bd 0 o D.f1 ho0 ho1 hD2 hD3
                by_cases hjl : (j : Int) < a1
                · have hjb : decide ((j : Int) < a1) = true := decide_eq_true hjl
                  obtain ⟨q, hq⟩ : ∃ q, q = o * D.f1 := ⟨_, rfl⟩
                  rw [← hq] at hm0 hm1
                  have hq2 : o * D.f1 = q := hq.symm
                  have HQ := Aside0.mk hq
                  clear hq
                  have hjs : a1.toNat - j = (a1.toNat - (j + 1)) + 1 := by omega
                  have HAG' := HAG.out
                  rw [hjs, debt_Age.ag, hq2] at HAG'
                  clear hjs
                  by_cases hz : q / 10000 = 0
                  · rw [if_pos hz] at HAG'
                    have HAG2 := Aside0.mk HAG'
                    clear HAG'
                    have hqd : q / 10000 = 0 := hz
                    have hqt : Int.tdiv q 10000 = 0 := by rw [Int.tdiv_eq_ediv_of_nonneg hm0]; exact hz
                    clear hz
                    go_wp2
                    go_quiet (fail)
                    go_wp2
                    rw [Exit.noGoto_normal]
                    go_wp2
                    go_roundg (l0.length - (i + 1))
                    case measure => omega
                    case rel =>
                      refine ⟨i + 1, by first | rfl | go_num, hlt, rfl, ⟨?_⟩, ⟨by repeat (first | exact HBI.out | apply pw_below_drewN | apply below_drew1)⟩⟩
                      have hone : (⟨o, D.f1⟩ : S76) = debt_Age.one a1.toNat (l0.getD i z76) := by
                        unfold debt_Age.one; rw [← HDE.out, ← HAG2.out]
                      rw [← debt_Age.upto_set _ _ _ hlt, ← hone]
                      repeat (first | exact HRI.out | apply Kd.R_drewN | apply Kd.R_drew)
                  · rw [if_neg hz] at HAG'
                    have HAG2 := Aside0.mk HAG'
                    clear HAG'
                    obtain ⟨p, hp⟩ : ∃ p, p = q / 10000 := ⟨_, rfl⟩
                    have hp0 : 0 ≤ p := by omega
                    have hp1 : p ≤ 1000000000 := by omega
                    have hqd : q / 10000 = p := hp.symm
                    have hqt : Int.tdiv q 10000 = p := by rw [Int.tdiv_eq_ediv_of_nonneg hm0]; exact hqd
                    rw [← hp] at hz HAG2
                    have hz1 : (p == 0) = false := beq_eq_false_iff_ne.mpr hz
                    have HP := Aside0.mk hp
                    clear hp hz
                    go_wp2
                    go_quiet (fail)
                    by_cases hmx : o + p ≤ 1000000000
                    · have hmn : mn (o + p) 1000000000 = o + p := by unfold mn; split <;> omega
                      rw [hmn] at HAG2
                      clear hmn
                      go_wp2
                      go_roundg (a1.toNat - (j + 1))
                      case measure => omega
                      case rel =>
                        refine ⟨j + 1, o + p, by first | rfl | go_num, by omega, rfl, by omega, by omega, ⟨HAG2.out⟩, ⟨?_⟩, ⟨(by repeat (first | exact HBI.out | apply pw_below_drewN | apply below_drew1) : Below _ _ _).setCell (p := ⟨g, _, none⟩) hgb _⟩⟩
                        rw [← List.set_set (a := (⟨o, D.f1⟩ : S76))]
                        exact debt_Age.store (Kd.R_drewN HRI.out _) i (by omega) o D.f1 (o + p) (by repeat (first | exact x0 | apply World.cell?_drewN)) (by repeat (first | exact x1 | apply World.cell?_drewN))
                    · have hmn : mn (o + p) 1000000000 = 1000000000 := by unfold mn; split <;> omega
                      rw [hmn] at HAG2
                      clear hmn
                      go_wp2
                      go_roundg (a1.toNat - (j + 1))
                      case measure => omega
                      case rel =>
                        refine ⟨j + 1, 1000000000, by first | rfl | go_num, by omega, rfl, by omega, by omega, ⟨HAG2.out⟩, ⟨?_⟩, ⟨(by repeat (first | exact HBI.out | apply pw_below_drewN | apply below_drew1) : Below _ _ _).setCell (p := ⟨g, _, none⟩) hgb _⟩⟩
                        rw [← List.set_set (a := (⟨o, D.f1⟩ : S76))]
                        exact debt_Age.store (Kd.R_drewN HRI.out _) i (by omega) o D.f1 (1000000000) (by repeat (first | exact x0 | apply World.cell?_drewN)) (by repeat (first | exact x1 | apply World.cell?_drewN))
                · have hjb : decide ((j : Int) < a1) = false := decide_eq_false hjl
                  have HAG2 : Aside0 (o = debt_Age.ag a1.toNat D.f0 D.f1) := ⟨by have := HAG.out; rw [show a1.toNat - j = 0 by omega, debt_Age.ag] at this; exact this⟩
                  go_wp2
                  go_roundg (l0.length - (i + 1))
                  case measure => omega
                  case rel =>
                    refine ⟨i + 1, by first | rfl | go_num, hlt, rfl, ⟨?_⟩, ⟨by repeat (first | exact HBI.out | apply pw_below_drewN | apply below_drew1)⟩⟩
                    have hone : (⟨o, D.f1⟩ : S76) = debt_Age.one a1.toNat (l0.getD i z76) := by
                      unfold debt_Age.one; rw [← HDE.out, ← HAG2.out]
                    rw [← debt_Age.upto_set _ _ _ hlt, ← hone]
                    repeat (first | exact HRI.out | apply Kd.R_drewN | apply Kd.R_drew)
            · have hltb : decide ((i : Int) < (l0.length : Int)) = false := decide_eq_false (by omega)
              go_wp2
              go_ret2
              refine ⟨_, rfl, ?_, HBW.out⟩
              have e : debt_Age.upto a1.toNat l0 i = r1 := by
                rw [← HR1.out]; unfold debt_Age.upto; rw [List.take_of_length_le (by omega), List.drop_of_length_le (by omega), List.append_nil]
              rw [← e]
              exact HRW.out
    · rw [if_neg c2] at h
      cases h
  · rw [if_neg c1] at h
    simp only [Option.some.injEq, Prod.mk.injEq] at h
    obtain ⟨rfl, rfl⟩ := h
    have c1b : (e0 == 0) = false := beq_eq_false_iff_ne.mpr c1
    have c1c : (e0 != 0) = true := bne_iff_ne.mpr c1
    go_enter Try.func124, Try.ntmps124
    go_wp2_with (go_at_call 148; refine (debt_list_fault.calls k _ _ l0 _ _ HR0.out HC0.out HF.out).mono ?_; rintro e w1 ⟨rfl, hb1⟩; have HR1w := Aside0.mk (Kd.C_below HR0.out hb1); have HB1 := Aside0.mk hb1; clear hb1)
    go_ret2
    exact ⟨_, rfl, Kd.R_nil _ _ _ _ _, HB1.out⟩

-- NOT PRINTED: function 77 (account_clerk_roll)

/-! ### account_clerk -/
def clerk.cells (me rev nx mo bo fr : Int) (vd : Value) (At : Option Addr) (nt ct : Nat) (a b c d : Int) : Array Value := #[.int .i64 me, .int .i64 rev, .int .i64 nx, .int .i64 mo, .int .i64 bo, .int .i64 fr, vd, .slice At nt ct, .int .i64 a, .int .i64 b, .int .i64 c, .int .i64 d]
def account_open.f (k : Nat) (me rev nx mo bo fr : Int) (l : List S76) (t : List S125) (a b c d : Int) : Option Int :=
  (account_may.f k me rev nx mo bo fr l).bind fun m => if m = true then ((account_Check.f t a b c d).bind fun e => if e = 0 then (if l.length < 8796093022208 then some 0 else none) else some e) else some 5
theorem account_open.mono : ∀ me rev nx mo bo fr l t a b c d k, LeO (account_open.f k me rev nx mo bo fr l t a b c d) (account_open.f (k + 1) me rev nx mo bo fr l t a b c d) := by
  intro me rev nx mo bo fr l t a b c d k
  unfold account_open.f
  exact LeO.bind (account_may.mono _ _ _ _ _ _ _ _) (fun _ => LeO.refl _)
def account_roll.f (k : Nat) (mo bo : Int) (l : List S76) (month : Int) : Option (List S76 × Int × Int × Int) :=
  if 0 ≤ month ∧ month ≤ 2399 then (if month < mo then some (l, mo, bo, 23) else if month > mo then (debt_Age.f k l (wrap64 (month - mo))).bind fun p => some (p.1, month, 0, 0) else some (l, mo, bo, 0)) else some (l, mo, bo, 2)
theorem account_roll.mono : ∀ mo bo l month k, LeO (account_roll.f k mo bo l month) (account_roll.f (k + 1) mo bo l month) := by
  intro mo bo l month k
  unfold account_roll.f
  exact LeO.ite (LeO.ite (LeO.refl _) (LeO.ite (LeO.bind (debt_Age.mono _ _ _) (fun _ => LeO.refl _)) (LeO.refl _))) (LeO.refl _)
theorem account_roll.within (a b c : Int) (w : World) : Calls Try.prog 73 #[.int .i64 a, .int .i64 b, .int .i64 c] w fun e w' => e = .returned (.bool (decide (b ≤ a ∧ a ≤ c))) ∧ Below w.heap.size w w' :=
  (account_within.calls a b c (decide (b ≤ a ∧ a ≤ c)) w (by unfold account_within.f; by_cases h : b ≤ a <;> simp [h])).mono (by rintro e w' ⟨rfl, nd, rfl⟩; exact ⟨rfl, pw_below_drewN (Below.refl _ _) _⟩)
theorem clerk.get {w : World} {g : Nat} {me rev nx mo bo fr : Int} {vd : Value} {At : Option Addr} {nt ct : Nat} {a b c d : Int} (h : w.heap[g]? = some (.cells (clerk.cells me rev nx mo bo fr vd At nt ct a b c d) 128 (0, 0))) : w.cell? ⟨g, 0, none⟩ = some (.int .i64 me) ∧ w.cell? ⟨g, 1, none⟩ = some (.int .i64 rev) ∧ w.cell? ⟨g, 2, none⟩ = some (.int .i64 nx) ∧ w.cell? ⟨g, 3, none⟩ = some (.int .i64 mo) ∧ w.cell? ⟨g, 4, none⟩ = some (.int .i64 bo) ∧ w.cell? ⟨g, 5, none⟩ = some (.int .i64 fr) ∧ w.cell? ⟨g, 6, none⟩ = some vd ∧ w.cell? ⟨g, 7, none⟩ = some (.slice At nt ct) ∧ w.cell? ⟨g, 8, none⟩ = some (.int .i64 a) ∧ w.cell? ⟨g, 9, none⟩ = some (.int .i64 b) ∧ w.cell? ⟨g, 10, none⟩ = some (.int .i64 c) ∧ w.cell? ⟨g, 11, none⟩ = some (.int .i64 d) :=
  ⟨(blk_cell h 0).trans rfl, (blk_cell h 1).trans rfl, (blk_cell h 2).trans rfl, (blk_cell h 3).trans rfl, (blk_cell h 4).trans rfl, (blk_cell h 5).trans rfl, (blk_cell h 6).trans rfl, (blk_cell h 7).trans rfl, (blk_cell h 8).trans rfl, (blk_cell h 9).trans rfl, (blk_cell h 10).trans rfl, (blk_cell h 11).trans rfl⟩
set_option maxHeartbeats 4000000 in
set_option maxRecDepth 100000 in
theorem account_roll.calls (k g : Nat) (me rev nx mo bo fr : Int) (vd : Value) (l : List S76) (At : Option Addr) (nt ct : Nat) (a b c d : Int) (month : Int) (r1 : List S76) (r2 r3 r4 : Int) (w0 w : World) (hg : w0.heap.size ≤ g) (hb : Below w0.heap.size w0 w) (hbox : w.heap[g]? = some (.cells (clerk.cells me rev nx mo bo fr vd At nt ct a b c d) 128 (0, 0))) (hR : Kd.R k76 76 w w0.heap.size (fun k => k ≠ g) vd l) (h : account_roll.f k mo bo l month = some (r1, r2, r3, r4)) :
    Calls Try.prog 77 #[.pointer (some ⟨g, 0, none⟩), .int .i64 month] w fun e w' => e = .returned (.int .i64 r4) ∧ (∃ v1, w'.heap[g]? = some (.cells (clerk.cells me rev nx r2 r3 fr v1 At nt ct a b c d) 128 (0, 0)) ∧ Kd.R k76 76 w' w0.heap.size (fun k => k ≠ g) v1 r1) ∧ Kept w w' (fun k => k = g) ∧ Below w0.heap.size w0 w' := by
  obtain ⟨A6, c6, rfl⟩ := Kd.R_slice hR
  have HB := Aside0.mk hb
  have HX := Aside0.mk hbox
  have HR := Aside0.mk hR
  have hu60 := Try.underlying60
  have hu128 := Try.underlying128
  clear hb hbox hR
  unfold account_roll.f at h
  by_cases h1 : 0 ≤ month ∧ month ≤ 2399
  · rw [if_pos h1] at h
    have q1 : decide (0 ≤ month ∧ month ≤ 2399) = true := decide_eq_true h1
    by_cases h2 : month < mo
    · rw [if_pos h2] at h
      simp only [Option.some.injEq, Prod.mk.injEq] at h
      obtain ⟨rfl, rfl, rfl, rfl⟩ := h
      have q2 := decide_eq_true h2
      clear h1 h2
      go_enter Try.func77, Try.ntmps77
      go_wp2_with (go_at_call 73; refine (account_roll.within month 0 2399 _).mono ?_; rintro e w1 ⟨rfl, hb1⟩; rw [q1]; have HK1 := Aside0.mk (Kept.of_below hb1 (fun k => k = g)); have HX1 := Aside0.mk (blk_below HX.out hb1); have HR1 := Aside0.mk (Kd.R_below HR.out hb1); have HB1 := Aside0.mk (below_then HB.out HB.out.size hb1); obtain ⟨x0, x1, x2, x3, x4, x5, x6, x7, x8, x9, x10, x11⟩ := clerk.get HX1.out; clear hb1)
      go_ret
      exact ⟨rfl, ⟨_, HX1.out, HR1.out⟩, HK1.out, HB1.out⟩
    · rw [if_neg h2] at h
      have q2 := decide_eq_false h2
      by_cases h3 : month > mo
      · rw [if_pos h3] at h
        obtain ⟨⟨l1, e1⟩, ha, h⟩ := Option.bind_eq_some_iff.mp h
        simp only [Option.some.injEq, Prod.mk.injEq] at h
        obtain ⟨rfl, rfl, rfl, rfl⟩ := h
        have HA := Aside0.mk ha
        have q3 := decide_eq_true h3
        clear h1 h2 h3 ha
        go_enter Try.func77, Try.ntmps77
        go_wp2_with (go_at_call 73; refine (account_roll.within month 0 2399 _).mono ?_; rintro e w1 ⟨rfl, hb1⟩; rw [q1]; have HK1 := Aside0.mk (Kept.of_below hb1 (fun k => k = g)); have HX1 := Aside0.mk (blk_below HX.out hb1); have HR1 := Aside0.mk (Kd.R_below HR.out hb1); have HB1 := Aside0.mk (below_then HB.out HB.out.size hb1); obtain ⟨x0, x1, x2, x3, x4, x5, x6, x7, x8, x9, x10, x11⟩ := clerk.get HX1.out; clear hb1)
        refine start_ (n := 21) (S := fun w' => w'.cell? ⟨g, 6, none⟩ = some (.slice A6 l.length c6) ∧ w'.cell? ⟨g, 3, none⟩ = some (.int .i64 mo)) (ds := [20]) #[false, false, false, false, false, false, false, false, false, false, false, false, false, false, false, false, false, false, false, false, false] (by kernel_rfl) rfl rfl ⟨x6, x3⟩ (fun hHeld => ?_)
        refine pure_ (i := 0) (N := some 23) (v := ?_) (a' := ?_) #[true, false, false, false, false, false, false, false, false, false, false, false, false, false, false, false, false, false, false, false, false] rfl rfl (by kernel_rfl) (fun _ _ _ h => h) (Or.inl ⟨by rfl, ?_⟩) ?_ ?_
        rotate_left
        · intro w'
          go_simp
          with_reducible rfl
        rotate_left
        · simp only [Act.put, List.setIfInBounds_toArray, List.set_cons_zero, List.set_cons_succ, i64_w, i32_w]
          rfl
        refine pure_ (i := 1) (N := some 24) (v := ?_) (a' := ?_) #[true, true, false, false, false, false, false, false, false, false, false, false, false, false, false, false, false, false, false, false, false] rfl rfl (by kernel_rfl) (fun _ _ _ h => h) (Or.inl ⟨by rfl, ?_⟩) ?_ ?_
        rotate_left
        · intro w'
          go_simp
          with_reducible rfl
        rotate_left
        · simp only [Act.put, List.setIfInBounds_toArray, List.set_cons_zero, List.set_cons_succ, i64_w, i32_w]
          rfl
        refine pure_ (i := 2) (N := some 25) (v := ?_) (a' := ?_) #[true, true, true, false, false, false, false, false, false, false, false, false, false, false, false, false, false, false, false, false, false] rfl rfl (by kernel_rfl) (fun _ _ _ h => h) (Or.inl ⟨by rfl, ?_⟩) ?_ ?_
        rotate_left
        · intro w'
          go_simp
          with_reducible rfl
        rotate_left
        · simp only [Act.put, List.setIfInBounds_toArray, List.set_cons_zero, List.set_cons_succ, i64_w, i32_w]
          rfl
        refine pure_ (i := 3) (N := some 26) (v := ?_) (a' := ?_) #[true, true, true, true, false, false, false, false, false, false, false, false, false, false, false, false, false, false, false, false, false] rfl rfl (by kernel_rfl) (fun _ _ _ h => h) (Or.inl ⟨by rfl, ?_⟩) ?_ ?_
        rotate_left
        · intro w'
          go_simp
          with_reducible rfl
        rotate_left
        · simp only [Act.put, List.setIfInBounds_toArray, List.set_cons_zero, List.set_cons_succ, i64_w, i32_w]
          rfl
        refine pure_ (i := 4) (N := some 27) (v := ?_) (a' := ?_) #[true, true, true, true, true, false, false, false, false, false, false, false, false, false, false, false, false, false, false, false, false] rfl rfl (by kernel_rfl) (fun _ _ _ h => h) (Or.inl ⟨by rfl, ?_⟩) ?_ ?_
        rotate_left
        · intro w'
          go_simp
          with_reducible rfl
        rotate_left
        · simp only [Act.put, List.setIfInBounds_toArray, List.set_cons_zero, List.set_cons_succ, i64_w, i32_w]
          rfl
        refine pure_ (i := 6) (N := some 29) (v := ?_) (a' := ?_) #[true, true, true, true, true, false, true, false, false, false, false, false, false, false, false, false, false, false, false, false, false] rfl rfl (by kernel_rfl) (fun _ _ _ h => h) (Or.inl ⟨by rfl, ?_⟩) ?_ ?_
        rotate_left
        · intro w'
          go_simp
          with_reducible rfl
        rotate_left
        · simp only [Act.put, List.setIfInBounds_toArray, List.set_cons_zero, List.set_cons_succ, i64_w, i32_w]
          rfl
        refine pure_ (i := 7) (N := some 30) (v := ?_) (a' := ?_) #[true, true, true, true, true, false, true, true, false, false, false, false, false, false, false, false, false, false, false, false, false] rfl rfl (by kernel_rfl) (fun _ _ _ h => h) (Or.inl ⟨by rfl, ?_⟩) ?_ ?_
        rotate_left
        · intro w'
          go_simp
          with_reducible rfl
        rotate_left
        · simp only [Act.put, List.setIfInBounds_toArray, List.set_cons_zero, List.set_cons_succ, i64_w, i32_w]
          rfl
        refine pure_ (i := 8) (N := some 31) (v := ?_) (a' := ?_) #[true, true, true, true, true, false, true, true, true, false, false, false, false, false, false, false, false, false, false, false, false] rfl rfl (by kernel_rfl) (fun _ _ _ h => h) (Or.inl ⟨by rfl, ?_⟩) ?_ ?_
        rotate_left
        · intro w'
          go_simp
          with_reducible rfl
        rotate_left
        · simp only [Act.put, List.setIfInBounds_toArray, List.set_cons_zero, List.set_cons_succ, i64_w, i32_w]
          rfl
        refine pure_ (i := 9) (N := some 32) (v := ?_) (a' := ?_) #[true, true, true, true, true, false, true, true, true, true, false, false, false, false, false, false, false, false, false, false, false] rfl rfl (by kernel_rfl) (fun _ _ _ h => h) (Or.inl ⟨by rfl, ?_⟩) ?_ ?_
        rotate_left
        · intro w'
          go_simp
          with_reducible rfl
        rotate_left
        · simp only [Act.put, List.setIfInBounds_toArray, List.set_cons_zero, List.set_cons_succ, i64_w, i32_w]
          rfl
        refine pure_ (i := 10) (N := some 33) (v := ?_) (a' := ?_) #[true, true, true, true, true, false, true, true, true, true, true, false, false, false, false, false, false, false, false, false, false] rfl rfl (by kernel_rfl) (fun _ _ _ h => h) (Or.inl ⟨by rfl, ?_⟩) ?_ ?_
        rotate_left
        · intro w'
          go_simp
          with_reducible rfl
        rotate_left
        · simp only [Act.put, List.setIfInBounds_toArray, List.set_cons_zero, List.set_cons_succ, i64_w, i32_w]
          rfl
        refine take_ (i := 5) (N := some 28) (v := ?_) (a' := ?_) #[true, true, true, true, true, true, true, true, true, true, true, false, false, false, false, false, false, false, false, false, false] rfl rfl (by kernel_rfl) (fun _ _ _ h => h) (Or.inl ⟨by rfl, ?_⟩) hHeld ?_ ?_
        rotate_left
        · rintro w' ⟨s0, s1⟩
          go_simp
          with_reducible rfl
        rotate_left
        · simp only [Act.put, List.setIfInBounds_toArray, List.set_cons_zero, List.set_cons_succ, i64_w, i32_w]
          rfl
        refine take_ (i := 11) (N := some 34) (v := ?_) (a' := ?_) #[true, true, true, true, true, true, true, true, true, true, true, true, false, false, false, false, false, false, false, false, false] rfl rfl (by kernel_rfl) (fun _ _ _ h => h) (Or.inl ⟨by rfl, ?_⟩) hHeld ?_ ?_
        rotate_left
        · rintro w' ⟨s0, s1⟩
          go_simp
          with_reducible rfl
        rotate_left
        · simp only [Act.put, List.setIfInBounds_toArray, List.set_cons_zero, List.set_cons_succ, i64_w, i32_w]
          rfl
        refine pure_ (i := 12) (N := some 35) (v := ?_) (a' := ?_) #[true, true, true, true, true, true, true, true, true, true, true, true, true, false, false, false, false, false, false, false, false] rfl rfl (by kernel_rfl) (fun _ _ _ h => h) (Or.inl ⟨by rfl, ?_⟩) ?_ ?_
        rotate_left
        · intro w'
          go_simp
          with_reducible rfl
        rotate_left
        · simp only [Act.put, List.setIfInBounds_toArray, List.set_cons_zero, List.set_cons_succ, i64_w, i32_w]
          rfl
        refine one_ (i := 13) (N := some 36) #[true, true, true, true, true, true, true, true, true, true, true, true, true, true, false, false, false, false, false, false, false] rfl rfl (by kernel_rfl) (by decide) (fun K hK => ?_)
        refine goes_ Try.func124 (by kernel_rfl) rfl #[.slice A6 l.length c6, .int .i64 (wrap64 (month - mo))] (by rfl) rfl rfl (by (try simp only [List.map_toArray, List.map_cons, List.map_nil]); first | done | rfl) ?_
        with_reducible refine (debt_Age.calls k A6 c6 l (wrap64 (month - mo)) l1 e1 _ (Kd.R_reads' (Kd.R_drew HR1.out)).2.2 (Kd.R_reads' HR1.out).2.1 HA.out).mono ?_
        rintro e w2 ⟨v2, rfl, hr2, hb2⟩
        refine ⟨_, rfl, ?_⟩
        obtain ⟨A7, c7, rfl⟩ := Kd.R_slice hr2
        have bx := blk_below (blk_drew HX1.out) hb2
        have HX2 := Aside0.mk bx
        have HR2 := Aside0.mk (Kd.R_lower (Kd.R_mono (Kd.R_bound hr2) (fun k hk => (by have := blk_lt HX1.out; have h9 : w1.heap.size ≤ k := hk.2.1; omega : k ≠ g))) HB1.out.size)
        have HB2 := Aside0.mk (below_then (below_drew1 HB1.out) HB1.out.size hb2)
        have HK2 := Aside0.mk ((HK1.out.drew).below hb2)
        have f6 := blk_frozen bx 6
        have f3 := blk_frozen bx 3
        have f4 := blk_frozen bx 4
        clear x0 x1 x2 x3 x4 x5 x6 x7 x8 x9 x10 x11
        obtain ⟨x0, x1, x2, x3, x4, x5, x6, x7, x8, x9, x10, x11⟩ := clerk.get bx
        clear bx hr2 hb2
        refine hK.out _ _ ⟨x6, x3⟩ (fun hHeld => ?_)
        clear hK K
        refine norm_ (a' := ?_) ?_ ?_
        rotate_left
        · show Act.put _ (some 36) _ = _
          simp only [Act.put, List.setIfInBounds_toArray, List.set_cons_zero, List.set_cons_succ, i64_w, i32_w]
          rfl
        refine pure_ (i := 14) (N := some 22) (v := ?_) (a' := ?_) #[true, true, true, true, true, true, true, true, true, true, true, true, true, true, true, false, false, false, false, false, false] rfl rfl (by kernel_rfl) (fun _ _ _ h => h) (Or.inl ⟨by rfl, ?_⟩) ?_ ?_
        rotate_left
        · intro w'
          go_simp
          with_reducible rfl
        rotate_left
        · simp only [Act.put, List.setIfInBounds_toArray, List.set_cons_zero, List.set_cons_succ, i64_w, i32_w]
          rfl
        refine pure_ (i := 15) (N := some 37) (v := ?_) (a' := ?_) #[true, true, true, true, true, true, true, true, true, true, true, true, true, true, true, true, false, false, false, false, false] rfl rfl (by kernel_rfl) (fun _ _ _ h => h) (Or.inl ⟨by rfl, ?_⟩) ?_ ?_
        rotate_left
        · intro w'
          go_simp
          with_reducible rfl
        rotate_left
        · simp only [Act.put, List.setIfInBounds_toArray, List.set_cons_zero, List.set_cons_succ, i64_w, i32_w]
          rfl
        refine pure_ (i := 16) (N := some 38) (v := ?_) (a' := ?_) #[true, true, true, true, true, true, true, true, true, true, true, true, true, true, true, true, true, false, false, false, false] rfl rfl (by kernel_rfl) (fun _ _ _ h => h) (Or.inl ⟨by rfl, ?_⟩) ?_ ?_
        rotate_left
        · intro w'
          go_simp
          with_reducible rfl
        rotate_left
        · simp only [Act.put, List.setIfInBounds_toArray, List.set_cons_zero, List.set_cons_succ, i64_w, i32_w]
          rfl
        refine pure_ (i := 17) (N := some 39) (v := ?_) (a' := ?_) #[true, true, true, true, true, true, true, true, true, true, true, true, true, true, true, true, true, true, false, false, false] rfl rfl (by kernel_rfl) (fun _ _ _ h => h) (Or.inl ⟨by rfl, ?_⟩) ?_ ?_
        rotate_left
        · intro w'
          go_simp
          with_reducible rfl
        rotate_left
        · simp only [Act.put, List.setIfInBounds_toArray, List.set_cons_zero, List.set_cons_succ, i64_w, i32_w]
          rfl
        refine pure_ (i := 18) (N := some 40) (v := ?_) (a' := ?_) #[true, true, true, true, true, true, true, true, true, true, true, true, true, true, true, true, true, true, true, false, false] rfl rfl (by kernel_rfl) (fun _ _ _ h => h) (Or.inl ⟨by rfl, ?_⟩) ?_ ?_
        rotate_left
        · intro w'
          go_simp
          with_reducible rfl
        rotate_left
        · simp only [Act.put, List.setIfInBounds_toArray, List.set_cons_zero, List.set_cons_succ, i64_w, i32_w]
          rfl
        refine pure_ (i := 19) (N := some 41) (v := ?_) (a' := ?_) #[true, true, true, true, true, true, true, true, true, true, true, true, true, true, true, true, true, true, true, true, false] rfl rfl (by kernel_rfl) (fun _ _ _ h => h) (Or.inl ⟨by rfl, ?_⟩) ?_ ?_
        rotate_left
        · intro w'
          go_simp
          with_reducible rfl
        rotate_left
        · simp only [Act.put, List.setIfInBounds_toArray, List.set_cons_zero, List.set_cons_succ, i64_w, i32_w]
          rfl
        refine last_ (i := 20) (N := none) #[true, true, true, true, true, true, true, true, true, true, true, true, true, true, true, true, true, true, true, true, true] rfl rfl (by kernel_rfl) (by decide) (fun K hK => ?_)
        refine skip_ (w1 := ?_) (by rfl) rfl ?_ ?_
        rotate_left
        · go_simp
          rfl
        refine hK.out _ _ ?_
        clear hK K
        refine done_ (by kernel_rfl) ?_
        go_wp2
        go_ret
        exact ⟨rfl, ⟨_, (blk_put (blk_put (blk_put HX2.out 6 _ rfl) 3 _ rfl) 4 _ rfl), Kd.R_far (Kd.R_far (Kd.R_far HR2.out (fun _ h => h) _) (fun _ h => h) _) (fun _ h => h) _⟩, ((HK2.out.setCell (.inl rfl) _).setCell (.inl rfl) _).setCell (.inl rfl) _, ((HB2.out.setCell hg _).setCell hg _).setCell hg _⟩
      · rw [if_neg h3] at h
        simp only [Option.some.injEq, Prod.mk.injEq] at h
        obtain ⟨rfl, rfl, rfl, rfl⟩ := h
        have q3 := decide_eq_false h3
        clear h1 h2 h3
        go_enter Try.func77, Try.ntmps77
        go_wp2_with (go_at_call 73; refine (account_roll.within month 0 2399 _).mono ?_; rintro e w1 ⟨rfl, hb1⟩; rw [q1]; have HK1 := Aside0.mk (Kept.of_below hb1 (fun k => k = g)); have HX1 := Aside0.mk (blk_below HX.out hb1); have HR1 := Aside0.mk (Kd.R_below HR.out hb1); have HB1 := Aside0.mk (below_then HB.out HB.out.size hb1); obtain ⟨x0, x1, x2, x3, x4, x5, x6, x7, x8, x9, x10, x11⟩ := clerk.get HX1.out; clear hb1)
        go_ret
        exact ⟨rfl, ⟨_, HX1.out, HR1.out⟩, HK1.out, HB1.out⟩
  · rw [if_neg h1] at h
    simp only [Option.some.injEq, Prod.mk.injEq] at h
    obtain ⟨rfl, rfl, rfl, rfl⟩ := h
    have q1 : decide (0 ≤ month ∧ month ≤ 2399) = false := decide_eq_false h1
    clear h1
    go_enter Try.func77, Try.ntmps77
    go_wp2_with (go_at_call 73; refine (account_roll.within month 0 2399 _).mono ?_; rintro e w1 ⟨rfl, hb1⟩; rw [q1]; have HK1 := Aside0.mk (Kept.of_below hb1 (fun k => k = g)); have HX1 := Aside0.mk (blk_below HX.out hb1); have HR1 := Aside0.mk (Kd.R_below HR.out hb1); have HB1 := Aside0.mk (below_then HB.out HB.out.size hb1); clear hb1)
    go_ret
    exact ⟨rfl, ⟨_, HX1.out, HR1.out⟩, HK1.out, HB1.out⟩
set_option maxHeartbeats 8000000 in
set_option maxRecDepth 100000 in
theorem account_open.calls (k : Nat) (me rev nx mo bo fr : Int) (A6 : Option Addr) (c6 : Nat) (l : List S76) (At : Option Addr) (ct : Nat) (t : List S125) (a b c d : Int) (r : Int) (w : World) (hr0 : Kd.C k76 w A6 l.length l) (hc0 : l.length ≤ c6) (ht0 : Kd.C k125 w At t.length t) (hct : t.length ≤ ct) (h : account_open.f k me rev nx mo bo fr l t a b c d = some r) :
    Calls Try.prog 76 #[.agg #[.int .i64 me, .int .i64 rev, .int .i64 nx, .int .i64 mo, .int .i64 bo, .int .i64 fr, .slice A6 l.length c6], .agg #[.slice At t.length ct, .int .i64 a, .int .i64 b, .int .i64 c, .int .i64 d]] w fun e w' => ∃ v0, e = .returned (.tuple #[v0, .int .i64 r]) ∧ (r = 0 → ∃ g v1, v0 = .pointer (some ⟨g, 0, none⟩) ∧ w.heap.size ≤ g ∧ w'.heap[g]? = some (.cells (clerk.cells me rev nx mo bo fr v1 At t.length ct a b c d) 128 (0, 0)) ∧ Kd.R k76 76 w' w.heap.size (fun k => k ≠ g) v1 l) ∧ Below w.heap.size w w' := by
  have HR0 := Aside0.mk hr0
  have HC0 := Aside0.mk hc0
  have HT0 := Aside0.mk ht0
  have HCT := Aside0.mk hct
  have HB := Aside0.mk (Below.refl w.heap.size w)
  have hu60 := Try.underlying60
  have hu53 := Try.underlying53
  have hu128 := Try.underlying128
  clear hr0 hc0 ht0 hct
  unfold account_open.f at h
  obtain ⟨m, hm, h⟩ := Option.bind_eq_some_iff.mp h
  have HM := Aside0.mk hm
  clear hm
  by_cases h1 : m = true
  · rw [if_pos h1] at h
    subst h1
    obtain ⟨e0, he, h⟩ := Option.bind_eq_some_iff.mp h
    have HE := Aside0.mk he
    clear he
    by_cases h2 : e0 = 0
    · rw [if_pos h2] at h
      subst h2
      by_cases h3 : l.length < 8796093022208
      · rw [if_pos h3] at h
        obtain rfl := Option.some.inj h
        have HL := Aside0.mk h3
        clear h h3
        go_enter Try.func76, Try.ntmps76
        go_wp2_with (first | ((with_reducible refine gate_dst (N := 2) rfl ?_); refine box_event ?hg (N := 2) ?hd (cs := #[.int .i64 me, .int .i64 rev, .int .i64 nx, .int .i64 mo, .int .i64 bo, .int .i64 fr, .slice A6 l.length c6]) (t := 60) ?hr ?_; (case hd => rfl); (case hg => rfl); (case hr => first | (go_simp; done) | (go_simp; rfl)); intro g1 hgq w1 hbox hb; have HB_ := Aside0.mk (below_step (by repeat (first | (with_reducible first | exact HB.out | apply below_alloc | apply pw_below_drewN | apply below_drew1) | exact HB.out)) hb); have G1 := Aside0.mk (by rw [hgq]; exact below_size (by repeat (first | (with_reducible first | exact HB.out | apply below_alloc | apply pw_below_drewN | apply below_drew1) | exact HB.out)) : w.heap.size ≤ g1); have B1 := Aside0.mk hbox; clear HB ; have HB := HB_; clear HB_; clear hb hbox hgq) | ((with_reducible refine gate_dst (N := 3) rfl ?_); refine box_event ?hg (N := 3) ?hd (cs := #[.slice At t.length ct, .int .i64 a, .int .i64 b, .int .i64 c, .int .i64 d]) (t := 53) ?hr ?_; (case hd => rfl); (case hg => rfl); (case hr => first | (go_simp; done) | (go_simp; rfl)); intro g2 hgq w2 hbox hb; have B1_ := Aside0.mk (blk_below (by (with_reducible repeat (first | refine blk_drewN ?_ _ | refine blk_drew ?_ | refine blk_alloc ?_ _)); exact B1.out) hb); have NB1g2 := Aside0.mk (by rw [hgq]; exact Nat.ne_of_lt (blk_lt (by (with_reducible repeat (first | refine blk_drewN ?_ _ | refine blk_drew ?_ | refine blk_alloc ?_ _)); exact B1.out)) : g1 ≠ g2); have HB_ := Aside0.mk (below_step (by repeat (first | (with_reducible first | exact HB.out | apply below_alloc | apply pw_below_drewN | apply below_drew1) | exact HB.out)) hb); have G2 := Aside0.mk (by rw [hgq]; exact below_size (by repeat (first | (with_reducible first | exact HB.out | apply below_alloc | apply pw_below_drewN | apply below_drew1) | exact HB.out)) : w.heap.size ≤ g2); have B2 := Aside0.mk hbox; clear HB B1; have HB := HB_; clear HB_; have B1 := B1_; clear B1_; clear hb hbox hgq; have xg10 : w2.cell? ⟨g1, 0, none⟩ = some (.int .i64 me) := (blk_cell B1.out 0).trans rfl; have xg11 : w2.cell? ⟨g1, 1, none⟩ = some (.int .i64 rev) := (blk_cell B1.out 1).trans rfl; have xg12 : w2.cell? ⟨g1, 2, none⟩ = some (.int .i64 nx) := (blk_cell B1.out 2).trans rfl; have xg13 : w2.cell? ⟨g1, 3, none⟩ = some (.int .i64 mo) := (blk_cell B1.out 3).trans rfl; have xg14 : w2.cell? ⟨g1, 4, none⟩ = some (.int .i64 bo) := (blk_cell B1.out 4).trans rfl; have xg15 : w2.cell? ⟨g1, 5, none⟩ = some (.int .i64 fr) := (blk_cell B1.out 5).trans rfl; have xg16 : w2.cell? ⟨g1, 6, none⟩ = some (.slice A6 l.length c6) := (blk_cell B1.out 6).trans rfl; have xg20 : w2.cell? ⟨g2, 0, none⟩ = some (.slice At t.length ct) := (blk_cell B2.out 0).trans rfl; have xg21 : w2.cell? ⟨g2, 1, none⟩ = some (.int .i64 a) := (blk_cell B2.out 1).trans rfl; have xg22 : w2.cell? ⟨g2, 2, none⟩ = some (.int .i64 b) := (blk_cell B2.out 2).trans rfl; have xg23 : w2.cell? ⟨g2, 3, none⟩ = some (.int .i64 c) := (blk_cell B2.out 3).trans rfl; have xg24 : w2.cell? ⟨g2, 4, none⟩ = some (.int .i64 d) := (blk_cell B2.out 4).trans rfl; skip) | (go_at_call 85; refine (account_may.calls k me rev nx mo bo fr A6 c6 l true _ (by repeat (first | exact (Kd.C_below HR0.out HB.out) | (with_reducible refine Kd.C_alloc ?_ _) | (with_reducible refine Kd.C_drewN ?_ _) | (with_reducible refine Kd.C_drew ?_))) HC0.out HM.out).mono ?_; rintro e w3 ⟨rfl, hb1⟩; clear xg10 xg11 xg12 xg13 xg14 xg15 xg16; clear xg20 xg21 xg22 xg23 xg24; have B1_ := Aside0.mk (blk_below (by (with_reducible repeat (first | refine blk_drewN ?_ _ | refine blk_drew ?_ | refine blk_alloc ?_ _)); exact B1.out) hb1); have B2_ := Aside0.mk (blk_below (by (with_reducible repeat (first | refine blk_drewN ?_ _ | refine blk_drew ?_ | refine blk_alloc ?_ _)); exact B2.out) hb1); have HB_ := Aside0.mk (below_step (by repeat (first | (with_reducible first | exact HB.out | apply below_alloc | apply pw_below_drewN | apply below_drew1) | exact HB.out)) hb1); clear HB B1 B2; have HB := HB_; clear HB_; have B1 := B1_; clear B1_; have B2 := B2_; clear B2_; have xg10 : w3.cell? ⟨g1, 0, none⟩ = some (.int .i64 me) := (blk_cell B1.out 0).trans rfl; have xg11 : w3.cell? ⟨g1, 1, none⟩ = some (.int .i64 rev) := (blk_cell B1.out 1).trans rfl; have xg12 : w3.cell? ⟨g1, 2, none⟩ = some (.int .i64 nx) := (blk_cell B1.out 2).trans rfl; have xg13 : w3.cell? ⟨g1, 3, none⟩ = some (.int .i64 mo) := (blk_cell B1.out 3).trans rfl; have xg14 : w3.cell? ⟨g1, 4, none⟩ = some (.int .i64 bo) := (blk_cell B1.out 4).trans rfl; have xg15 : w3.cell? ⟨g1, 5, none⟩ = some (.int .i64 fr) := (blk_cell B1.out 5).trans rfl; have xg16 : w3.cell? ⟨g1, 6, none⟩ = some (.slice A6 l.length c6) := (blk_cell B1.out 6).trans rfl; have xg20 : w3.cell? ⟨g2, 0, none⟩ = some (.slice At t.length ct) := (blk_cell B2.out 0).trans rfl; have xg21 : w3.cell? ⟨g2, 1, none⟩ = some (.int .i64 a) := (blk_cell B2.out 1).trans rfl; have xg22 : w3.cell? ⟨g2, 2, none⟩ = some (.int .i64 b) := (blk_cell B2.out 2).trans rfl; have xg23 : w3.cell? ⟨g2, 3, none⟩ = some (.int .i64 c) := (blk_cell B2.out 3).trans rfl; have xg24 : w3.cell? ⟨g2, 4, none⟩ = some (.int .i64 d) := (blk_cell B2.out 4).trans rfl; clear hb1) | (go_at_call 28; refine (account_Check.calls At ct t a b c d 0 _ (by repeat (first | exact (Kd.C_below HT0.out HB.out) | (with_reducible refine Kd.C_alloc ?_ _) | (with_reducible refine Kd.C_drewN ?_ _) | (with_reducible refine Kd.C_drew ?_))) HCT.out HE.out).mono ?_; rintro e w4 ⟨rfl, hb1⟩; have B1_ := Aside0.mk (blk_below (by (with_reducible repeat (first | refine blk_drewN ?_ _ | refine blk_drew ?_ | refine blk_alloc ?_ _)); exact B1.out) hb1); have B2_ := Aside0.mk (blk_below (by (with_reducible repeat (first | refine blk_drewN ?_ _ | refine blk_drew ?_ | refine blk_alloc ?_ _)); exact B2.out) hb1); have HB_ := Aside0.mk (below_step (by repeat (first | (with_reducible first | exact HB.out | apply below_alloc | apply pw_below_drewN | apply below_drew1) | exact HB.out)) hb1); clear HB B1 B2; have HB := HB_; clear HB_; have B1 := B1_; clear B1_; have B2 := B2_; clear B2_; clear xg10 xg11 xg12 xg13 xg14 xg15 xg16; clear xg20 xg21 xg22 xg23 xg24; have xg10 : w4.cell? ⟨g1, 0, none⟩ = some (.int .i64 me) := (blk_cell B1.out 0).trans rfl; have xg11 : w4.cell? ⟨g1, 1, none⟩ = some (.int .i64 rev) := (blk_cell B1.out 1).trans rfl; have xg12 : w4.cell? ⟨g1, 2, none⟩ = some (.int .i64 nx) := (blk_cell B1.out 2).trans rfl; have xg13 : w4.cell? ⟨g1, 3, none⟩ = some (.int .i64 mo) := (blk_cell B1.out 3).trans rfl; have xg14 : w4.cell? ⟨g1, 4, none⟩ = some (.int .i64 bo) := (blk_cell B1.out 4).trans rfl; have xg15 : w4.cell? ⟨g1, 5, none⟩ = some (.int .i64 fr) := (blk_cell B1.out 5).trans rfl; have xg16 : w4.cell? ⟨g1, 6, none⟩ = some (.slice A6 l.length c6) := (blk_cell B1.out 6).trans rfl; have xg20 : w4.cell? ⟨g2, 0, none⟩ = some (.slice At t.length ct) := (blk_cell B2.out 0).trans rfl; have xg21 : w4.cell? ⟨g2, 1, none⟩ = some (.int .i64 a) := (blk_cell B2.out 1).trans rfl; have xg22 : w4.cell? ⟨g2, 2, none⟩ = some (.int .i64 b) := (blk_cell B2.out 2).trans rfl; have xg23 : w4.cell? ⟨g2, 3, none⟩ = some (.int .i64 c) := (blk_cell B2.out 3).trans rfl; have xg24 : w4.cell? ⟨g2, 4, none⟩ = some (.int .i64 d) := (blk_cell B2.out 4).trans rfl; have f6 := blk_frozen B1.out 6; clear hb1) | ((with_reducible refine gate_builtin (b := .append) (xs := #[.const (.slice none 0 0), .tmp 16]) rfl ?_); at_builtin; refine Kd.R_append_rows k76 (w0 := w) w.heap.size rfl (.const (.slice none 0 0)) (.tmp 16) 58 76 (.agg #[.int .i64 0, .int .i64 0]) 16 rfl Try.underlying58 info76 rfl (by decide) (by omega) (.slice none 0 0) ([] : List S76) l _ _ _ (fun _ => True) (fun _ => False) rfl rfl (Kd.R_nil _ _ _ _ _) (by repeat (first | exact (Kd.C_below HR0.out HB.out) | (with_reducible refine Kd.C_alloc ?_ _) | (with_reducible refine Kd.C_drewN ?_ _) | (with_reducible refine Kd.C_drew ?_))) (fun _ _ h => h) (fun _ h => h.elim) (fun _ _ => trivial) HB.out HB.out.size (by have := HL.out; simp; omega) ?_; intro v5 w5 ho hb hg5 hat; rw [List.nil_append] at ho; obtain ⟨A5, c5, he5⟩ := Kd.R_slice ho; subst he5; have HO5 := Aside0.mk ho; have B1_ := Aside0.mk (blk_grown B1.out hg5 (by simp [Value.ownBlock])); have B2_ := Aside0.mk (blk_grown B2.out hg5 (by simp [Value.ownBlock])); clear HB B1 B2; have HB := Aside0.mk hb; have B1 := B1_; have B2 := B2_; clear B1_ B2_; clear xg10 xg11 xg12 xg13 xg14 xg15 xg16; clear xg20 xg21 xg22 xg23 xg24; clear f6; have xg10 : w5.cell? ⟨g1, 0, none⟩ = some (.int .i64 me) := (blk_cell B1.out 0).trans rfl; have xg11 : w5.cell? ⟨g1, 1, none⟩ = some (.int .i64 rev) := (blk_cell B1.out 1).trans rfl; have xg12 : w5.cell? ⟨g1, 2, none⟩ = some (.int .i64 nx) := (blk_cell B1.out 2).trans rfl; have xg13 : w5.cell? ⟨g1, 3, none⟩ = some (.int .i64 mo) := (blk_cell B1.out 3).trans rfl; have xg14 : w5.cell? ⟨g1, 4, none⟩ = some (.int .i64 bo) := (blk_cell B1.out 4).trans rfl; have xg15 : w5.cell? ⟨g1, 5, none⟩ = some (.int .i64 fr) := (blk_cell B1.out 5).trans rfl; have xg16 : w5.cell? ⟨g1, 6, none⟩ = some (.slice A6 l.length c6) := (blk_cell B1.out 6).trans rfl; have xg20 : w5.cell? ⟨g2, 0, none⟩ = some (.slice At t.length ct) := (blk_cell B2.out 0).trans rfl; have xg21 : w5.cell? ⟨g2, 1, none⟩ = some (.int .i64 a) := (blk_cell B2.out 1).trans rfl; have xg22 : w5.cell? ⟨g2, 2, none⟩ = some (.int .i64 b) := (blk_cell B2.out 2).trans rfl; have xg23 : w5.cell? ⟨g2, 3, none⟩ = some (.int .i64 c) := (blk_cell B2.out 3).trans rfl; have xg24 : w5.cell? ⟨g2, 4, none⟩ = some (.int .i64 d) := (blk_cell B2.out 4).trans rfl;  have f6 := blk_frozen B1.out 6; have B1s := Aside0.mk (blk_put B1.out 6 (.slice A5 l.length c5) rfl); have B2s := Aside0.mk (blk_far B2.out (p := ⟨g1, 6, none⟩) (Ne.symm NB1g2.out) (.slice A5 l.length c5)); have yg10 : (w5.setCell ⟨g1, 6, none⟩ (.slice A5 l.length c5)).cell? ⟨g1, 0, none⟩ = some (.int .i64 me) := (blk_cell B1s.out 0).trans rfl; have yg11 : (w5.setCell ⟨g1, 6, none⟩ (.slice A5 l.length c5)).cell? ⟨g1, 1, none⟩ = some (.int .i64 rev) := (blk_cell B1s.out 1).trans rfl; have yg12 : (w5.setCell ⟨g1, 6, none⟩ (.slice A5 l.length c5)).cell? ⟨g1, 2, none⟩ = some (.int .i64 nx) := (blk_cell B1s.out 2).trans rfl; have yg13 : (w5.setCell ⟨g1, 6, none⟩ (.slice A5 l.length c5)).cell? ⟨g1, 3, none⟩ = some (.int .i64 mo) := (blk_cell B1s.out 3).trans rfl; have yg14 : (w5.setCell ⟨g1, 6, none⟩ (.slice A5 l.length c5)).cell? ⟨g1, 4, none⟩ = some (.int .i64 bo) := (blk_cell B1s.out 4).trans rfl; have yg15 : (w5.setCell ⟨g1, 6, none⟩ (.slice A5 l.length c5)).cell? ⟨g1, 5, none⟩ = some (.int .i64 fr) := (blk_cell B1s.out 5).trans rfl; have yg16 : (w5.setCell ⟨g1, 6, none⟩ (.slice A5 l.length c5)).cell? ⟨g1, 6, none⟩ = some (.slice A5 l.length c5) := (blk_cell B1s.out 6).trans rfl; have yg20 : (w5.setCell ⟨g1, 6, none⟩ (.slice A5 l.length c5)).cell? ⟨g2, 0, none⟩ = some (.slice At t.length ct) := (blk_cell B2s.out 0).trans rfl; have yg21 : (w5.setCell ⟨g1, 6, none⟩ (.slice A5 l.length c5)).cell? ⟨g2, 1, none⟩ = some (.int .i64 a) := (blk_cell B2s.out 1).trans rfl; have yg22 : (w5.setCell ⟨g1, 6, none⟩ (.slice A5 l.length c5)).cell? ⟨g2, 2, none⟩ = some (.int .i64 b) := (blk_cell B2s.out 2).trans rfl; have yg23 : (w5.setCell ⟨g1, 6, none⟩ (.slice A5 l.length c5)).cell? ⟨g2, 3, none⟩ = some (.int .i64 c) := (blk_cell B2s.out 3).trans rfl; have yg24 : (w5.setCell ⟨g1, 6, none⟩ (.slice A5 l.length c5)).cell? ⟨g2, 4, none⟩ = some (.int .i64 d) := (blk_cell B2s.out 4).trans rfl;  clear ho hb hg5 hat) | ((with_reducible refine gate_dst (N := 22) rfl ?_); refine box_event ?hg (N := 22) ?hd (cs := #[.int .i64 me, .int .i64 rev, .int .i64 nx, .int .i64 mo, .int .i64 bo, .int .i64 fr, .slice A5 l.length c5, .slice At t.length ct, .int .i64 a, .int .i64 b, .int .i64 c, .int .i64 d]) (t := 128) ?hr ?_; (case hd => rfl); (case hg => rfl); (case hr => first | (go_simp; done) | (go_simp; rfl)); intro g3 hgq w6 hbox hb; have G3 := Aside0.mk (by rw [hgq]; exact (below_set HB.out G1.out).size : w.heap.size ≤ g3); have B3 := Aside0.mk hbox; have HR5 := Aside0.mk (Kd.R_below (Kd.R_mono (Kd.R_bound (Kd.R_set HO5.out B1.out (by decide) 6 (.slice A5 l.length c5))) (fun k hk => (by have := hk.2.2.1; omega : k ≠ g3))) hb); have HB_ := Aside0.mk (below_step (below_set HB.out G1.out) hb); clear HB; have HB := HB_; clear HB_ hb hbox hgq))
        go_ret2
        exact ⟨_, rfl, fun _ => ⟨g3, _, rfl, G3.out, B3.out, HR5.out⟩, HB.out⟩
      · rw [if_neg h3] at h; cases h
    · rw [if_neg h2] at h
      obtain rfl := Option.some.inj h
      have q2 : (e0 != 0) = true := bne_iff_ne.mpr h2
      clear h
      go_enter Try.func76, Try.ntmps76
      go_wp2_with (first | ((with_reducible refine gate_dst (N := 2) rfl ?_); refine box_event ?hg (N := 2) ?hd (cs := #[.int .i64 me, .int .i64 rev, .int .i64 nx, .int .i64 mo, .int .i64 bo, .int .i64 fr, .slice A6 l.length c6]) (t := 60) ?hr ?_; (case hd => rfl); (case hg => rfl); (case hr => first | (go_simp; done) | (go_simp; rfl)); intro g1 hgq w1 hbox hb; have HB_ := Aside0.mk (below_step (by repeat (first | (with_reducible first | exact HB.out | apply below_alloc | apply pw_below_drewN | apply below_drew1) | exact HB.out)) hb); have G1 := Aside0.mk (by rw [hgq]; exact below_size (by repeat (first | (with_reducible first | exact HB.out | apply below_alloc | apply pw_below_drewN | apply below_drew1) | exact HB.out)) : w.heap.size ≤ g1); have B1 := Aside0.mk hbox; clear HB ; have HB := HB_; clear HB_; clear hb hbox hgq) | ((with_reducible refine gate_dst (N := 3) rfl ?_); refine box_event ?hg (N := 3) ?hd (cs := #[.slice At t.length ct, .int .i64 a, .int .i64 b, .int .i64 c, .int .i64 d]) (t := 53) ?hr ?_; (case hd => rfl); (case hg => rfl); (case hr => first | (go_simp; done) | (go_simp; rfl)); intro g2 hgq w2 hbox hb; have B1_ := Aside0.mk (blk_below (by (with_reducible repeat (first | refine blk_drewN ?_ _ | refine blk_drew ?_ | refine blk_alloc ?_ _)); exact B1.out) hb); have NB1g2 := Aside0.mk (by rw [hgq]; exact Nat.ne_of_lt (blk_lt (by (with_reducible repeat (first | refine blk_drewN ?_ _ | refine blk_drew ?_ | refine blk_alloc ?_ _)); exact B1.out)) : g1 ≠ g2); have HB_ := Aside0.mk (below_step (by repeat (first | (with_reducible first | exact HB.out | apply below_alloc | apply pw_below_drewN | apply below_drew1) | exact HB.out)) hb); have G2 := Aside0.mk (by rw [hgq]; exact below_size (by repeat (first | (with_reducible first | exact HB.out | apply below_alloc | apply pw_below_drewN | apply below_drew1) | exact HB.out)) : w.heap.size ≤ g2); have B2 := Aside0.mk hbox; clear HB B1; have HB := HB_; clear HB_; have B1 := B1_; clear B1_; clear hb hbox hgq; have xg10 : w2.cell? ⟨g1, 0, none⟩ = some (.int .i64 me) := (blk_cell B1.out 0).trans rfl; have xg11 : w2.cell? ⟨g1, 1, none⟩ = some (.int .i64 rev) := (blk_cell B1.out 1).trans rfl; have xg12 : w2.cell? ⟨g1, 2, none⟩ = some (.int .i64 nx) := (blk_cell B1.out 2).trans rfl; have xg13 : w2.cell? ⟨g1, 3, none⟩ = some (.int .i64 mo) := (blk_cell B1.out 3).trans rfl; have xg14 : w2.cell? ⟨g1, 4, none⟩ = some (.int .i64 bo) := (blk_cell B1.out 4).trans rfl; have xg15 : w2.cell? ⟨g1, 5, none⟩ = some (.int .i64 fr) := (blk_cell B1.out 5).trans rfl; have xg16 : w2.cell? ⟨g1, 6, none⟩ = some (.slice A6 l.length c6) := (blk_cell B1.out 6).trans rfl; have xg20 : w2.cell? ⟨g2, 0, none⟩ = some (.slice At t.length ct) := (blk_cell B2.out 0).trans rfl; have xg21 : w2.cell? ⟨g2, 1, none⟩ = some (.int .i64 a) := (blk_cell B2.out 1).trans rfl; have xg22 : w2.cell? ⟨g2, 2, none⟩ = some (.int .i64 b) := (blk_cell B2.out 2).trans rfl; have xg23 : w2.cell? ⟨g2, 3, none⟩ = some (.int .i64 c) := (blk_cell B2.out 3).trans rfl; have xg24 : w2.cell? ⟨g2, 4, none⟩ = some (.int .i64 d) := (blk_cell B2.out 4).trans rfl; skip) | (go_at_call 85; refine (account_may.calls k me rev nx mo bo fr A6 c6 l true _ (by repeat (first | exact (Kd.C_below HR0.out HB.out) | (with_reducible refine Kd.C_alloc ?_ _) | (with_reducible refine Kd.C_drewN ?_ _) | (with_reducible refine Kd.C_drew ?_))) HC0.out HM.out).mono ?_; rintro e w3 ⟨rfl, hb1⟩; clear xg10 xg11 xg12 xg13 xg14 xg15 xg16; clear xg20 xg21 xg22 xg23 xg24; have B1_ := Aside0.mk (blk_below (by (with_reducible repeat (first | refine blk_drewN ?_ _ | refine blk_drew ?_ | refine blk_alloc ?_ _)); exact B1.out) hb1); have B2_ := Aside0.mk (blk_below (by (with_reducible repeat (first | refine blk_drewN ?_ _ | refine blk_drew ?_ | refine blk_alloc ?_ _)); exact B2.out) hb1); have HB_ := Aside0.mk (below_step (by repeat (first | (with_reducible first | exact HB.out | apply below_alloc | apply pw_below_drewN | apply below_drew1) | exact HB.out)) hb1); clear HB B1 B2; have HB := HB_; clear HB_; have B1 := B1_; clear B1_; have B2 := B2_; clear B2_; have xg10 : w3.cell? ⟨g1, 0, none⟩ = some (.int .i64 me) := (blk_cell B1.out 0).trans rfl; have xg11 : w3.cell? ⟨g1, 1, none⟩ = some (.int .i64 rev) := (blk_cell B1.out 1).trans rfl; have xg12 : w3.cell? ⟨g1, 2, none⟩ = some (.int .i64 nx) := (blk_cell B1.out 2).trans rfl; have xg13 : w3.cell? ⟨g1, 3, none⟩ = some (.int .i64 mo) := (blk_cell B1.out 3).trans rfl; have xg14 : w3.cell? ⟨g1, 4, none⟩ = some (.int .i64 bo) := (blk_cell B1.out 4).trans rfl; have xg15 : w3.cell? ⟨g1, 5, none⟩ = some (.int .i64 fr) := (blk_cell B1.out 5).trans rfl; have xg16 : w3.cell? ⟨g1, 6, none⟩ = some (.slice A6 l.length c6) := (blk_cell B1.out 6).trans rfl; have xg20 : w3.cell? ⟨g2, 0, none⟩ = some (.slice At t.length ct) := (blk_cell B2.out 0).trans rfl; have xg21 : w3.cell? ⟨g2, 1, none⟩ = some (.int .i64 a) := (blk_cell B2.out 1).trans rfl; have xg22 : w3.cell? ⟨g2, 2, none⟩ = some (.int .i64 b) := (blk_cell B2.out 2).trans rfl; have xg23 : w3.cell? ⟨g2, 3, none⟩ = some (.int .i64 c) := (blk_cell B2.out 3).trans rfl; have xg24 : w3.cell? ⟨g2, 4, none⟩ = some (.int .i64 d) := (blk_cell B2.out 4).trans rfl; clear hb1) | (go_at_call 28; refine (account_Check.calls At ct t a b c d e0 _ (by repeat (first | exact (Kd.C_below HT0.out HB.out) | (with_reducible refine Kd.C_alloc ?_ _) | (with_reducible refine Kd.C_drewN ?_ _) | (with_reducible refine Kd.C_drew ?_))) HCT.out HE.out).mono ?_; rintro e w4 ⟨rfl, hb1⟩; have B1_ := Aside0.mk (blk_below (by (with_reducible repeat (first | refine blk_drewN ?_ _ | refine blk_drew ?_ | refine blk_alloc ?_ _)); exact B1.out) hb1); have B2_ := Aside0.mk (blk_below (by (with_reducible repeat (first | refine blk_drewN ?_ _ | refine blk_drew ?_ | refine blk_alloc ?_ _)); exact B2.out) hb1); have HB_ := Aside0.mk (below_step (by repeat (first | (with_reducible first | exact HB.out | apply below_alloc | apply pw_below_drewN | apply below_drew1) | exact HB.out)) hb1); clear HB B1 B2; have HB := HB_; clear HB_; have B1 := B1_; clear B1_; have B2 := B2_; clear B2_; clear xg10 xg11 xg12 xg13 xg14 xg15 xg16; clear xg20 xg21 xg22 xg23 xg24; have xg10 : w4.cell? ⟨g1, 0, none⟩ = some (.int .i64 me) := (blk_cell B1.out 0).trans rfl; have xg11 : w4.cell? ⟨g1, 1, none⟩ = some (.int .i64 rev) := (blk_cell B1.out 1).trans rfl; have xg12 : w4.cell? ⟨g1, 2, none⟩ = some (.int .i64 nx) := (blk_cell B1.out 2).trans rfl; have xg13 : w4.cell? ⟨g1, 3, none⟩ = some (.int .i64 mo) := (blk_cell B1.out 3).trans rfl; have xg14 : w4.cell? ⟨g1, 4, none⟩ = some (.int .i64 bo) := (blk_cell B1.out 4).trans rfl; have xg15 : w4.cell? ⟨g1, 5, none⟩ = some (.int .i64 fr) := (blk_cell B1.out 5).trans rfl; have xg16 : w4.cell? ⟨g1, 6, none⟩ = some (.slice A6 l.length c6) := (blk_cell B1.out 6).trans rfl; have xg20 : w4.cell? ⟨g2, 0, none⟩ = some (.slice At t.length ct) := (blk_cell B2.out 0).trans rfl; have xg21 : w4.cell? ⟨g2, 1, none⟩ = some (.int .i64 a) := (blk_cell B2.out 1).trans rfl; have xg22 : w4.cell? ⟨g2, 2, none⟩ = some (.int .i64 b) := (blk_cell B2.out 2).trans rfl; have xg23 : w4.cell? ⟨g2, 3, none⟩ = some (.int .i64 c) := (blk_cell B2.out 3).trans rfl; have xg24 : w4.cell? ⟨g2, 4, none⟩ = some (.int .i64 d) := (blk_cell B2.out 4).trans rfl; have f6 := blk_frozen B1.out 6; clear hb1))
      go_ret2
      exact ⟨_, rfl, fun h => absurd h h2, HB.out⟩
  · rw [if_neg h1] at h
    obtain rfl := Option.some.inj h
    replace h1 := Bool.eq_false_iff.mpr h1
    subst h1
    clear h
    go_enter Try.func76, Try.ntmps76
    go_wp2_with (first | ((with_reducible refine gate_dst (N := 2) rfl ?_); refine box_event ?hg (N := 2) ?hd (cs := #[.int .i64 me, .int .i64 rev, .int .i64 nx, .int .i64 mo, .int .i64 bo, .int .i64 fr, .slice A6 l.length c6]) (t := 60) ?hr ?_; (case hd => rfl); (case hg => rfl); (case hr => first | (go_simp; done) | (go_simp; rfl)); intro g1 hgq w1 hbox hb; have HB_ := Aside0.mk (below_step (by repeat (first | (with_reducible first | exact HB.out | apply below_alloc | apply pw_below_drewN | apply below_drew1) | exact HB.out)) hb); have G1 := Aside0.mk (by rw [hgq]; exact below_size (by repeat (first | (with_reducible first | exact HB.out | apply below_alloc | apply pw_below_drewN | apply below_drew1) | exact HB.out)) : w.heap.size ≤ g1); have B1 := Aside0.mk hbox; clear HB ; have HB := HB_; clear HB_; clear hb hbox hgq) | ((with_reducible refine gate_dst (N := 3) rfl ?_); refine box_event ?hg (N := 3) ?hd (cs := #[.slice At t.length ct, .int .i64 a, .int .i64 b, .int .i64 c, .int .i64 d]) (t := 53) ?hr ?_; (case hd => rfl); (case hg => rfl); (case hr => first | (go_simp; done) | (go_simp; rfl)); intro g2 hgq w2 hbox hb; have B1_ := Aside0.mk (blk_below (by (with_reducible repeat (first | refine blk_drewN ?_ _ | refine blk_drew ?_ | refine blk_alloc ?_ _)); exact B1.out) hb); have NB1g2 := Aside0.mk (by rw [hgq]; exact Nat.ne_of_lt (blk_lt (by (with_reducible repeat (first | refine blk_drewN ?_ _ | refine blk_drew ?_ | refine blk_alloc ?_ _)); exact B1.out)) : g1 ≠ g2); have HB_ := Aside0.mk (below_step (by repeat (first | (with_reducible first | exact HB.out | apply below_alloc | apply pw_below_drewN | apply below_drew1) | exact HB.out)) hb); have G2 := Aside0.mk (by rw [hgq]; exact below_size (by repeat (first | (with_reducible first | exact HB.out | apply below_alloc | apply pw_below_drewN | apply below_drew1) | exact HB.out)) : w.heap.size ≤ g2); have B2 := Aside0.mk hbox; clear HB B1; have HB := HB_; clear HB_; have B1 := B1_; clear B1_; clear hb hbox hgq; have xg10 : w2.cell? ⟨g1, 0, none⟩ = some (.int .i64 me) := (blk_cell B1.out 0).trans rfl; have xg11 : w2.cell? ⟨g1, 1, none⟩ = some (.int .i64 rev) := (blk_cell B1.out 1).trans rfl; have xg12 : w2.cell? ⟨g1, 2, none⟩ = some (.int .i64 nx) := (blk_cell B1.out 2).trans rfl; have xg13 : w2.cell? ⟨g1, 3, none⟩ = some (.int .i64 mo) := (blk_cell B1.out 3).trans rfl; have xg14 : w2.cell? ⟨g1, 4, none⟩ = some (.int .i64 bo) := (blk_cell B1.out 4).trans rfl; have xg15 : w2.cell? ⟨g1, 5, none⟩ = some (.int .i64 fr) := (blk_cell B1.out 5).trans rfl; have xg16 : w2.cell? ⟨g1, 6, none⟩ = some (.slice A6 l.length c6) := (blk_cell B1.out 6).trans rfl; have xg20 : w2.cell? ⟨g2, 0, none⟩ = some (.slice At t.length ct) := (blk_cell B2.out 0).trans rfl; have xg21 : w2.cell? ⟨g2, 1, none⟩ = some (.int .i64 a) := (blk_cell B2.out 1).trans rfl; have xg22 : w2.cell? ⟨g2, 2, none⟩ = some (.int .i64 b) := (blk_cell B2.out 2).trans rfl; have xg23 : w2.cell? ⟨g2, 3, none⟩ = some (.int .i64 c) := (blk_cell B2.out 3).trans rfl; have xg24 : w2.cell? ⟨g2, 4, none⟩ = some (.int .i64 d) := (blk_cell B2.out 4).trans rfl; skip) | (go_at_call 85; refine (account_may.calls k me rev nx mo bo fr A6 c6 l false _ (by repeat (first | exact (Kd.C_below HR0.out HB.out) | (with_reducible refine Kd.C_alloc ?_ _) | (with_reducible refine Kd.C_drewN ?_ _) | (with_reducible refine Kd.C_drew ?_))) HC0.out HM.out).mono ?_; rintro e w3 ⟨rfl, hb1⟩; clear xg10 xg11 xg12 xg13 xg14 xg15 xg16; clear xg20 xg21 xg22 xg23 xg24; have B1_ := Aside0.mk (blk_below (by (with_reducible repeat (first | refine blk_drewN ?_ _ | refine blk_drew ?_ | refine blk_alloc ?_ _)); exact B1.out) hb1); have B2_ := Aside0.mk (blk_below (by (with_reducible repeat (first | refine blk_drewN ?_ _ | refine blk_drew ?_ | refine blk_alloc ?_ _)); exact B2.out) hb1); have HB_ := Aside0.mk (below_step (by repeat (first | (with_reducible first | exact HB.out | apply below_alloc | apply pw_below_drewN | apply below_drew1) | exact HB.out)) hb1); clear HB B1 B2; have HB := HB_; clear HB_; have B1 := B1_; clear B1_; have B2 := B2_; clear B2_; have xg10 : w3.cell? ⟨g1, 0, none⟩ = some (.int .i64 me) := (blk_cell B1.out 0).trans rfl; have xg11 : w3.cell? ⟨g1, 1, none⟩ = some (.int .i64 rev) := (blk_cell B1.out 1).trans rfl; have xg12 : w3.cell? ⟨g1, 2, none⟩ = some (.int .i64 nx) := (blk_cell B1.out 2).trans rfl; have xg13 : w3.cell? ⟨g1, 3, none⟩ = some (.int .i64 mo) := (blk_cell B1.out 3).trans rfl; have xg14 : w3.cell? ⟨g1, 4, none⟩ = some (.int .i64 bo) := (blk_cell B1.out 4).trans rfl; have xg15 : w3.cell? ⟨g1, 5, none⟩ = some (.int .i64 fr) := (blk_cell B1.out 5).trans rfl; have xg16 : w3.cell? ⟨g1, 6, none⟩ = some (.slice A6 l.length c6) := (blk_cell B1.out 6).trans rfl; have xg20 : w3.cell? ⟨g2, 0, none⟩ = some (.slice At t.length ct) := (blk_cell B2.out 0).trans rfl; have xg21 : w3.cell? ⟨g2, 1, none⟩ = some (.int .i64 a) := (blk_cell B2.out 1).trans rfl; have xg22 : w3.cell? ⟨g2, 2, none⟩ = some (.int .i64 b) := (blk_cell B2.out 2).trans rfl; have xg23 : w3.cell? ⟨g2, 3, none⟩ = some (.int .i64 c) := (blk_cell B2.out 3).trans rfl; have xg24 : w3.cell? ⟨g2, 4, none⟩ = some (.int .i64 d) := (blk_cell B2.out 4).trans rfl; clear hb1))
    go_ret2
    exact ⟨_, rfl, fun h => absurd h (by decide), HB.out⟩
theorem clerk.put7 {w : World} {g : Nat} {t : TypeId} {x0 x1 x2 x3 x4 x5 x6 v0 v1 v2 v3 v4 v5 v6 : Value} (h : w.heap[g]? = some (.cells #[x0, x1, x2, x3, x4, x5, x6] t (0, 0))) : (((((((w.setCell ⟨g, 0, none⟩ (v0)).setCell ⟨g, 1, none⟩ (v1)).setCell ⟨g, 2, none⟩ (v2)).setCell ⟨g, 3, none⟩ (v3)).setCell ⟨g, 4, none⟩ (v4)).setCell ⟨g, 5, none⟩ (v5)).setCell ⟨g, 6, none⟩ (v6)).heap[g]? = some (.cells #[v0, v1, v2, v3, v4, v5, v6] t (0, 0)) := by
  refine blk_put (cs := #[v0, v1, v2, v3, v4, v5, x6]) ?_ 6 _ rfl
  refine blk_put (cs := #[v0, v1, v2, v3, v4, x5, x6]) ?_ 5 _ rfl
  refine blk_put (cs := #[v0, v1, v2, v3, x4, x5, x6]) ?_ 4 _ rfl
  refine blk_put (cs := #[v0, v1, v2, x3, x4, x5, x6]) ?_ 3 _ rfl
  refine blk_put (cs := #[v0, v1, x2, x3, x4, x5, x6]) ?_ 2 _ rfl
  refine blk_put (cs := #[v0, x1, x2, x3, x4, x5, x6]) ?_ 1 _ rfl
  refine blk_put (cs := #[x0, x1, x2, x3, x4, x5, x6]) ?_ 0 _ rfl
  exact h
theorem clerk.far7 {w : World} {g h : Nat} {t : TypeId} {cs : Array Value} (v0 v1 v2 v3 v4 v5 v6 : Value) (hh : w.heap[h]? = some (.cells cs t (0, 0))) (hne : h ≠ g) : (((((((w.setCell ⟨g, 0, none⟩ (v0)).setCell ⟨g, 1, none⟩ (v1)).setCell ⟨g, 2, none⟩ (v2)).setCell ⟨g, 3, none⟩ (v3)).setCell ⟨g, 4, none⟩ (v4)).setCell ⟨g, 5, none⟩ (v5)).setCell ⟨g, 6, none⟩ (v6)).heap[h]? = some (.cells cs t (0, 0)) := (blk_far (blk_far (blk_far (blk_far (blk_far (blk_far (blk_far hh hne _) hne _) hne _) hne _) hne _) hne _) hne _)
theorem clerk.R7 {α : Type} {d : Kd α} {e base : Nat} {ok : Nat → Prop} {w : World} {v : Value} {xs : List α} {g : Nat} (v0 v1 v2 v3 v4 v5 v6 : Value) (h : d.R e w base ok v xs) (hok : ∀ k, ok k → k ≠ g) : d.R e (((((((w.setCell ⟨g, 0, none⟩ (v0)).setCell ⟨g, 1, none⟩ (v1)).setCell ⟨g, 2, none⟩ (v2)).setCell ⟨g, 3, none⟩ (v3)).setCell ⟨g, 4, none⟩ (v4)).setCell ⟨g, 5, none⟩ (v5)).setCell ⟨g, 6, none⟩ (v6)) base ok v xs := (Kd.R_far (Kd.R_far (Kd.R_far (Kd.R_far (Kd.R_far (Kd.R_far (Kd.R_far h hok _) hok _) hok _) hok _) hok _) hok _) hok _)
theorem clerk.below7 {w W : World} {g : Nat} (v0 v1 v2 v3 v4 v5 v6 : Value) (h : Below w.heap.size w W) (hg : w.heap.size ≤ g) : Below w.heap.size w (((((((W.setCell ⟨g, 0, none⟩ (v0)).setCell ⟨g, 1, none⟩ (v1)).setCell ⟨g, 2, none⟩ (v2)).setCell ⟨g, 3, none⟩ (v3)).setCell ⟨g, 4, none⟩ (v4)).setCell ⟨g, 5, none⟩ (v5)).setCell ⟨g, 6, none⟩ (v6)) := (below_set (below_set (below_set (below_set (below_set (below_set (below_set h hg) hg) hg) hg) hg) hg) hg)
theorem clerk.one {W : World} {g : Nat} {x y : Int} (h : W.heap[g]? = some (.cells #[.int .i64 x, .int .i64 y] 125 (0, 0))) : Kd.C k125 W (some ⟨g, 0, none⟩) [(⟨x, y⟩ : S125)].length [⟨x, y⟩] := by
  refine ⟨rfl, by simp, fun _ => ⟨_, rfl, fun j p hj => ?_⟩⟩
  match j with
  | 0 =>
    obtain rfl := Option.some.inj hj
    refine ⟨[.int .i64 x, .int .i64 y], rfl, k125_mk _ ⟨x, y⟩, fun i u hu => ?_⟩
    match i with
    | 0 => obtain rfl := Option.some.inj hu; exact (blk_cell h 0).trans rfl
    | 1 => obtain rfl := Option.some.inj hu; exact (blk_cell h 1).trans rfl
    | i + 2 => simp at hu
  | j + 1 => simp at hj

def account_Roll.f (k : Nat) (me rev nx mo bo fr : Int) (l : List S76) (month : Int) : Option (Int × Int × Int × Int × Int × Int × List S76 × Int) :=
  (account_open.f k me rev nx mo bo fr l [⟨10000000, 1⟩] 0 0 0 0).bind fun e => if e = 0 then ((account_roll.f k mo bo l month).bind fun p => if p.2.2.2 = 0 then some (me, rev, nx, p.2.1, p.2.2.1, fr, p.1, 0) else some (0, 0, 0, 0, 0, 0, [], p.2.2.2)) else some (0, 0, 0, 0, 0, 0, [], e)
theorem account_Roll.mono : ∀ a0 a1 a2 a3 a4 a5 a6 a7 k, LeO (account_Roll.f k a0 a1 a2 a3 a4 a5 a6 a7) (account_Roll.f (k + 1) a0 a1 a2 a3 a4 a5 a6 a7) := by
  intro a0 a1 a2 a3 a4 a5 a6 a7 k
  unfold account_Roll.f
  exact LeO.bind (account_open.mono _ _ _ _ _ _ _ _ _ _ _ _ _) (fun _ => LeO.ite (LeO.bind (account_roll.mono _ _ _ _ _) (fun _ => LeO.refl _)) (LeO.refl _))
set_option maxHeartbeats 8000000 in
set_option maxRecDepth 100000 in
theorem account_Roll.calls (k : Nat) (me rev nx mo bo fr : Int) (A6 : Option Addr) (c6 : Nat) (l : List S76) (month : Int) (r1 r2 r3 r4 r5 r6 : Int) (r7 : List S76) (r8 : Int) (w : World) (hr0 : Kd.C k76 w A6 l.length l) (hc0 : l.length ≤ c6) (h : account_Roll.f k me rev nx mo bo fr l month = some (r1, r2, r3, r4, r5, r6, r7, r8)) :
    Calls Try.prog 32 #[.agg #[.int .i64 me, .int .i64 rev, .int .i64 nx, .int .i64 mo, .int .i64 bo, .int .i64 fr, .slice A6 l.length c6], .int .i64 month] w fun e w' => ∃ v6_ : Value, e = .returned (.tuple #[.agg #[.int .i64 r1, .int .i64 r2, .int .i64 r3, .int .i64 r4, .int .i64 r5, .int .i64 r6, v6_], .int .i64 r8]) ∧ Kd.R k76 76 w' w.heap.size (fun _ => True) v6_ r7 ∧ Below w.heap.size w w' := by
  have HR0 := Aside0.mk hr0
  have HC0 := Aside0.mk hc0
  have HB := Aside0.mk (Below.refl w.heap.size w)
  have hu60 := Try.underlying60
  have hu53 := Try.underlying53
  have hu125 := Try.underlying125
  have hu128 := Try.underlying128
  clear hr0 hc0
  unfold account_Roll.f at h
  obtain ⟨e0, ho, h⟩ := Option.bind_eq_some_iff.mp h
  have HO := Aside0.mk ho
  clear ho
  by_cases h1 : e0 = 0
  · rw [if_pos h1] at h
    subst h1
    obtain ⟨⟨l1, mo1, bo1, e1⟩, hp, h⟩ := Option.bind_eq_some_iff.mp h
    have HP := Aside0.mk hp
    clear hp
    by_cases h2 : e1 = 0
    · rw [if_pos h2] at h
      simp only [Option.some.injEq, Prod.mk.injEq] at h
      obtain ⟨rfl, rfl, rfl, rfl, rfl, rfl, rfl, rfl⟩ := h
      subst h2
      go_enter Try.func32, Try.ntmps32
      go_wp2_with (first | ((with_reducible refine gate_dst (N := 2) rfl ?_); refine box_event ?hg (N := 2) ?hd (cs := #[.int .i64 me, .int .i64 rev, .int .i64 nx, .int .i64 mo, .int .i64 bo, .int .i64 fr, .slice A6 l.length c6]) (t := 60) ?hr ?_; (case hd => rfl); (case hg => rfl); (case hr => first | (go_simp; done) | (go_simp; rfl)); intro g1 hgq w1 hbox hb; have HB_ := Aside0.mk (below_step (by repeat (first | (with_reducible first | exact HB.out | apply below_alloc | apply pw_below_drewN | apply below_drew1) | exact HB.out)) hb); have G1 := Aside0.mk (by rw [hgq]; exact below_size (by repeat (first | (with_reducible first | exact HB.out | apply below_alloc | apply pw_below_drewN | apply below_drew1) | exact HB.out)) : w.heap.size ≤ g1); have B1 := Aside0.mk hbox; clear HB ; have HB := HB_; clear HB_; clear hb hbox hgq) | ((with_reducible refine gate_dst (N := 4) rfl ?_); refine box_event ?hg (N := 4) ?hd (cs := #[.int .i64 0, .int .i64 0, .int .i64 0, .int .i64 0, .int .i64 0, .int .i64 0, .slice none 0 0]) (t := 60) ?hr ?_; (case hd => rfl); (case hg => rfl); (case hr => first | (go_simp; done) | (go_simp; rfl)); intro g2 hgq w2 hbox hb; have B1_ := Aside0.mk (blk_below (by (with_reducible repeat (first | refine blk_drewN ?_ _ | refine blk_drew ?_ | refine blk_alloc ?_ _)); exact B1.out) hb); have NB1g2 := Aside0.mk (by rw [hgq]; exact Nat.ne_of_lt (blk_lt (by (with_reducible repeat (first | refine blk_drewN ?_ _ | refine blk_drew ?_ | refine blk_alloc ?_ _)); exact B1.out)) : g1 ≠ g2); have HB_ := Aside0.mk (below_step (by repeat (first | (with_reducible first | exact HB.out | apply below_alloc | apply pw_below_drewN | apply below_drew1) | exact HB.out)) hb); have G2 := Aside0.mk (by rw [hgq]; exact below_size (by repeat (first | (with_reducible first | exact HB.out | apply below_alloc | apply pw_below_drewN | apply below_drew1) | exact HB.out)) : w.heap.size ≤ g2); have B2 := Aside0.mk hbox; clear HB B1; have HB := HB_; clear HB_; have B1 := B1_; clear B1_; clear hb hbox hgq; have xg10 : w2.cell? ⟨g1, 0, none⟩ = some (.int .i64 me) := (blk_cell B1.out 0).trans rfl; have xg11 : w2.cell? ⟨g1, 1, none⟩ = some (.int .i64 rev) := (blk_cell B1.out 1).trans rfl; have xg12 : w2.cell? ⟨g1, 2, none⟩ = some (.int .i64 nx) := (blk_cell B1.out 2).trans rfl; have xg13 : w2.cell? ⟨g1, 3, none⟩ = some (.int .i64 mo) := (blk_cell B1.out 3).trans rfl; have xg14 : w2.cell? ⟨g1, 4, none⟩ = some (.int .i64 bo) := (blk_cell B1.out 4).trans rfl; have xg15 : w2.cell? ⟨g1, 5, none⟩ = some (.int .i64 fr) := (blk_cell B1.out 5).trans rfl; have xg16 : w2.cell? ⟨g1, 6, none⟩ = some (.slice A6 l.length c6) := (blk_cell B1.out 6).trans rfl; skip) | (go_at_call 76; refine (account_open.calls k me rev nx mo bo fr A6 c6 l (some ⟨w2.heap.size, 0, none⟩) 1 [⟨10000000, 1⟩] 0 0 0 0 0 _ (by repeat (first | exact (Kd.C_below HR0.out HB.out) | (with_reducible refine Kd.C_alloc ?_ _) | (with_reducible refine Kd.C_drewN ?_ _) | (with_reducible refine Kd.C_drew ?_))) HC0.out (clerk.one (blk_new w2 _)) (by decide) HO.out).mono ?_; rintro e w3 ⟨v0, rfl, hop, hb1⟩; obtain ⟨g3, v1, rfl, hg3, hx3, hr3⟩ := hop rfl; have hg3s : w2.heap.size + 1 ≤ g3 := (by rwa [World.size_alloc] at hg3); clear xg10 xg11 xg12 xg13 xg14 xg15 xg16; clear hop; have hlt : g2 < g3 := Nat.lt_of_lt_of_le (blk_lt B2.out) (Nat.le_of_succ_le hg3s); have B2_ := Aside0.mk (blk_below (blk_alloc B2.out _) hb1); have GL := Aside0.mk hlt; have G3 := Aside0.mk (Nat.le_trans (below_size (by repeat (first | (with_reducible first | exact HB.out | apply below_alloc | apply pw_below_drewN | apply below_drew1) | exact HB.out))) hg3 : w.heap.size ≤ g3); have B3 := Aside0.mk hx3; have R3 := Aside0.mk (Kd.R_lower hr3 (below_size (by repeat (first | (with_reducible first | exact HB.out | apply below_alloc | apply pw_below_drewN | apply below_drew1) | exact HB.out)))); have HB_ := Aside0.mk (below_step (by repeat (first | (with_reducible first | exact HB.out | apply below_alloc | apply pw_below_drewN | apply below_drew1) | exact HB.out)) hb1); clear HB B2; have HB := HB_; have B2 := B2_; clear HB_ B2_; clear hb1 hg3 hg3s hx3 hr3 hlt) | (go_at_call 77; refine (account_roll.calls k g3 me rev nx mo bo fr v1 l (some ⟨w2.heap.size, 0, none⟩) 1 1 0 0 0 0 month l1 mo1 bo1 0 w _ G3.out (by repeat (first | (with_reducible first | exact HB.out | apply below_alloc | apply pw_below_drewN | apply below_drew1) | exact HB.out)) B3.out R3.out HP.out).mono ?_; rintro e w4 ⟨rfl, ⟨v2, hx4, hr4⟩, hk4, hb4⟩; have B2_ := Aside0.mk (blk_kept B2.out hk4 (Nat.ne_of_lt GL.out)); clear B2; have B2 := B2_; clear B2_; obtain ⟨A8, c8, rfl⟩ := Kd.R_slice hr4; clear HB B3 R3; have HB := Aside0.mk hb4; have B3 := Aside0.mk hx4; have R4 := Aside0.mk (Kd.R_types hr4 B2.out (by decide)); obtain ⟨x0, x1, x2, x3, x4, x5, x6, x7, x8, x9, x10, x11⟩ := clerk.get B3.out; have xg20 : w4.cell? ⟨g2, 0, none⟩ = some (.int .i64 0) := (blk_cell B2.out 0).trans rfl; have xg21 : w4.cell? ⟨g2, 1, none⟩ = some (.int .i64 0) := (blk_cell B2.out 1).trans rfl; have xg22 : w4.cell? ⟨g2, 2, none⟩ = some (.int .i64 0) := (blk_cell B2.out 2).trans rfl; have xg23 : w4.cell? ⟨g2, 3, none⟩ = some (.int .i64 0) := (blk_cell B2.out 3).trans rfl; have xg24 : w4.cell? ⟨g2, 4, none⟩ = some (.int .i64 0) := (blk_cell B2.out 4).trans rfl; have xg25 : w4.cell? ⟨g2, 5, none⟩ = some (.int .i64 0) := (blk_cell B2.out 5).trans rfl; have xg26 : w4.cell? ⟨g2, 6, none⟩ = some (.slice none 0 0) := (blk_cell B2.out 6).trans rfl; have z0 := blk_frozen B2.out 0; have z1 := blk_frozen B2.out 1; have z2 := blk_frozen B2.out 2; have z3 := blk_frozen B2.out 3; have z4 := blk_frozen B2.out 4; have z5 := blk_frozen B2.out 5; have z6 := blk_frozen B2.out 6; clear hb4 hx4 hr4 hk4))
      refine bodyPost_ret (results_list (rs := [.cell 4 60, .tmp 5]) rfl (by simp) (.cell g2 60 #[.int .i64 me, .int .i64 rev, .int .i64 nx, .int .i64 mo1, .int .i64 bo1, .int .i64 fr, .slice A8 l1.length c8] (0, 0) _ rfl (clerk.put7 B2.out) Try.underlying60 rfl (by kernel_rfl) (.tmp .nil))) rfl ?_
      exact ⟨_, rfl, Kd.R_mono (clerk.R7 _ _ _ _ _ _ _ R4.out (fun _ h => h.2)) (fun _ _ => trivial), clerk.below7 _ _ _ _ _ _ _ HB.out G2.out⟩
    · rw [if_neg h2] at h
      simp only [Option.some.injEq, Prod.mk.injEq] at h
      obtain ⟨rfl, rfl, rfl, rfl, rfl, rfl, rfl, rfl⟩ := h
      have q2 : (e1 != 0) = true := bne_iff_ne.mpr h2
      clear h2
      go_enter Try.func32, Try.ntmps32
      go_wp2_with (first | ((with_reducible refine gate_dst (N := 2) rfl ?_); refine box_event ?hg (N := 2) ?hd (cs := #[.int .i64 me, .int .i64 rev, .int .i64 nx, .int .i64 mo, .int .i64 bo, .int .i64 fr, .slice A6 l.length c6]) (t := 60) ?hr ?_; (case hd => rfl); (case hg => rfl); (case hr => first | (go_simp; done) | (go_simp; rfl)); intro g1 hgq w1 hbox hb; have HB_ := Aside0.mk (below_step (by repeat (first | (with_reducible first | exact HB.out | apply below_alloc | apply pw_below_drewN | apply below_drew1) | exact HB.out)) hb); have G1 := Aside0.mk (by rw [hgq]; exact below_size (by repeat (first | (with_reducible first | exact HB.out | apply below_alloc | apply pw_below_drewN | apply below_drew1) | exact HB.out)) : w.heap.size ≤ g1); have B1 := Aside0.mk hbox; clear HB ; have HB := HB_; clear HB_; clear hb hbox hgq) | ((with_reducible refine gate_dst (N := 4) rfl ?_); refine box_event ?hg (N := 4) ?hd (cs := #[.int .i64 0, .int .i64 0, .int .i64 0, .int .i64 0, .int .i64 0, .int .i64 0, .slice none 0 0]) (t := 60) ?hr ?_; (case hd => rfl); (case hg => rfl); (case hr => first | (go_simp; done) | (go_simp; rfl)); intro g2 hgq w2 hbox hb; have B1_ := Aside0.mk (blk_below (by (with_reducible repeat (first | refine blk_drewN ?_ _ | refine blk_drew ?_ | refine blk_alloc ?_ _)); exact B1.out) hb); have NB1g2 := Aside0.mk (by rw [hgq]; exact Nat.ne_of_lt (blk_lt (by (with_reducible repeat (first | refine blk_drewN ?_ _ | refine blk_drew ?_ | refine blk_alloc ?_ _)); exact B1.out)) : g1 ≠ g2); have HB_ := Aside0.mk (below_step (by repeat (first | (with_reducible first | exact HB.out | apply below_alloc | apply pw_below_drewN | apply below_drew1) | exact HB.out)) hb); have G2 := Aside0.mk (by rw [hgq]; exact below_size (by repeat (first | (with_reducible first | exact HB.out | apply below_alloc | apply pw_below_drewN | apply below_drew1) | exact HB.out)) : w.heap.size ≤ g2); have B2 := Aside0.mk hbox; clear HB B1; have HB := HB_; clear HB_; have B1 := B1_; clear B1_; clear hb hbox hgq; have xg10 : w2.cell? ⟨g1, 0, none⟩ = some (.int .i64 me) := (blk_cell B1.out 0).trans rfl; have xg11 : w2.cell? ⟨g1, 1, none⟩ = some (.int .i64 rev) := (blk_cell B1.out 1).trans rfl; have xg12 : w2.cell? ⟨g1, 2, none⟩ = some (.int .i64 nx) := (blk_cell B1.out 2).trans rfl; have xg13 : w2.cell? ⟨g1, 3, none⟩ = some (.int .i64 mo) := (blk_cell B1.out 3).trans rfl; have xg14 : w2.cell? ⟨g1, 4, none⟩ = some (.int .i64 bo) := (blk_cell B1.out 4).trans rfl; have xg15 : w2.cell? ⟨g1, 5, none⟩ = some (.int .i64 fr) := (blk_cell B1.out 5).trans rfl; have xg16 : w2.cell? ⟨g1, 6, none⟩ = some (.slice A6 l.length c6) := (blk_cell B1.out 6).trans rfl; skip) | (go_at_call 76; refine (account_open.calls k me rev nx mo bo fr A6 c6 l (some ⟨w2.heap.size, 0, none⟩) 1 [⟨10000000, 1⟩] 0 0 0 0 0 _ (by repeat (first | exact (Kd.C_below HR0.out HB.out) | (with_reducible refine Kd.C_alloc ?_ _) | (with_reducible refine Kd.C_drewN ?_ _) | (with_reducible refine Kd.C_drew ?_))) HC0.out (clerk.one (blk_new w2 _)) (by decide) HO.out).mono ?_; rintro e w3 ⟨v0, rfl, hop, hb1⟩; obtain ⟨g3, v1, rfl, hg3, hx3, hr3⟩ := hop rfl; have hg3s : w2.heap.size + 1 ≤ g3 := (by rwa [World.size_alloc] at hg3); clear xg10 xg11 xg12 xg13 xg14 xg15 xg16; clear hop; have hlt : g2 < g3 := Nat.lt_of_lt_of_le (blk_lt B2.out) (Nat.le_of_succ_le hg3s); have B2_ := Aside0.mk (blk_below (blk_alloc B2.out _) hb1); have GL := Aside0.mk hlt; have G3 := Aside0.mk (Nat.le_trans (below_size (by repeat (first | (with_reducible first | exact HB.out | apply below_alloc | apply pw_below_drewN | apply below_drew1) | exact HB.out))) hg3 : w.heap.size ≤ g3); have B3 := Aside0.mk hx3; have R3 := Aside0.mk (Kd.R_lower hr3 (below_size (by repeat (first | (with_reducible first | exact HB.out | apply below_alloc | apply pw_below_drewN | apply below_drew1) | exact HB.out)))); have HB_ := Aside0.mk (below_step (by repeat (first | (with_reducible first | exact HB.out | apply below_alloc | apply pw_below_drewN | apply below_drew1) | exact HB.out)) hb1); clear HB B2; have HB := HB_; have B2 := B2_; clear HB_ B2_; clear hb1 hg3 hg3s hx3 hr3 hlt) | (go_at_call 77; refine (account_roll.calls k g3 me rev nx mo bo fr v1 l (some ⟨w2.heap.size, 0, none⟩) 1 1 0 0 0 0 month l1 mo1 bo1 e1 w _ G3.out (by repeat (first | (with_reducible first | exact HB.out | apply below_alloc | apply pw_below_drewN | apply below_drew1) | exact HB.out)) B3.out R3.out HP.out).mono ?_; rintro e w4 ⟨rfl, ⟨v2, hx4, hr4⟩, hk4, hb4⟩; have B2_ := Aside0.mk (blk_kept B2.out hk4 (Nat.ne_of_lt GL.out)); clear B2; have B2 := B2_; clear B2_; clear HB B3 R3; have HB := Aside0.mk hb4; have xg20 : w4.cell? ⟨g2, 0, none⟩ = some (.int .i64 0) := (blk_cell B2.out 0).trans rfl; have xg21 : w4.cell? ⟨g2, 1, none⟩ = some (.int .i64 0) := (blk_cell B2.out 1).trans rfl; have xg22 : w4.cell? ⟨g2, 2, none⟩ = some (.int .i64 0) := (blk_cell B2.out 2).trans rfl; have xg23 : w4.cell? ⟨g2, 3, none⟩ = some (.int .i64 0) := (blk_cell B2.out 3).trans rfl; have xg24 : w4.cell? ⟨g2, 4, none⟩ = some (.int .i64 0) := (blk_cell B2.out 4).trans rfl; have xg25 : w4.cell? ⟨g2, 5, none⟩ = some (.int .i64 0) := (blk_cell B2.out 5).trans rfl; have xg26 : w4.cell? ⟨g2, 6, none⟩ = some (.slice none 0 0) := (blk_cell B2.out 6).trans rfl; have z0 := blk_frozen B2.out 0; have z1 := blk_frozen B2.out 1; have z2 := blk_frozen B2.out 2; have z3 := blk_frozen B2.out 3; have z4 := blk_frozen B2.out 4; have z5 := blk_frozen B2.out 5; have z6 := blk_frozen B2.out 6; clear hb4 hx4 hr4 hk4))
      refine bodyPost_ret (results_list (rs := [.cell 4 60, .tmp 5]) rfl (by simp) (.cell g2 60 #[.int .i64 0, .int .i64 0, .int .i64 0, .int .i64 0, .int .i64 0, .int .i64 0, .slice none 0 0] (0, 0) _ rfl (clerk.put7 B2.out) Try.underlying60 rfl (by kernel_rfl) (.tmp .nil))) rfl ?_
      exact ⟨_, rfl, Kd.R_nil _ _ _ _ _, clerk.below7 _ _ _ _ _ _ _ HB.out G2.out⟩
  · rw [if_neg h1] at h
    simp only [Option.some.injEq, Prod.mk.injEq] at h
    obtain ⟨rfl, rfl, rfl, rfl, rfl, rfl, rfl, rfl⟩ := h
    have q1 : (e0 == 0) = false := beq_eq_false_iff_ne.mpr h1
    have q2 : (e0 != 0) = true := bne_iff_ne.mpr h1
    clear h1
    go_enter Try.func32, Try.ntmps32
    go_wp2_with (first | ((with_reducible refine gate_dst (N := 2) rfl ?_); refine box_event ?hg (N := 2) ?hd (cs := #[.int .i64 me, .int .i64 rev, .int .i64 nx, .int .i64 mo, .int .i64 bo, .int .i64 fr, .slice A6 l.length c6]) (t := 60) ?hr ?_; (case hd => rfl); (case hg => rfl); (case hr => first | (go_simp; done) | (go_simp; rfl)); intro g1 hgq w1 hbox hb; have HB_ := Aside0.mk (below_step (by repeat (first | (with_reducible first | exact HB.out | apply below_alloc | apply pw_below_drewN | apply below_drew1) | exact HB.out)) hb); have G1 := Aside0.mk (by rw [hgq]; exact below_size (by repeat (first | (with_reducible first | exact HB.out | apply below_alloc | apply pw_below_drewN | apply below_drew1) | exact HB.out)) : w.heap.size ≤ g1); have B1 := Aside0.mk hbox; clear HB ; have HB := HB_; clear HB_; clear hb hbox hgq) | ((with_reducible refine gate_dst (N := 4) rfl ?_); refine box_event ?hg (N := 4) ?hd (cs := #[.int .i64 0, .int .i64 0, .int .i64 0, .int .i64 0, .int .i64 0, .int .i64 0, .slice none 0 0]) (t := 60) ?hr ?_; (case hd => rfl); (case hg => rfl); (case hr => first | (go_simp; done) | (go_simp; rfl)); intro g2 hgq w2 hbox hb; have B1_ := Aside0.mk (blk_below (by (with_reducible repeat (first | refine blk_drewN ?_ _ | refine blk_drew ?_ | refine blk_alloc ?_ _)); exact B1.out) hb); have NB1g2 := Aside0.mk (by rw [hgq]; exact Nat.ne_of_lt (blk_lt (by (with_reducible repeat (first | refine blk_drewN ?_ _ | refine blk_drew ?_ | refine blk_alloc ?_ _)); exact B1.out)) : g1 ≠ g2); have HB_ := Aside0.mk (below_step (by repeat (first | (with_reducible first | exact HB.out | apply below_alloc | apply pw_below_drewN | apply below_drew1) | exact HB.out)) hb); have G2 := Aside0.mk (by rw [hgq]; exact below_size (by repeat (first | (with_reducible first | exact HB.out | apply below_alloc | apply pw_below_drewN | apply below_drew1) | exact HB.out)) : w.heap.size ≤ g2); have B2 := Aside0.mk hbox; clear HB B1; have HB := HB_; clear HB_; have B1 := B1_; clear B1_; clear hb hbox hgq; have xg10 : w2.cell? ⟨g1, 0, none⟩ = some (.int .i64 me) := (blk_cell B1.out 0).trans rfl; have xg11 : w2.cell? ⟨g1, 1, none⟩ = some (.int .i64 rev) := (blk_cell B1.out 1).trans rfl; have xg12 : w2.cell? ⟨g1, 2, none⟩ = some (.int .i64 nx) := (blk_cell B1.out 2).trans rfl; have xg13 : w2.cell? ⟨g1, 3, none⟩ = some (.int .i64 mo) := (blk_cell B1.out 3).trans rfl; have xg14 : w2.cell? ⟨g1, 4, none⟩ = some (.int .i64 bo) := (blk_cell B1.out 4).trans rfl; have xg15 : w2.cell? ⟨g1, 5, none⟩ = some (.int .i64 fr) := (blk_cell B1.out 5).trans rfl; have xg16 : w2.cell? ⟨g1, 6, none⟩ = some (.slice A6 l.length c6) := (blk_cell B1.out 6).trans rfl; skip) | (go_at_call 76; refine (account_open.calls k me rev nx mo bo fr A6 c6 l (some ⟨w2.heap.size, 0, none⟩) 1 [⟨10000000, 1⟩] 0 0 0 0 e0 _ (by repeat (first | exact (Kd.C_below HR0.out HB.out) | (with_reducible refine Kd.C_alloc ?_ _) | (with_reducible refine Kd.C_drewN ?_ _) | (with_reducible refine Kd.C_drew ?_))) HC0.out (clerk.one (blk_new w2 _)) (by decide) HO.out).mono ?_; rintro e w3 ⟨v0, rfl, hop, hb1⟩; clear xg10 xg11 xg12 xg13 xg14 xg15 xg16; clear hop; have B2_ := Aside0.mk (blk_below (blk_alloc B2.out _) hb1); have HB_ := Aside0.mk (below_step (by repeat (first | (with_reducible first | exact HB.out | apply below_alloc | apply pw_below_drewN | apply below_drew1) | exact HB.out)) hb1); clear HB B2; have HB := HB_; have B2 := B2_; clear HB_ B2_; have xg20 : w3.cell? ⟨g2, 0, none⟩ = some (.int .i64 0) := (blk_cell B2.out 0).trans rfl; have xg21 : w3.cell? ⟨g2, 1, none⟩ = some (.int .i64 0) := (blk_cell B2.out 1).trans rfl; have xg22 : w3.cell? ⟨g2, 2, none⟩ = some (.int .i64 0) := (blk_cell B2.out 2).trans rfl; have xg23 : w3.cell? ⟨g2, 3, none⟩ = some (.int .i64 0) := (blk_cell B2.out 3).trans rfl; have xg24 : w3.cell? ⟨g2, 4, none⟩ = some (.int .i64 0) := (blk_cell B2.out 4).trans rfl; have xg25 : w3.cell? ⟨g2, 5, none⟩ = some (.int .i64 0) := (blk_cell B2.out 5).trans rfl; have xg26 : w3.cell? ⟨g2, 6, none⟩ = some (.slice none 0 0) := (blk_cell B2.out 6).trans rfl; have z0 := blk_frozen B2.out 0; have z1 := blk_frozen B2.out 1; have z2 := blk_frozen B2.out 2; have z3 := blk_frozen B2.out 3; have z4 := blk_frozen B2.out 4; have z5 := blk_frozen B2.out 5; have z6 := blk_frozen B2.out 6; clear hb1))
    refine bodyPost_ret (results_list (rs := [.cell 4 60, .tmp 5]) rfl (by simp) (.cell g2 60 #[.int .i64 0, .int .i64 0, .int .i64 0, .int .i64 0, .int .i64 0, .int .i64 0, .slice none 0 0] (0, 0) _ rfl (clerk.put7 B2.out) Try.underlying60 rfl (by kernel_rfl) (.tmp .nil))) rfl ?_
    exact ⟨_, rfl, Kd.R_nil _ _ _ _ _, clerk.below7 _ _ _ _ _ _ _ HB.out G2.out⟩

/-! ### vendmeterref_In: function 54 -/
def vendmeterref_In.f (a0 : Int) (a1 : Int) (a2 : Int) : Option (Bool) := if a0 ≥ a1 then (some (decide (a0 ≤ a2))) else (some false)
set_option maxHeartbeats 8000000 in
set_option maxRecDepth 100000 in
theorem vendmeterref_In.calls (a0 : Int) (a1 : Int) (a2 : Int) (r : Bool) (w : World) (h : vendmeterref_In.f a0 a1 a2 = some r) :
    Calls Try.prog 54 #[.int .i64 a0, .int .i64 a1, .int .i64 a2] w fun e w' => e = .returned (.bool r) ∧ Drawn0 w w' := by
  have H : (if a0 ≥ a1 then (some (decide (a0 ≤ a2))) else (some false)) = some r := h
  clear h
  by_cases c4 : a0 ≥ a1
  · rw [if_pos c4] at H
    have c4b0 : decide (a1 ≤ a0) = true := decide_eq_true c4
    clear c4
    obtain rfl := Option.some.inj H
    go_enter Try.func54, Try.ntmps54
    go_wp2
    go_ret
    exact ⟨by first | rfl | (simp; done) | (simp [*]; done), by repeat (first | exact Drawn0.refl _ | apply Drawn0.step)⟩
  · rw [if_neg c4] at H
    have c4b0 : decide (a1 ≤ a0) = false := decide_eq_false c4
    clear c4
    obtain rfl := Option.some.inj H
    go_enter Try.func54, Try.ntmps54
    go_wp2
    go_ret
    exact ⟨by first | rfl | (simp; done) | (simp [*]; done), by repeat (first | exact Drawn0.refl _ | apply Drawn0.step)⟩

end Go.Proofs.Ythmmadniaakapaa.PAccountRolls
