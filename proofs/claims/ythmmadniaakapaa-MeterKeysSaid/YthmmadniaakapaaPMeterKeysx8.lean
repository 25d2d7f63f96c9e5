-- written by this session's program wip/xp/xprint.py (it drives the kit's print and adds to it)
import Derived.Test.YthmmadniaakapaaPMeterKeysx0
import Derived.Test.YthmmadniaakapaaPMeterKeysx7
namespace Go.Proofs.Ythmmadniaakapaa.PMeterKeys
open Go.RowKit Go.Proofs.YthmmadniaakapaaW.PrintWords Go.Proofs.YthmmadniaakapaaW.PrintLast Go.Proofs.YthmmadniaakapaaW.PrintMore
attribute [local go_sem] max2_int min2_int max_two min_two max_three min_three max_four min_four   -- for this text's walks alone
set_option linter.unusedVariables false
set_option linter.unusedSimpArgs false

/-! ### vendmeterref_PairMay: function 116 -/
def vendmeterref_PairMay.f (a0_0 : Int) (a0_1 : Int) (a0_2 : Int) (a0_3 : Int) : Option (Bool) := (vendmeterref_In.f a0_0 0 49).bind fun t165 => (if t165 = true then ((vendmeterref_In.f a0_1 0 15).bind fun t166 => (if t166 = true then ((vendmeterref_In.f a0_2 0 8796093022207).bind fun t167 => (if t167 = true then ((vendmeterref_In.f a0_3 0 65535).bind fun t168 => (some t168)) else (some false))) else (some false))) else (some false))
set_option maxHeartbeats 8000000 in
set_option maxRecDepth 100000 in
theorem vendmeterref_PairMay.calls (a0_0 : Int) (a0_1 : Int) (a0_2 : Int) (a0_3 : Int) (r : Bool) (w : World) (h : vendmeterref_PairMay.f a0_0 a0_1 a0_2 a0_3 = some r) :
    Calls Try.prog 116 #[.agg #[.int .i64 a0_0, .int .i64 a0_1, .int .i64 a0_2, .int .i64 a0_3]] w fun e w' => e = .returned (.bool r) ∧ Below w.heap.size w w' := by
  have hu118 := Try.underlying118
  have HB := Aside0.mk (Below.refl w.heap.size w)
  have H : ((vendmeterref_In.f a0_0 0 49).bind fun t165 => (if t165 = true then ((vendmeterref_In.f a0_1 0 15).bind fun t166 => (if t166 = true then ((vendmeterref_In.f a0_2 0 8796093022207).bind fun t167 => (if t167 = true then ((vendmeterref_In.f a0_3 0 65535).bind fun t168 => (some t168)) else (some false))) else (some false))) else (some false))) = some r := h
  clear h
  replace H := Option.bind_eq_some_iff.mp H
  obtain ⟨t165, A20, H⟩ := H
  replace H : (if t165 = true then ((vendmeterref_In.f a0_1 0 15).bind fun t166 => (if t166 = true then ((vendmeterref_In.f a0_2 0 8796093022207).bind fun t167 => (if t167 = true then ((vendmeterref_In.f a0_3 0 65535).bind fun t168 => (some t168)) else (some false))) else (some false))) else (some false)) = some r := H
  have A2 := Aside0.mk A20
  clear A20
  by_cases c3 : t165 = true
  · subst c3
    have H1 : ((vendmeterref_In.f a0_1 0 15).bind fun t166 => (if t166 = true then ((vendmeterref_In.f a0_2 0 8796093022207).bind fun t167 => (if t167 = true then ((vendmeterref_In.f a0_3 0 65535).bind fun t168 => (some t168)) else (some false))) else (some false))) = some r := by rw [if_pos rfl] at H; exact H
    clear H
    have H := H1
    clear H1
    replace H := Option.bind_eq_some_iff.mp H
    obtain ⟨t166, A40, H⟩ := H
    replace H : (if t166 = true then ((vendmeterref_In.f a0_2 0 8796093022207).bind fun t167 => (if t167 = true then ((vendmeterref_In.f a0_3 0 65535).bind fun t168 => (some t168)) else (some false))) else (some false)) = some r := H
    have A4 := Aside0.mk A40
    clear A40
    by_cases c5 : t166 = true
    · subst c5
      have H1 : ((vendmeterref_In.f a0_2 0 8796093022207).bind fun t167 => (if t167 = true then ((vendmeterref_In.f a0_3 0 65535).bind fun t168 => (some t168)) else (some false))) = some r := by rw [if_pos rfl] at H; exact H
      clear H
      have H := H1
      clear H1
      replace H := Option.bind_eq_some_iff.mp H
      obtain ⟨t167, A60, H⟩ := H
      replace H : (if t167 = true then ((vendmeterref_In.f a0_3 0 65535).bind fun t168 => (some t168)) else (some false)) = some r := H
      have A6 := Aside0.mk A60
      clear A60
      by_cases c7 : t167 = true
      · subst c7
        have H1 : ((vendmeterref_In.f a0_3 0 65535).bind fun t168 => (some t168)) = some r := by rw [if_pos rfl] at H; exact H
        clear H
        have H := H1
        clear H1
        replace H := Option.bind_eq_some_iff.mp H
        obtain ⟨t168, A80, H⟩ := H
        replace H : (some t168) = some r := H
        have A8 := Aside0.mk A80
        clear A80
        obtain rfl := Option.some.inj H
        go_enter Try.func116, Try.ntmps116
        go_wp2_with (first | ((with_reducible refine gate_dst (N := 1) rfl ?_); refine box_event ?hg (N := 1) ?hd (cs := #[.int .i64 a0_0, .int .i64 a0_1, .int .i64 a0_2, .int .i64 a0_3]) (t := 118) ?hr ?_; (case hd => rfl); (case hg => rfl); (case hr => first | (go_simp; done) | (go_simp; rfl)); intro gb164 hg w9 hbox hb; have n0_ := Aside0.mk (below_step (by repeat (first | (with_reducible first | exact HB.out | apply below_alloc | apply pw_below_drewN | apply below_drew1) | exact HB.out)) hb); have n1_ := Aside0.mk (hbox); have n2_ := Aside0.mk ((by rw [hg]; exact (below_size (by repeat (first | (with_reducible first | exact HB.out | apply below_alloc | apply pw_below_drewN | apply below_drew1) | exact HB.out))) : w.heap.size ≤ gb164)); have n3_ := Aside0.mk ((by rw [hg]; exact (below_size (by repeat (first | (with_reducible first | exact HB.out | apply below_alloc | apply pw_below_drewN | apply below_drew1) | exact HB.out))) : w.heap.size ≤ gb164)); clear HB; have HB := n0_; have BK164 := n1_; have GW164 := n2_; have GE164 := n3_; clear n0_ n1_ n2_ n3_; clear hb hbox hg; have hcz10_0 : w9.cell? ⟨gb164, 0, none⟩ = some (.int .i64 a0_0) := (blk_cell BK164.out 0).trans rfl; have hcz10_1 : w9.cell? ⟨gb164, 1, none⟩ = some (.int .i64 a0_1) := (blk_cell BK164.out 1).trans rfl; have hcz10_2 : w9.cell? ⟨gb164, 2, none⟩ = some (.int .i64 a0_2) := (blk_cell BK164.out 2).trans rfl; have hcz10_3 : w9.cell? ⟨gb164, 3, none⟩ = some (.int .i64 a0_3) := (blk_cell BK164.out 3).trans rfl; have hfz10_0 := blk_frozen BK164.out 0; have hfz10_1 := blk_frozen BK164.out 1; have hfz10_2 := blk_frozen BK164.out 2; have hfz10_3 := blk_frozen BK164.out 3) | ((with_reducible refine gate_callee (f := 54) rfl ?_); refine goesL_ (some 5) rfl rfl Try.func54 (by kernel_rfl) rfl #[.int .i64 a0_0, .int .i64 0, .int .i64 49] rfl (by (try simp only [List.map_toArray, List.map_cons, List.map_nil]); first | done | rfl | (simp only [List.length_drop, List.length_take]; rfl)) ?_; (with_reducible refine (vendmeterref_In.calls a0_0 0 49 true _ A2.out).mono ?_); rintro e w' ⟨rfl, ⟨nd, rfl⟩⟩; refine ⟨_, rfl, ?_⟩) | (go_at_call 54; (with_reducible refine (vendmeterref_In.calls a0_1 0 15 true _ A4.out).mono ?_); rintro e w' ⟨rfl, ⟨nd, rfl⟩⟩) | (go_at_call 54; (with_reducible refine (vendmeterref_In.calls a0_2 0 8796093022207 true _ A6.out).mono ?_); rintro e w' ⟨rfl, ⟨nd, rfl⟩⟩) | (go_at_call 54; (with_reducible refine (vendmeterref_In.calls a0_3 0 65535 t168 _ A8.out).mono ?_); rintro e w' ⟨rfl, ⟨nd, rfl⟩⟩))
        go_ret
        exact ⟨by first | rfl | (simp [errW_none, errW_some] <;> rfl) | (simp [*, errW_none, errW_some] <;> rfl), by repeat (first | (with_reducible first | exact HB.out | apply below_alloc | apply pw_below_drewN | apply below_drew1 | refine below_set ?_ GE164.out) | exact HB.out)⟩
      · replace c7 := Bool.eq_false_iff.mpr c7
        subst c7
        have H1 : (some false) = some r := by rw [if_neg (show ¬ (false = true) by decide)] at H; exact H
        clear H
        have H := H1
        clear H1
        obtain rfl := Option.some.inj H
        go_enter Try.func116, Try.ntmps116
        go_wp2_with (first | ((with_reducible refine gate_dst (N := 1) rfl ?_); refine box_event ?hg (N := 1) ?hd (cs := #[.int .i64 a0_0, .int .i64 a0_1, .int .i64 a0_2, .int .i64 a0_3]) (t := 118) ?hr ?_; (case hd => rfl); (case hg => rfl); (case hr => first | (go_simp; done) | (go_simp; rfl)); intro gb164 hg w11 hbox hb; have n0_ := Aside0.mk (below_step (by repeat (first | (with_reducible first | exact HB.out | apply below_alloc | apply pw_below_drewN | apply below_drew1) | exact HB.out)) hb); have n1_ := Aside0.mk (hbox); have n2_ := Aside0.mk ((by rw [hg]; exact (below_size (by repeat (first | (with_reducible first | exact HB.out | apply below_alloc | apply pw_below_drewN | apply below_drew1) | exact HB.out))) : w.heap.size ≤ gb164)); have n3_ := Aside0.mk ((by rw [hg]; exact (below_size (by repeat (first | (with_reducible first | exact HB.out | apply below_alloc | apply pw_below_drewN | apply below_drew1) | exact HB.out))) : w.heap.size ≤ gb164)); clear HB; have HB := n0_; have BK164 := n1_; have GW164 := n2_; have GE164 := n3_; clear n0_ n1_ n2_ n3_; clear hb hbox hg; have hcz12_0 : w11.cell? ⟨gb164, 0, none⟩ = some (.int .i64 a0_0) := (blk_cell BK164.out 0).trans rfl; have hcz12_1 : w11.cell? ⟨gb164, 1, none⟩ = some (.int .i64 a0_1) := (blk_cell BK164.out 1).trans rfl; have hcz12_2 : w11.cell? ⟨gb164, 2, none⟩ = some (.int .i64 a0_2) := (blk_cell BK164.out 2).trans rfl; have hcz12_3 : w11.cell? ⟨gb164, 3, none⟩ = some (.int .i64 a0_3) := (blk_cell BK164.out 3).trans rfl; have hfz12_0 := blk_frozen BK164.out 0; have hfz12_1 := blk_frozen BK164.out 1; have hfz12_2 := blk_frozen BK164.out 2; have hfz12_3 := blk_frozen BK164.out 3) | ((with_reducible refine gate_callee (f := 54) rfl ?_); refine goesL_ (some 5) rfl rfl Try.func54 (by kernel_rfl) rfl #[.int .i64 a0_0, .int .i64 0, .int .i64 49] rfl (by (try simp only [List.map_toArray, List.map_cons, List.map_nil]); first | done | rfl | (simp only [List.length_drop, List.length_take]; rfl)) ?_; (with_reducible refine (vendmeterref_In.calls a0_0 0 49 true _ A2.out).mono ?_); rintro e w' ⟨rfl, ⟨nd, rfl⟩⟩; refine ⟨_, rfl, ?_⟩) | (go_at_call 54; (with_reducible refine (vendmeterref_In.calls a0_1 0 15 true _ A4.out).mono ?_); rintro e w' ⟨rfl, ⟨nd, rfl⟩⟩) | (go_at_call 54; (with_reducible refine (vendmeterref_In.calls a0_2 0 8796093022207 false _ A6.out).mono ?_); rintro e w' ⟨rfl, ⟨nd, rfl⟩⟩))
        go_ret
        exact ⟨by first | rfl | (simp [errW_none, errW_some] <;> rfl) | (simp [*, errW_none, errW_some] <;> rfl), by repeat (first | (with_reducible first | exact HB.out | apply below_alloc | apply pw_below_drewN | apply below_drew1 | refine below_set ?_ GE164.out) | exact HB.out)⟩
    · replace c5 := Bool.eq_false_iff.mpr c5
      subst c5
      have H1 : (some false) = some r := by rw [if_neg (show ¬ (false = true) by decide)] at H; exact H
      clear H
      have H := H1
      clear H1
      obtain rfl := Option.some.inj H
      go_enter Try.func116, Try.ntmps116
      go_wp2_with (first | ((with_reducible refine gate_dst (N := 1) rfl ?_); refine box_event ?hg (N := 1) ?hd (cs := #[.int .i64 a0_0, .int .i64 a0_1, .int .i64 a0_2, .int .i64 a0_3]) (t := 118) ?hr ?_; (case hd => rfl); (case hg => rfl); (case hr => first | (go_simp; done) | (go_simp; rfl)); intro gb164 hg w13 hbox hb; have n0_ := Aside0.mk (below_step (by repeat (first | (with_reducible first | exact HB.out | apply below_alloc | apply pw_below_drewN | apply below_drew1) | exact HB.out)) hb); have n1_ := Aside0.mk (hbox); have n2_ := Aside0.mk ((by rw [hg]; exact (below_size (by repeat (first | (with_reducible first | exact HB.out | apply below_alloc | apply pw_below_drewN | apply below_drew1) | exact HB.out))) : w.heap.size ≤ gb164)); have n3_ := Aside0.mk ((by rw [hg]; exact (below_size (by repeat (first | (with_reducible first | exact HB.out | apply below_alloc | apply pw_below_drewN | apply below_drew1) | exact HB.out))) : w.heap.size ≤ gb164)); clear HB; have HB := n0_; have BK164 := n1_; have GW164 := n2_; have GE164 := n3_; clear n0_ n1_ n2_ n3_; clear hb hbox hg; have hcz14_0 : w13.cell? ⟨gb164, 0, none⟩ = some (.int .i64 a0_0) := (blk_cell BK164.out 0).trans rfl; have hcz14_1 : w13.cell? ⟨gb164, 1, none⟩ = some (.int .i64 a0_1) := (blk_cell BK164.out 1).trans rfl; have hcz14_2 : w13.cell? ⟨gb164, 2, none⟩ = some (.int .i64 a0_2) := (blk_cell BK164.out 2).trans rfl; have hcz14_3 : w13.cell? ⟨gb164, 3, none⟩ = some (.int .i64 a0_3) := (blk_cell BK164.out 3).trans rfl; have hfz14_0 := blk_frozen BK164.out 0; have hfz14_1 := blk_frozen BK164.out 1; have hfz14_2 := blk_frozen BK164.out 2; have hfz14_3 := blk_frozen BK164.out 3) | ((with_reducible refine gate_callee (f := 54) rfl ?_); refine goesL_ (some 5) rfl rfl Try.func54 (by kernel_rfl) rfl #[.int .i64 a0_0, .int .i64 0, .int .i64 49] rfl (by (try simp only [List.map_toArray, List.map_cons, List.map_nil]); first | done | rfl | (simp only [List.length_drop, List.length_take]; rfl)) ?_; (with_reducible refine (vendmeterref_In.calls a0_0 0 49 true _ A2.out).mono ?_); rintro e w' ⟨rfl, ⟨nd, rfl⟩⟩; refine ⟨_, rfl, ?_⟩) | (go_at_call 54; (with_reducible refine (vendmeterref_In.calls a0_1 0 15 false _ A4.out).mono ?_); rintro e w' ⟨rfl, ⟨nd, rfl⟩⟩))
      go_ret
      exact ⟨by first | rfl | (simp [errW_none, errW_some] <;> rfl) | (simp [*, errW_none, errW_some] <;> rfl), by repeat (first | (with_reducible first | exact HB.out | apply below_alloc | apply pw_below_drewN | apply below_drew1 | refine below_set ?_ GE164.out) | exact HB.out)⟩
  · replace c3 := Bool.eq_false_iff.mpr c3
    subst c3
    have H1 : (some false) = some r := by rw [if_neg (show ¬ (false = true) by decide)] at H; exact H
    clear H
    have H := H1
    clear H1
    obtain rfl := Option.some.inj H
    go_enter Try.func116, Try.ntmps116
    go_wp2_with (first | ((with_reducible refine gate_dst (N := 1) rfl ?_); refine box_event ?hg (N := 1) ?hd (cs := #[.int .i64 a0_0, .int .i64 a0_1, .int .i64 a0_2, .int .i64 a0_3]) (t := 118) ?hr ?_; (case hd => rfl); (case hg => rfl); (case hr => first | (go_simp; done) | (go_simp; rfl)); intro gb164 hg w15 hbox hb; have n0_ := Aside0.mk (below_step (by repeat (first | (with_reducible first | exact HB.out | apply below_alloc | apply pw_below_drewN | apply below_drew1) | exact HB.out)) hb); have n1_ := Aside0.mk (hbox); have n2_ := Aside0.mk ((by rw [hg]; exact (below_size (by repeat (first | (with_reducible first | exact HB.out | apply below_alloc | apply pw_below_drewN | apply below_drew1) | exact HB.out))) : w.heap.size ≤ gb164)); have n3_ := Aside0.mk ((by rw [hg]; exact (below_size (by repeat (first | (with_reducible first | exact HB.out | apply below_alloc | apply pw_below_drewN | apply below_drew1) | exact HB.out))) : w.heap.size ≤ gb164)); clear HB; have HB := n0_; have BK164 := n1_; have GW164 := n2_; have GE164 := n3_; clear n0_ n1_ n2_ n3_; clear hb hbox hg; have hcz16_0 : w15.cell? ⟨gb164, 0, none⟩ = some (.int .i64 a0_0) := (blk_cell BK164.out 0).trans rfl; have hcz16_1 : w15.cell? ⟨gb164, 1, none⟩ = some (.int .i64 a0_1) := (blk_cell BK164.out 1).trans rfl; have hcz16_2 : w15.cell? ⟨gb164, 2, none⟩ = some (.int .i64 a0_2) := (blk_cell BK164.out 2).trans rfl; have hcz16_3 : w15.cell? ⟨gb164, 3, none⟩ = some (.int .i64 a0_3) := (blk_cell BK164.out 3).trans rfl; have hfz16_0 := blk_frozen BK164.out 0; have hfz16_1 := blk_frozen BK164.out 1; have hfz16_2 := blk_frozen BK164.out 2; have hfz16_3 := blk_frozen BK164.out 3) | ((with_reducible refine gate_callee (f := 54) rfl ?_); refine goesL_ (some 5) rfl rfl Try.func54 (by kernel_rfl) rfl #[.int .i64 a0_0, .int .i64 0, .int .i64 49] rfl (by (try simp only [List.map_toArray, List.map_cons, List.map_nil]); first | done | rfl | (simp only [List.length_drop, List.length_take]; rfl)) ?_; (with_reducible refine (vendmeterref_In.calls a0_0 0 49 false _ A2.out).mono ?_); rintro e w' ⟨rfl, ⟨nd, rfl⟩⟩; refine ⟨_, rfl, ?_⟩))
    go_ret
    exact ⟨by first | rfl | (simp [errW_none, errW_some] <;> rfl) | (simp [*, errW_none, errW_some] <;> rfl), by repeat (first | (with_reducible first | exact HB.out | apply below_alloc | apply pw_below_drewN | apply below_drew1 | refine below_set ?_ GE164.out) | exact HB.out)⟩

/-! ### vendmeterref_tagged: function 117 -/
theorem xa117 {w : World} {g : Nat} {o : Obj} (h : w.heap[g]? = some o) (o' : Obj) : (w.alloc o').heap[g]? = some o := blk_alloc h o'
theorem xd117 {w : World} {g : Nat} {o : Obj} (h : w.heap[g]? = some o) : w.drew.heap[g]? = some o := blk_drew h
theorem xn117 {w : World} {g : Nat} {o : Obj} (h : w.heap[g]? = some o) (n : Nat) : (w.drewN n).heap[g]? = some o := blk_drewN h n
def vendmeterref_tagged.l0 : Nat → Int → Int → Int → Int → List (S118) → Option (Int)
  | 0, _, _, _, _, _ => none
  | k + 1, x1, x2, x3, x9, x170000 => if x9 < (x170000.length : Int) then (if 0 ≤ x9 then (if ((rd_T118 x170000 x9).f0) = x1 then (if ((rd_T118 x170000 x9).f1) = x2 then (if ((rd_T118 x170000 x9).f2) = x3 then (some x9) else (vendmeterref_tagged.l0 k x1 x2 x3 (wrap64 (x9 + 1)) x170000)) else (vendmeterref_tagged.l0 k x1 x2 x3 (wrap64 (x9 + 1)) x170000)) else (vendmeterref_tagged.l0 k x1 x2 x3 (wrap64 (x9 + 1)) x170000)) else (none)) else (some (-1))
def vendmeterref_tagged.f (k : Nat) (l0_0 : List (S118)) (a1 : Int) (a2 : Int) (a3 : Int) : Option (Int) := vendmeterref_tagged.l0 k a1 a2 a3 0 l0_0
theorem vendmeterref_tagged.mono_l : ∀ k, (∀ y0 y1 y2 y3 y4, LeO (vendmeterref_tagged.l0 k y0 y1 y2 y3 y4) (vendmeterref_tagged.l0 (k + 1) y0 y1 y2 y3 y4))
  | 0 => fun _ _ _ _ _ r h => by simp [vendmeterref_tagged.l0] at h
  | k + 1 => by
    have ih0 := vendmeterref_tagged.mono_l k
    · intro y0 y1 y2 y3 y4
      unfold vendmeterref_tagged.l0
      repeat' first
      | (with_reducible exact ih0 _ _ _ _ _)
      | (with_reducible exact LeO.refl _)
      | (with_reducible exact LeO.none _)
      | (with_reducible refine LeO.ite ?_ ?_)
      | (with_reducible refine LeO.bind ?_ (fun _ => ?_))
      | exact ih0 _ _ _ _ _
      | exact LeO.none _
      | refine LeO.ite ?_ ?_
      | refine LeO.bind ?_ (fun _ => ?_)
theorem vendmeterref_tagged.mono : ∀ a0 a1 a2 a3 k, LeO (vendmeterref_tagged.f k a0 a1 a2 a3) (vendmeterref_tagged.f (k + 1) a0 a1 a2 a3) := by
  intro a0 a1 a2 a3 k
  have ih0 := vendmeterref_tagged.mono_l k
  unfold vendmeterref_tagged.f
  repeat' first
      | (with_reducible exact ih0 _ _ _ _ _)
      | (with_reducible exact LeO.refl _)
      | (with_reducible exact LeO.none _)
      | (with_reducible refine LeO.ite ?_ ?_)
      | (with_reducible refine LeO.bind ?_ (fun _ => ?_))
      | exact ih0 _ _ _ _ _
      | exact LeO.none _
      | refine LeO.ite ?_ ?_
      | refine LeO.bind ?_ (fun _ => ?_)
set_option maxHeartbeats 8000000 in
set_option maxRecDepth 100000 in
theorem vendmeterref_tagged.calls (k : Nat) (A0_0 : Option Addr) (c0_0 : Nat) (l0_0 : List (S118)) (a1 : Int) (a2 : Int) (a3 : Int) (r : Int) (w : World) (hr0_0 : Kd.C k118 w A0_0 l0_0.length l0_0) (hc0_0 : l0_0.length ≤ c0_0) (h : vendmeterref_tagged.f k l0_0 a1 a2 a3 = some r) :
    Calls Try.prog 117 #[.agg #[.slice A0_0 l0_0.length c0_0], .int .i64 a1, .int .i64 a2, .int .i64 a3] w fun e w' => e = .returned (.int .i64 r) ∧ Below w.heap.size w w' := by
  have hu43 := Try.underlying43
  have hu118 := Try.underlying118
  have HR0_0 := Aside0.mk hr0_0
  have HC0_0 := Aside0.mk hc0_0
  clear hr0_0 hc0_0
  have HB := Aside0.mk (Below.refl w.heap.size w)
  have H : (vendmeterref_tagged.l0 k a1 a2 a3 0 l0_0) = some r := h
  clear h
  have H' := Aside0.mk H
  clear H
  go_enter Try.func117, Try.ntmps117
  go_wp2_with (first | ((with_reducible refine gate_dst (N := 4) rfl ?_); refine box_event ?hg (N := 4) ?hd (cs := #[.slice A0_0 l0_0.length c0_0]) (t := 43) ?hr ?_; (case hd => rfl); (case hg => rfl); (case hr => first | (go_simp; done) | (go_simp; rfl)); intro gb169 hg w5 hbox hb; have n0_ := Aside0.mk (below_step (by repeat (first | (with_reducible first | exact HB.1 | apply below_alloc | apply pw_below_drewN | apply below_drew1) | exact HB.1)) hb); have n1_ := Aside0.mk (hbox); have n2_ := Aside0.mk ((by rw [hg]; exact (below_size (by repeat (first | (with_reducible first | exact HB.1 | apply below_alloc | apply pw_below_drewN | apply below_drew1) | exact HB.1))) : w.heap.size ≤ gb169)); have n3_ := Aside0.mk ((by rw [hg]; exact (below_size (by repeat (first | (with_reducible first | exact HB.1 | apply below_alloc | apply pw_below_drewN | apply below_drew1) | exact HB.1))) : w.heap.size ≤ gb169)); clear HB; have HB := n0_; have BK169 := n1_; have GW169 := n2_; have GE169 := n3_; clear n0_ n1_ n2_ n3_; clear hb hbox hg))
  go_loopg [9] k (fun kq v9 w' => ∃ (x9_1 : Int), v9 = .int .i64 x9_1 ∧ Aside0 (vendmeterref_tagged.l0 kq a1 a2 a3 x9_1 l0_0 = some r) ∧ Aside0 (kq ≤ k) ∧ Aside0 (w'.heap[gb169]? = some (.cells #[(.slice A0_0 l0_0.length c0_0)] 43 (0, 0))) ∧ Aside0 (Below w.heap.size w w'))
  case atStart => exact ⟨(0), (by first | rfl | (simp; done) | (simp [*]; done)), H', ⟨Nat.le_refl _⟩, ⟨by (with_reducible repeat (first | apply xn117 | apply xd117 | apply xa117)); exact BK169.1⟩, ⟨by repeat (first | (with_reducible first | exact HB.1 | apply below_alloc | apply pw_below_drewN | apply below_drew1 | refine below_set ?_ GE169.1) | exact HB.1)⟩⟩
  case round =>
    clear H'
    try clear c1
    try clear p2
    obtain ⟨x9_1, rfl, HA, HK1, BK169, HB⟩ := hrel
    cases gk with
    | zero => exact absurd HA.out (by simp [vendmeterref_tagged.l0])
    | succ k1 =>
      have H := HA.out
      clear HA
      simp only [vendmeterref_tagged.l0] at H
      by_cases c6 : x9_1 < (l0_0.length : Int)
      · rw [if_pos c6] at H
        have c6b0 : decide (x9_1 < (l0_0.length : Int)) = true := decide_eq_true c6
        clear c6
        by_cases c7 : 0 ≤ x9_1
        · rw [if_pos c7] at H
          have c7b0 : decide (0 ≤ x9_1) = true := decide_eq_true c7
          clear c7
          by_cases c8 : ((rd_T118 l0_0 x9_1).f0) = a1
          · rw [if_pos c8] at H
            have c8b0 : (((rd_T118 l0_0 x9_1).f0) == a1) = true := beq_iff_eq.mpr c8
            have c8b1 : (((rd_T118 l0_0 x9_1).f0) != a1) = false := bne_eq_false_iff_eq.mpr c8
            clear c8
            by_cases c9 : ((rd_T118 l0_0 x9_1).f1) = a2
            · rw [if_pos c9] at H
              have c9b0 : (((rd_T118 l0_0 x9_1).f1) == a2) = true := beq_iff_eq.mpr c9
              have c9b1 : (((rd_T118 l0_0 x9_1).f1) != a2) = false := bne_eq_false_iff_eq.mpr c9
              clear c9
              by_cases c10 : ((rd_T118 l0_0 x9_1).f2) = a3
              · rw [if_pos c10] at H
                have c10b0 : (((rd_T118 l0_0 x9_1).f2) == a3) = true := beq_iff_eq.mpr c10
                have c10b1 : (((rd_T118 l0_0 x9_1).f2) != a3) = false := bne_eq_false_iff_eq.mpr c10
                clear c10
                obtain rfl := Option.some.inj H
                have hcz11_0 : wr.cell? ⟨gb169, 0, none⟩ = some (.slice A0_0 l0_0.length c0_0) := (blk_cell BK169.1 0).trans rfl
                have hfz11_0 := blk_frozen BK169.1 0
                have p170 : 0 ≤ (x9_1 : Int) := of_decide_eq_true (by first | (with_reducible assumption) | assumption)
                have q170 : x9_1 < (l0_0.length : Int) := of_decide_eq_true (by first | (with_reducible assumption) | assumption)
                obtain ⟨ad170, e170, hx170_0, hx170_1, hx170_2, hx170_3⟩ := at_T118 HR0_0.out x9_1 p170 q170
                cases e170
                replace hx170_0 := (HB.1.cell (World.block_lt_of_cell? w _ hx170_0)).trans hx170_0
                replace hx170_1 := (HB.1.cell (World.block_lt_of_cell? w _ hx170_1)).trans hx170_1
                replace hx170_2 := (HB.1.cell (World.block_lt_of_cell? w _ hx170_2)).trans hx170_2
                replace hx170_3 := (HB.1.cell (World.block_lt_of_cell? w _ hx170_3)).trans hx170_3
                replace p170 := eq_true p170
                replace q170 := eq_true q170
                go_wp2_with (first | ((with_reducible refine gate_dst (N := 10) rfl ?_); refine box_event ?hg (N := 10) ?hd (cs := #[.int .i64 0, .int .i64 0, .int .i64 0, .int .i64 0]) (t := 118) ?hr ?_; (case hd => rfl); (case hg => rfl); (case hr => first | (go_simp; done) | (go_simp; rfl)); intro gb171 hg w12 hbox hb; have n0_ := Aside0.mk (blk_below (g := gb169) (o := .cells #[.slice (some ad170) l0_0.length c0_0] 43 (0, 0)) (by (with_reducible repeat (first | apply xn117 | apply xd117 | apply xa117)); exact BK169.1) hb); have n1_ := Aside0.mk (below_step (by repeat (first | (with_reducible first | exact HB.1 | apply below_alloc | apply pw_below_drewN | apply below_drew1 | refine below_set ?_ GE169.1) | exact HB.1)) hb); have n2_ := Aside0.mk (hbox); have n3_ := Aside0.mk ((by rw [hg]; exact (below_size (by repeat (first | (with_reducible first | exact HB.1 | apply below_alloc | apply pw_below_drewN | apply below_drew1 | refine below_set ?_ GE169.1) | exact HB.1))) : w.heap.size ≤ gb171)); have n4_ := Aside0.mk ((by rw [hg]; exact (below_size (by repeat (first | (with_reducible first | exact HB.1 | apply below_alloc | apply pw_below_drewN | apply below_drew1 | refine below_set ?_ GE169.1) | exact HB.1))) : w.heap.size ≤ gb171)); have n5_ := Aside0.mk ((by rw [hg]; exact Nat.ne_of_lt (blk_lt (g := gb169) (o := .cells #[.slice (some ad170) l0_0.length c0_0] 43 (0, 0)) (by (with_reducible repeat (first | apply xn117 | apply xd117 | apply xa117)); exact BK169.1)) : gb169 ≠ gb171)); have n6_ := Aside0.mk ((by rw [hg]; exact Nat.ne_of_gt (blk_lt (g := gb169) (o := .cells #[.slice (some ad170) l0_0.length c0_0] 43 (0, 0)) (by (with_reducible repeat (first | apply xn117 | apply xd117 | apply xa117)); exact BK169.1)) : gb171 ≠ gb169)); clear BK169; clear HB; have BK169 := n0_; have HB := n1_; have BK171 := n2_; have GW171 := n3_; have GE171 := n4_; have NB169_171 := n5_; have NB171_169 := n6_; clear n0_ n1_ n2_ n3_ n4_ n5_ n6_; clear hb hbox hg; have hnb13 := NB171_169.1; have hnc13 := NB169_171.1; have hcz14_0 : w12.cell? ⟨gb171, 0, none⟩ = some (.int .i64 0) := (blk_cell BK171.1 0).trans rfl; have hcz14_1 : w12.cell? ⟨gb171, 1, none⟩ = some (.int .i64 0) := (blk_cell BK171.1 1).trans rfl; have hcz14_2 : w12.cell? ⟨gb171, 2, none⟩ = some (.int .i64 0) := (blk_cell BK171.1 2).trans rfl; have hcz14_3 : w12.cell? ⟨gb171, 3, none⟩ = some (.int .i64 0) := (blk_cell BK171.1 3).trans rfl; have hfz14_0 := blk_frozen BK171.1 0; have hfz14_1 := blk_frozen BK171.1 1; have hfz14_2 := blk_frozen BK171.1 2; have hfz14_3 := blk_frozen BK171.1 3))
                go_ret
                exact ⟨by first | rfl | (simp [errW_none, errW_some] <;> rfl) | (simp [*, errW_none, errW_some] <;> rfl), by repeat (first | (with_reducible first | exact HB.1 | apply below_alloc | apply pw_below_drewN | apply below_drew1 | refine below_set ?_ GE169.1 | refine below_set ?_ GE171.1) | exact HB.1)⟩
              · rw [if_neg c10] at H
                have c10b0 : (((rd_T118 l0_0 x9_1).f2) == a3) = false := beq_eq_false_iff_ne.mpr c10
                have c10b1 : (((rd_T118 l0_0 x9_1).f2) != a3) = true := bne_iff_ne.mpr c10
                have H' := Aside0.mk H
                clear H
                have hcz15_0 : wr.cell? ⟨gb169, 0, none⟩ = some (.slice A0_0 l0_0.length c0_0) := (blk_cell BK169.1 0).trans rfl
                have hfz15_0 := blk_frozen BK169.1 0
                have p170 : 0 ≤ (x9_1 : Int) := of_decide_eq_true (by first | (with_reducible assumption) | assumption)
                have q170 : x9_1 < (l0_0.length : Int) := of_decide_eq_true (by first | (with_reducible assumption) | assumption)
                obtain ⟨ad170, e170, hx170_0, hx170_1, hx170_2, hx170_3⟩ := at_T118 HR0_0.out x9_1 p170 q170
                cases e170
                replace hx170_0 := (HB.1.cell (World.block_lt_of_cell? w _ hx170_0)).trans hx170_0
                replace hx170_1 := (HB.1.cell (World.block_lt_of_cell? w _ hx170_1)).trans hx170_1
                replace hx170_2 := (HB.1.cell (World.block_lt_of_cell? w _ hx170_2)).trans hx170_2
                replace hx170_3 := (HB.1.cell (World.block_lt_of_cell? w _ hx170_3)).trans hx170_3
                replace p170 := eq_true p170
                replace q170 := eq_true q170
                go_wp2_with (first | ((with_reducible refine gate_dst (N := 10) rfl ?_); refine box_event ?hg (N := 10) ?hd (cs := #[.int .i64 0, .int .i64 0, .int .i64 0, .int .i64 0]) (t := 118) ?hr ?_; (case hd => rfl); (case hg => rfl); (case hr => first | (go_simp; done) | (go_simp; rfl)); intro gb171 hg w16 hbox hb; have n0_ := Aside0.mk (blk_below (g := gb169) (o := .cells #[.slice (some ad170) l0_0.length c0_0] 43 (0, 0)) (by (with_reducible repeat (first | apply xn117 | apply xd117 | apply xa117)); exact BK169.1) hb); have n1_ := Aside0.mk (below_step (by repeat (first | (with_reducible first | exact HB.1 | apply below_alloc | apply pw_below_drewN | apply below_drew1 | refine below_set ?_ GE169.1) | exact HB.1)) hb); have n2_ := Aside0.mk (hbox); have n3_ := Aside0.mk ((by rw [hg]; exact (below_size (by repeat (first | (with_reducible first | exact HB.1 | apply below_alloc | apply pw_below_drewN | apply below_drew1 | refine below_set ?_ GE169.1) | exact HB.1))) : w.heap.size ≤ gb171)); have n4_ := Aside0.mk ((by rw [hg]; exact (below_size (by repeat (first | (with_reducible first | exact HB.1 | apply below_alloc | apply pw_below_drewN | apply below_drew1 | refine below_set ?_ GE169.1) | exact HB.1))) : w.heap.size ≤ gb171)); have n5_ := Aside0.mk ((by rw [hg]; exact Nat.ne_of_lt (blk_lt (g := gb169) (o := .cells #[.slice (some ad170) l0_0.length c0_0] 43 (0, 0)) (by (with_reducible repeat (first | apply xn117 | apply xd117 | apply xa117)); exact BK169.1)) : gb169 ≠ gb171)); have n6_ := Aside0.mk ((by rw [hg]; exact Nat.ne_of_gt (blk_lt (g := gb169) (o := .cells #[.slice (some ad170) l0_0.length c0_0] 43 (0, 0)) (by (with_reducible repeat (first | apply xn117 | apply xd117 | apply xa117)); exact BK169.1)) : gb171 ≠ gb169)); clear BK169; clear HB; have BK169 := n0_; have HB := n1_; have BK171 := n2_; have GW171 := n3_; have GE171 := n4_; have NB169_171 := n5_; have NB171_169 := n6_; clear n0_ n1_ n2_ n3_ n4_ n5_ n6_; clear hb hbox hg; have hnb17 := NB171_169.1; have hnc17 := NB169_171.1; have hcz18_0 : w16.cell? ⟨gb171, 0, none⟩ = some (.int .i64 0) := (blk_cell BK171.1 0).trans rfl; have hcz18_1 : w16.cell? ⟨gb171, 1, none⟩ = some (.int .i64 0) := (blk_cell BK171.1 1).trans rfl; have hcz18_2 : w16.cell? ⟨gb171, 2, none⟩ = some (.int .i64 0) := (blk_cell BK171.1 2).trans rfl; have hcz18_3 : w16.cell? ⟨gb171, 3, none⟩ = some (.int .i64 0) := (blk_cell BK171.1 3).trans rfl; have hfz18_0 := blk_frozen BK171.1 0; have hfz18_1 := blk_frozen BK171.1 1; have hfz18_2 := blk_frozen BK171.1 2; have hfz18_3 := blk_frozen BK171.1 3))
                go_roundg k1
                case measure => have := HK1.out; omega
                case rel => exact ⟨(wrap64 (x9_1 + 1)), (by first | rfl | (simp; done) | (simp [*]; done)), H', ⟨by have := HK1.out; omega⟩, ⟨by (with_reducible repeat (first | apply xn117 | apply xd117 | apply xa117)); refine blk_far ?_ NB169_171.1 _; (with_reducible repeat (first | apply xn117 | apply xd117 | apply xa117)); refine blk_far ?_ NB169_171.1 _; (with_reducible repeat (first | apply xn117 | apply xd117 | apply xa117)); refine blk_far ?_ NB169_171.1 _; (with_reducible repeat (first | apply xn117 | apply xd117 | apply xa117)); refine blk_far ?_ NB169_171.1 _; (with_reducible repeat (first | apply xn117 | apply xd117 | apply xa117)); exact BK169.1⟩, ⟨by repeat (first | (with_reducible first | exact HB.1 | apply below_alloc | apply pw_below_drewN | apply below_drew1 | refine below_set ?_ GE169.1 | refine below_set ?_ GE171.1) | exact HB.1)⟩⟩
            · rw [if_neg c9] at H
              have c9b0 : (((rd_T118 l0_0 x9_1).f1) == a2) = false := beq_eq_false_iff_ne.mpr c9
              have c9b1 : (((rd_T118 l0_0 x9_1).f1) != a2) = true := bne_iff_ne.mpr c9
              have H' := Aside0.mk H
              clear H
              have hcz19_0 : wr.cell? ⟨gb169, 0, none⟩ = some (.slice A0_0 l0_0.length c0_0) := (blk_cell BK169.1 0).trans rfl
              have hfz19_0 := blk_frozen BK169.1 0
              have p170 : 0 ≤ (x9_1 : Int) := of_decide_eq_true (by first | (with_reducible assumption) | assumption)
              have q170 : x9_1 < (l0_0.length : Int) := of_decide_eq_true (by first | (with_reducible assumption) | assumption)
              obtain ⟨ad170, e170, hx170_0, hx170_1, hx170_2, hx170_3⟩ := at_T118 HR0_0.out x9_1 p170 q170
              cases e170
              replace hx170_0 := (HB.1.cell (World.block_lt_of_cell? w _ hx170_0)).trans hx170_0
              replace hx170_1 := (HB.1.cell (World.block_lt_of_cell? w _ hx170_1)).trans hx170_1
              replace hx170_2 := (HB.1.cell (World.block_lt_of_cell? w _ hx170_2)).trans hx170_2
              replace hx170_3 := (HB.1.cell (World.block_lt_of_cell? w _ hx170_3)).trans hx170_3
              replace p170 := eq_true p170
              replace q170 := eq_true q170
              go_wp2_with (first | ((with_reducible refine gate_dst (N := 10) rfl ?_); refine box_event ?hg (N := 10) ?hd (cs := #[.int .i64 0, .int .i64 0, .int .i64 0, .int .i64 0]) (t := 118) ?hr ?_; (case hd => rfl); (case hg => rfl); (case hr => first | (go_simp; done) | (go_simp; rfl)); intro gb171 hg w20 hbox hb; have n0_ := Aside0.mk (blk_below (g := gb169) (o := .cells #[.slice (some ad170) l0_0.length c0_0] 43 (0, 0)) (by (with_reducible repeat (first | apply xn117 | apply xd117 | apply xa117)); exact BK169.1) hb); have n1_ := Aside0.mk (below_step (by repeat (first | (with_reducible first | exact HB.1 | apply below_alloc | apply pw_below_drewN | apply below_drew1 | refine below_set ?_ GE169.1) | exact HB.1)) hb); have n2_ := Aside0.mk (hbox); have n3_ := Aside0.mk ((by rw [hg]; exact (below_size (by repeat (first | (with_reducible first | exact HB.1 | apply below_alloc | apply pw_below_drewN | apply below_drew1 | refine below_set ?_ GE169.1) | exact HB.1))) : w.heap.size ≤ gb171)); have n4_ := Aside0.mk ((by rw [hg]; exact (below_size (by repeat (first | (with_reducible first | exact HB.1 | apply below_alloc | apply pw_below_drewN | apply below_drew1 | refine below_set ?_ GE169.1) | exact HB.1))) : w.heap.size ≤ gb171)); have n5_ := Aside0.mk ((by rw [hg]; exact Nat.ne_of_lt (blk_lt (g := gb169) (o := .cells #[.slice (some ad170) l0_0.length c0_0] 43 (0, 0)) (by (with_reducible repeat (first | apply xn117 | apply xd117 | apply xa117)); exact BK169.1)) : gb169 ≠ gb171)); have n6_ := Aside0.mk ((by rw [hg]; exact Nat.ne_of_gt (blk_lt (g := gb169) (o := .cells #[.slice (some ad170) l0_0.length c0_0] 43 (0, 0)) (by (with_reducible repeat (first | apply xn117 | apply xd117 | apply xa117)); exact BK169.1)) : gb171 ≠ gb169)); clear BK169; clear HB; have BK169 := n0_; have HB := n1_; have BK171 := n2_; have GW171 := n3_; have GE171 := n4_; have NB169_171 := n5_; have NB171_169 := n6_; clear n0_ n1_ n2_ n3_ n4_ n5_ n6_; clear hb hbox hg; have hnb21 := NB171_169.1; have hnc21 := NB169_171.1; have hcz22_0 : w20.cell? ⟨gb171, 0, none⟩ = some (.int .i64 0) := (blk_cell BK171.1 0).trans rfl; have hcz22_1 : w20.cell? ⟨gb171, 1, none⟩ = some (.int .i64 0) := (blk_cell BK171.1 1).trans rfl; have hcz22_2 : w20.cell? ⟨gb171, 2, none⟩ = some (.int .i64 0) := (blk_cell BK171.1 2).trans rfl; have hcz22_3 : w20.cell? ⟨gb171, 3, none⟩ = some (.int .i64 0) := (blk_cell BK171.1 3).trans rfl; have hfz22_0 := blk_frozen BK171.1 0; have hfz22_1 := blk_frozen BK171.1 1; have hfz22_2 := blk_frozen BK171.1 2; have hfz22_3 := blk_frozen BK171.1 3))
              go_roundg k1
              case measure => have := HK1.out; omega
              case rel => exact ⟨(wrap64 (x9_1 + 1)), (by first | rfl | (simp; done) | (simp [*]; done)), H', ⟨by have := HK1.out; omega⟩, ⟨by (with_reducible repeat (first | apply xn117 | apply xd117 | apply xa117)); refine blk_far ?_ NB169_171.1 _; (with_reducible repeat (first | apply xn117 | apply xd117 | apply xa117)); refine blk_far ?_ NB169_171.1 _; (with_reducible repeat (first | apply xn117 | apply xd117 | apply xa117)); refine blk_far ?_ NB169_171.1 _; (with_reducible repeat (first | apply xn117 | apply xd117 | apply xa117)); refine blk_far ?_ NB169_171.1 _; (with_reducible repeat (first | apply xn117 | apply xd117 | apply xa117)); exact BK169.1⟩, ⟨by repeat (first | (with_reducible first | exact HB.1 | apply below_alloc | apply pw_below_drewN | apply below_drew1 | refine below_set ?_ GE169.1 | refine below_set ?_ GE171.1) | exact HB.1)⟩⟩
          · rw [if_neg c8] at H
            have c8b0 : (((rd_T118 l0_0 x9_1).f0) == a1) = false := beq_eq_false_iff_ne.mpr c8
            have c8b1 : (((rd_T118 l0_0 x9_1).f0) != a1) = true := bne_iff_ne.mpr c8
            have H' := Aside0.mk H
            clear H
            have hcz23_0 : wr.cell? ⟨gb169, 0, none⟩ = some (.slice A0_0 l0_0.length c0_0) := (blk_cell BK169.1 0).trans rfl
            have hfz23_0 := blk_frozen BK169.1 0
            have p170 : 0 ≤ (x9_1 : Int) := of_decide_eq_true (by first | (with_reducible assumption) | assumption)
            have q170 : x9_1 < (l0_0.length : Int) := of_decide_eq_true (by first | (with_reducible assumption) | assumption)
            obtain ⟨ad170, e170, hx170_0, hx170_1, hx170_2, hx170_3⟩ := at_T118 HR0_0.out x9_1 p170 q170
            cases e170
            replace hx170_0 := (HB.1.cell (World.block_lt_of_cell? w _ hx170_0)).trans hx170_0
            replace hx170_1 := (HB.1.cell (World.block_lt_of_cell? w _ hx170_1)).trans hx170_1
            replace hx170_2 := (HB.1.cell (World.block_lt_of_cell? w _ hx170_2)).trans hx170_2
            replace hx170_3 := (HB.1.cell (World.block_lt_of_cell? w _ hx170_3)).trans hx170_3
            replace p170 := eq_true p170
            replace q170 := eq_true q170
            go_wp2_with (first | ((with_reducible refine gate_dst (N := 10) rfl ?_); refine box_event ?hg (N := 10) ?hd (cs := #[.int .i64 0, .int .i64 0, .int .i64 0, .int .i64 0]) (t := 118) ?hr ?_; (case hd => rfl); (case hg => rfl); (case hr => first | (go_simp; done) | (go_simp; rfl)); intro gb171 hg w24 hbox hb; have n0_ := Aside0.mk (blk_below (g := gb169) (o := .cells #[.slice (some ad170) l0_0.length c0_0] 43 (0, 0)) (by (with_reducible repeat (first | apply xn117 | apply xd117 | apply xa117)); exact BK169.1) hb); have n1_ := Aside0.mk (below_step (by repeat (first | (with_reducible first | exact HB.1 | apply below_alloc | apply pw_below_drewN | apply below_drew1 | refine below_set ?_ GE169.1) | exact HB.1)) hb); have n2_ := Aside0.mk (hbox); have n3_ := Aside0.mk ((by rw [hg]; exact (below_size (by repeat (first | (with_reducible first | exact HB.1 | apply below_alloc | apply pw_below_drewN | apply below_drew1 | refine below_set ?_ GE169.1) | exact HB.1))) : w.heap.size ≤ gb171)); have n4_ := Aside0.mk ((by rw [hg]; exact (below_size (by repeat (first | (with_reducible first | exact HB.1 | apply below_alloc | apply pw_below_drewN | apply below_drew1 | refine below_set ?_ GE169.1) | exact HB.1))) : w.heap.size ≤ gb171)); have n5_ := Aside0.mk ((by rw [hg]; exact Nat.ne_of_lt (blk_lt (g := gb169) (o := .cells #[.slice (some ad170) l0_0.length c0_0] 43 (0, 0)) (by (with_reducible repeat (first | apply xn117 | apply xd117 | apply xa117)); exact BK169.1)) : gb169 ≠ gb171)); have n6_ := Aside0.mk ((by rw [hg]; exact Nat.ne_of_gt (blk_lt (g := gb169) (o := .cells #[.slice (some ad170) l0_0.length c0_0] 43 (0, 0)) (by (with_reducible repeat (first | apply xn117 | apply xd117 | apply xa117)); exact BK169.1)) : gb171 ≠ gb169)); clear BK169; clear HB; have BK169 := n0_; have HB := n1_; have BK171 := n2_; have GW171 := n3_; have GE171 := n4_; have NB169_171 := n5_; have NB171_169 := n6_; clear n0_ n1_ n2_ n3_ n4_ n5_ n6_; clear hb hbox hg; have hnb25 := NB171_169.1; have hnc25 := NB169_171.1; have hcz26_0 : w24.cell? ⟨gb171, 0, none⟩ = some (.int .i64 0) := (blk_cell BK171.1 0).trans rfl; have hcz26_1 : w24.cell? ⟨gb171, 1, none⟩ = some (.int .i64 0) := (blk_cell BK171.1 1).trans rfl; have hcz26_2 : w24.cell? ⟨gb171, 2, none⟩ = some (.int .i64 0) := (blk_cell BK171.1 2).trans rfl; have hcz26_3 : w24.cell? ⟨gb171, 3, none⟩ = some (.int .i64 0) := (blk_cell BK171.1 3).trans rfl; have hfz26_0 := blk_frozen BK171.1 0; have hfz26_1 := blk_frozen BK171.1 1; have hfz26_2 := blk_frozen BK171.1 2; have hfz26_3 := blk_frozen BK171.1 3))
            go_roundg k1
            case measure => have := HK1.out; omega
            case rel => exact ⟨(wrap64 (x9_1 + 1)), (by first | rfl | (simp; done) | (simp [*]; done)), H', ⟨by have := HK1.out; omega⟩, ⟨by (with_reducible repeat (first | apply xn117 | apply xd117 | apply xa117)); refine blk_far ?_ NB169_171.1 _; (with_reducible repeat (first | apply xn117 | apply xd117 | apply xa117)); refine blk_far ?_ NB169_171.1 _; (with_reducible repeat (first | apply xn117 | apply xd117 | apply xa117)); refine blk_far ?_ NB169_171.1 _; (with_reducible repeat (first | apply xn117 | apply xd117 | apply xa117)); refine blk_far ?_ NB169_171.1 _; (with_reducible repeat (first | apply xn117 | apply xd117 | apply xa117)); exact BK169.1⟩, ⟨by repeat (first | (with_reducible first | exact HB.1 | apply below_alloc | apply pw_below_drewN | apply below_drew1 | refine below_set ?_ GE169.1 | refine below_set ?_ GE171.1) | exact HB.1)⟩⟩
        · rw [if_neg c7] at H
          exact absurd H (by simp)
      · rw [if_neg c6] at H
        have c6b0 : decide (x9_1 < (l0_0.length : Int)) = false := decide_eq_false c6
        clear c6
        obtain rfl := Option.some.inj H
        have hcz27_0 : wr.cell? ⟨gb169, 0, none⟩ = some (.slice A0_0 l0_0.length c0_0) := (blk_cell BK169.1 0).trans rfl
        have hfz27_0 := blk_frozen BK169.1 0
        go_wp2
        go_ret
        exact ⟨by first | rfl | (simp [errW_none, errW_some] <;> rfl) | (simp [*, errW_none, errW_some] <;> rfl), by repeat (first | (with_reducible first | exact HB.1 | apply below_alloc | apply pw_below_drewN | apply below_drew1 | refine below_set ?_ GE169.1) | exact HB.1)⟩

/-! ### vendmeterref_OracleMay: function 68 -/
theorem xa68 {w : World} {g : Nat} {o : Obj} (h : w.heap[g]? = some o) (o' : Obj) : (w.alloc o').heap[g]? = some o := blk_alloc h o'
theorem xd68 {w : World} {g : Nat} {o : Obj} (h : w.heap[g]? = some o) : w.drew.heap[g]? = some o := blk_drew h
theorem xn68 {w : World} {g : Nat} {o : Obj} (h : w.heap[g]? = some o) (n : Nat) : (w.drewN n).heap[g]? = some o := blk_drewN h n
def vendmeterref_OracleMay.l0 : Nat → Int → List (S118) → Option (Bool)
  | 0, _, _ => none
  | k + 1, x3, x173000 => if x3 < (x173000.length : Int) then (if 0 ≤ x3 then ((vendmeterref_PairMay.f ((rd_T118 x173000 x3).f0) ((rd_T118 x173000 x3).f1) ((rd_T118 x173000 x3).f2) ((rd_T118 x173000 x3).f3)).bind fun t175 => (if t175 = true then ((vendmeterref_tagged.f k x173000 ((rd_T118 x173000 x3).f0) ((rd_T118 x173000 x3).f1) ((rd_T118 x173000 x3).f2)).bind fun t176 => (if t176 = x3 then (vendmeterref_OracleMay.l0 k (wrap64 (x3 + 1)) x173000) else (some false))) else (some false))) else (none)) else (some true)
def vendmeterref_OracleMay.f (k : Nat) (l0_0 : List (S118)) : Option (Bool) := if (l0_0.length : Int) > 500 then (some false) else (vendmeterref_OracleMay.l0 k 0 l0_0)
theorem vendmeterref_OracleMay.mono_l : ∀ k, (∀ y0 y1, LeO (vendmeterref_OracleMay.l0 k y0 y1) (vendmeterref_OracleMay.l0 (k + 1) y0 y1))
  | 0 => fun _ _ r h => by simp [vendmeterref_OracleMay.l0] at h
  | k + 1 => by
    have ih0 := vendmeterref_OracleMay.mono_l k
    · intro y0 y1
      unfold vendmeterref_OracleMay.l0
      repeat' first
      | (with_reducible exact ih0 _ _)
      | (with_reducible exact vendmeterref_tagged.mono _ _ _ _ _)
      | (with_reducible exact LeO.refl _)
      | (with_reducible exact LeO.none _)
      | (with_reducible refine LeO.ite ?_ ?_)
      | (with_reducible refine LeO.bind ?_ (fun _ => ?_))
      | exact ih0 _ _
      | exact vendmeterref_tagged.mono _ _ _ _ _
      | exact LeO.none _
      | refine LeO.ite ?_ ?_
      | refine LeO.bind ?_ (fun _ => ?_)
theorem vendmeterref_OracleMay.mono : ∀ a0 k, LeO (vendmeterref_OracleMay.f k a0) (vendmeterref_OracleMay.f (k + 1) a0) := by
  intro a0 k
  have ih0 := vendmeterref_OracleMay.mono_l k
  unfold vendmeterref_OracleMay.f
  repeat' first
      | (with_reducible exact ih0 _ _)
      | (with_reducible exact vendmeterref_tagged.mono _ _ _ _ _)
      | (with_reducible exact LeO.refl _)
      | (with_reducible exact LeO.none _)
      | (with_reducible refine LeO.ite ?_ ?_)
      | (with_reducible refine LeO.bind ?_ (fun _ => ?_))
      | exact ih0 _ _
      | exact vendmeterref_tagged.mono _ _ _ _ _
      | exact LeO.none _
      | refine LeO.ite ?_ ?_
      | refine LeO.bind ?_ (fun _ => ?_)
set_option maxHeartbeats 8000000 in
set_option maxRecDepth 100000 in
theorem vendmeterref_OracleMay.calls (k : Nat) (A0_0 : Option Addr) (c0_0 : Nat) (l0_0 : List (S118)) (r : Bool) (w : World) (hr0_0 : Kd.C k118 w A0_0 l0_0.length l0_0) (hc0_0 : l0_0.length ≤ c0_0) (h : vendmeterref_OracleMay.f k l0_0 = some r) :
    Calls Try.prog 68 #[.agg #[.slice A0_0 l0_0.length c0_0]] w fun e w' => e = .returned (.bool r) ∧ Below w.heap.size w w' := by
  have hu43 := Try.underlying43
  have hu118 := Try.underlying118
  have HR0_0 := Aside0.mk hr0_0
  have HC0_0 := Aside0.mk hc0_0
  clear hr0_0 hc0_0
  have HB := Aside0.mk (Below.refl w.heap.size w)
  have H : (if (l0_0.length : Int) > 500 then (some false) else (vendmeterref_OracleMay.l0 k 0 l0_0)) = some r := h
  clear h
  by_cases c2 : (l0_0.length : Int) > 500
  · rw [if_pos c2] at H
    have c2b0 : decide (500 < (l0_0.length : Int)) = true := decide_eq_true c2
    have c2b1 : decide (500 < l0_0.length) = true := decide_eq_true (by omega)
    clear c2
    obtain rfl := Option.some.inj H
    go_enter Try.func68, Try.ntmps68
    go_wp2_with (first | ((with_reducible refine gate_dst (N := 1) rfl ?_); refine box_event ?hg (N := 1) ?hd (cs := #[.slice A0_0 l0_0.length c0_0]) (t := 43) ?hr ?_; (case hd => rfl); (case hg => rfl); (case hr => first | (go_simp; done) | (go_simp; rfl)); intro gb172 hg w3 hbox hb; have n0_ := Aside0.mk (below_step (by repeat (first | (with_reducible first | exact HB.1 | apply below_alloc | apply pw_below_drewN | apply below_drew1) | exact HB.1)) hb); have n1_ := Aside0.mk (hbox); have n2_ := Aside0.mk ((by rw [hg]; exact (below_size (by repeat (first | (with_reducible first | exact HB.1 | apply below_alloc | apply pw_below_drewN | apply below_drew1) | exact HB.1))) : w.heap.size ≤ gb172)); have n3_ := Aside0.mk ((by rw [hg]; exact (below_size (by repeat (first | (with_reducible first | exact HB.1 | apply below_alloc | apply pw_below_drewN | apply below_drew1) | exact HB.1))) : w.heap.size ≤ gb172)); clear HB; have HB := n0_; have BK172 := n1_; have GW172 := n2_; have GE172 := n3_; clear n0_ n1_ n2_ n3_; clear hb hbox hg; have hcz4_0 : w3.cell? ⟨gb172, 0, none⟩ = some (.slice A0_0 l0_0.length c0_0) := (blk_cell BK172.1 0).trans rfl; have hfz4_0 := blk_frozen BK172.1 0))
    go_ret
    exact ⟨by first | rfl | (simp [errW_none, errW_some] <;> rfl) | (simp [*, errW_none, errW_some] <;> rfl), by repeat (first | (with_reducible first | exact HB.1 | apply below_alloc | apply pw_below_drewN | apply below_drew1 | refine below_set ?_ GE172.1) | exact HB.1)⟩
  · rw [if_neg c2] at H
    have c2b0 : decide (500 < (l0_0.length : Int)) = false := decide_eq_false c2
    have c2b1 : decide (500 < l0_0.length) = false := decide_eq_false (by omega)
    clear c2
    have H' := Aside0.mk H
    clear H
    go_enter Try.func68, Try.ntmps68
    go_wp2_with (first | ((with_reducible refine gate_dst (N := 1) rfl ?_); refine box_event ?hg (N := 1) ?hd (cs := #[.slice A0_0 l0_0.length c0_0]) (t := 43) ?hr ?_; (case hd => rfl); (case hg => rfl); (case hr => first | (go_simp; done) | (go_simp; rfl)); intro gb172 hg w5 hbox hb; have n0_ := Aside0.mk (below_step (by repeat (first | (with_reducible first | exact HB.1 | apply below_alloc | apply pw_below_drewN | apply below_drew1) | exact HB.1)) hb); have n1_ := Aside0.mk (hbox); have n2_ := Aside0.mk ((by rw [hg]; exact (below_size (by repeat (first | (with_reducible first | exact HB.1 | apply below_alloc | apply pw_below_drewN | apply below_drew1) | exact HB.1))) : w.heap.size ≤ gb172)); have n3_ := Aside0.mk ((by rw [hg]; exact (below_size (by repeat (first | (with_reducible first | exact HB.1 | apply below_alloc | apply pw_below_drewN | apply below_drew1) | exact HB.1))) : w.heap.size ≤ gb172)); clear HB; have HB := n0_; have BK172 := n1_; have GW172 := n2_; have GE172 := n3_; clear n0_ n1_ n2_ n3_; clear hb hbox hg; have hcz6_0 : w5.cell? ⟨gb172, 0, none⟩ = some (.slice A0_0 l0_0.length c0_0) := (blk_cell BK172.1 0).trans rfl; have hfz6_0 := blk_frozen BK172.1 0))
    go_loopg [3] k (fun kq v3 w' => ∃ (x3_1 : Int), v3 = .int .i64 x3_1 ∧ Aside0 (vendmeterref_OracleMay.l0 kq x3_1 l0_0 = some r) ∧ Aside0 (kq ≤ k) ∧ Aside0 (w'.heap[gb172]? = some (.cells #[(.slice A0_0 l0_0.length c0_0)] 43 (0, 0))) ∧ Aside0 (Below w.heap.size w w'))
    case atStart => exact ⟨(0), (by first | rfl | (simp; done) | (simp [*]; done)), H', ⟨Nat.le_refl _⟩, ⟨by (with_reducible repeat (first | apply xn68 | apply xd68 | apply xa68)); exact BK172.1⟩, ⟨by repeat (first | (with_reducible first | exact HB.1 | apply below_alloc | apply pw_below_drewN | apply below_drew1 | refine below_set ?_ GE172.1) | exact HB.1)⟩⟩
    case round =>
      clear H'
      try clear c2
      try clear c2b0
      try clear c2b1
      try clear p2
      try clear c6
      try clear hcz4_0
      try clear hcz6_0
      try clear hfz4_0
      try clear hfz6_0
      obtain ⟨x3_1, rfl, HA, HK1, BK172, HB⟩ := hrel
      cases gk with
      | zero => exact absurd HA.out (by simp [vendmeterref_OracleMay.l0])
      | succ k1 =>
        have H := HA.out
        clear HA
        simp only [vendmeterref_OracleMay.l0] at H
        by_cases c7 : x3_1 < (l0_0.length : Int)
        · rw [if_pos c7] at H
          have c7b0 : decide (x3_1 < (l0_0.length : Int)) = true := decide_eq_true c7
          clear c7
          by_cases c8 : 0 ≤ x3_1
          · rw [if_pos c8] at H
            have c8b0 : decide (0 ≤ x3_1) = true := decide_eq_true c8
            clear c8
            replace H := Option.bind_eq_some_iff.mp H
            obtain ⟨t175, A90, H⟩ := H
            replace H : (if t175 = true then ((vendmeterref_tagged.f k1 l0_0 ((rd_T118 l0_0 x3_1).f0) ((rd_T118 l0_0 x3_1).f1) ((rd_T118 l0_0 x3_1).f2)).bind fun t176 => (if t176 = x3_1 then (vendmeterref_OracleMay.l0 k1 (wrap64 (x3_1 + 1)) l0_0) else (some false))) else (some false)) = some r := H
            have A9 := Aside0.mk A90
            clear A90
            by_cases c10 : t175 = true
            · subst c10
              have H1 : ((vendmeterref_tagged.f k1 l0_0 ((rd_T118 l0_0 x3_1).f0) ((rd_T118 l0_0 x3_1).f1) ((rd_T118 l0_0 x3_1).f2)).bind fun t176 => (if t176 = x3_1 then (vendmeterref_OracleMay.l0 k1 (wrap64 (x3_1 + 1)) l0_0) else (some false))) = some r := by rw [if_pos rfl] at H; exact H
              clear H
              have H := H1
              clear H1
              replace H := Option.bind_eq_some_iff.mp H
              obtain ⟨t176, A110, H⟩ := H
              replace H : (if t176 = x3_1 then (vendmeterref_OracleMay.l0 k1 (wrap64 (x3_1 + 1)) l0_0) else (some false)) = some r := H
              have A11 := Aside0.mk A110
              clear A110
              by_cases c12 : t176 = x3_1
              · rw [if_pos c12] at H
                have c12b0 : (t176 == x3_1) = true := beq_iff_eq.mpr c12
                have c12b1 : (t176 != x3_1) = false := bne_eq_false_iff_eq.mpr c12
                clear c12
                have H' := Aside0.mk H
                clear H
                have hcz13_0 : wr.cell? ⟨gb172, 0, none⟩ = some (.slice A0_0 l0_0.length c0_0) := (blk_cell BK172.1 0).trans rfl
                have hfz13_0 := blk_frozen BK172.1 0
                have p173 : 0 ≤ (x3_1 : Int) := of_decide_eq_true (by first | (with_reducible assumption) | assumption)
                have q173 : x3_1 < (l0_0.length : Int) := of_decide_eq_true (by first | (with_reducible assumption) | assumption)
                obtain ⟨ad173, e173, hx173_0, hx173_1, hx173_2, hx173_3⟩ := at_T118 HR0_0.out x3_1 p173 q173
                cases e173
                replace hx173_0 := (HB.1.cell (World.block_lt_of_cell? w _ hx173_0)).trans hx173_0
                replace hx173_1 := (HB.1.cell (World.block_lt_of_cell? w _ hx173_1)).trans hx173_1
                replace hx173_2 := (HB.1.cell (World.block_lt_of_cell? w _ hx173_2)).trans hx173_2
                replace hx173_3 := (HB.1.cell (World.block_lt_of_cell? w _ hx173_3)).trans hx173_3
                replace p173 := eq_true p173
                replace q173 := eq_true q173
                go_wp2_with (first | ((with_reducible refine gate_dst (N := 4) rfl ?_); refine box_event ?hg (N := 4) ?hd (cs := #[.int .i64 0, .int .i64 0, .int .i64 0, .int .i64 0]) (t := 118) ?hr ?_; (case hd => rfl); (case hg => rfl); (case hr => first | (go_simp; done) | (go_simp; rfl)); intro gb174 hg w14 hbox hb; have n0_ := Aside0.mk (blk_below (g := gb172) (o := .cells #[.slice (some ad173) l0_0.length c0_0] 43 (0, 0)) (by (with_reducible repeat (first | apply xn68 | apply xd68 | apply xa68)); exact BK172.1) hb); have n1_ := Aside0.mk (below_step (by repeat (first | (with_reducible first | exact HB.1 | apply below_alloc | apply pw_below_drewN | apply below_drew1 | refine below_set ?_ GE172.1) | exact HB.1)) hb); have n2_ := Aside0.mk (hbox); have n3_ := Aside0.mk ((by rw [hg]; exact (below_size (by repeat (first | (with_reducible first | exact HB.1 | apply below_alloc | apply pw_below_drewN | apply below_drew1 | refine below_set ?_ GE172.1) | exact HB.1))) : w.heap.size ≤ gb174)); have n4_ := Aside0.mk ((by rw [hg]; exact (below_size (by repeat (first | (with_reducible first | exact HB.1 | apply below_alloc | apply pw_below_drewN | apply below_drew1 | refine below_set ?_ GE172.1) | exact HB.1))) : w.heap.size ≤ gb174)); have n5_ := Aside0.mk ((by rw [hg]; exact Nat.ne_of_lt (blk_lt (g := gb172) (o := .cells #[.slice (some ad173) l0_0.length c0_0] 43 (0, 0)) (by (with_reducible repeat (first | apply xn68 | apply xd68 | apply xa68)); exact BK172.1)) : gb172 ≠ gb174)); have n6_ := Aside0.mk ((by rw [hg]; exact Nat.ne_of_gt (blk_lt (g := gb172) (o := .cells #[.slice (some ad173) l0_0.length c0_0] 43 (0, 0)) (by (with_reducible repeat (first | apply xn68 | apply xd68 | apply xa68)); exact BK172.1)) : gb174 ≠ gb172)); clear BK172; clear HB; have BK172 := n0_; have HB := n1_; have BK174 := n2_; have GW174 := n3_; have GE174 := n4_; have NB172_174 := n5_; have NB174_172 := n6_; clear n0_ n1_ n2_ n3_ n4_ n5_ n6_; clear hb hbox hg; have hnb15 := NB174_172.1; have hnc15 := NB172_174.1; have hcz16_0 : w14.cell? ⟨gb174, 0, none⟩ = some (.int .i64 0) := (blk_cell BK174.1 0).trans rfl; have hcz16_1 : w14.cell? ⟨gb174, 1, none⟩ = some (.int .i64 0) := (blk_cell BK174.1 1).trans rfl; have hcz16_2 : w14.cell? ⟨gb174, 2, none⟩ = some (.int .i64 0) := (blk_cell BK174.1 2).trans rfl; have hcz16_3 : w14.cell? ⟨gb174, 3, none⟩ = some (.int .i64 0) := (blk_cell BK174.1 3).trans rfl; have hfz16_0 := blk_frozen BK174.1 0; have hfz16_1 := blk_frozen BK174.1 1; have hfz16_2 := blk_frozen BK174.1 2; have hfz16_3 := blk_frozen BK174.1 3) | ((with_reducible refine gate_callee (f := 116) rfl ?_); refine goesL_ (some 22) rfl rfl Try.func116 (by kernel_rfl) rfl #[.agg #[.int .i64 ((rd_T118 l0_0 x3_1).f0), .int .i64 ((rd_T118 l0_0 x3_1).f1), .int .i64 ((rd_T118 l0_0 x3_1).f2), .int .i64 ((rd_T118 l0_0 x3_1).f3)]] rfl (by (try simp only [List.map_toArray, List.map_cons, List.map_nil]); first | done | rfl | (simp only [List.length_drop, List.length_take]; rfl)) ?_; (with_reducible refine (vendmeterref_PairMay.calls ((rd_T118 l0_0 x3_1).f0) ((rd_T118 l0_0 x3_1).f1) ((rd_T118 l0_0 x3_1).f2) ((rd_T118 l0_0 x3_1).f3) true _ A9.out).mono ?_); rintro e w17 ⟨rfl, hb⟩; refine ⟨_, rfl, ?_⟩; have n0_ := Aside0.mk (blk_below (g := gb172) (o := .cells #[.slice (some ad173) l0_0.length c0_0] 43 (0, 0)) (by (with_reducible repeat (first | apply xn68 | apply xd68 | apply xa68)); refine blk_far ?_ NB172_174.1 _; (with_reducible repeat (first | apply xn68 | apply xd68 | apply xa68)); refine blk_far ?_ NB172_174.1 _; (with_reducible repeat (first | apply xn68 | apply xd68 | apply xa68)); refine blk_far ?_ NB172_174.1 _; (with_reducible repeat (first | apply xn68 | apply xd68 | apply xa68)); refine blk_far ?_ NB172_174.1 _; (with_reducible repeat (first | apply xn68 | apply xd68 | apply xa68)); exact BK172.1) hb); have n1_ := Aside0.mk (blk_below (g := gb174) (o := .cells #[.int .i64 ((rd_T118 l0_0 x3_1).f0), .int .i64 ((rd_T118 l0_0 x3_1).f1), .int .i64 ((rd_T118 l0_0 x3_1).f2), .int .i64 ((rd_T118 l0_0 x3_1).f3)] 118 (0, 0)) (by (with_reducible repeat (first | apply xn68 | apply xd68 | apply xa68)); refine blk_put (cs := #[.int .i64 ((rd_T118 l0_0 x3_1).f0), .int .i64 ((rd_T118 l0_0 x3_1).f1), .int .i64 ((rd_T118 l0_0 x3_1).f2), .int .i64 0]) ?_ 3 _ rfl; (with_reducible repeat (first | apply xn68 | apply xd68 | apply xa68)); refine blk_put (cs := #[.int .i64 ((rd_T118 l0_0 x3_1).f0), .int .i64 ((rd_T118 l0_0 x3_1).f1), .int .i64 0, .int .i64 0]) ?_ 2 _ rfl; (with_reducible repeat (first | apply xn68 | apply xd68 | apply xa68)); refine blk_put (cs := #[.int .i64 ((rd_T118 l0_0 x3_1).f0), .int .i64 0, .int .i64 0, .int .i64 0]) ?_ 1 _ rfl; (with_reducible repeat (first | apply xn68 | apply xd68 | apply xa68)); refine blk_put (cs := #[.int .i64 0, .int .i64 0, .int .i64 0, .int .i64 0]) ?_ 0 _ rfl; (with_reducible repeat (first | apply xn68 | apply xd68 | apply xa68)); exact BK174.1) hb); have n2_ := Aside0.mk (below_step (by repeat (first | (with_reducible first | exact HB.1 | apply below_alloc | apply pw_below_drewN | apply below_drew1 | refine below_set ?_ GE172.1 | refine below_set ?_ GE174.1) | exact HB.1)) hb); clear BK172; clear BK174; clear HB; have BK172 := n0_; have BK174 := n1_; have HB := n2_; clear n0_ n1_ n2_; (try clear hb); (try clear hb2); (try clear hk); (try clear hi); have hcz18_0 : w17.cell? ⟨gb172, 0, none⟩ = some (.slice (some ad173) l0_0.length c0_0) := (blk_cell BK172.1 0).trans rfl; have hfz18_0 := blk_frozen BK172.1 0; have hcz19_0 : w17.cell? ⟨gb174, 0, none⟩ = some (.int .i64 ((rd_T118 l0_0 x3_1).f0)) := (blk_cell BK174.1 0).trans rfl; have hcz19_1 : w17.cell? ⟨gb174, 1, none⟩ = some (.int .i64 ((rd_T118 l0_0 x3_1).f1)) := (blk_cell BK174.1 1).trans rfl; have hcz19_2 : w17.cell? ⟨gb174, 2, none⟩ = some (.int .i64 ((rd_T118 l0_0 x3_1).f2)) := (blk_cell BK174.1 2).trans rfl; have hcz19_3 : w17.cell? ⟨gb174, 3, none⟩ = some (.int .i64 ((rd_T118 l0_0 x3_1).f3)) := (blk_cell BK174.1 3).trans rfl; have hfz19_0 := blk_frozen BK174.1 0; have hfz19_1 := blk_frozen BK174.1 1; have hfz19_2 := blk_frozen BK174.1 2; have hfz19_3 := blk_frozen BK174.1 3) | (go_at_call 117; (with_reducible refine (vendmeterref_tagged.calls k1 _ _ l0_0 ((rd_T118 l0_0 x3_1).f0) ((rd_T118 l0_0 x3_1).f1) ((rd_T118 l0_0 x3_1).f2) t176 _ ?side1 ?side2 A11.out).mono ?_); (case side1 => repeat (first | exact (Kd.C_below HR0_0.out HB.1) | (with_reducible refine Kd.C_alloc ?_ _) | (with_reducible refine Kd.C_drewN ?_ _) | (with_reducible refine Kd.C_drew ?_))); (case side2 => exact HC0_0.out); rintro e w20 ⟨rfl, hb⟩; have n0_ := Aside0.mk (blk_below (g := gb172) (o := .cells #[.slice (some ad173) l0_0.length c0_0] 43 (0, 0)) (by (with_reducible repeat (first | apply xn68 | apply xd68 | apply xa68)); exact BK172.1) hb); have n1_ := Aside0.mk (blk_below (g := gb174) (o := .cells #[.int .i64 ((rd_T118 l0_0 x3_1).f0), .int .i64 ((rd_T118 l0_0 x3_1).f1), .int .i64 ((rd_T118 l0_0 x3_1).f2), .int .i64 ((rd_T118 l0_0 x3_1).f3)] 118 (0, 0)) (by (with_reducible repeat (first | apply xn68 | apply xd68 | apply xa68)); exact BK174.1) hb); have n2_ := Aside0.mk (below_step (by repeat (first | (with_reducible first | exact HB.1 | apply below_alloc | apply pw_below_drewN | apply below_drew1 | refine below_set ?_ GE172.1 | refine below_set ?_ GE174.1) | exact HB.1)) hb); clear BK172; clear BK174; clear HB; have BK172 := n0_; have BK174 := n1_; have HB := n2_; clear n0_ n1_ n2_; (try clear hb); (try clear hb2); (try clear hk); (try clear hi)))
                go_roundg k1
                case measure => have := HK1.out; omega
                case rel => exact ⟨(wrap64 (x3_1 + 1)), (by first | rfl | (simp; done) | (simp [*]; done)), H', ⟨by have := HK1.out; omega⟩, ⟨by (with_reducible repeat (first | apply xn68 | apply xd68 | apply xa68)); exact BK172.1⟩, ⟨by repeat (first | (with_reducible first | exact HB.1 | apply below_alloc | apply pw_below_drewN | apply below_drew1 | refine below_set ?_ GE172.1 | refine below_set ?_ GE174.1) | exact HB.1)⟩⟩
              · rw [if_neg c12] at H
                have c12b0 : (t176 == x3_1) = false := beq_eq_false_iff_ne.mpr c12
                have c12b1 : (t176 != x3_1) = true := bne_iff_ne.mpr c12
                obtain rfl := Option.some.inj H
                have hcz21_0 : wr.cell? ⟨gb172, 0, none⟩ = some (.slice A0_0 l0_0.length c0_0) := (blk_cell BK172.1 0).trans rfl
                have hfz21_0 := blk_frozen BK172.1 0
                have p173 : 0 ≤ (x3_1 : Int) := of_decide_eq_true (by first | (with_reducible assumption) | assumption)
                have q173 : x3_1 < (l0_0.length : Int) := of_decide_eq_true (by first | (with_reducible assumption) | assumption)
                obtain ⟨ad173, e173, hx173_0, hx173_1, hx173_2, hx173_3⟩ := at_T118 HR0_0.out x3_1 p173 q173
                cases e173
                replace hx173_0 := (HB.1.cell (World.block_lt_of_cell? w _ hx173_0)).trans hx173_0
                replace hx173_1 := (HB.1.cell (World.block_lt_of_cell? w _ hx173_1)).trans hx173_1
                replace hx173_2 := (HB.1.cell (World.block_lt_of_cell? w _ hx173_2)).trans hx173_2
                replace hx173_3 := (HB.1.cell (World.block_lt_of_cell? w _ hx173_3)).trans hx173_3
                replace p173 := eq_true p173
                replace q173 := eq_true q173
                go_wp2_with (first | ((with_reducible refine gate_dst (N := 4) rfl ?_); refine box_event ?hg (N := 4) ?hd (cs := #[.int .i64 0, .int .i64 0, .int .i64 0, .int .i64 0]) (t := 118) ?hr ?_; (case hd => rfl); (case hg => rfl); (case hr => first | (go_simp; done) | (go_simp; rfl)); intro gb174 hg w22 hbox hb; have n0_ := Aside0.mk (blk_below (g := gb172) (o := .cells #[.slice (some ad173) l0_0.length c0_0] 43 (0, 0)) (by (with_reducible repeat (first | apply xn68 | apply xd68 | apply xa68)); exact BK172.1) hb); have n1_ := Aside0.mk (below_step (by repeat (first | (with_reducible first | exact HB.1 | apply below_alloc | apply pw_below_drewN | apply below_drew1 | refine below_set ?_ GE172.1) | exact HB.1)) hb); have n2_ := Aside0.mk (hbox); have n3_ := Aside0.mk ((by rw [hg]; exact (below_size (by repeat (first | (with_reducible first | exact HB.1 | apply below_alloc | apply pw_below_drewN | apply below_drew1 | refine below_set ?_ GE172.1) | exact HB.1))) : w.heap.size ≤ gb174)); have n4_ := Aside0.mk ((by rw [hg]; exact (below_size (by repeat (first | (with_reducible first | exact HB.1 | apply below_alloc | apply pw_below_drewN | apply below_drew1 | refine below_set ?_ GE172.1) | exact HB.1))) : w.heap.size ≤ gb174)); have n5_ := Aside0.mk ((by rw [hg]; exact Nat.ne_of_lt (blk_lt (g := gb172) (o := .cells #[.slice (some ad173) l0_0.length c0_0] 43 (0, 0)) (by (with_reducible repeat (first | apply xn68 | apply xd68 | apply xa68)); exact BK172.1)) : gb172 ≠ gb174)); have n6_ := Aside0.mk ((by rw [hg]; exact Nat.ne_of_gt (blk_lt (g := gb172) (o := .cells #[.slice (some ad173) l0_0.length c0_0] 43 (0, 0)) (by (with_reducible repeat (first | apply xn68 | apply xd68 | apply xa68)); exact BK172.1)) : gb174 ≠ gb172)); clear BK172; clear HB; have BK172 := n0_; have HB := n1_; have BK174 := n2_; have GW174 := n3_; have GE174 := n4_; have NB172_174 := n5_; have NB174_172 := n6_; clear n0_ n1_ n2_ n3_ n4_ n5_ n6_; clear hb hbox hg; have hnb23 := NB174_172.1; have hnc23 := NB172_174.1; have hcz24_0 : w22.cell? ⟨gb174, 0, none⟩ = some (.int .i64 0) := (blk_cell BK174.1 0).trans rfl; have hcz24_1 : w22.cell? ⟨gb174, 1, none⟩ = some (.int .i64 0) := (blk_cell BK174.1 1).trans rfl; have hcz24_2 : w22.cell? ⟨gb174, 2, none⟩ = some (.int .i64 0) := (blk_cell BK174.1 2).trans rfl; have hcz24_3 : w22.cell? ⟨gb174, 3, none⟩ = some (.int .i64 0) := (blk_cell BK174.1 3).trans rfl; have hfz24_0 := blk_frozen BK174.1 0; have hfz24_1 := blk_frozen BK174.1 1; have hfz24_2 := blk_frozen BK174.1 2; have hfz24_3 := blk_frozen BK174.1 3) | ((with_reducible refine gate_callee (f := 116) rfl ?_); refine goesL_ (some 22) rfl rfl Try.func116 (by kernel_rfl) rfl #[.agg #[.int .i64 ((rd_T118 l0_0 x3_1).f0), .int .i64 ((rd_T118 l0_0 x3_1).f1), .int .i64 ((rd_T118 l0_0 x3_1).f2), .int .i64 ((rd_T118 l0_0 x3_1).f3)]] rfl (by (try simp only [List.map_toArray, List.map_cons, List.map_nil]); first | done | rfl | (simp only [List.length_drop, List.length_take]; rfl)) ?_; (with_reducible refine (vendmeterref_PairMay.calls ((rd_T118 l0_0 x3_1).f0) ((rd_T118 l0_0 x3_1).f1) ((rd_T118 l0_0 x3_1).f2) ((rd_T118 l0_0 x3_1).f3) true _ A9.out).mono ?_); rintro e w25 ⟨rfl, hb⟩; refine ⟨_, rfl, ?_⟩; have n0_ := Aside0.mk (blk_below (g := gb172) (o := .cells #[.slice (some ad173) l0_0.length c0_0] 43 (0, 0)) (by (with_reducible repeat (first | apply xn68 | apply xd68 | apply xa68)); refine blk_far ?_ NB172_174.1 _; (with_reducible repeat (first | apply xn68 | apply xd68 | apply xa68)); refine blk_far ?_ NB172_174.1 _; (with_reducible repeat (first | apply xn68 | apply xd68 | apply xa68)); refine blk_far ?_ NB172_174.1 _; (with_reducible repeat (first | apply xn68 | apply xd68 | apply xa68)); refine blk_far ?_ NB172_174.1 _; (with_reducible repeat (first | apply xn68 | apply xd68 | apply xa68)); exact BK172.1) hb); have n1_ := Aside0.mk (blk_below (g := gb174) (o := .cells #[.int .i64 ((rd_T118 l0_0 x3_1).f0), .int .i64 ((rd_T118 l0_0 x3_1).f1), .int .i64 ((rd_T118 l0_0 x3_1).f2), .int .i64 ((rd_T118 l0_0 x3_1).f3)] 118 (0, 0)) (by (with_reducible repeat (first | apply xn68 | apply xd68 | apply xa68)); refine blk_put (cs := #[.int .i64 ((rd_T118 l0_0 x3_1).f0), .int .i64 ((rd_T118 l0_0 x3_1).f1), .int .i64 ((rd_T118 l0_0 x3_1).f2), .int .i64 0]) ?_ 3 _ rfl; (with_reducible repeat (first | apply xn68 | apply xd68 | apply xa68)); refine blk_put (cs := #[.int .i64 ((rd_T118 l0_0 x3_1).f0), .int .i64 ((rd_T118 l0_0 x3_1).f1), .int .i64 0, .int .i64 0]) ?_ 2 _ rfl; (with_reducible repeat (first | apply xn68 | apply xd68 | apply xa68)); refine blk_put (cs := #[.int .i64 ((rd_T118 l0_0 x3_1).f0), .int .i64 0, .int .i64 0, .int .i64 0]) ?_ 1 _ rfl; (with_reducible repeat (first | apply xn68 | apply xd68 | apply xa68)); refine blk_put (cs := #[.int .i64 0, .int .i64 0, .int .i64 0, .int .i64 0]) ?_ 0 _ rfl; (with_reducible repeat (first | apply xn68 | apply xd68 | apply xa68)); exact BK174.1) hb); have n2_ := Aside0.mk (below_step (by repeat (first | (with_reducible first | exact HB.1 | apply below_alloc | apply pw_below_drewN | apply below_drew1 | refine below_set ?_ GE172.1 | refine below_set ?_ GE174.1) | exact HB.1)) hb); clear BK172; clear BK174; clear HB; have BK172 := n0_; have BK174 := n1_; have HB := n2_; clear n0_ n1_ n2_; (try clear hb); (try clear hb2); (try clear hk); (try clear hi); have hcz26_0 : w25.cell? ⟨gb172, 0, none⟩ = some (.slice (some ad173) l0_0.length c0_0) := (blk_cell BK172.1 0).trans rfl; have hfz26_0 := blk_frozen BK172.1 0; have hcz27_0 : w25.cell? ⟨gb174, 0, none⟩ = some (.int .i64 ((rd_T118 l0_0 x3_1).f0)) := (blk_cell BK174.1 0).trans rfl; have hcz27_1 : w25.cell? ⟨gb174, 1, none⟩ = some (.int .i64 ((rd_T118 l0_0 x3_1).f1)) := (blk_cell BK174.1 1).trans rfl; have hcz27_2 : w25.cell? ⟨gb174, 2, none⟩ = some (.int .i64 ((rd_T118 l0_0 x3_1).f2)) := (blk_cell BK174.1 2).trans rfl; have hcz27_3 : w25.cell? ⟨gb174, 3, none⟩ = some (.int .i64 ((rd_T118 l0_0 x3_1).f3)) := (blk_cell BK174.1 3).trans rfl; have hfz27_0 := blk_frozen BK174.1 0; have hfz27_1 := blk_frozen BK174.1 1; have hfz27_2 := blk_frozen BK174.1 2; have hfz27_3 := blk_frozen BK174.1 3) | (go_at_call 117; (with_reducible refine (vendmeterref_tagged.calls k1 _ _ l0_0 ((rd_T118 l0_0 x3_1).f0) ((rd_T118 l0_0 x3_1).f1) ((rd_T118 l0_0 x3_1).f2) t176 _ ?side1 ?side2 A11.out).mono ?_); (case side1 => repeat (first | exact (Kd.C_below HR0_0.out HB.1) | (with_reducible refine Kd.C_alloc ?_ _) | (with_reducible refine Kd.C_drewN ?_ _) | (with_reducible refine Kd.C_drew ?_))); (case side2 => exact HC0_0.out); rintro e w28 ⟨rfl, hb⟩; have n0_ := Aside0.mk (blk_below (g := gb172) (o := .cells #[.slice (some ad173) l0_0.length c0_0] 43 (0, 0)) (by (with_reducible repeat (first | apply xn68 | apply xd68 | apply xa68)); exact BK172.1) hb); have n1_ := Aside0.mk (blk_below (g := gb174) (o := .cells #[.int .i64 ((rd_T118 l0_0 x3_1).f0), .int .i64 ((rd_T118 l0_0 x3_1).f1), .int .i64 ((rd_T118 l0_0 x3_1).f2), .int .i64 ((rd_T118 l0_0 x3_1).f3)] 118 (0, 0)) (by (with_reducible repeat (first | apply xn68 | apply xd68 | apply xa68)); exact BK174.1) hb); have n2_ := Aside0.mk (below_step (by repeat (first | (with_reducible first | exact HB.1 | apply below_alloc | apply pw_below_drewN | apply below_drew1 | refine below_set ?_ GE172.1 | refine below_set ?_ GE174.1) | exact HB.1)) hb); clear BK172; clear BK174; clear HB; have BK172 := n0_; have BK174 := n1_; have HB := n2_; clear n0_ n1_ n2_; (try clear hb); (try clear hb2); (try clear hk); (try clear hi)))
                go_ret
                exact ⟨by first | rfl | (simp [errW_none, errW_some] <;> rfl) | (simp [*, errW_none, errW_some] <;> rfl), by repeat (first | (with_reducible first | exact HB.1 | apply below_alloc | apply pw_below_drewN | apply below_drew1 | refine below_set ?_ GE172.1 | refine below_set ?_ GE174.1) | exact HB.1)⟩
            · replace c10 := Bool.eq_false_iff.mpr c10
              subst c10
              have H1 : (some false) = some r := by rw [if_neg (show ¬ (false = true) by decide)] at H; exact H
              clear H
              have H := H1
              clear H1
              obtain rfl := Option.some.inj H
              have hcz29_0 : wr.cell? ⟨gb172, 0, none⟩ = some (.slice A0_0 l0_0.length c0_0) := (blk_cell BK172.1 0).trans rfl
              have hfz29_0 := blk_frozen BK172.1 0
              have p173 : 0 ≤ (x3_1 : Int) := of_decide_eq_true (by first | (with_reducible assumption) | assumption)
              have q173 : x3_1 < (l0_0.length : Int) := of_decide_eq_true (by first | (with_reducible assumption) | assumption)
              obtain ⟨ad173, e173, hx173_0, hx173_1, hx173_2, hx173_3⟩ := at_T118 HR0_0.out x3_1 p173 q173
              cases e173
              replace hx173_0 := (HB.1.cell (World.block_lt_of_cell? w _ hx173_0)).trans hx173_0
              replace hx173_1 := (HB.1.cell (World.block_lt_of_cell? w _ hx173_1)).trans hx173_1
              replace hx173_2 := (HB.1.cell (World.block_lt_of_cell? w _ hx173_2)).trans hx173_2
              replace hx173_3 := (HB.1.cell (World.block_lt_of_cell? w _ hx173_3)).trans hx173_3
              replace p173 := eq_true p173
              replace q173 := eq_true q173
              go_wp2_with (first | ((with_reducible refine gate_dst (N := 4) rfl ?_); refine box_event ?hg (N := 4) ?hd (cs := #[.int .i64 0, .int .i64 0, .int .i64 0, .int .i64 0]) (t := 118) ?hr ?_; (case hd => rfl); (case hg => rfl); (case hr => first | (go_simp; done) | (go_simp; rfl)); intro gb174 hg w30 hbox hb; have n0_ := Aside0.mk (blk_below (g := gb172) (o := .cells #[.slice (some ad173) l0_0.length c0_0] 43 (0, 0)) (by (with_reducible repeat (first | apply xn68 | apply xd68 | apply xa68)); exact BK172.1) hb); have n1_ := Aside0.mk (below_step (by repeat (first | (with_reducible first | exact HB.1 | apply below_alloc | apply pw_below_drewN | apply below_drew1 | refine below_set ?_ GE172.1) | exact HB.1)) hb); have n2_ := Aside0.mk (hbox); have n3_ := Aside0.mk ((by rw [hg]; exact (below_size (by repeat (first | (with_reducible first | exact HB.1 | apply below_alloc | apply pw_below_drewN | apply below_drew1 | refine below_set ?_ GE172.1) | exact HB.1))) : w.heap.size ≤ gb174)); have n4_ := Aside0.mk ((by rw [hg]; exact (below_size (by repeat (first | (with_reducible first | exact HB.1 | apply below_alloc | apply pw_below_drewN | apply below_drew1 | refine below_set ?_ GE172.1) | exact HB.1))) : w.heap.size ≤ gb174)); have n5_ := Aside0.mk ((by rw [hg]; exact Nat.ne_of_lt (blk_lt (g := gb172) (o := .cells #[.slice (some ad173) l0_0.length c0_0] 43 (0, 0)) (by (with_reducible repeat (first | apply xn68 | apply xd68 | apply xa68)); exact BK172.1)) : gb172 ≠ gb174)); have n6_ := Aside0.mk ((by rw [hg]; exact Nat.ne_of_gt (blk_lt (g := gb172) (o := .cells #[.slice (some ad173) l0_0.length c0_0] 43 (0, 0)) (by (with_reducible repeat (first | apply xn68 | apply xd68 | apply xa68)); exact BK172.1)) : gb174 ≠ gb172)); clear BK172; clear HB; have BK172 := n0_; have HB := n1_; have BK174 := n2_; have GW174 := n3_; have GE174 := n4_; have NB172_174 := n5_; have NB174_172 := n6_; clear n0_ n1_ n2_ n3_ n4_ n5_ n6_; clear hb hbox hg; have hnb31 := NB174_172.1; have hnc31 := NB172_174.1; have hcz32_0 : w30.cell? ⟨gb174, 0, none⟩ = some (.int .i64 0) := (blk_cell BK174.1 0).trans rfl; have hcz32_1 : w30.cell? ⟨gb174, 1, none⟩ = some (.int .i64 0) := (blk_cell BK174.1 1).trans rfl; have hcz32_2 : w30.cell? ⟨gb174, 2, none⟩ = some (.int .i64 0) := (blk_cell BK174.1 2).trans rfl; have hcz32_3 : w30.cell? ⟨gb174, 3, none⟩ = some (.int .i64 0) := (blk_cell BK174.1 3).trans rfl; have hfz32_0 := blk_frozen BK174.1 0; have hfz32_1 := blk_frozen BK174.1 1; have hfz32_2 := blk_frozen BK174.1 2; have hfz32_3 := blk_frozen BK174.1 3) | ((with_reducible refine gate_callee (f := 116) rfl ?_); refine goesL_ (some 22) rfl rfl Try.func116 (by kernel_rfl) rfl #[.agg #[.int .i64 ((rd_T118 l0_0 x3_1).f0), .int .i64 ((rd_T118 l0_0 x3_1).f1), .int .i64 ((rd_T118 l0_0 x3_1).f2), .int .i64 ((rd_T118 l0_0 x3_1).f3)]] rfl (by (try simp only [List.map_toArray, List.map_cons, List.map_nil]); first | done | rfl | (simp only [List.length_drop, List.length_take]; rfl)) ?_; (with_reducible refine (vendmeterref_PairMay.calls ((rd_T118 l0_0 x3_1).f0) ((rd_T118 l0_0 x3_1).f1) ((rd_T118 l0_0 x3_1).f2) ((rd_T118 l0_0 x3_1).f3) false _ A9.out).mono ?_); rintro e w33 ⟨rfl, hb⟩; refine ⟨_, rfl, ?_⟩; have n0_ := Aside0.mk (blk_below (g := gb172) (o := .cells #[.slice (some ad173) l0_0.length c0_0] 43 (0, 0)) (by (with_reducible repeat (first | apply xn68 | apply xd68 | apply xa68)); refine blk_far ?_ NB172_174.1 _; (with_reducible repeat (first | apply xn68 | apply xd68 | apply xa68)); refine blk_far ?_ NB172_174.1 _; (with_reducible repeat (first | apply xn68 | apply xd68 | apply xa68)); refine blk_far ?_ NB172_174.1 _; (with_reducible repeat (first | apply xn68 | apply xd68 | apply xa68)); refine blk_far ?_ NB172_174.1 _; (with_reducible repeat (first | apply xn68 | apply xd68 | apply xa68)); exact BK172.1) hb); have n1_ := Aside0.mk (blk_below (g := gb174) (o := .cells #[.int .i64 ((rd_T118 l0_0 x3_1).f0), .int .i64 ((rd_T118 l0_0 x3_1).f1), .int .i64 ((rd_T118 l0_0 x3_1).f2), .int .i64 ((rd_T118 l0_0 x3_1).f3)] 118 (0, 0)) (by (with_reducible repeat (first | apply xn68 | apply xd68 | apply xa68)); refine blk_put (cs := #[.int .i64 ((rd_T118 l0_0 x3_1).f0), .int .i64 ((rd_T118 l0_0 x3_1).f1), .int .i64 ((rd_T118 l0_0 x3_1).f2), .int .i64 0]) ?_ 3 _ rfl; (with_reducible repeat (first | apply xn68 | apply xd68 | apply xa68)); refine blk_put (cs := #[.int .i64 ((rd_T118 l0_0 x3_1).f0), .int .i64 ((rd_T118 l0_0 x3_1).f1), .int .i64 0, .int .i64 0]) ?_ 2 _ rfl; (with_reducible repeat (first | apply xn68 | apply xd68 | apply xa68)); refine blk_put (cs := #[.int .i64 ((rd_T118 l0_0 x3_1).f0), .int .i64 0, .int .i64 0, .int .i64 0]) ?_ 1 _ rfl; (with_reducible repeat (first | apply xn68 | apply xd68 | apply xa68)); refine blk_put (cs := #[.int .i64 0, .int .i64 0, .int .i64 0, .int .i64 0]) ?_ 0 _ rfl; (with_reducible repeat (first | apply xn68 | apply xd68 | apply xa68)); exact BK174.1) hb); have n2_ := Aside0.mk (below_step (by repeat (first | (with_reducible first | exact HB.1 | apply below_alloc | apply pw_below_drewN | apply below_drew1 | refine below_set ?_ GE172.1 | refine below_set ?_ GE174.1) | exact HB.1)) hb); clear BK172; clear BK174; clear HB; have BK172 := n0_; have BK174 := n1_; have HB := n2_; clear n0_ n1_ n2_; (try clear hb); (try clear hb2); (try clear hk); (try clear hi)))
              go_ret
              exact ⟨by first | rfl | (simp [errW_none, errW_some] <;> rfl) | (simp [*, errW_none, errW_some] <;> rfl), by repeat (first | (with_reducible first | exact HB.1 | apply below_alloc | apply pw_below_drewN | apply below_drew1 | refine below_set ?_ GE172.1 | refine below_set ?_ GE174.1) | exact HB.1)⟩
          · rw [if_neg c8] at H
            exact absurd H (by simp)
        · rw [if_neg c7] at H
          have c7b0 : decide (x3_1 < (l0_0.length : Int)) = false := decide_eq_false c7
          clear c7
          obtain rfl := Option.some.inj H
          have hcz34_0 : wr.cell? ⟨gb172, 0, none⟩ = some (.slice A0_0 l0_0.length c0_0) := (blk_cell BK172.1 0).trans rfl
          have hfz34_0 := blk_frozen BK172.1 0
          go_wp2
          go_ret
          exact ⟨by first | rfl | (simp [errW_none, errW_some] <;> rfl) | (simp [*, errW_none, errW_some] <;> rfl), by repeat (first | (with_reducible first | exact HB.1 | apply below_alloc | apply pw_below_drewN | apply below_drew1 | refine below_set ?_ GE172.1) | exact HB.1)⟩

end Go.Proofs.Ythmmadniaakapaa.PMeterKeys
