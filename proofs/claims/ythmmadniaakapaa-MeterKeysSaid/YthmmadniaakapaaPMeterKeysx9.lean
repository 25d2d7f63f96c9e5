-- written by this session's program wip/xp/xprint.py (it drives the kit's print and adds to it)
import Derived.Test.YthmmadniaakapaaPMeterKeysx0
import Derived.Test.YthmmadniaakapaaPMeterKeysx7
namespace Go.Proofs.Ythmmadniaakapaa.PMeterKeys
open Go.RowKit Go.Proofs.YthmmadniaakapaaW.PrintWords Go.Proofs.YthmmadniaakapaaW.PrintLast Go.Proofs.YthmmadniaakapaaW.PrintMore
attribute [local go_sem] max2_int min2_int max_two min_two max_three min_three max_four min_four   -- for this text's walks alone
set_option linter.unusedVariables false
set_option linter.unusedSimpArgs false

/-! ### vendmeterref_TokenFault: function 118 -/
theorem xa118 {w : World} {g : Nat} {o : Obj} (h : w.heap[g]? = some o) (o' : Obj) : (w.alloc o').heap[g]? = some o := blk_alloc h o'
theorem xd118 {w : World} {g : Nat} {o : Obj} (h : w.heap[g]? = some o) : w.drew.heap[g]? = some o := blk_drew h
theorem xn118 {w : World} {g : Nat} {o : Obj} (h : w.heap[g]? = some o) (n : Nat) : (w.drewN n).heap[g]? = some o := blk_drewN h n
mutual
def vendmeterref_TokenFault.j0 : Nat → Bool → Int → Int → Int → Int → Option (Int)
  | 0, _, _, _, _, _ => none
  | k + 1, x16, x178000, x178001, x178002, x178003 => if x16 = true then (some 2) else (if x178000 = 0 then ((vendmeterref_In.f x178002 1 2097151).bind fun t181 => (vendmeterref_TokenFault.j1 k (!t181) x178000 x178001 x178002 x178003)) else (vendmeterref_TokenFault.j1 k false x178000 x178001 x178002 x178003))
def vendmeterref_TokenFault.j1 : Nat → Bool → Int → Int → Int → Int → Option (Int)
  | 0, _, _, _, _, _ => none
  | k + 1, x25, x178000, x178001, x178002, x178003 => if x25 = true then (some 2) else (if x178000 = 2 then ((vendmeterref_In.f x178002 1 15).bind fun t182 => (vendmeterref_TokenFault.j2 k (!t182) x178000 x178001 x178002 x178003)) else (vendmeterref_TokenFault.j2 k false x178000 x178001 x178002 x178003))
def vendmeterref_TokenFault.j2 : Nat → Bool → Int → Int → Int → Int → Option (Int)
  | 0, _, _, _, _, _ => none
  | k + 1, x34, x178000, x178001, x178002, x178003 => if x34 = true then (some 2) else (if x178000 = 1 then (if x178002 = 0 then (some 0) else (some 2)) else (if x178000 = 3 then (if x178002 = 0 then (some 0) else (some 2)) else (some 0)))
end
def vendmeterref_TokenFault.f (k : Nat) (a0_0 : Int) (a0_1 : Int) (a0_2 : Int) (a0_3 : Int) : Option (Int) := (vendmeterref_In.f a0_0 0 3).bind fun t178 => (if t178 = true then ((vendmeterref_In.f a0_1 1 1048575).bind fun t179 => (if t179 = true then ((vendmeterref_In.f a0_3 0 65535).bind fun t180 => (vendmeterref_TokenFault.j0 k (!t180) a0_0 a0_1 a0_2 a0_3)) else (vendmeterref_TokenFault.j0 k true a0_0 a0_1 a0_2 a0_3))) else (some 9))
theorem vendmeterref_TokenFault.mono_l : ∀ k, (∀ y0 y1 y2 y3 y4, LeO (vendmeterref_TokenFault.j0 k y0 y1 y2 y3 y4) (vendmeterref_TokenFault.j0 (k + 1) y0 y1 y2 y3 y4)) ∧ (∀ y0 y1 y2 y3 y4, LeO (vendmeterref_TokenFault.j1 k y0 y1 y2 y3 y4) (vendmeterref_TokenFault.j1 (k + 1) y0 y1 y2 y3 y4)) ∧ (∀ y0 y1 y2 y3 y4, LeO (vendmeterref_TokenFault.j2 k y0 y1 y2 y3 y4) (vendmeterref_TokenFault.j2 (k + 1) y0 y1 y2 y3 y4))
  | 0 => ⟨fun _ _ _ _ _ r h => by simp [vendmeterref_TokenFault.j0] at h, fun _ _ _ _ _ r h => by simp [vendmeterref_TokenFault.j1] at h, fun _ _ _ _ _ r h => by simp [vendmeterref_TokenFault.j2] at h⟩
  | k + 1 => by
    obtain ⟨ih0, ih1, ih2⟩ := vendmeterref_TokenFault.mono_l k
    refine ⟨?_, ?_, ?_⟩
    · intro y0 y1 y2 y3 y4
      unfold vendmeterref_TokenFault.j0
      repeat' first
      | (with_reducible exact ih0 _ _ _ _ _)
      | (with_reducible exact ih1 _ _ _ _ _)
      | (with_reducible exact ih2 _ _ _ _ _)
      | (with_reducible exact LeO.refl _)
      | (with_reducible exact LeO.none _)
      | (with_reducible refine LeO.ite ?_ ?_)
      | (with_reducible refine LeO.bind ?_ (fun _ => ?_))
      | exact ih0 _ _ _ _ _
      | exact ih1 _ _ _ _ _
      | exact ih2 _ _ _ _ _
      | exact LeO.none _
      | refine LeO.ite ?_ ?_
      | refine LeO.bind ?_ (fun _ => ?_)
    · intro y0 y1 y2 y3 y4
      unfold vendmeterref_TokenFault.j1
      repeat' first
      | (with_reducible exact ih0 _ _ _ _ _)
      | (with_reducible exact ih1 _ _ _ _ _)
      | (with_reducible exact ih2 _ _ _ _ _)
      | (with_reducible exact LeO.refl _)
      | (with_reducible exact LeO.none _)
      | (with_reducible refine LeO.ite ?_ ?_)
      | (with_reducible refine LeO.bind ?_ (fun _ => ?_))
      | exact ih0 _ _ _ _ _
      | exact ih1 _ _ _ _ _
      | exact ih2 _ _ _ _ _
      | exact LeO.none _
      | refine LeO.ite ?_ ?_
      | refine LeO.bind ?_ (fun _ => ?_)
    · intro y0 y1 y2 y3 y4
      unfold vendmeterref_TokenFault.j2
      repeat' first
      | (with_reducible exact ih0 _ _ _ _ _)
      | (with_reducible exact ih1 _ _ _ _ _)
      | (with_reducible exact ih2 _ _ _ _ _)
      | (with_reducible exact LeO.refl _)
      | (with_reducible exact LeO.none _)
      | (with_reducible refine LeO.ite ?_ ?_)
      | (with_reducible refine LeO.bind ?_ (fun _ => ?_))
      | exact ih0 _ _ _ _ _
      | exact ih1 _ _ _ _ _
      | exact ih2 _ _ _ _ _
      | exact LeO.none _
      | refine LeO.ite ?_ ?_
      | refine LeO.bind ?_ (fun _ => ?_)
theorem vendmeterref_TokenFault.mono : ∀ a0 a1 a2 a3 k, LeO (vendmeterref_TokenFault.f k a0 a1 a2 a3) (vendmeterref_TokenFault.f (k + 1) a0 a1 a2 a3) := by
  intro a0 a1 a2 a3 k
  obtain ⟨ih0, ih1, ih2⟩ := vendmeterref_TokenFault.mono_l k
  unfold vendmeterref_TokenFault.f
  repeat' first
      | (with_reducible exact ih0 _ _ _ _ _)
      | (with_reducible exact ih1 _ _ _ _ _)
      | (with_reducible exact ih2 _ _ _ _ _)
      | (with_reducible exact LeO.refl _)
      | (with_reducible exact LeO.none _)
      | (with_reducible refine LeO.ite ?_ ?_)
      | (with_reducible refine LeO.bind ?_ (fun _ => ?_))
      | exact ih0 _ _ _ _ _
      | exact ih1 _ _ _ _ _
      | exact ih2 _ _ _ _ _
      | exact LeO.none _
      | refine LeO.ite ?_ ?_
      | refine LeO.bind ?_ (fun _ => ?_)
set_option maxHeartbeats 8000000 in
set_option maxRecDepth 100000 in
theorem vendmeterref_TokenFault.calls (k : Nat) (a0_0 : Int) (a0_1 : Int) (a0_2 : Int) (a0_3 : Int) (r : Int) (w : World) (h : vendmeterref_TokenFault.f k a0_0 a0_1 a0_2 a0_3 = some r) :
    Calls Try.prog 118 #[.agg #[.int .i64 a0_0, .int .i64 a0_1, .int .i64 a0_2, .int .i64 a0_3]] w fun e w' => e = .returned (.int .i64 r) ∧ Below w.heap.size w w' := by
  have hu45 := Try.underlying45
  have HB := Aside0.mk (Below.refl w.heap.size w)
  have H : ((vendmeterref_In.f a0_0 0 3).bind fun t178 => (if t178 = true then ((vendmeterref_In.f a0_1 1 1048575).bind fun t179 => (if t179 = true then ((vendmeterref_In.f a0_3 0 65535).bind fun t180 => (vendmeterref_TokenFault.j0 k (!t180) a0_0 a0_1 a0_2 a0_3)) else (vendmeterref_TokenFault.j0 k true a0_0 a0_1 a0_2 a0_3))) else (some 9))) = some r := h
  clear h
  replace H := Option.bind_eq_some_iff.mp H
  obtain ⟨t178, A20, H⟩ := H
  replace H : (if t178 = true then ((vendmeterref_In.f a0_1 1 1048575).bind fun t179 => (if t179 = true then ((vendmeterref_In.f a0_3 0 65535).bind fun t180 => (vendmeterref_TokenFault.j0 k (!t180) a0_0 a0_1 a0_2 a0_3)) else (vendmeterref_TokenFault.j0 k true a0_0 a0_1 a0_2 a0_3))) else (some 9)) = some r := H
  have A2 := Aside0.mk A20
  clear A20
  by_cases c3 : t178 = true
  · subst c3
    have H1 : ((vendmeterref_In.f a0_1 1 1048575).bind fun t179 => (if t179 = true then ((vendmeterref_In.f a0_3 0 65535).bind fun t180 => (vendmeterref_TokenFault.j0 k (!t180) a0_0 a0_1 a0_2 a0_3)) else (vendmeterref_TokenFault.j0 k true a0_0 a0_1 a0_2 a0_3))) = some r := by rw [if_pos rfl] at H; exact H
    clear H
    have H := H1
    clear H1
    have HC4 := Aside0.mk H
    clear H
    go_enter Try.func118, Try.ntmps118
    go_upto_region 3 with (first | ((with_reducible refine gate_dst (N := 1) rfl ?_); refine box_event ?hg (N := 1) ?hd (cs := #[.int .i64 a0_0, .int .i64 a0_1, .int .i64 a0_2, .int .i64 a0_3]) (t := 45) ?hr ?_; (case hd => rfl); (case hg => rfl); (case hr => first | (go_simp; done) | (go_simp; rfl)); intro gb177 hg w5 hbox hb; have n0_ := Aside0.mk (below_step (by repeat (first | (with_reducible first | exact HB.1 | apply below_alloc | apply pw_below_drewN | apply below_drew1) | exact HB.1)) hb); have n1_ := Aside0.mk (hbox); have n2_ := Aside0.mk ((by rw [hg]; exact (below_size (by repeat (first | (with_reducible first | exact HB.1 | apply below_alloc | apply pw_below_drewN | apply below_drew1) | exact HB.1))) : w.heap.size ≤ gb177)); have n3_ := Aside0.mk ((by rw [hg]; exact (below_size (by repeat (first | (with_reducible first | exact HB.1 | apply below_alloc | apply pw_below_drewN | apply below_drew1) | exact HB.1))) : w.heap.size ≤ gb177)); clear HB; have HB := n0_; have BK177 := n1_; have GW177 := n2_; have GE177 := n3_; clear n0_ n1_ n2_ n3_; clear hb hbox hg; have hcz6_0 : w5.cell? ⟨gb177, 0, none⟩ = some (.int .i64 a0_0) := (blk_cell BK177.1 0).trans rfl; have hcz6_1 : w5.cell? ⟨gb177, 1, none⟩ = some (.int .i64 a0_1) := (blk_cell BK177.1 1).trans rfl; have hcz6_2 : w5.cell? ⟨gb177, 2, none⟩ = some (.int .i64 a0_2) := (blk_cell BK177.1 2).trans rfl; have hcz6_3 : w5.cell? ⟨gb177, 3, none⟩ = some (.int .i64 a0_3) := (blk_cell BK177.1 3).trans rfl; have hfz6_0 := blk_frozen BK177.1 0; have hfz6_1 := blk_frozen BK177.1 1; have hfz6_2 := blk_frozen BK177.1 2; have hfz6_3 := blk_frozen BK177.1 3) | ((with_reducible refine gate_callee (f := 54) rfl ?_); refine goesL_ (some 5) rfl rfl Try.func54 (by kernel_rfl) rfl #[.int .i64 a0_0, .int .i64 0, .int .i64 3] rfl (by (try simp only [List.map_toArray, List.map_cons, List.map_nil]); first | done | rfl | (simp only [List.length_drop, List.length_take]; rfl)) ?_; (with_reducible refine (vendmeterref_In.calls a0_0 0 3 true _ A2.out).mono ?_); rintro e w' ⟨rfl, ⟨nd, rfl⟩⟩; refine ⟨_, rfl, ?_⟩))
    (try simp only [Act.put, List.setIfInBounds_toArray, List.set_cons_zero, List.set_cons_succ])
    go_cut [16] (fun v16 wc => ∃ (kq : Nat) (x16_3 : Bool), v16 = .bool x16_3 ∧ Aside0 (vendmeterref_TokenFault.j0 kq x16_3 a0_0 a0_1 a0_2 a0_3 = some r) ∧ Aside0 (kq ≤ k) ∧ Aside0 (wc.heap[gb177]? = some (.cells #[.int .i64 a0_0, .int .i64 a0_1, .int .i64 a0_2, .int .i64 a0_3] 45 (0, 0))) ∧ Aside0 (Below w.heap.size w wc))
    case first =>
      have H := HC4.out
      clear HC4
      replace H := Option.bind_eq_some_iff.mp H
      obtain ⟨t179, A70, H⟩ := H
      replace H : (if t179 = true then ((vendmeterref_In.f a0_3 0 65535).bind fun t180 => (vendmeterref_TokenFault.j0 k (!t180) a0_0 a0_1 a0_2 a0_3)) else (vendmeterref_TokenFault.j0 k true a0_0 a0_1 a0_2 a0_3)) = some r := H
      have A7 := Aside0.mk A70
      clear A70
      by_cases c8 : t179 = true
      · subst c8
        have H1 : ((vendmeterref_In.f a0_3 0 65535).bind fun t180 => (vendmeterref_TokenFault.j0 k (!t180) a0_0 a0_1 a0_2 a0_3)) = some r := by rw [if_pos rfl] at H; exact H
        clear H
        have H := H1
        clear H1
        replace H := Option.bind_eq_some_iff.mp H
        obtain ⟨t180, A90, H⟩ := H
        replace H : (vendmeterref_TokenFault.j0 k (!t180) a0_0 a0_1 a0_2 a0_3) = some r := H
        have A9 := Aside0.mk A90
        clear A90
        have H' := Aside0.mk H
        clear H
        have hcz10_0 : w5.cell? ⟨gb177, 0, none⟩ = some (.int .i64 a0_0) := (blk_cell BK177.1 0).trans rfl
        have hcz10_1 : w5.cell? ⟨gb177, 1, none⟩ = some (.int .i64 a0_1) := (blk_cell BK177.1 1).trans rfl
        have hcz10_2 : w5.cell? ⟨gb177, 2, none⟩ = some (.int .i64 a0_2) := (blk_cell BK177.1 2).trans rfl
        have hcz10_3 : w5.cell? ⟨gb177, 3, none⟩ = some (.int .i64 a0_3) := (blk_cell BK177.1 3).trans rfl
        have hfz10_0 := blk_frozen BK177.1 0
        have hfz10_1 := blk_frozen BK177.1 1
        have hfz10_2 := blk_frozen BK177.1 2
        have hfz10_3 := blk_frozen BK177.1 3
        go_wp2_with (first | ((with_reducible refine gate_callee (f := 54) rfl ?_); refine goesL_ (some 9) rfl rfl Try.func54 (by kernel_rfl) rfl #[.int .i64 a0_1, .int .i64 1, .int .i64 1048575] rfl (by (try simp only [List.map_toArray, List.map_cons, List.map_nil]); first | done | rfl | (simp only [List.length_drop, List.length_take]; rfl)) ?_; (with_reducible refine (vendmeterref_In.calls a0_1 1 1048575 true _ A7.out).mono ?_); rintro e w' ⟨rfl, ⟨nd, rfl⟩⟩; refine ⟨_, rfl, ?_⟩) | (go_at_call 54; (with_reducible refine (vendmeterref_In.calls a0_3 0 65535 t180 _ A9.out).mono ?_); rintro e w' ⟨rfl, ⟨nd, rfl⟩⟩))
        go_meet
        case rel => exact ⟨_, (!t180), (by first | rfl | (simp; done) | (simp [*]; done)), H', ⟨by first | omega | exact Nat.le_refl _⟩, ⟨by (with_reducible repeat (first | apply xn118 | apply xd118 | apply xa118)); exact BK177.1⟩, ⟨by repeat (first | (with_reducible first | exact HB.1 | apply below_alloc | apply pw_below_drewN | apply below_drew1 | refine below_set ?_ GE177.1) | exact HB.1)⟩⟩
      · replace c8 := Bool.eq_false_iff.mpr c8
        subst c8
        have H1 : (vendmeterref_TokenFault.j0 k true a0_0 a0_1 a0_2 a0_3) = some r := by rw [if_neg (show ¬ (false = true) by decide)] at H; exact H
        clear H
        have H := H1
        clear H1
        have H' := Aside0.mk H
        clear H
        have hcz11_0 : w5.cell? ⟨gb177, 0, none⟩ = some (.int .i64 a0_0) := (blk_cell BK177.1 0).trans rfl
        have hcz11_1 : w5.cell? ⟨gb177, 1, none⟩ = some (.int .i64 a0_1) := (blk_cell BK177.1 1).trans rfl
        have hcz11_2 : w5.cell? ⟨gb177, 2, none⟩ = some (.int .i64 a0_2) := (blk_cell BK177.1 2).trans rfl
        have hcz11_3 : w5.cell? ⟨gb177, 3, none⟩ = some (.int .i64 a0_3) := (blk_cell BK177.1 3).trans rfl
        have hfz11_0 := blk_frozen BK177.1 0
        have hfz11_1 := blk_frozen BK177.1 1
        have hfz11_2 := blk_frozen BK177.1 2
        have hfz11_3 := blk_frozen BK177.1 3
        go_wp2_with (first | ((with_reducible refine gate_callee (f := 54) rfl ?_); refine goesL_ (some 9) rfl rfl Try.func54 (by kernel_rfl) rfl #[.int .i64 a0_1, .int .i64 1, .int .i64 1048575] rfl (by (try simp only [List.map_toArray, List.map_cons, List.map_nil]); first | done | rfl | (simp only [List.length_drop, List.length_take]; rfl)) ?_; (with_reducible refine (vendmeterref_In.calls a0_1 1 1048575 false _ A7.out).mono ?_); rintro e w' ⟨rfl, ⟨nd, rfl⟩⟩; refine ⟨_, rfl, ?_⟩))
        go_meet
        case rel => exact ⟨_, (true), (by first | rfl | (simp; done) | (simp [*]; done)), H', ⟨by first | omega | exact Nat.le_refl _⟩, ⟨by (with_reducible repeat (first | apply xn118 | apply xd118 | apply xa118)); exact BK177.1⟩, ⟨by repeat (first | (with_reducible first | exact HB.1 | apply below_alloc | apply pw_below_drewN | apply below_drew1 | refine below_set ?_ GE177.1) | exact HB.1)⟩⟩
    case rest =>
      clear HC4
      try clear c1
      try clear p2
      try clear c3
      try clear c5
      try clear c8
      try clear c11
      try clear hcz10_0
      try clear hcz10_1
      try clear hcz10_2
      try clear hcz10_3
      try clear hcz11_0
      try clear hcz11_1
      try clear hcz11_2
      try clear hcz11_3
      try clear hcz6_0
      try clear hcz6_1
      try clear hcz6_2
      try clear hcz6_3
      try clear hfz10_0
      try clear hfz10_1
      try clear hfz10_2
      try clear hfz10_3
      try clear hfz11_0
      try clear hfz11_1
      try clear hfz11_2
      try clear hfz11_3
      try clear hfz6_0
      try clear hfz6_1
      try clear hfz6_2
      try clear hfz6_3
      obtain ⟨kq, x16_3, rfl, HA, HJ3, BK177, HB⟩ := hcut
      cases kq with
      | zero => exact absurd HA.out (by simp [vendmeterref_TokenFault.j0])
      | succ kj3 =>
        have H := HA.out
        clear HA
        simp only [vendmeterref_TokenFault.j0] at H
        by_cases c12 : x16_3 = true
        · subst c12
          have H1 : (some 2) = some r := by rw [if_pos rfl] at H; exact H
          clear H
          have H := H1
          clear H1
          obtain rfl := Option.some.inj H
          go_wp2
          go_ret
          exact ⟨by first | rfl | (simp [errW_none, errW_some] <;> rfl) | (simp [*, errW_none, errW_some] <;> rfl), by repeat (first | (with_reducible first | exact HB.1 | apply below_alloc | apply pw_below_drewN | apply below_drew1 | refine below_set ?_ GE177.1) | exact HB.1)⟩
        · replace c12 := Bool.eq_false_iff.mpr c12
          subst c12
          have H1 : (if a0_0 = 0 then ((vendmeterref_In.f a0_2 1 2097151).bind fun t181 => (vendmeterref_TokenFault.j1 kj3 (!t181) a0_0 a0_1 a0_2 a0_3)) else (vendmeterref_TokenFault.j1 kj3 false a0_0 a0_1 a0_2 a0_3)) = some r := by rw [if_neg (show ¬ (false = true) by decide)] at H; exact H
          clear H
          have H := H1
          clear H1
          have HC13 := Aside0.mk H
          clear H
          go_upto_region 5 with (fail)
          go_cut [25] (fun v25 wc => ∃ (kq : Nat) (x25_12 : Bool), v25 = .bool x25_12 ∧ Aside0 (vendmeterref_TokenFault.j1 kq x25_12 a0_0 a0_1 a0_2 a0_3 = some r) ∧ Aside0 (kq ≤ kj3) ∧ Aside0 (wc.heap[gb177]? = some (.cells #[.int .i64 a0_0, .int .i64 a0_1, .int .i64 a0_2, .int .i64 a0_3] 45 (0, 0))) ∧ Aside0 (Below w.heap.size w wc))
          case first =>
            have H := HC13.out
            clear HC13
            by_cases c14 : a0_0 = 0
            · rw [if_pos c14] at H
              have c14b0 : (a0_0 == 0) = true := beq_iff_eq.mpr c14
              have c14b1 : (a0_0 != 0) = false := bne_eq_false_iff_eq.mpr c14
              clear c14
              (first | rw [c14b0] | (simp only [i64_w, i32_w]; rw [c14b0]) | skip)
              replace H := Option.bind_eq_some_iff.mp H
              obtain ⟨t181, A150, H⟩ := H
              replace H : (vendmeterref_TokenFault.j1 kj3 (!t181) a0_0 a0_1 a0_2 a0_3) = some r := H
              have A15 := Aside0.mk A150
              clear A150
              have H' := Aside0.mk H
              clear H
              have hcz16_0 : wc.cell? ⟨gb177, 0, none⟩ = some (.int .i64 a0_0) := (blk_cell BK177.1 0).trans rfl
              have hcz16_1 : wc.cell? ⟨gb177, 1, none⟩ = some (.int .i64 a0_1) := (blk_cell BK177.1 1).trans rfl
              have hcz16_2 : wc.cell? ⟨gb177, 2, none⟩ = some (.int .i64 a0_2) := (blk_cell BK177.1 2).trans rfl
              have hcz16_3 : wc.cell? ⟨gb177, 3, none⟩ = some (.int .i64 a0_3) := (blk_cell BK177.1 3).trans rfl
              have hfz16_0 := blk_frozen BK177.1 0
              have hfz16_1 := blk_frozen BK177.1 1
              have hfz16_2 := blk_frozen BK177.1 2
              have hfz16_3 := blk_frozen BK177.1 3
              go_wp2_with (first | (go_at_call 54; (with_reducible refine (vendmeterref_In.calls a0_2 1 2097151 t181 _ A15.out).mono ?_); rintro e w' ⟨rfl, ⟨nd, rfl⟩⟩))
              go_meet
              case rel => exact ⟨_, (!t181), (by first | rfl | (simp; done) | (simp [*]; done)), H', ⟨by have := HJ3.out; first | omega | exact Nat.le_refl _⟩, ⟨by (with_reducible repeat (first | apply xn118 | apply xd118 | apply xa118)); exact BK177.1⟩, ⟨by repeat (first | (with_reducible first | exact HB.1 | apply below_alloc | apply pw_below_drewN | apply below_drew1 | refine below_set ?_ GE177.1) | exact HB.1)⟩⟩
            · rw [if_neg c14] at H
              have c14b0 : (a0_0 == 0) = false := beq_eq_false_iff_ne.mpr c14
              have c14b1 : (a0_0 != 0) = true := bne_iff_ne.mpr c14
              (first | rw [c14b0] | (simp only [i64_w, i32_w]; rw [c14b0]) | skip)
              have H' := Aside0.mk H
              clear H
              have hcz17_0 : wc.cell? ⟨gb177, 0, none⟩ = some (.int .i64 a0_0) := (blk_cell BK177.1 0).trans rfl
              have hcz17_1 : wc.cell? ⟨gb177, 1, none⟩ = some (.int .i64 a0_1) := (blk_cell BK177.1 1).trans rfl
              have hcz17_2 : wc.cell? ⟨gb177, 2, none⟩ = some (.int .i64 a0_2) := (blk_cell BK177.1 2).trans rfl
              have hcz17_3 : wc.cell? ⟨gb177, 3, none⟩ = some (.int .i64 a0_3) := (blk_cell BK177.1 3).trans rfl
              have hfz17_0 := blk_frozen BK177.1 0
              have hfz17_1 := blk_frozen BK177.1 1
              have hfz17_2 := blk_frozen BK177.1 2
              have hfz17_3 := blk_frozen BK177.1 3
              go_wp2
              go_meet
              case rel => exact ⟨_, (false), (by first | rfl | (simp; done) | (simp [*]; done)), H', ⟨by have := HJ3.out; first | omega | exact Nat.le_refl _⟩, ⟨by (with_reducible repeat (first | apply xn118 | apply xd118 | apply xa118)); exact BK177.1⟩, ⟨by repeat (first | (with_reducible first | exact HB.1 | apply below_alloc | apply pw_below_drewN | apply below_drew1 | refine below_set ?_ GE177.1) | exact HB.1)⟩⟩
          case rest =>
            clear HC13
            try clear c1
            try clear p2
            try clear c3
            try clear c5
            try clear c8
            try clear c11
            try clear c12
            try clear c14
            try clear c14b0
            try clear c14b1
            try clear hcz10_0
            try clear hcz10_1
            try clear hcz10_2
            try clear hcz10_3
            try clear hcz11_0
            try clear hcz11_1
            try clear hcz11_2
            try clear hcz11_3
            try clear hcz16_0
            try clear hcz16_1
            try clear hcz16_2
            try clear hcz16_3
            try clear hcz17_0
            try clear hcz17_1
            try clear hcz17_2
            try clear hcz17_3
            try clear hcz6_0
            try clear hcz6_1
            try clear hcz6_2
            try clear hcz6_3
            try clear hfz10_0
            try clear hfz10_1
            try clear hfz10_2
            try clear hfz10_3
            try clear hfz11_0
            try clear hfz11_1
            try clear hfz11_2
            try clear hfz11_3
            try clear hfz16_0
            try clear hfz16_1
            try clear hfz16_2
            try clear hfz16_3
            try clear hfz17_0
            try clear hfz17_1
            try clear hfz17_2
            try clear hfz17_3
            try clear hfz6_0
            try clear hfz6_1
            try clear hfz6_2
            try clear hfz6_3
            try clear p2
            obtain ⟨kq, x25_12, rfl, HA, HJ12, BK177, HB⟩ := hcut
            cases kq with
            | zero => exact absurd HA.out (by simp [vendmeterref_TokenFault.j1])
            | succ kj12 =>
              have H := HA.out
              clear HA
              simp only [vendmeterref_TokenFault.j1] at H
              by_cases c18 : x25_12 = true
              · subst c18
                have H1 : (some 2) = some r := by rw [if_pos rfl] at H; exact H
                clear H
                have H := H1
                clear H1
                obtain rfl := Option.some.inj H
                go_wp2
                go_ret
                exact ⟨by first | rfl | (simp [errW_none, errW_some] <;> rfl) | (simp [*, errW_none, errW_some] <;> rfl), by repeat (first | (with_reducible first | exact HB.1 | apply below_alloc | apply pw_below_drewN | apply below_drew1 | refine below_set ?_ GE177.1) | exact HB.1)⟩
              · replace c18 := Bool.eq_false_iff.mpr c18
                subst c18
                have H1 : (if a0_0 = 2 then ((vendmeterref_In.f a0_2 1 15).bind fun t182 => (vendmeterref_TokenFault.j2 kj12 (!t182) a0_0 a0_1 a0_2 a0_3)) else (vendmeterref_TokenFault.j2 kj12 false a0_0 a0_1 a0_2 a0_3)) = some r := by rw [if_neg (show ¬ (false = true) by decide)] at H; exact H
                clear H
                have H := H1
                clear H1
                have HC19 := Aside0.mk H
                clear H
                go_upto_region 7 with (fail)
                go_cut [34] (fun v34 wc => ∃ (kq : Nat) (x34_18 : Bool), v34 = .bool x34_18 ∧ Aside0 (vendmeterref_TokenFault.j2 kq x34_18 a0_0 a0_1 a0_2 a0_3 = some r) ∧ Aside0 (kq ≤ kj12) ∧ Aside0 (wc.heap[gb177]? = some (.cells #[.int .i64 a0_0, .int .i64 a0_1, .int .i64 a0_2, .int .i64 a0_3] 45 (0, 0))) ∧ Aside0 (Below w.heap.size w wc))
                case first =>
                  have H := HC19.out
                  clear HC19
                  by_cases c20 : a0_0 = 2
                  · rw [if_pos c20] at H
                    have c20b0 : (a0_0 == 2) = true := beq_iff_eq.mpr c20
                    have c20b1 : (a0_0 != 2) = false := bne_eq_false_iff_eq.mpr c20
                    clear c20
                    (first | rw [c20b0] | (simp only [i64_w, i32_w]; rw [c20b0]) | skip)
                    replace H := Option.bind_eq_some_iff.mp H
                    obtain ⟨t182, A210, H⟩ := H
                    replace H : (vendmeterref_TokenFault.j2 kj12 (!t182) a0_0 a0_1 a0_2 a0_3) = some r := H
                    have A21 := Aside0.mk A210
                    clear A210
                    have H' := Aside0.mk H
                    clear H
                    have hcz22_0 : wc.cell? ⟨gb177, 0, none⟩ = some (.int .i64 a0_0) := (blk_cell BK177.1 0).trans rfl
                    have hcz22_1 : wc.cell? ⟨gb177, 1, none⟩ = some (.int .i64 a0_1) := (blk_cell BK177.1 1).trans rfl
                    have hcz22_2 : wc.cell? ⟨gb177, 2, none⟩ = some (.int .i64 a0_2) := (blk_cell BK177.1 2).trans rfl
                    have hcz22_3 : wc.cell? ⟨gb177, 3, none⟩ = some (.int .i64 a0_3) := (blk_cell BK177.1 3).trans rfl
                    have hfz22_0 := blk_frozen BK177.1 0
                    have hfz22_1 := blk_frozen BK177.1 1
                    have hfz22_2 := blk_frozen BK177.1 2
                    have hfz22_3 := blk_frozen BK177.1 3
                    go_wp2_with (first | (go_at_call 54; (with_reducible refine (vendmeterref_In.calls a0_2 1 15 t182 _ A21.out).mono ?_); rintro e w' ⟨rfl, ⟨nd, rfl⟩⟩))
                    go_meet
                    case rel => exact ⟨_, (!t182), (by first | rfl | (simp; done) | (simp [*]; done)), H', ⟨by have := HJ3.out; have := HJ12.out; first | omega | exact Nat.le_refl _⟩, ⟨by (with_reducible repeat (first | apply xn118 | apply xd118 | apply xa118)); exact BK177.1⟩, ⟨by repeat (first | (with_reducible first | exact HB.1 | apply below_alloc | apply pw_below_drewN | apply below_drew1 | refine below_set ?_ GE177.1) | exact HB.1)⟩⟩
                  · rw [if_neg c20] at H
                    have c20b0 : (a0_0 == 2) = false := beq_eq_false_iff_ne.mpr c20
                    have c20b1 : (a0_0 != 2) = true := bne_iff_ne.mpr c20
                    (first | rw [c20b0] | (simp only [i64_w, i32_w]; rw [c20b0]) | skip)
                    have H' := Aside0.mk H
                    clear H
                    have hcz23_0 : wc.cell? ⟨gb177, 0, none⟩ = some (.int .i64 a0_0) := (blk_cell BK177.1 0).trans rfl
                    have hcz23_1 : wc.cell? ⟨gb177, 1, none⟩ = some (.int .i64 a0_1) := (blk_cell BK177.1 1).trans rfl
                    have hcz23_2 : wc.cell? ⟨gb177, 2, none⟩ = some (.int .i64 a0_2) := (blk_cell BK177.1 2).trans rfl
                    have hcz23_3 : wc.cell? ⟨gb177, 3, none⟩ = some (.int .i64 a0_3) := (blk_cell BK177.1 3).trans rfl
                    have hfz23_0 := blk_frozen BK177.1 0
                    have hfz23_1 := blk_frozen BK177.1 1
                    have hfz23_2 := blk_frozen BK177.1 2
                    have hfz23_3 := blk_frozen BK177.1 3
                    go_wp2
                    go_meet
                    case rel => exact ⟨_, (false), (by first | rfl | (simp; done) | (simp [*]; done)), H', ⟨by have := HJ3.out; have := HJ12.out; first | omega | exact Nat.le_refl _⟩, ⟨by (with_reducible repeat (first | apply xn118 | apply xd118 | apply xa118)); exact BK177.1⟩, ⟨by repeat (first | (with_reducible first | exact HB.1 | apply below_alloc | apply pw_below_drewN | apply below_drew1 | refine below_set ?_ GE177.1) | exact HB.1)⟩⟩
                case rest =>
                  clear HC19
                  try clear c1
                  try clear c2
                  try clear p2
                  try clear c3
                  try clear c5
                  try clear c8
                  try clear c11
                  try clear c12
                  try clear c14
                  try clear c14b0
                  try clear c14b1
                  try clear c18
                  try clear c20
                  try clear c20b0
                  try clear c20b1
                  try clear hcz10_0
                  try clear hcz10_1
                  try clear hcz10_2
                  try clear hcz10_3
                  try clear hcz11_0
                  try clear hcz11_1
                  try clear hcz11_2
                  try clear hcz11_3
                  try clear hcz16_0
                  try clear hcz16_1
                  try clear hcz16_2
                  try clear hcz16_3
                  try clear hcz17_0
                  try clear hcz17_1
                  try clear hcz17_2
                  try clear hcz17_3
                  try clear hcz22_0
                  try clear hcz22_1
                  try clear hcz22_2
                  try clear hcz22_3
                  try clear hcz23_0
                  try clear hcz23_1
                  try clear hcz23_2
                  try clear hcz23_3
                  try clear hcz6_0
                  try clear hcz6_1
                  try clear hcz6_2
                  try clear hcz6_3
                  try clear hfz10_0
                  try clear hfz10_1
                  try clear hfz10_2
                  try clear hfz10_3
                  try clear hfz11_0
                  try clear hfz11_1
                  try clear hfz11_2
                  try clear hfz11_3
                  try clear hfz16_0
                  try clear hfz16_1
                  try clear hfz16_2
                  try clear hfz16_3
                  try clear hfz17_0
                  try clear hfz17_1
                  try clear hfz17_2
                  try clear hfz17_3
                  try clear hfz22_0
                  try clear hfz22_1
                  try clear hfz22_2
                  try clear hfz22_3
                  try clear hfz23_0
                  try clear hfz23_1
                  try clear hfz23_2
                  try clear hfz23_3
                  try clear hfz6_0
                  try clear hfz6_1
                  try clear hfz6_2
                  try clear hfz6_3
                  try clear p2
                  obtain ⟨kq, x34_18, rfl, HA, HJ18, BK177, HB⟩ := hcut
                  cases kq with
                  | zero => exact absurd HA.out (by simp [vendmeterref_TokenFault.j2])
                  | succ kj18 =>
                    have H := HA.out
                    clear HA
                    simp only [vendmeterref_TokenFault.j2] at H
                    by_cases c24 : x34_18 = true
                    · subst c24
                      have H1 : (some 2) = some r := by rw [if_pos rfl] at H; exact H
                      clear H
                      have H := H1
                      clear H1
                      obtain rfl := Option.some.inj H
                      go_wp2
                      go_ret
                      exact ⟨by first | rfl | (simp [errW_none, errW_some] <;> rfl) | (simp [*, errW_none, errW_some] <;> rfl), by repeat (first | (with_reducible first | exact HB.1 | apply below_alloc | apply pw_below_drewN | apply below_drew1 | refine below_set ?_ GE177.1) | exact HB.1)⟩
                    · replace c24 := Bool.eq_false_iff.mpr c24
                      subst c24
                      have H1 : (if a0_0 = 1 then (if a0_2 = 0 then (some 0) else (some 2)) else (if a0_0 = 3 then (if a0_2 = 0 then (some 0) else (some 2)) else (some 0))) = some r := by rw [if_neg (show ¬ (false = true) by decide)] at H; exact H
                      clear H
                      have H := H1
                      clear H1
                      by_cases c25 : a0_0 = 1
                      · rw [if_pos c25] at H
                        have c25b0 : (a0_0 == 1) = true := beq_iff_eq.mpr c25
                        have c25b1 : (a0_0 != 1) = false := bne_eq_false_iff_eq.mpr c25
                        clear c25
                        by_cases c26 : a0_2 = 0
                        · rw [if_pos c26] at H
                          have c26b0 : (a0_2 == 0) = true := beq_iff_eq.mpr c26
                          have c26b1 : (a0_2 != 0) = false := bne_eq_false_iff_eq.mpr c26
                          clear c26
                          obtain rfl := Option.some.inj H
                          have hcz27_0 : wc.cell? ⟨gb177, 0, none⟩ = some (.int .i64 a0_0) := (blk_cell BK177.1 0).trans rfl
                          have hcz27_1 : wc.cell? ⟨gb177, 1, none⟩ = some (.int .i64 a0_1) := (blk_cell BK177.1 1).trans rfl
                          have hcz27_2 : wc.cell? ⟨gb177, 2, none⟩ = some (.int .i64 a0_2) := (blk_cell BK177.1 2).trans rfl
                          have hcz27_3 : wc.cell? ⟨gb177, 3, none⟩ = some (.int .i64 a0_3) := (blk_cell BK177.1 3).trans rfl
                          have hfz27_0 := blk_frozen BK177.1 0
                          have hfz27_1 := blk_frozen BK177.1 1
                          have hfz27_2 := blk_frozen BK177.1 2
                          have hfz27_3 := blk_frozen BK177.1 3
                          go_wp2
                          go_ret
                          exact ⟨by first | rfl | (simp [errW_none, errW_some] <;> rfl) | (simp [*, errW_none, errW_some] <;> rfl), by repeat (first | (with_reducible first | exact HB.1 | apply below_alloc | apply pw_below_drewN | apply below_drew1 | refine below_set ?_ GE177.1) | exact HB.1)⟩
                        · rw [if_neg c26] at H
                          have c26b0 : (a0_2 == 0) = false := beq_eq_false_iff_ne.mpr c26
                          have c26b1 : (a0_2 != 0) = true := bne_iff_ne.mpr c26
                          obtain rfl := Option.some.inj H
                          have hcz28_0 : wc.cell? ⟨gb177, 0, none⟩ = some (.int .i64 a0_0) := (blk_cell BK177.1 0).trans rfl
                          have hcz28_1 : wc.cell? ⟨gb177, 1, none⟩ = some (.int .i64 a0_1) := (blk_cell BK177.1 1).trans rfl
                          have hcz28_2 : wc.cell? ⟨gb177, 2, none⟩ = some (.int .i64 a0_2) := (blk_cell BK177.1 2).trans rfl
                          have hcz28_3 : wc.cell? ⟨gb177, 3, none⟩ = some (.int .i64 a0_3) := (blk_cell BK177.1 3).trans rfl
                          have hfz28_0 := blk_frozen BK177.1 0
                          have hfz28_1 := blk_frozen BK177.1 1
                          have hfz28_2 := blk_frozen BK177.1 2
                          have hfz28_3 := blk_frozen BK177.1 3
                          go_wp2
                          go_ret
                          exact ⟨by first | rfl | (simp [errW_none, errW_some] <;> rfl) | (simp [*, errW_none, errW_some] <;> rfl), by repeat (first | (with_reducible first | exact HB.1 | apply below_alloc | apply pw_below_drewN | apply below_drew1 | refine below_set ?_ GE177.1) | exact HB.1)⟩
                      · rw [if_neg c25] at H
                        have c25b0 : (a0_0 == 1) = false := beq_eq_false_iff_ne.mpr c25
                        have c25b1 : (a0_0 != 1) = true := bne_iff_ne.mpr c25
                        by_cases c29 : a0_0 = 3
                        · rw [if_pos c29] at H
                          have c29b0 : (a0_0 == 3) = true := beq_iff_eq.mpr c29
                          have c29b1 : (a0_0 != 3) = false := bne_eq_false_iff_eq.mpr c29
                          clear c29
                          by_cases c30 : a0_2 = 0
                          · rw [if_pos c30] at H
                            have c30b0 : (a0_2 == 0) = true := beq_iff_eq.mpr c30
                            have c30b1 : (a0_2 != 0) = false := bne_eq_false_iff_eq.mpr c30
                            clear c30
                            obtain rfl := Option.some.inj H
                            have hcz31_0 : wc.cell? ⟨gb177, 0, none⟩ = some (.int .i64 a0_0) := (blk_cell BK177.1 0).trans rfl
                            have hcz31_1 : wc.cell? ⟨gb177, 1, none⟩ = some (.int .i64 a0_1) := (blk_cell BK177.1 1).trans rfl
                            have hcz31_2 : wc.cell? ⟨gb177, 2, none⟩ = some (.int .i64 a0_2) := (blk_cell BK177.1 2).trans rfl
                            have hcz31_3 : wc.cell? ⟨gb177, 3, none⟩ = some (.int .i64 a0_3) := (blk_cell BK177.1 3).trans rfl
                            have hfz31_0 := blk_frozen BK177.1 0
                            have hfz31_1 := blk_frozen BK177.1 1
                            have hfz31_2 := blk_frozen BK177.1 2
                            have hfz31_3 := blk_frozen BK177.1 3
                            go_wp2
                            go_ret
                            exact ⟨by first | rfl | (simp [errW_none, errW_some] <;> rfl) | (simp [*, errW_none, errW_some] <;> rfl), by repeat (first | (with_reducible first | exact HB.1 | apply below_alloc | apply pw_below_drewN | apply below_drew1 | refine below_set ?_ GE177.1) | exact HB.1)⟩
                          · rw [if_neg c30] at H
                            have c30b0 : (a0_2 == 0) = false := beq_eq_false_iff_ne.mpr c30
                            have c30b1 : (a0_2 != 0) = true := bne_iff_ne.mpr c30
                            obtain rfl := Option.some.inj H
                            have hcz32_0 : wc.cell? ⟨gb177, 0, none⟩ = some (.int .i64 a0_0) := (blk_cell BK177.1 0).trans rfl
                            have hcz32_1 : wc.cell? ⟨gb177, 1, none⟩ = some (.int .i64 a0_1) := (blk_cell BK177.1 1).trans rfl
                            have hcz32_2 : wc.cell? ⟨gb177, 2, none⟩ = some (.int .i64 a0_2) := (blk_cell BK177.1 2).trans rfl
                            have hcz32_3 : wc.cell? ⟨gb177, 3, none⟩ = some (.int .i64 a0_3) := (blk_cell BK177.1 3).trans rfl
                            have hfz32_0 := blk_frozen BK177.1 0
                            have hfz32_1 := blk_frozen BK177.1 1
                            have hfz32_2 := blk_frozen BK177.1 2
                            have hfz32_3 := blk_frozen BK177.1 3
                            go_wp2
                            go_ret
                            exact ⟨by first | rfl | (simp [errW_none, errW_some] <;> rfl) | (simp [*, errW_none, errW_some] <;> rfl), by repeat (first | (with_reducible first | exact HB.1 | apply below_alloc | apply pw_below_drewN | apply below_drew1 | refine below_set ?_ GE177.1) | exact HB.1)⟩
                        · rw [if_neg c29] at H
                          have c29b0 : (a0_0 == 3) = false := beq_eq_false_iff_ne.mpr c29
                          have c29b1 : (a0_0 != 3) = true := bne_iff_ne.mpr c29
                          obtain rfl := Option.some.inj H
                          have hcz33_0 : wc.cell? ⟨gb177, 0, none⟩ = some (.int .i64 a0_0) := (blk_cell BK177.1 0).trans rfl
                          have hcz33_1 : wc.cell? ⟨gb177, 1, none⟩ = some (.int .i64 a0_1) := (blk_cell BK177.1 1).trans rfl
                          have hcz33_2 : wc.cell? ⟨gb177, 2, none⟩ = some (.int .i64 a0_2) := (blk_cell BK177.1 2).trans rfl
                          have hcz33_3 : wc.cell? ⟨gb177, 3, none⟩ = some (.int .i64 a0_3) := (blk_cell BK177.1 3).trans rfl
                          have hfz33_0 := blk_frozen BK177.1 0
                          have hfz33_1 := blk_frozen BK177.1 1
                          have hfz33_2 := blk_frozen BK177.1 2
                          have hfz33_3 := blk_frozen BK177.1 3
                          go_wp2
                          go_ret
                          exact ⟨by first | rfl | (simp [errW_none, errW_some] <;> rfl) | (simp [*, errW_none, errW_some] <;> rfl), by repeat (first | (with_reducible first | exact HB.1 | apply below_alloc | apply pw_below_drewN | apply below_drew1 | refine below_set ?_ GE177.1) | exact HB.1)⟩
  · replace c3 := Bool.eq_false_iff.mpr c3
    subst c3
    have H1 : (some 9) = some r := by rw [if_neg (show ¬ (false = true) by decide)] at H; exact H
    clear H
    have H := H1
    clear H1
    obtain rfl := Option.some.inj H
    go_enter Try.func118, Try.ntmps118
    go_wp2_with (first | ((with_reducible refine gate_dst (N := 1) rfl ?_); refine box_event ?hg (N := 1) ?hd (cs := #[.int .i64 a0_0, .int .i64 a0_1, .int .i64 a0_2, .int .i64 a0_3]) (t := 45) ?hr ?_; (case hd => rfl); (case hg => rfl); (case hr => first | (go_simp; done) | (go_simp; rfl)); intro gb177 hg w34 hbox hb; have n0_ := Aside0.mk (below_step (by repeat (first | (with_reducible first | exact HB.1 | apply below_alloc | apply pw_below_drewN | apply below_drew1) | exact HB.1)) hb); have n1_ := Aside0.mk (hbox); have n2_ := Aside0.mk ((by rw [hg]; exact (below_size (by repeat (first | (with_reducible first | exact HB.1 | apply below_alloc | apply pw_below_drewN | apply below_drew1) | exact HB.1))) : w.heap.size ≤ gb177)); have n3_ := Aside0.mk ((by rw [hg]; exact (below_size (by repeat (first | (with_reducible first | exact HB.1 | apply below_alloc | apply pw_below_drewN | apply below_drew1) | exact HB.1))) : w.heap.size ≤ gb177)); clear HB; have HB := n0_; have BK177 := n1_; have GW177 := n2_; have GE177 := n3_; clear n0_ n1_ n2_ n3_; clear hb hbox hg; have hcz35_0 : w34.cell? ⟨gb177, 0, none⟩ = some (.int .i64 a0_0) := (blk_cell BK177.1 0).trans rfl; have hcz35_1 : w34.cell? ⟨gb177, 1, none⟩ = some (.int .i64 a0_1) := (blk_cell BK177.1 1).trans rfl; have hcz35_2 : w34.cell? ⟨gb177, 2, none⟩ = some (.int .i64 a0_2) := (blk_cell BK177.1 2).trans rfl; have hcz35_3 : w34.cell? ⟨gb177, 3, none⟩ = some (.int .i64 a0_3) := (blk_cell BK177.1 3).trans rfl; have hfz35_0 := blk_frozen BK177.1 0; have hfz35_1 := blk_frozen BK177.1 1; have hfz35_2 := blk_frozen BK177.1 2; have hfz35_3 := blk_frozen BK177.1 3) | ((with_reducible refine gate_callee (f := 54) rfl ?_); refine goesL_ (some 5) rfl rfl Try.func54 (by kernel_rfl) rfl #[.int .i64 a0_0, .int .i64 0, .int .i64 3] rfl (by (try simp only [List.map_toArray, List.map_cons, List.map_nil]); first | done | rfl | (simp only [List.length_drop, List.length_take]; rfl)) ?_; (with_reducible refine (vendmeterref_In.calls a0_0 0 3 false _ A2.out).mono ?_); rintro e w' ⟨rfl, ⟨nd, rfl⟩⟩; refine ⟨_, rfl, ?_⟩))
    go_ret
    exact ⟨by first | rfl | (simp [errW_none, errW_some] <;> rfl) | (simp [*, errW_none, errW_some] <;> rfl), by repeat (first | (with_reducible first | exact HB.1 | apply below_alloc | apply pw_below_drewN | apply below_drew1 | refine below_set ?_ GE177.1) | exact HB.1)⟩

/-! ### vendmeterref_BodyOf: function 69 -/
def vendmeterref_BodyOf.f (k : Nat) (a0_0 : Int) (a0_1 : Int) (a0_2 : Int) (a0_3 : Int) : Option (Int × Int) := (vendmeterref_TokenFault.f k a0_0 a0_1 a0_2 a0_3).bind fun t184 => (if t184 = 0 then (some (wrap64 ((wrap64 ((wrap64 (a0_0 * 2199023255552)) + (wrap64 (a0_1 * 2097152)))) + a0_2), 0)) else (some (0, t184)))
theorem vendmeterref_BodyOf.mono : ∀ a0 a1 a2 a3 k, LeO (vendmeterref_BodyOf.f k a0 a1 a2 a3) (vendmeterref_BodyOf.f (k + 1) a0 a1 a2 a3) := by
  intro a0 a1 a2 a3 k
  unfold vendmeterref_BodyOf.f
  repeat' first
      | (with_reducible exact vendmeterref_TokenFault.mono _ _ _ _ _)
      | (with_reducible exact LeO.refl _)
      | (with_reducible exact LeO.none _)
      | (with_reducible refine LeO.ite ?_ ?_)
      | (with_reducible refine LeO.bind ?_ (fun _ => ?_))
      | exact vendmeterref_TokenFault.mono _ _ _ _ _
      | exact LeO.none _
      | refine LeO.ite ?_ ?_
      | refine LeO.bind ?_ (fun _ => ?_)
set_option maxHeartbeats 8000000 in
set_option maxRecDepth 100000 in
theorem vendmeterref_BodyOf.calls (k : Nat) (a0_0 : Int) (a0_1 : Int) (a0_2 : Int) (a0_3 : Int) (r1 : Int) (r2 : Int) (w : World) (h : vendmeterref_BodyOf.f k a0_0 a0_1 a0_2 a0_3 = some (r1, r2)) :
    Calls Try.prog 69 #[.agg #[.int .i64 a0_0, .int .i64 a0_1, .int .i64 a0_2, .int .i64 a0_3]] w fun e w' => e = .returned (.tuple #[.int .i64 r1, .int .i64 r2]) ∧ Below w.heap.size w w' := by
  have hu45 := Try.underlying45
  have HB := Aside0.mk (Below.refl w.heap.size w)
  have H : ((vendmeterref_TokenFault.f k a0_0 a0_1 a0_2 a0_3).bind fun t184 => (if t184 = 0 then (some (wrap64 ((wrap64 ((wrap64 (a0_0 * 2199023255552)) + (wrap64 (a0_1 * 2097152)))) + a0_2), 0)) else (some (0, t184)))) = some (r1, r2) := h
  clear h
  replace H := Option.bind_eq_some_iff.mp H
  obtain ⟨t184, A20, H⟩ := H
  replace H : (if t184 = 0 then (some (wrap64 ((wrap64 ((wrap64 (a0_0 * 2199023255552)) + (wrap64 (a0_1 * 2097152)))) + a0_2), 0)) else (some (0, t184))) = some (r1, r2) := H
  have A2 := Aside0.mk A20
  clear A20
  by_cases c3 : t184 = 0
  · rw [if_pos c3] at H
    have c3b0 : (t184 == 0) = true := beq_iff_eq.mpr c3
    have c3b1 : (t184 != 0) = false := bne_eq_false_iff_eq.mpr c3
    clear c3
    simp only [Option.some.injEq, Prod.mk.injEq] at H
    obtain ⟨rfl, rfl⟩ := H
    go_enter Try.func69, Try.ntmps69
    go_wp2_with (first | ((with_reducible refine gate_dst (N := 1) rfl ?_); refine box_event ?hg (N := 1) ?hd (cs := #[.int .i64 a0_0, .int .i64 a0_1, .int .i64 a0_2, .int .i64 a0_3]) (t := 45) ?hr ?_; (case hd => rfl); (case hg => rfl); (case hr => first | (go_simp; done) | (go_simp; rfl)); intro gb183 hg w4 hbox hb; have n0_ := Aside0.mk (below_step (by repeat (first | (with_reducible first | exact HB.out | apply below_alloc | apply pw_below_drewN | apply below_drew1) | exact HB.out)) hb); have n1_ := Aside0.mk (hbox); have n2_ := Aside0.mk ((by rw [hg]; exact (below_size (by repeat (first | (with_reducible first | exact HB.out | apply below_alloc | apply pw_below_drewN | apply below_drew1) | exact HB.out))) : w.heap.size ≤ gb183)); have n3_ := Aside0.mk ((by rw [hg]; exact (below_size (by repeat (first | (with_reducible first | exact HB.out | apply below_alloc | apply pw_below_drewN | apply below_drew1) | exact HB.out))) : w.heap.size ≤ gb183)); clear HB; have HB := n0_; have BK183 := n1_; have GW183 := n2_; have GE183 := n3_; clear n0_ n1_ n2_ n3_; clear hb hbox hg; have hcz5_0 : w4.cell? ⟨gb183, 0, none⟩ = some (.int .i64 a0_0) := (blk_cell BK183.out 0).trans rfl; have hcz5_1 : w4.cell? ⟨gb183, 1, none⟩ = some (.int .i64 a0_1) := (blk_cell BK183.out 1).trans rfl; have hcz5_2 : w4.cell? ⟨gb183, 2, none⟩ = some (.int .i64 a0_2) := (blk_cell BK183.out 2).trans rfl; have hcz5_3 : w4.cell? ⟨gb183, 3, none⟩ = some (.int .i64 a0_3) := (blk_cell BK183.out 3).trans rfl; have hfz5_0 := blk_frozen BK183.out 0; have hfz5_1 := blk_frozen BK183.out 1; have hfz5_2 := blk_frozen BK183.out 2; have hfz5_3 := blk_frozen BK183.out 3) | ((with_reducible refine gate_callee (f := 118) rfl ?_); refine goesL_ (some 6) rfl rfl Try.func118 (by kernel_rfl) rfl #[.agg #[.int .i64 a0_0, .int .i64 a0_1, .int .i64 a0_2, .int .i64 a0_3]] rfl (by (try simp only [List.map_toArray, List.map_cons, List.map_nil]); first | done | rfl | (simp only [List.length_drop, List.length_take]; rfl)) ?_; (with_reducible refine (vendmeterref_TokenFault.calls k a0_0 a0_1 a0_2 a0_3 t184 _ A2.out).mono ?_); rintro e w6 ⟨rfl, hb⟩; refine ⟨_, rfl, ?_⟩; have n0_ := Aside0.mk (blk_below (g := gb183) (o := .cells #[.int .i64 a0_0, .int .i64 a0_1, .int .i64 a0_2, .int .i64 a0_3] 45 (0, 0)) (by (with_reducible repeat (first | refine blk_drewN ?_ _ | refine blk_drew ?_ | refine blk_alloc ?_ _)); exact BK183.out) hb); have n1_ := Aside0.mk (below_step (by repeat (first | (with_reducible first | exact HB.out | apply below_alloc | apply pw_below_drewN | apply below_drew1 | refine below_set ?_ GE183.out) | exact HB.out)) hb); clear BK183; clear HB; have BK183 := n0_; have HB := n1_; clear n0_ n1_; (try clear hb); (try clear hb2); (try clear hk); (try clear hi); have hcz7_0 : w6.cell? ⟨gb183, 0, none⟩ = some (.int .i64 a0_0) := (blk_cell BK183.out 0).trans rfl; have hcz7_1 : w6.cell? ⟨gb183, 1, none⟩ = some (.int .i64 a0_1) := (blk_cell BK183.out 1).trans rfl; have hcz7_2 : w6.cell? ⟨gb183, 2, none⟩ = some (.int .i64 a0_2) := (blk_cell BK183.out 2).trans rfl; have hcz7_3 : w6.cell? ⟨gb183, 3, none⟩ = some (.int .i64 a0_3) := (blk_cell BK183.out 3).trans rfl; have hfz7_0 := blk_frozen BK183.out 0; have hfz7_1 := blk_frozen BK183.out 1; have hfz7_2 := blk_frozen BK183.out 2; have hfz7_3 := blk_frozen BK183.out 3))
    go_ret2
    exact ⟨by first | rfl | (simp [errW_none, errW_some] <;> rfl) | (simp [*, errW_none, errW_some] <;> rfl), by repeat (first | (with_reducible first | exact HB.out | apply below_alloc | apply pw_below_drewN | apply below_drew1 | refine below_set ?_ GE183.out) | exact HB.out)⟩
  · rw [if_neg c3] at H
    have c3b0 : (t184 == 0) = false := beq_eq_false_iff_ne.mpr c3
    have c3b1 : (t184 != 0) = true := bne_iff_ne.mpr c3
    simp only [Option.some.injEq, Prod.mk.injEq] at H
    obtain ⟨rfl, rfl⟩ := H
    go_enter Try.func69, Try.ntmps69
    go_wp2_with (first | ((with_reducible refine gate_dst (N := 1) rfl ?_); refine box_event ?hg (N := 1) ?hd (cs := #[.int .i64 a0_0, .int .i64 a0_1, .int .i64 a0_2, .int .i64 a0_3]) (t := 45) ?hr ?_; (case hd => rfl); (case hg => rfl); (case hr => first | (go_simp; done) | (go_simp; rfl)); intro gb183 hg w8 hbox hb; have n0_ := Aside0.mk (below_step (by repeat (first | (with_reducible first | exact HB.out | apply below_alloc | apply pw_below_drewN | apply below_drew1) | exact HB.out)) hb); have n1_ := Aside0.mk (hbox); have n2_ := Aside0.mk ((by rw [hg]; exact (below_size (by repeat (first | (with_reducible first | exact HB.out | apply below_alloc | apply pw_below_drewN | apply below_drew1) | exact HB.out))) : w.heap.size ≤ gb183)); have n3_ := Aside0.mk ((by rw [hg]; exact (below_size (by repeat (first | (with_reducible first | exact HB.out | apply below_alloc | apply pw_below_drewN | apply below_drew1) | exact HB.out))) : w.heap.size ≤ gb183)); clear HB; have HB := n0_; have BK183 := n1_; have GW183 := n2_; have GE183 := n3_; clear n0_ n1_ n2_ n3_; clear hb hbox hg; have hcz9_0 : w8.cell? ⟨gb183, 0, none⟩ = some (.int .i64 a0_0) := (blk_cell BK183.out 0).trans rfl; have hcz9_1 : w8.cell? ⟨gb183, 1, none⟩ = some (.int .i64 a0_1) := (blk_cell BK183.out 1).trans rfl; have hcz9_2 : w8.cell? ⟨gb183, 2, none⟩ = some (.int .i64 a0_2) := (blk_cell BK183.out 2).trans rfl; have hcz9_3 : w8.cell? ⟨gb183, 3, none⟩ = some (.int .i64 a0_3) := (blk_cell BK183.out 3).trans rfl; have hfz9_0 := blk_frozen BK183.out 0; have hfz9_1 := blk_frozen BK183.out 1; have hfz9_2 := blk_frozen BK183.out 2; have hfz9_3 := blk_frozen BK183.out 3) | ((with_reducible refine gate_callee (f := 118) rfl ?_); refine goesL_ (some 6) rfl rfl Try.func118 (by kernel_rfl) rfl #[.agg #[.int .i64 a0_0, .int .i64 a0_1, .int .i64 a0_2, .int .i64 a0_3]] rfl (by (try simp only [List.map_toArray, List.map_cons, List.map_nil]); first | done | rfl | (simp only [List.length_drop, List.length_take]; rfl)) ?_; (with_reducible refine (vendmeterref_TokenFault.calls k a0_0 a0_1 a0_2 a0_3 t184 _ A2.out).mono ?_); rintro e w10 ⟨rfl, hb⟩; refine ⟨_, rfl, ?_⟩; have n0_ := Aside0.mk (blk_below (g := gb183) (o := .cells #[.int .i64 a0_0, .int .i64 a0_1, .int .i64 a0_2, .int .i64 a0_3] 45 (0, 0)) (by (with_reducible repeat (first | refine blk_drewN ?_ _ | refine blk_drew ?_ | refine blk_alloc ?_ _)); exact BK183.out) hb); have n1_ := Aside0.mk (below_step (by repeat (first | (with_reducible first | exact HB.out | apply below_alloc | apply pw_below_drewN | apply below_drew1 | refine below_set ?_ GE183.out) | exact HB.out)) hb); clear BK183; clear HB; have BK183 := n0_; have HB := n1_; clear n0_ n1_; (try clear hb); (try clear hb2); (try clear hk); (try clear hi)))
    go_ret2
    exact ⟨by first | rfl | (simp [errW_none, errW_some] <;> rfl) | (simp [*, errW_none, errW_some] <;> rfl), by repeat (first | (with_reducible first | exact HB.out | apply below_alloc | apply pw_below_drewN | apply below_drew1 | refine below_set ?_ GE183.out) | exact HB.out)⟩

end Go.Proofs.Ythmmadniaakapaa.PMeterKeys
