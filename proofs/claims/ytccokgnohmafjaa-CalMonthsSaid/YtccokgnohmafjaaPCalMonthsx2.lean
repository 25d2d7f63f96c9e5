-- written by this session's program wip/xp/xprint.py (it drives the kit's print and adds to it)
import Derived.Test.YtccokgnohmafjaaPCalMonthsx0
import Derived.Test.YtccokgnohmafjaaPCalMonthsx1
namespace Go.Proofs.Ytccokgnohmafjaa.PCalMonths
open Go.RowKit Go.Proofs.YtccokgnohmafjaaW.PrintWords Go.Proofs.YtccokgnohmafjaaW.PrintLast Go.Proofs.YtccokgnohmafjaaW.PrintMore
attribute [local go_sem] max2_int min2_int max_two min_two max_three min_three max_four min_four   -- for this text's walks alone
set_option linter.unusedVariables false
set_option linter.unusedSimpArgs false

/-! ### vendmeterref_monthLong: function 40 -/
def vendmeterref_monthLong.j0 : Nat → Bool → Option (Int)
  | 0, _ => none
  | k + 1, x19 => if x19 = true then (some 29) else (some 28)
def vendmeterref_monthLong.f (k : Nat) (a0 : Int) (a1 : Int) : Option (Int) := if a1 = 2 then (if (Int.tmod a0 400) = 0 then (vendmeterref_monthLong.j0 k true) else (if (Int.tmod a0 4) = 0 then (vendmeterref_monthLong.j0 k ((Int.tmod a0 100) != 0)) else (vendmeterref_monthLong.j0 k false))) else (if a1 = 4 then (some 30) else (if a1 = 6 then (some 30) else (if a1 = 9 then (some 30) else (if a1 = 11 then (some 30) else (some 31)))))
theorem vendmeterref_monthLong.mono_l : ∀ k, (∀ y0, LeO (vendmeterref_monthLong.j0 k y0) (vendmeterref_monthLong.j0 (k + 1) y0))
  | 0 => fun _ r h => by simp [vendmeterref_monthLong.j0] at h
  | k + 1 => by
    have ih0 := vendmeterref_monthLong.mono_l k
    · intro y0
      unfold vendmeterref_monthLong.j0
      repeat' first
      | (with_reducible exact ih0 _)
      | (with_reducible exact LeO.refl _)
      | (with_reducible exact LeO.none _)
      | (with_reducible refine LeO.ite ?_ ?_)
      | (with_reducible refine LeO.bind ?_ (fun _ => ?_))
      | exact ih0 _
      | exact LeO.none _
      | refine LeO.ite ?_ ?_
      | refine LeO.bind ?_ (fun _ => ?_)
theorem vendmeterref_monthLong.mono : ∀ a0 a1 k, LeO (vendmeterref_monthLong.f k a0 a1) (vendmeterref_monthLong.f (k + 1) a0 a1) := by
  intro a0 a1 k
  have ih0 := vendmeterref_monthLong.mono_l k
  unfold vendmeterref_monthLong.f
  repeat' first
      | (with_reducible exact ih0 _)
      | (with_reducible exact LeO.refl _)
      | (with_reducible exact LeO.none _)
      | (with_reducible refine LeO.ite ?_ ?_)
      | (with_reducible refine LeO.bind ?_ (fun _ => ?_))
      | exact ih0 _
      | exact LeO.none _
      | refine LeO.ite ?_ ?_
      | refine LeO.bind ?_ (fun _ => ?_)
set_option maxHeartbeats 8000000 in
set_option maxRecDepth 100000 in
theorem vendmeterref_monthLong.calls (k : Nat) (a0 : Int) (a1 : Int) (r : Int) (w : World) (h : vendmeterref_monthLong.f k a0 a1 = some r) :
    Calls Try.prog 40 #[.int .i64 a0, .int .i64 a1] w fun e w' => e = .returned (.int .i64 r) ∧ Drawn0 w w' := by
  have H : (if a1 = 2 then (if (Int.tmod a0 400) = 0 then (vendmeterref_monthLong.j0 k true) else (if (Int.tmod a0 4) = 0 then (vendmeterref_monthLong.j0 k ((Int.tmod a0 100) != 0)) else (vendmeterref_monthLong.j0 k false))) else (if a1 = 4 then (some 30) else (if a1 = 6 then (some 30) else (if a1 = 9 then (some 30) else (if a1 = 11 then (some 30) else (some 31)))))) = some r := h
  clear h
  by_cases c3 : a1 = 2
  · rw [if_pos c3] at H
    have c3b0 : (a1 == 2) = true := beq_iff_eq.mpr c3
    have c3b1 : (a1 != 2) = false := bne_eq_false_iff_eq.mpr c3
    clear c3
    have HC4 := Aside0.mk H
    clear H
    go_enter Try.func40, Try.ntmps40
    go_upto_region 2 with (fail)
    go_cut [19] (fun v19 wc => ∃ (kq : Nat) (x19_3 : Bool), v19 = .bool x19_3 ∧ Aside0 (vendmeterref_monthLong.j0 kq x19_3 = some r) ∧ Aside0 (kq ≤ k) ∧ Drawn0 w wc)
    case first =>
      have H := HC4.out
      clear HC4
      by_cases c5 : (Int.tmod a0 400) = 0
      · rw [if_pos c5] at H
        have c5b0 : ((Int.tmod a0 400) == 0) = true := beq_iff_eq.mpr c5
        have c5b1 : ((Int.tmod a0 400) != 0) = false := bne_eq_false_iff_eq.mpr c5
        clear c5
        (first | rw [c5b0] | (simp only [i64_w, i32_w]; rw [c5b0]) | skip)
        have H' := Aside0.mk H
        clear H
        go_wp2
        go_meet
        case rel => exact ⟨_, (true), (by first | rfl | (simp; done) | (simp [*]; done)), H', ⟨by first | omega | exact Nat.le_refl _⟩, by repeat (first | exact Drawn0.refl _ | apply Drawn0.step)⟩
      · rw [if_neg c5] at H
        have c5b0 : ((Int.tmod a0 400) == 0) = false := beq_eq_false_iff_ne.mpr c5
        have c5b1 : ((Int.tmod a0 400) != 0) = true := bne_iff_ne.mpr c5
        (first | rw [c5b0] | (simp only [i64_w, i32_w]; rw [c5b0]) | skip)
        by_cases c6 : (Int.tmod a0 4) = 0
        · rw [if_pos c6] at H
          have c6b0 : ((Int.tmod a0 4) == 0) = true := beq_iff_eq.mpr c6
          have c6b1 : ((Int.tmod a0 4) != 0) = false := bne_eq_false_iff_eq.mpr c6
          clear c6
          have H' := Aside0.mk H
          clear H
          go_wp2
          go_meet
          case rel => exact ⟨_, (((Int.tmod a0 100) != 0)), (by first | rfl | (simp; done) | (simp [*]; done)), H', ⟨by first | omega | exact Nat.le_refl _⟩, by repeat (first | exact Drawn0.refl _ | apply Drawn0.step)⟩
        · rw [if_neg c6] at H
          have c6b0 : ((Int.tmod a0 4) == 0) = false := beq_eq_false_iff_ne.mpr c6
          have c6b1 : ((Int.tmod a0 4) != 0) = true := bne_iff_ne.mpr c6
          have H' := Aside0.mk H
          clear H
          go_wp2
          go_meet
          case rel => exact ⟨_, (false), (by first | rfl | (simp; done) | (simp [*]; done)), H', ⟨by first | omega | exact Nat.le_refl _⟩, by repeat (first | exact Drawn0.refl _ | apply Drawn0.step)⟩
    case rest =>
      clear HC4
      try clear p2
      try clear c3
      try clear c3b0
      try clear c3b1
      try clear c4
      try clear c5
      try clear c5b0
      try clear c5b1
      try clear c6
      try clear c6b0
      try clear c6b1
      obtain ⟨kq, x19_3, rfl, HA, HJ3, ⟨mc3, rfl⟩⟩ := hcut
      cases kq with
      | zero => exact absurd HA.out (by simp [vendmeterref_monthLong.j0])
      | succ kj3 =>
        have H := HA.out
        clear HA
        simp only [vendmeterref_monthLong.j0] at H
        by_cases c7 : x19_3 = true
        · subst c7
          have H1 : (some 29) = some r := by rw [if_pos rfl] at H; exact H
          clear H
          have H := H1
          clear H1
          obtain rfl := Option.some.inj H
          go_wp2
          go_ret
          exact ⟨by first | rfl | (simp; done) | (simp [*]; done), by repeat (first | exact Drawn0.refl _ | apply Drawn0.step)⟩
        · replace c7 := Bool.eq_false_iff.mpr c7
          subst c7
          have H1 : (some 28) = some r := by rw [if_neg (show ¬ (false = true) by decide)] at H; exact H
          clear H
          have H := H1
          clear H1
          obtain rfl := Option.some.inj H
          go_wp2
          go_ret
          exact ⟨by first | rfl | (simp; done) | (simp [*]; done), by repeat (first | exact Drawn0.refl _ | apply Drawn0.step)⟩
  · rw [if_neg c3] at H
    have c3b0 : (a1 == 2) = false := beq_eq_false_iff_ne.mpr c3
    have c3b1 : (a1 != 2) = true := bne_iff_ne.mpr c3
    by_cases c8 : a1 = 4
    · rw [if_pos c8] at H
      have c8b0 : (a1 == 4) = true := beq_iff_eq.mpr c8
      have c8b1 : (a1 != 4) = false := bne_eq_false_iff_eq.mpr c8
      clear c8
      obtain rfl := Option.some.inj H
      go_enter Try.func40, Try.ntmps40
      go_wp2
      go_ret
      exact ⟨by first | rfl | (simp; done) | (simp [*]; done), by repeat (first | exact Drawn0.refl _ | apply Drawn0.step)⟩
    · rw [if_neg c8] at H
      have c8b0 : (a1 == 4) = false := beq_eq_false_iff_ne.mpr c8
      have c8b1 : (a1 != 4) = true := bne_iff_ne.mpr c8
      by_cases c9 : a1 = 6
      · rw [if_pos c9] at H
        have c9b0 : (a1 == 6) = true := beq_iff_eq.mpr c9
        have c9b1 : (a1 != 6) = false := bne_eq_false_iff_eq.mpr c9
        clear c9
        obtain rfl := Option.some.inj H
        go_enter Try.func40, Try.ntmps40
        go_wp2
        go_ret
        exact ⟨by first | rfl | (simp; done) | (simp [*]; done), by repeat (first | exact Drawn0.refl _ | apply Drawn0.step)⟩
      · rw [if_neg c9] at H
        have c9b0 : (a1 == 6) = false := beq_eq_false_iff_ne.mpr c9
        have c9b1 : (a1 != 6) = true := bne_iff_ne.mpr c9
        by_cases c10 : a1 = 9
        · rw [if_pos c10] at H
          have c10b0 : (a1 == 9) = true := beq_iff_eq.mpr c10
          have c10b1 : (a1 != 9) = false := bne_eq_false_iff_eq.mpr c10
          clear c10
          obtain rfl := Option.some.inj H
          go_enter Try.func40, Try.ntmps40
          go_wp2
          go_ret
          exact ⟨by first | rfl | (simp; done) | (simp [*]; done), by repeat (first | exact Drawn0.refl _ | apply Drawn0.step)⟩
        · rw [if_neg c10] at H
          have c10b0 : (a1 == 9) = false := beq_eq_false_iff_ne.mpr c10
          have c10b1 : (a1 != 9) = true := bne_iff_ne.mpr c10
          by_cases c11 : a1 = 11
          · rw [if_pos c11] at H
            have c11b0 : (a1 == 11) = true := beq_iff_eq.mpr c11
            have c11b1 : (a1 != 11) = false := bne_eq_false_iff_eq.mpr c11
            clear c11
            obtain rfl := Option.some.inj H
            go_enter Try.func40, Try.ntmps40
            go_wp2
            go_ret
            exact ⟨by first | rfl | (simp; done) | (simp [*]; done), by repeat (first | exact Drawn0.refl _ | apply Drawn0.step)⟩
          · rw [if_neg c11] at H
            have c11b0 : (a1 == 11) = false := beq_eq_false_iff_ne.mpr c11
            have c11b1 : (a1 != 11) = true := bne_iff_ne.mpr c11
            obtain rfl := Option.some.inj H
            go_enter Try.func40, Try.ntmps40
            go_wp2
            go_ret
            exact ⟨by first | rfl | (simp; done) | (simp [*]; done), by repeat (first | exact Drawn0.refl _ | apply Drawn0.step)⟩

/-! ### vendmeterref_monthFrom: function 42 -/
def vendmeterref_monthFrom.l0 : Nat → Int → Int → Option (Int × Int)
  | 0, _, _ => none
  | k + 1, x0, x4 => (vendmeterref_monthLong.f k (wrap64 (2000 + (wrap64 (Int.tdiv x4 12)))) (wrap64 ((Int.tmod x4 12) + 1))).bind fun t114 => (if x0 ≥ t114 then ((vendmeterref_monthLong.f k (wrap64 (2000 + (wrap64 (Int.tdiv x4 12)))) (wrap64 ((Int.tmod x4 12) + 1))).bind fun t115 => (vendmeterref_monthFrom.l0 k (wrap64 (x0 - t115)) (wrap64 (x4 + 1)))) else (some (x4, x0)))
def vendmeterref_monthFrom.f (k : Nat) (a0 : Int) : Option (Int × Int) := vendmeterref_monthFrom.l0 k a0 0
theorem vendmeterref_monthFrom.mono_l : ∀ k, (∀ y0 y1, LeO (vendmeterref_monthFrom.l0 k y0 y1) (vendmeterref_monthFrom.l0 (k + 1) y0 y1))
  | 0 => fun _ _ r h => by simp [vendmeterref_monthFrom.l0] at h
  | k + 1 => by
    have ih0 := vendmeterref_monthFrom.mono_l k
    · intro y0 y1
      unfold vendmeterref_monthFrom.l0
      repeat' first
      | (with_reducible exact ih0 _ _)
      | (with_reducible exact vendmeterref_monthLong.mono _ _ _)
      | (with_reducible exact LeO.refl _)
      | (with_reducible exact LeO.none _)
      | (with_reducible refine LeO.ite ?_ ?_)
      | (with_reducible refine LeO.bind ?_ (fun _ => ?_))
      | exact ih0 _ _
      | exact vendmeterref_monthLong.mono _ _ _
      | exact LeO.none _
      | refine LeO.ite ?_ ?_
      | refine LeO.bind ?_ (fun _ => ?_)
theorem vendmeterref_monthFrom.mono : ∀ a0 k, LeO (vendmeterref_monthFrom.f k a0) (vendmeterref_monthFrom.f (k + 1) a0) := by
  intro a0 k
  have ih0 := vendmeterref_monthFrom.mono_l k
  unfold vendmeterref_monthFrom.f
  repeat' first
      | (with_reducible exact ih0 _ _)
      | (with_reducible exact vendmeterref_monthLong.mono _ _ _)
      | (with_reducible exact LeO.refl _)
      | (with_reducible exact LeO.none _)
      | (with_reducible refine LeO.ite ?_ ?_)
      | (with_reducible refine LeO.bind ?_ (fun _ => ?_))
      | exact ih0 _ _
      | exact vendmeterref_monthLong.mono _ _ _
      | exact LeO.none _
      | refine LeO.ite ?_ ?_
      | refine LeO.bind ?_ (fun _ => ?_)
set_option maxHeartbeats 8000000 in
set_option maxRecDepth 100000 in
theorem vendmeterref_monthFrom.calls (k : Nat) (a0 : Int) (r1 : Int) (r2 : Int) (w : World) (h : vendmeterref_monthFrom.f k a0 = some (r1, r2)) :
    Calls Try.prog 42 #[.int .i64 a0] w fun e w' => e = .returned (.tuple #[.int .i64 r1, .int .i64 r2]) ∧ Drawn0 w w' := by
  have H : (vendmeterref_monthFrom.l0 k a0 0) = some (r1, r2) := h
  clear h
  have H' := Aside0.mk H
  clear H
  go_enter Try.func42, Try.ntmps42
  go_wp2
  go_loopg [0, 4] k (fun kq v0 v4 w' => ∃ (x0_1 : Int) (x4_1 : Int), v0 = .int .i64 x0_1 ∧ v4 = .int .i64 x4_1 ∧ Aside0 (vendmeterref_monthFrom.l0 kq x0_1 x4_1 = some (r1, r2)) ∧ Aside0 (kq ≤ k) ∧ Drawn0 w w')
  case atStart => exact ⟨(a0), (0), (by first | rfl | (simp; done) | (simp [*]; done)), (by first | rfl | (simp; done) | (simp [*]; done)), H', ⟨Nat.le_refl _⟩, by repeat (first | exact Drawn0.refl _ | apply Drawn0.step)⟩
  case round =>
    clear H'
    obtain ⟨x0_1, x4_1, rfl, rfl, HA, HK1, ⟨m1, rfl⟩⟩ := hrel
    cases gk with
    | zero => exact absurd HA.out (by simp [vendmeterref_monthFrom.l0])
    | succ k1 =>
      have H := HA.out
      clear HA
      simp only [vendmeterref_monthFrom.l0] at H
      replace H := Option.bind_eq_some_iff.mp H
      obtain ⟨t114, A20, H⟩ := H
      replace H : (if x0_1 ≥ t114 then ((vendmeterref_monthLong.f k1 (wrap64 (2000 + (wrap64 (Int.tdiv x4_1 12)))) (wrap64 ((Int.tmod x4_1 12) + 1))).bind fun t115 => (vendmeterref_monthFrom.l0 k1 (wrap64 (x0_1 - t115)) (wrap64 (x4_1 + 1)))) else (some (x4_1, x0_1))) = some (r1, r2) := H
      have A2 := Aside0.mk A20
      clear A20
      by_cases c3 : x0_1 ≥ t114
      · rw [if_pos c3] at H
        have c3b0 : decide (t114 ≤ x0_1) = true := decide_eq_true c3
        clear c3
        replace H := Option.bind_eq_some_iff.mp H
        obtain ⟨t115, A40, H⟩ := H
        replace H : (vendmeterref_monthFrom.l0 k1 (wrap64 (x0_1 - t115)) (wrap64 (x4_1 + 1))) = some (r1, r2) := H
        have A4 := Aside0.mk A40
        clear A40
        have H' := Aside0.mk H
        clear H
        go_wp2_with (first | ((with_reducible refine gate_callee (f := 40) rfl ?_); refine goesL_ (some 12) rfl rfl Try.func40 (by kernel_rfl) rfl #[.int .i64 (wrap64 (2000 + (wrap64 (Int.tdiv x4_1 12)))), .int .i64 (wrap64 ((Int.tmod x4_1 12) + 1))] rfl (by (try simp only [List.map_toArray, List.map_cons, List.map_nil]); first | done | rfl | (simp only [List.length_drop, List.length_take]; rfl)) ?_; (with_reducible refine (vendmeterref_monthLong.calls k1 (wrap64 (2000 + (wrap64 (Int.tdiv x4_1 12)))) (wrap64 ((Int.tmod x4_1 12) + 1)) t114 _ A2.out).mono ?_); rintro e w' ⟨rfl, ⟨nd, rfl⟩⟩; refine ⟨_, rfl, ?_⟩) | ((with_reducible refine gate_callee (f := 40) rfl ?_); refine goesL_ (some 21) rfl rfl Try.func40 (by kernel_rfl) rfl #[.int .i64 (wrap64 (2000 + (wrap64 (Int.tdiv x4_1 12)))), .int .i64 (wrap64 ((Int.tmod x4_1 12) + 1))] rfl (by (try simp only [List.map_toArray, List.map_cons, List.map_nil]); first | done | rfl | (simp only [List.length_drop, List.length_take]; rfl)) ?_; (with_reducible refine (vendmeterref_monthLong.calls k1 (wrap64 (2000 + (wrap64 (Int.tdiv x4_1 12)))) (wrap64 ((Int.tmod x4_1 12) + 1)) t115 _ A4.out).mono ?_); rintro e w' ⟨rfl, ⟨nd, rfl⟩⟩; refine ⟨_, rfl, ?_⟩))
        go_roundg k1
        case measure => have := HK1.out; omega
        case rel => exact ⟨(wrap64 (x0_1 - t115)), (wrap64 (x4_1 + 1)), (by first | rfl | (simp; done) | (simp [*]; done)), (by first | rfl | (simp; done) | (simp [*]; done)), H', ⟨by have := HK1.out; omega⟩, by repeat (first | exact Drawn0.refl _ | apply Drawn0.step)⟩
      · rw [if_neg c3] at H
        have c3b0 : decide (t114 ≤ x0_1) = false := decide_eq_false c3
        clear c3
        simp only [Option.some.injEq, Prod.mk.injEq] at H
        obtain ⟨rfl, rfl⟩ := H
        go_wp2_with (first | ((with_reducible refine gate_callee (f := 40) rfl ?_); refine goesL_ (some 12) rfl rfl Try.func40 (by kernel_rfl) rfl #[.int .i64 (wrap64 (2000 + (wrap64 (Int.tdiv x4_1 12)))), .int .i64 (wrap64 ((Int.tmod x4_1 12) + 1))] rfl (by (try simp only [List.map_toArray, List.map_cons, List.map_nil]); first | done | rfl | (simp only [List.length_drop, List.length_take]; rfl)) ?_; (with_reducible refine (vendmeterref_monthLong.calls k1 (wrap64 (2000 + (wrap64 (Int.tdiv x4_1 12)))) (wrap64 ((Int.tmod x4_1 12) + 1)) t114 _ A2.out).mono ?_); rintro e w' ⟨rfl, ⟨nd, rfl⟩⟩; refine ⟨_, rfl, ?_⟩))
        go_ret2
        exact ⟨by first | rfl | (simp; done) | (simp [*]; done), by repeat (first | exact Drawn0.refl _ | apply Drawn0.step)⟩

/-! ### vendmeterref_MonthOf: function 26 -/
def vendmeterref_MonthOf.f (k : Nat) (a0 : Int) : Option (Int × Int) := (vendmeterref_In.f a0 0 73048).bind fun t116 => (if t116 = true then ((vendmeterref_monthFrom.f k a0).bind fun bt117 => (some (bt117.1, 0))) else (some (0, 2)))
theorem vendmeterref_MonthOf.mono : ∀ a0 k, LeO (vendmeterref_MonthOf.f k a0) (vendmeterref_MonthOf.f (k + 1) a0) := by
  intro a0 k
  unfold vendmeterref_MonthOf.f
  repeat' first
      | (with_reducible exact vendmeterref_monthFrom.mono _ _)
      | (with_reducible exact LeO.refl _)
      | (with_reducible exact LeO.none _)
      | (with_reducible refine LeO.ite ?_ ?_)
      | (with_reducible refine LeO.bind ?_ (fun _ => ?_))
      | exact vendmeterref_monthFrom.mono _ _
      | exact LeO.none _
      | refine LeO.ite ?_ ?_
      | refine LeO.bind ?_ (fun _ => ?_)
set_option maxHeartbeats 8000000 in
set_option maxRecDepth 100000 in
theorem vendmeterref_MonthOf.calls (k : Nat) (a0 : Int) (r1 : Int) (r2 : Int) (w : World) (h : vendmeterref_MonthOf.f k a0 = some (r1, r2)) :
    Calls Try.prog 26 #[.int .i64 a0] w fun e w' => e = .returned (.tuple #[.int .i64 r1, .int .i64 r2]) ∧ Drawn0 w w' := by
  have H : ((vendmeterref_In.f a0 0 73048).bind fun t116 => (if t116 = true then ((vendmeterref_monthFrom.f k a0).bind fun bt117 => (some (bt117.1, 0))) else (some (0, 2)))) = some (r1, r2) := h
  clear h
  replace H := Option.bind_eq_some_iff.mp H
  obtain ⟨t116, A20, H⟩ := H
  replace H : (if t116 = true then ((vendmeterref_monthFrom.f k a0).bind fun bt117 => (some (bt117.1, 0))) else (some (0, 2))) = some (r1, r2) := H
  have A2 := Aside0.mk A20
  clear A20
  by_cases c3 : t116 = true
  · subst c3
    have H1 : ((vendmeterref_monthFrom.f k a0).bind fun bt117 => (some (bt117.1, 0))) = some (r1, r2) := by rw [if_pos rfl] at H; exact H
    clear H
    have H := H1
    clear H1
    replace H := Option.bind_eq_some_iff.mp H
    obtain ⟨⟨t117, t118⟩, A40, H⟩ := H
    replace H : (some (t117, 0)) = some (r1, r2) := H
    have A4 := Aside0.mk A40
    clear A40
    simp only [Option.some.injEq, Prod.mk.injEq] at H
    obtain ⟨rfl, rfl⟩ := H
    go_enter Try.func26, Try.ntmps26
    go_wp2_with (first | ((with_reducible refine gate_callee (f := 35) rfl ?_); refine goesL_ (some 7) rfl rfl Try.func35 (by kernel_rfl) rfl #[.int .i64 a0, .int .i64 0, .int .i64 73048] rfl (by (try simp only [List.map_toArray, List.map_cons, List.map_nil]); first | done | rfl | (simp only [List.length_drop, List.length_take]; rfl)) ?_; (with_reducible refine (vendmeterref_In.calls a0 0 73048 true _ A2.out).mono ?_); rintro e w' ⟨rfl, ⟨nd, rfl⟩⟩; refine ⟨_, rfl, ?_⟩) | ((with_reducible refine gate_callee (f := 42) rfl ?_); refine goesL_ (some 11) rfl rfl Try.func42 (by kernel_rfl) rfl #[.int .i64 a0] rfl (by (try simp only [List.map_toArray, List.map_cons, List.map_nil]); first | done | rfl | (simp only [List.length_drop, List.length_take]; rfl)) ?_; (with_reducible refine (vendmeterref_monthFrom.calls k a0 t117 t118 _ A4.out).mono ?_); rintro e w' ⟨rfl, ⟨nd, rfl⟩⟩; refine ⟨_, rfl, ?_⟩))
    go_ret2
    exact ⟨by first | rfl | (simp; done) | (simp [*]; done), by repeat (first | exact Drawn0.refl _ | apply Drawn0.step)⟩
  · replace c3 := Bool.eq_false_iff.mpr c3
    subst c3
    have H1 : (some (0, 2)) = some (r1, r2) := by rw [if_neg (show ¬ (false = true) by decide)] at H; exact H
    clear H
    have H := H1
    clear H1
    simp only [Option.some.injEq, Prod.mk.injEq] at H
    obtain ⟨rfl, rfl⟩ := H
    go_enter Try.func26, Try.ntmps26
    go_wp2_with (first | ((with_reducible refine gate_callee (f := 35) rfl ?_); refine goesL_ (some 7) rfl rfl Try.func35 (by kernel_rfl) rfl #[.int .i64 a0, .int .i64 0, .int .i64 73048] rfl (by (try simp only [List.map_toArray, List.map_cons, List.map_nil]); first | done | rfl | (simp only [List.length_drop, List.length_take]; rfl)) ?_; (with_reducible refine (vendmeterref_In.calls a0 0 73048 false _ A2.out).mono ?_); rintro e w' ⟨rfl, ⟨nd, rfl⟩⟩; refine ⟨_, rfl, ?_⟩))
    go_ret2
    exact ⟨by first | rfl | (simp; done) | (simp [*]; done), by repeat (first | exact Drawn0.refl _ | apply Drawn0.step)⟩

/-! ### vendmeterlaw_CalMonths: function 10 -/
def vendmeterlaw_CalMonths.f (k : Nat) (a0 : Int) : Option (Bool) := (calendar_Month.f k a0).bind fun bt119 => ((vendmeterref_MonthOf.f k a0).bind fun bt121 => (if bt119.1 = bt121.1 then (some (bt119.2 == bt121.2)) else (some false)))
theorem vendmeterlaw_CalMonths.mono : ∀ a0 k, LeO (vendmeterlaw_CalMonths.f k a0) (vendmeterlaw_CalMonths.f (k + 1) a0) := by
  intro a0 k
  unfold vendmeterlaw_CalMonths.f
  repeat' first
      | (with_reducible exact calendar_Month.mono _ _)
      | (with_reducible exact vendmeterref_MonthOf.mono _ _)
      | (with_reducible exact LeO.refl _)
      | (with_reducible exact LeO.none _)
      | (with_reducible refine LeO.ite ?_ ?_)
      | (with_reducible refine LeO.bind ?_ (fun _ => ?_))
      | exact calendar_Month.mono _ _
      | exact vendmeterref_MonthOf.mono _ _
      | exact LeO.none _
      | refine LeO.ite ?_ ?_
      | refine LeO.bind ?_ (fun _ => ?_)
set_option maxHeartbeats 8000000 in
set_option maxRecDepth 100000 in
theorem vendmeterlaw_CalMonths.calls (k : Nat) (a0 : Int) (r : Bool) (w : World) (h : vendmeterlaw_CalMonths.f k a0 = some r) :
    Calls Try.prog 10 #[.int .i64 a0] w fun e w' => e = .returned (.bool r) ∧ Below w.heap.size w w' := by
  have HB := Aside0.mk (Below.refl w.heap.size w)
  have H : ((calendar_Month.f k a0).bind fun bt119 => ((vendmeterref_MonthOf.f k a0).bind fun bt121 => (if bt119.1 = bt121.1 then (some (bt119.2 == bt121.2)) else (some false)))) = some r := h
  clear h
  replace H := Option.bind_eq_some_iff.mp H
  obtain ⟨⟨t119, t120⟩, A20, H⟩ := H
  replace H : ((vendmeterref_MonthOf.f k a0).bind fun bt121 => (if t119 = bt121.1 then (some (t120 == bt121.2)) else (some false))) = some r := H
  have A2 := Aside0.mk A20
  clear A20
  replace H := Option.bind_eq_some_iff.mp H
  obtain ⟨⟨t121, t122⟩, A30, H⟩ := H
  replace H : (if t119 = t121 then (some (t120 == t122)) else (some false)) = some r := H
  have A3 := Aside0.mk A30
  clear A30
  by_cases c4 : t119 = t121
  · rw [if_pos c4] at H
    have c4b0 : (t119 == t121) = true := beq_iff_eq.mpr c4
    have c4b1 : (t119 != t121) = false := bne_eq_false_iff_eq.mpr c4
    clear c4
    obtain rfl := Option.some.inj H
    go_enter Try.func10, Try.ntmps10
    go_wp2_with (first | ((with_reducible refine gate_callee (f := 25) rfl ?_); refine goesL_ (some 9) rfl rfl Try.func25 (by kernel_rfl) rfl #[.int .i64 a0] rfl (by (try simp only [List.map_toArray, List.map_cons, List.map_nil]); first | done | rfl | (simp only [List.length_drop, List.length_take]; rfl)) ?_; (with_reducible refine (calendar_Month.calls k a0 t119 t120 _ A2.out).mono ?_); rintro e w5 ⟨rfl, hb⟩; refine ⟨_, rfl, ?_⟩; have n0_ := Aside0.mk (below_step (by repeat (first | (with_reducible first | exact HB.out | apply below_alloc | apply pw_below_drewN | apply below_drew1) | exact HB.out)) hb); clear HB; have HB := n0_; clear n0_; (try clear hb); (try clear hb2); (try clear hk); (try clear hi)) | ((with_reducible refine gate_callee (f := 26) rfl ?_); refine goesL_ (some 14) rfl rfl Try.func26 (by kernel_rfl) rfl #[.int .i64 a0] rfl (by (try simp only [List.map_toArray, List.map_cons, List.map_nil]); first | done | rfl | (simp only [List.length_drop, List.length_take]; rfl)) ?_; (with_reducible refine (vendmeterref_MonthOf.calls k a0 t121 t122 _ A3.out).mono ?_); rintro e w' ⟨rfl, ⟨nd, rfl⟩⟩; refine ⟨_, rfl, ?_⟩))
    go_ret
    exact ⟨by first | rfl | (simp [errW_none, errW_some] <;> rfl) | (simp [*, errW_none, errW_some] <;> rfl), by repeat (first | (with_reducible first | exact HB.out | apply below_alloc | apply pw_below_drewN | apply below_drew1) | exact HB.out)⟩
  · rw [if_neg c4] at H
    have c4b0 : (t119 == t121) = false := beq_eq_false_iff_ne.mpr c4
    have c4b1 : (t119 != t121) = true := bne_iff_ne.mpr c4
    obtain rfl := Option.some.inj H
    go_enter Try.func10, Try.ntmps10
    go_wp2_with (first | ((with_reducible refine gate_callee (f := 25) rfl ?_); refine goesL_ (some 9) rfl rfl Try.func25 (by kernel_rfl) rfl #[.int .i64 a0] rfl (by (try simp only [List.map_toArray, List.map_cons, List.map_nil]); first | done | rfl | (simp only [List.length_drop, List.length_take]; rfl)) ?_; (with_reducible refine (calendar_Month.calls k a0 t119 t120 _ A2.out).mono ?_); rintro e w6 ⟨rfl, hb⟩; refine ⟨_, rfl, ?_⟩; have n0_ := Aside0.mk (below_step (by repeat (first | (with_reducible first | exact HB.out | apply below_alloc | apply pw_below_drewN | apply below_drew1) | exact HB.out)) hb); clear HB; have HB := n0_; clear n0_; (try clear hb); (try clear hb2); (try clear hk); (try clear hi)) | ((with_reducible refine gate_callee (f := 26) rfl ?_); refine goesL_ (some 14) rfl rfl Try.func26 (by kernel_rfl) rfl #[.int .i64 a0] rfl (by (try simp only [List.map_toArray, List.map_cons, List.map_nil]); first | done | rfl | (simp only [List.length_drop, List.length_take]; rfl)) ?_; (with_reducible refine (vendmeterref_MonthOf.calls k a0 t121 t122 _ A3.out).mono ?_); rintro e w' ⟨rfl, ⟨nd, rfl⟩⟩; refine ⟨_, rfl, ?_⟩))
    go_ret
    exact ⟨by first | rfl | (simp [errW_none, errW_some] <;> rfl) | (simp [*, errW_none, errW_some] <;> rfl), by repeat (first | (with_reducible first | exact HB.out | apply below_alloc | apply pw_below_drewN | apply below_drew1) | exact HB.out)⟩

/-- THE ONE PURE STATEMENT of vendmeterlaw_CalMonths: yours. -/
def vendmeterlaw_CalMonths.Pure : Prop := ∀ (a0 : Int), (Lit.int .i64 a0).wf = true → ∃ k, vendmeterlaw_CalMonths.f k a0 = some true
theorem vendmeterlaw_CalMonths.walk (P : vendmeterlaw_CalMonths.Pure) (a0 : Int) (w : World) (w0 : (Lit.int .i64 a0).wf = true) :
    Calls Try.prog 10 #[.int .i64 a0] w fun e w' => e = .returned (.bool true) ∧ Below w.heap.size w w' := by
  obtain ⟨k, h⟩ := P a0 w0
  refine (vendmeterlaw_CalMonths.calls k a0 true w h).mono ?_
  rintro e w' ⟨rfl, hd⟩
  exact ⟨rfl, hd⟩

end Go.Proofs.Ytccokgnohmafjaa.PCalMonths
