-- written by this session's program wip/xp/xprint.py (it drives the kit's print and adds to it)
import Derived.Test.YthmmadniaakapaaPPocketTicksx0
import Derived.Test.YthmmadniaakapaaPPocketTicksx6
namespace Go.Proofs.Ythmmadniaakapaa.PPocketTicks
open Go.RowKit Go.Proofs.YthmmadniaakapaaW.PrintWords Go.Proofs.YthmmadniaakapaaW.PrintLast Go.Proofs.YthmmadniaakapaaW.PrintMore
attribute [local go_sem] max2_int min2_int max_two min_two max_three min_three max_four min_four   -- for this text's walks alone
set_option linter.unusedVariables false
set_option linter.unusedSimpArgs false

/-! ### vendmeterref_follows: function 151 -/
def vendmeterref_follows.f (a0 : Int) (a1 : Int) : Option (Bool) := if a0 = 1 then (if a1 = 2 then (some true) else (if a0 = 2 then (if a1 = 3 then (some true) else (if a0 = 3 then (some (a1 == 1)) else (some false))) else (if a0 = 3 then (some (a1 == 1)) else (some false)))) else (if a0 = 2 then (if a1 = 3 then (some true) else (if a0 = 3 then (some (a1 == 1)) else (some false))) else (if a0 = 3 then (some (a1 == 1)) else (some false)))
set_option maxHeartbeats 8000000 in
set_option maxRecDepth 100000 in
theorem vendmeterref_follows.calls (a0 : Int) (a1 : Int) (r : Bool) (w : World) (h : vendmeterref_follows.f a0 a1 = some r) :
    Calls Try.prog 151 #[.int .u32 a0, .int .u32 a1] w fun e w' => e = .returned (.bool r) ∧ Drawn0 w w' := by
  have H : (if a0 = 1 then (if a1 = 2 then (some true) else (if a0 = 2 then (if a1 = 3 then (some true) else (if a0 = 3 then (some (a1 == 1)) else (some false))) else (if a0 = 3 then (some (a1 == 1)) else (some false)))) else (if a0 = 2 then (if a1 = 3 then (some true) else (if a0 = 3 then (some (a1 == 1)) else (some false))) else (if a0 = 3 then (some (a1 == 1)) else (some false)))) = some r := h
  clear h
  by_cases c3 : a0 = 1
  · rw [if_pos c3] at H
    have c3b0 : (a0 == 1) = true := beq_iff_eq.mpr c3
    have c3b1 : (a0 != 1) = false := bne_eq_false_iff_eq.mpr c3
    clear c3
    by_cases c4 : a1 = 2
    · rw [if_pos c4] at H
      have c4b0 : (a1 == 2) = true := beq_iff_eq.mpr c4
      have c4b1 : (a1 != 2) = false := bne_eq_false_iff_eq.mpr c4
      clear c4
      obtain rfl := Option.some.inj H
      go_enter Try.func151, Try.ntmps151
      go_wp2
      go_ret
      exact ⟨by first | rfl | (simp; done) | (simp [*]; done), by repeat (first | exact Drawn0.refl _ | apply Drawn0.step)⟩
    · rw [if_neg c4] at H
      have c4b0 : (a1 == 2) = false := beq_eq_false_iff_ne.mpr c4
      have c4b1 : (a1 != 2) = true := bne_iff_ne.mpr c4
      by_cases c5 : a0 = 2
      · rw [if_pos c5] at H
        have c5b0 : (a0 == 2) = true := beq_iff_eq.mpr c5
        have c5b1 : (a0 != 2) = false := bne_eq_false_iff_eq.mpr c5
        clear c5
        by_cases c6 : a1 = 3
        · rw [if_pos c6] at H
          have c6b0 : (a1 == 3) = true := beq_iff_eq.mpr c6
          have c6b1 : (a1 != 3) = false := bne_eq_false_iff_eq.mpr c6
          clear c6
          obtain rfl := Option.some.inj H
          go_enter Try.func151, Try.ntmps151
          go_wp2
          go_ret
          exact ⟨by first | rfl | (simp; done) | (simp [*]; done), by repeat (first | exact Drawn0.refl _ | apply Drawn0.step)⟩
        · rw [if_neg c6] at H
          have c6b0 : (a1 == 3) = false := beq_eq_false_iff_ne.mpr c6
          have c6b1 : (a1 != 3) = true := bne_iff_ne.mpr c6
          by_cases c7 : a0 = 3
          · rw [if_pos c7] at H
            have c7b0 : (a0 == 3) = true := beq_iff_eq.mpr c7
            have c7b1 : (a0 != 3) = false := bne_eq_false_iff_eq.mpr c7
            clear c7
            obtain rfl := Option.some.inj H
            go_enter Try.func151, Try.ntmps151
            go_wp2
            go_ret
            exact ⟨by first | rfl | (simp; done) | (simp [*]; done), by repeat (first | exact Drawn0.refl _ | apply Drawn0.step)⟩
          · rw [if_neg c7] at H
            have c7b0 : (a0 == 3) = false := beq_eq_false_iff_ne.mpr c7
            have c7b1 : (a0 != 3) = true := bne_iff_ne.mpr c7
            obtain rfl := Option.some.inj H
            go_enter Try.func151, Try.ntmps151
            go_wp2
            go_ret
            exact ⟨by first | rfl | (simp; done) | (simp [*]; done), by repeat (first | exact Drawn0.refl _ | apply Drawn0.step)⟩
      · rw [if_neg c5] at H
        have c5b0 : (a0 == 2) = false := beq_eq_false_iff_ne.mpr c5
        have c5b1 : (a0 != 2) = true := bne_iff_ne.mpr c5
        by_cases c8 : a0 = 3
        · rw [if_pos c8] at H
          have c8b0 : (a0 == 3) = true := beq_iff_eq.mpr c8
          have c8b1 : (a0 != 3) = false := bne_eq_false_iff_eq.mpr c8
          clear c8
          obtain rfl := Option.some.inj H
          go_enter Try.func151, Try.ntmps151
          go_wp2
          go_ret
          exact ⟨by first | rfl | (simp; done) | (simp [*]; done), by repeat (first | exact Drawn0.refl _ | apply Drawn0.step)⟩
        · rw [if_neg c8] at H
          have c8b0 : (a0 == 3) = false := beq_eq_false_iff_ne.mpr c8
          have c8b1 : (a0 != 3) = true := bne_iff_ne.mpr c8
          obtain rfl := Option.some.inj H
          go_enter Try.func151, Try.ntmps151
          go_wp2
          go_ret
          exact ⟨by first | rfl | (simp; done) | (simp [*]; done), by repeat (first | exact Drawn0.refl _ | apply Drawn0.step)⟩
  · rw [if_neg c3] at H
    have c3b0 : (a0 == 1) = false := beq_eq_false_iff_ne.mpr c3
    have c3b1 : (a0 != 1) = true := bne_iff_ne.mpr c3
    by_cases c9 : a0 = 2
    · rw [if_pos c9] at H
      have c9b0 : (a0 == 2) = true := beq_iff_eq.mpr c9
      have c9b1 : (a0 != 2) = false := bne_eq_false_iff_eq.mpr c9
      clear c9
      by_cases c10 : a1 = 3
      · rw [if_pos c10] at H
        have c10b0 : (a1 == 3) = true := beq_iff_eq.mpr c10
        have c10b1 : (a1 != 3) = false := bne_eq_false_iff_eq.mpr c10
        clear c10
        obtain rfl := Option.some.inj H
        go_enter Try.func151, Try.ntmps151
        go_wp2
        go_ret
        exact ⟨by first | rfl | (simp; done) | (simp [*]; done), by repeat (first | exact Drawn0.refl _ | apply Drawn0.step)⟩
      · rw [if_neg c10] at H
        have c10b0 : (a1 == 3) = false := beq_eq_false_iff_ne.mpr c10
        have c10b1 : (a1 != 3) = true := bne_iff_ne.mpr c10
        by_cases c11 : a0 = 3
        · rw [if_pos c11] at H
          have c11b0 : (a0 == 3) = true := beq_iff_eq.mpr c11
          have c11b1 : (a0 != 3) = false := bne_eq_false_iff_eq.mpr c11
          clear c11
          obtain rfl := Option.some.inj H
          go_enter Try.func151, Try.ntmps151
          go_wp2
          go_ret
          exact ⟨by first | rfl | (simp; done) | (simp [*]; done), by repeat (first | exact Drawn0.refl _ | apply Drawn0.step)⟩
        · rw [if_neg c11] at H
          have c11b0 : (a0 == 3) = false := beq_eq_false_iff_ne.mpr c11
          have c11b1 : (a0 != 3) = true := bne_iff_ne.mpr c11
          obtain rfl := Option.some.inj H
          go_enter Try.func151, Try.ntmps151
          go_wp2
          go_ret
          exact ⟨by first | rfl | (simp; done) | (simp [*]; done), by repeat (first | exact Drawn0.refl _ | apply Drawn0.step)⟩
    · rw [if_neg c9] at H
      have c9b0 : (a0 == 2) = false := beq_eq_false_iff_ne.mpr c9
      have c9b1 : (a0 != 2) = true := bne_iff_ne.mpr c9
      by_cases c12 : a0 = 3
      · rw [if_pos c12] at H
        have c12b0 : (a0 == 3) = true := beq_iff_eq.mpr c12
        have c12b1 : (a0 != 3) = false := bne_eq_false_iff_eq.mpr c12
        clear c12
        obtain rfl := Option.some.inj H
        go_enter Try.func151, Try.ntmps151
        go_wp2
        go_ret
        exact ⟨by first | rfl | (simp; done) | (simp [*]; done), by repeat (first | exact Drawn0.refl _ | apply Drawn0.step)⟩
      · rw [if_neg c12] at H
        have c12b0 : (a0 == 3) = false := beq_eq_false_iff_ne.mpr c12
        have c12b1 : (a0 != 3) = true := bne_iff_ne.mpr c12
        obtain rfl := Option.some.inj H
        go_enter Try.func151, Try.ntmps151
        go_wp2
        go_ret
        exact ⟨by first | rfl | (simp; done) | (simp [*]; done), by repeat (first | exact Drawn0.refl _ | apply Drawn0.step)⟩

/-! ### vendmeterref_counts: function 138 -/
mutual
def vendmeterref_counts.j0 : Nat → Int → Int → Bool → Option (Int)
  | 0, _, _, _ => none
  | k + 1, x5, x6, x7 => if x6 ≥ 1 then (vendmeterref_counts.j1 k x5 x6 x7 (decide (x6 ≤ 3))) else (vendmeterref_counts.j1 k x5 x6 x7 false)
def vendmeterref_counts.j1 : Nat → Int → Int → Bool → Bool → Option (Int)
  | 0, _, _, _, _ => none
  | k + 1, x5, x6, x7, x8 => if x7 = true then (vendmeterref_counts.j2 k x5 x6 x7 x8 false) else (vendmeterref_counts.j2 k x5 x6 x7 x8 (!x8))
def vendmeterref_counts.j2 : Nat → Int → Int → Bool → Bool → Bool → Option (Int)
  | 0, _, _, _, _, _ => none
  | k + 1, x5, x6, x7, x8, x34 => if x34 = true then (some 2) else (if x7 = true then (vendmeterref_counts.j3 k x5 x6 x8 x8) else (vendmeterref_counts.j3 k x5 x6 x8 false))
def vendmeterref_counts.j3 : Nat → Int → Int → Bool → Bool → Option (Int)
  | 0, _, _, _, _ => none
  | k + 1, x5, x6, x8, x38 => if x38 = true then ((vendmeterref_follows.f x5 x6).bind fun t207 => (if t207 = true then (some 1) else (some 0))) else (if x8 = true then (some 1) else (some 0))
end
def vendmeterref_counts.f (k : Nat) (l0 : List Int) (a1 : Int) : Option (Int) := if 0 < (l0.length : Int) then (if 0 ≤ (wrap64 (a1 + 1)) then (if (wrap64 (a1 + 1)) < (l0.length : Int) then (if (rd l0 0) ≥ 1 then (vendmeterref_counts.j0 k (rd l0 0) (rd l0 (wrap64 (a1 + 1))) (decide ((rd l0 0) ≤ 3))) else (vendmeterref_counts.j0 k (rd l0 0) (rd l0 (wrap64 (a1 + 1))) false)) else (none)) else (none)) else (none)
theorem vendmeterref_counts.mono_l : ∀ k, (∀ y0 y1 y2, LeO (vendmeterref_counts.j0 k y0 y1 y2) (vendmeterref_counts.j0 (k + 1) y0 y1 y2)) ∧ (∀ y0 y1 y2 y3, LeO (vendmeterref_counts.j1 k y0 y1 y2 y3) (vendmeterref_counts.j1 (k + 1) y0 y1 y2 y3)) ∧ (∀ y0 y1 y2 y3 y4, LeO (vendmeterref_counts.j2 k y0 y1 y2 y3 y4) (vendmeterref_counts.j2 (k + 1) y0 y1 y2 y3 y4)) ∧ (∀ y0 y1 y2 y3, LeO (vendmeterref_counts.j3 k y0 y1 y2 y3) (vendmeterref_counts.j3 (k + 1) y0 y1 y2 y3))
  | 0 => ⟨fun _ _ _ r h => by simp [vendmeterref_counts.j0] at h, fun _ _ _ _ r h => by simp [vendmeterref_counts.j1] at h, fun _ _ _ _ _ r h => by simp [vendmeterref_counts.j2] at h, fun _ _ _ _ r h => by simp [vendmeterref_counts.j3] at h⟩
  | k + 1 => by
    obtain ⟨ih0, ih1, ih2, ih3⟩ := vendmeterref_counts.mono_l k
    refine ⟨?_, ?_, ?_, ?_⟩
    · intro y0 y1 y2
      unfold vendmeterref_counts.j0
      repeat' first
      | (with_reducible exact ih0 _ _ _)
      | (with_reducible exact ih1 _ _ _ _)
      | (with_reducible exact ih2 _ _ _ _ _)
      | (with_reducible exact ih3 _ _ _ _)
      | (with_reducible exact LeO.refl _)
      | (with_reducible exact LeO.none _)
      | (with_reducible refine LeO.ite ?_ ?_)
      | (with_reducible refine LeO.bind ?_ (fun _ => ?_))
      | exact ih0 _ _ _
      | exact ih1 _ _ _ _
      | exact ih2 _ _ _ _ _
      | exact ih3 _ _ _ _
      | exact LeO.none _
      | refine LeO.ite ?_ ?_
      | refine LeO.bind ?_ (fun _ => ?_)
    · intro y0 y1 y2 y3
      unfold vendmeterref_counts.j1
      repeat' first
      | (with_reducible exact ih0 _ _ _)
      | (with_reducible exact ih1 _ _ _ _)
      | (with_reducible exact ih2 _ _ _ _ _)
      | (with_reducible exact ih3 _ _ _ _)
      | (with_reducible exact LeO.refl _)
      | (with_reducible exact LeO.none _)
      | (with_reducible refine LeO.ite ?_ ?_)
      | (with_reducible refine LeO.bind ?_ (fun _ => ?_))
      | exact ih0 _ _ _
      | exact ih1 _ _ _ _
      | exact ih2 _ _ _ _ _
      | exact ih3 _ _ _ _
      | exact LeO.none _
      | refine LeO.ite ?_ ?_
      | refine LeO.bind ?_ (fun _ => ?_)
    · intro y0 y1 y2 y3 y4
      unfold vendmeterref_counts.j2
      repeat' first
      | (with_reducible exact ih0 _ _ _)
      | (with_reducible exact ih1 _ _ _ _)
      | (with_reducible exact ih2 _ _ _ _ _)
      | (with_reducible exact ih3 _ _ _ _)
      | (with_reducible exact LeO.refl _)
      | (with_reducible exact LeO.none _)
      | (with_reducible refine LeO.ite ?_ ?_)
      | (with_reducible refine LeO.bind ?_ (fun _ => ?_))
      | exact ih0 _ _ _
      | exact ih1 _ _ _ _
      | exact ih2 _ _ _ _ _
      | exact ih3 _ _ _ _
      | exact LeO.none _
      | refine LeO.ite ?_ ?_
      | refine LeO.bind ?_ (fun _ => ?_)
    · intro y0 y1 y2 y3
      unfold vendmeterref_counts.j3
      repeat' first
      | (with_reducible exact ih0 _ _ _)
      | (with_reducible exact ih1 _ _ _ _)
      | (with_reducible exact ih2 _ _ _ _ _)
      | (with_reducible exact ih3 _ _ _ _)
      | (with_reducible exact LeO.refl _)
      | (with_reducible exact LeO.none _)
      | (with_reducible refine LeO.ite ?_ ?_)
      | (with_reducible refine LeO.bind ?_ (fun _ => ?_))
      | exact ih0 _ _ _
      | exact ih1 _ _ _ _
      | exact ih2 _ _ _ _ _
      | exact ih3 _ _ _ _
      | exact LeO.none _
      | refine LeO.ite ?_ ?_
      | refine LeO.bind ?_ (fun _ => ?_)
theorem vendmeterref_counts.mono : ∀ a0 a1 k, LeO (vendmeterref_counts.f k a0 a1) (vendmeterref_counts.f (k + 1) a0 a1) := by
  intro a0 a1 k
  obtain ⟨ih0, ih1, ih2, ih3⟩ := vendmeterref_counts.mono_l k
  unfold vendmeterref_counts.f
  repeat' first
      | (with_reducible exact ih0 _ _ _)
      | (with_reducible exact ih1 _ _ _ _)
      | (with_reducible exact ih2 _ _ _ _ _)
      | (with_reducible exact ih3 _ _ _ _)
      | (with_reducible exact LeO.refl _)
      | (with_reducible exact LeO.none _)
      | (with_reducible refine LeO.ite ?_ ?_)
      | (with_reducible refine LeO.bind ?_ (fun _ => ?_))
      | exact ih0 _ _ _
      | exact ih1 _ _ _ _
      | exact ih2 _ _ _ _ _
      | exact ih3 _ _ _ _
      | exact LeO.none _
      | refine LeO.ite ?_ ?_
      | refine LeO.bind ?_ (fun _ => ?_)
set_option maxHeartbeats 8000000 in
set_option maxRecDepth 100000 in
theorem vendmeterref_counts.calls (k : Nat) (A0 : Option Addr) (c0 : Nat) (l0 : List Int) (a1 : Int) (r : Int) (w : World) (hr0 : Kd.C (Kd.int .u32) w A0 l0.length l0) (hc0 : l0.length ≤ c0) (h : vendmeterref_counts.f k l0 a1 = some r) :
    Calls Try.prog 138 #[.slice A0 l0.length c0, .int .i64 a1] w fun e w' => e = .returned (.int .i64 r) ∧ Drawn0 w w' := by
  have HR0 := Aside0.mk hr0
  have HC0 := Aside0.mk hc0
  clear hr0 hc0
  have H : (if 0 < (l0.length : Int) then (if 0 ≤ (wrap64 (a1 + 1)) then (if (wrap64 (a1 + 1)) < (l0.length : Int) then (if (rd l0 0) ≥ 1 then (vendmeterref_counts.j0 k (rd l0 0) (rd l0 (wrap64 (a1 + 1))) (decide ((rd l0 0) ≤ 3))) else (vendmeterref_counts.j0 k (rd l0 0) (rd l0 (wrap64 (a1 + 1))) false)) else (none)) else (none)) else (none)) = some r := h
  clear h
  by_cases c3 : 0 < (l0.length : Int)
  · rw [if_pos c3] at H
    have c3b0 : decide (0 < (l0.length : Int)) = true := decide_eq_true c3
    have c3b1 : decide (0 < l0.length) = true := decide_eq_true (by omega)
    clear c3
    obtain ⟨ji4, hji4⟩ : ∃ j_ : Int, (wrap64 (a1 + 1)) = j_ := ⟨_, rfl⟩
    replace H : (if 0 ≤ (ji4) then (if (ji4) < (l0.length : Int) then (if (rd l0 0) ≥ 1 then (vendmeterref_counts.j0 k (rd l0 0) (rd l0 (ji4)) (decide ((rd l0 0) ≤ 3))) else (vendmeterref_counts.j0 k (rd l0 0) (rd l0 (ji4)) false)) else (none)) else (none)) = some r := by first | (rw [hji4] at H; exact H) | (simp only [hji4] at H ⊢; exact H)
    have hji4w : (IntKind.i64.wrap (a1 + 1)) = ji4 := (i64_w _).trans hji4
    by_cases c5 : 0 ≤ (ji4)
    · rw [if_pos c5] at H
      have c5b0 : decide (0 ≤ (ji4)) = true := decide_eq_true c5
      clear c5
      by_cases c6 : (ji4) < (l0.length : Int)
      · rw [if_pos c6] at H
        have c6b0 : decide ((ji4) < (l0.length : Int)) = true := decide_eq_true c6
        clear c6
        have HC7 := Aside0.mk H
        clear H
        have p205 : 0 ≤ (0 : Int) := (by omega)
        have q205 : 0 < (l0.length : Int) := of_decide_eq_true (by first | (with_reducible assumption) | assumption)
        obtain ⟨ad205, e205, hx205_0⟩ := Kd.at_int HR0.out 0 p205 q205
        cases e205
        have qi205 : (0 < l0.length) = True := eq_true (by omega)
        (try rw [show ((0 : Int)).toNat = 0 from rfl] at hx205_0)
        (try rw [Addr.add_zero'] at hx205_0)
        replace p205 := eq_true p205
        replace q205 := eq_true q205
        have p206 : 0 ≤ ((ji4) : Int) := of_decide_eq_true (by first | (with_reducible assumption) | assumption)
        have q206 : (ji4) < (l0.length : Int) := of_decide_eq_true (by first | (with_reducible assumption) | assumption)
        obtain ⟨ad206, e206, hx206_0⟩ := Kd.at_int HR0.out (ji4) p206 q206
        obtain rfl : ad205 = ad206 := (by injection e206)
        replace p206 := eq_true p206
        replace q206 := eq_true q206
        go_enter Try.func138, Try.ntmps138
        go_upto_region 3 with (fail)
        go_cut [7] (fun v7 wc => ∃ (kq : Nat) (x7_6 : Bool), v7 = .bool x7_6 ∧ Aside0 (vendmeterref_counts.j0 kq (rd l0 0) (rd l0 (ji4)) x7_6 = some r) ∧ Aside0 (kq ≤ k) ∧ Drawn0 w wc)
        case first =>
          have H := HC7.out
          clear HC7
          by_cases c8 : (rd l0 0) ≥ 1
          · rw [if_pos c8] at H
            have c8b0 : decide (1 ≤ (rd l0 0)) = true := decide_eq_true c8
            clear c8
            (first | rw [c8b0] | (simp only [i64_w, i32_w]; rw [c8b0]) | skip)
            have H' := Aside0.mk H
            clear H
            go_wp2
            go_meet
            case rel => exact ⟨_, (decide ((rd l0 0) ≤ 3)), (by first | rfl | (simp; done) | (simp [*]; done)), H', ⟨by first | omega | exact Nat.le_refl _⟩, by repeat (first | exact Drawn0.refl _ | apply Drawn0.step)⟩
          · rw [if_neg c8] at H
            have c8b0 : decide (1 ≤ (rd l0 0)) = false := decide_eq_false c8
            clear c8
            (first | rw [c8b0] | (simp only [i64_w, i32_w]; rw [c8b0]) | skip)
            have H' := Aside0.mk H
            clear H
            go_wp2
            go_meet
            case rel => exact ⟨_, (false), (by first | rfl | (simp; done) | (simp [*]; done)), H', ⟨by first | omega | exact Nat.le_refl _⟩, by repeat (first | exact Drawn0.refl _ | apply Drawn0.step)⟩
        case rest =>
          clear HC7
          try clear c1
          try clear p2
          try clear q2
          try clear hx2
          try clear qi2
          try clear c3
          try clear c3b0
          try clear c3b1
          try clear c5
          try clear c5b0
          try clear c6
          try clear c6b0
          try clear p6
          try clear c8
          try clear c8b0
          try clear hx205_0
          try clear hx206_0
          try clear p205
          try clear p206
          try clear q205
          try clear q206
          obtain ⟨kq, x7_6, rfl, HA, HJ6, ⟨mc6, rfl⟩⟩ := hcut
          cases kq with
          | zero => exact absurd HA.out (by simp [vendmeterref_counts.j0])
          | succ kj6 =>
            have H := HA.out
            clear HA
            simp only [vendmeterref_counts.j0] at H
            have HC9 := Aside0.mk H
            clear H
            go_upto_region 4 with (fail)
            go_cut [8] (fun v8 wc => ∃ (kq : Nat) (x8_8 : Bool), v8 = .bool x8_8 ∧ Aside0 (vendmeterref_counts.j1 kq (rd l0 0) (rd l0 (ji4)) x7_6 x8_8 = some r) ∧ Aside0 (kq ≤ kj6) ∧ Drawn0 w wc)
            case first =>
              have H := HC9.out
              clear HC9
              by_cases c10 : (rd l0 (ji4)) ≥ 1
              · rw [if_pos c10] at H
                have c10b0 : decide (1 ≤ (rd l0 (ji4))) = true := decide_eq_true c10
                clear c10
                (first | rw [c10b0] | (simp only [i64_w, i32_w]; rw [c10b0]) | skip)
                have H' := Aside0.mk H
                clear H
                go_wp2
                go_meet
                case rel => exact ⟨_, (decide ((rd l0 (ji4)) ≤ 3)), (by first | rfl | (simp; done) | (simp only [← hji4] <;> (first | rfl | simp)) | (simp [*]; done)), H', ⟨by have := HJ6.out; first | omega | exact Nat.le_refl _⟩, by repeat (first | exact Drawn0.refl _ | apply Drawn0.step)⟩
              · rw [if_neg c10] at H
                have c10b0 : decide (1 ≤ (rd l0 (ji4))) = false := decide_eq_false c10
                clear c10
                (first | rw [c10b0] | (simp only [i64_w, i32_w]; rw [c10b0]) | skip)
                have H' := Aside0.mk H
                clear H
                go_wp2
                go_meet
                case rel => exact ⟨_, (false), (by first | rfl | (simp; done) | (simp [*]; done)), H', ⟨by have := HJ6.out; first | omega | exact Nat.le_refl _⟩, by repeat (first | exact Drawn0.refl _ | apply Drawn0.step)⟩
            case rest =>
              clear HC9
              try clear c1
              try clear p2
              try clear q2
              try clear hx2
              try clear qi2
              try clear c3
              try clear c3b0
              try clear c3b1
              try clear c5
              try clear c5b0
              try clear c6
              try clear c6b0
              try clear p6
              try clear c8
              try clear c8b0
              try clear c10
              try clear c10b0
              try clear hx205_0
              try clear hx206_0
              try clear p2
              try clear p205
              try clear p206
              try clear p6
              try clear q2
              try clear q205
              try clear q206
              obtain ⟨kq, x8_8, rfl, HA, HJ8, ⟨mc8, rfl⟩⟩ := hcut
              cases kq with
              | zero => exact absurd HA.out (by simp [vendmeterref_counts.j1])
              | succ kj8 =>
                have H := HA.out
                clear HA
                simp only [vendmeterref_counts.j1] at H
                have HC11 := Aside0.mk H
                clear H
                go_upto_region 5 with (fail)
                go_cut [34] (fun v34 wc => ∃ (kq : Nat) (x34_10 : Bool), v34 = .bool x34_10 ∧ Aside0 (vendmeterref_counts.j2 kq (rd l0 0) (rd l0 (ji4)) x7_6 x8_8 x34_10 = some r) ∧ Aside0 (kq ≤ kj8) ∧ Drawn0 w wc)
                case first =>
                  have H := HC11.out
                  clear HC11
                  by_cases c12 : x7_6 = true
                  · subst c12
                    have H1 : (vendmeterref_counts.j2 kj8 (rd l0 0) (rd l0 (ji4)) true x8_8 false) = some r := by rw [if_pos rfl] at H; exact H
                    clear H
                    have H := H1
                    clear H1
                    have H' := Aside0.mk H
                    clear H
                    go_wp2
                    go_meet
                    case rel => exact ⟨_, (false), (by first | rfl | (simp; done) | (simp [*]; done)), H', ⟨by have := HJ6.out; have := HJ8.out; first | omega | exact Nat.le_refl _⟩, by repeat (first | exact Drawn0.refl _ | apply Drawn0.step)⟩
                  · replace c12 := Bool.eq_false_iff.mpr c12
                    subst c12
                    have H1 : (vendmeterref_counts.j2 kj8 (rd l0 0) (rd l0 (ji4)) false x8_8 (!x8_8)) = some r := by rw [if_neg (show ¬ (false = true) by decide)] at H; exact H
                    clear H
                    have H := H1
                    clear H1
                    have H' := Aside0.mk H
                    clear H
                    go_wp2
                    go_meet
                    case rel => exact ⟨_, (!x8_8), (by first | rfl | (simp; done) | (simp [*]; done)), H', ⟨by have := HJ6.out; have := HJ8.out; first | omega | exact Nat.le_refl _⟩, by repeat (first | exact Drawn0.refl _ | apply Drawn0.step)⟩
                case rest =>
                  clear HC11
                  try clear c1
                  try clear p2
                  try clear q2
                  try clear hx2
                  try clear qi2
                  try clear c3
                  try clear c3b0
                  try clear c3b1
                  try clear c5
                  try clear c5b0
                  try clear c6
                  try clear c6b0
                  try clear p6
                  try clear c8
                  try clear c8b0
                  try clear c10
                  try clear c10b0
                  try clear c12
                  try clear hx205_0
                  try clear hx206_0
                  try clear p2
                  try clear p205
                  try clear p206
                  try clear p6
                  try clear q2
                  try clear q205
                  try clear q206
                  obtain ⟨kq, x34_10, rfl, HA, HJ10, ⟨mc10, rfl⟩⟩ := hcut
                  cases kq with
                  | zero => exact absurd HA.out (by simp [vendmeterref_counts.j2])
                  | succ kj10 =>
                    have H := HA.out
                    clear HA
                    simp only [vendmeterref_counts.j2] at H
                    by_cases c13 : x34_10 = true
                    · subst c13
                      have H1 : (some 2) = some r := by rw [if_pos rfl] at H; exact H
                      clear H
                      have H := H1
                      clear H1
                      obtain rfl := Option.some.inj H
                      go_wp2
                      go_ret
                      exact ⟨by first | rfl | (simp; done) | (simp only [← hji4] <;> (first | rfl | simp)) | (simp [*]; done), by repeat (first | exact Drawn0.refl _ | apply Drawn0.step)⟩
                    · replace c13 := Bool.eq_false_iff.mpr c13
                      subst c13
                      have H1 : (if x7_6 = true then (vendmeterref_counts.j3 kj10 (rd l0 0) (rd l0 (ji4)) x8_8 x8_8) else (vendmeterref_counts.j3 kj10 (rd l0 0) (rd l0 (ji4)) x8_8 false)) = some r := by rw [if_neg (show ¬ (false = true) by decide)] at H; exact H
                      clear H
                      have H := H1
                      clear H1
                      have HC14 := Aside0.mk H
                      clear H
                      go_upto_region 7 with (fail)
                      go_cut [38] (fun v38 wc => ∃ (kq : Nat) (x38_13 : Bool), v38 = .bool x38_13 ∧ Aside0 (vendmeterref_counts.j3 kq (rd l0 0) (rd l0 (ji4)) x8_8 x38_13 = some r) ∧ Aside0 (kq ≤ kj10) ∧ Drawn0 w wc)
                      case first =>
                        have H := HC14.out
                        clear HC14
                        by_cases c15 : x7_6 = true
                        · subst c15
                          have H1 : (vendmeterref_counts.j3 kj10 (rd l0 0) (rd l0 (ji4)) x8_8 x8_8) = some r := by rw [if_pos rfl] at H; exact H
                          clear H
                          have H := H1
                          clear H1
                          have H' := Aside0.mk H
                          clear H
                          go_wp2
                          go_meet
                          case rel => exact ⟨_, (x8_8), (by first | rfl | (simp; done) | (simp [*]; done)), H', ⟨by have := HJ6.out; have := HJ8.out; have := HJ10.out; first | omega | exact Nat.le_refl _⟩, by repeat (first | exact Drawn0.refl _ | apply Drawn0.step)⟩
                        · replace c15 := Bool.eq_false_iff.mpr c15
                          subst c15
                          have H1 : (vendmeterref_counts.j3 kj10 (rd l0 0) (rd l0 (ji4)) x8_8 false) = some r := by rw [if_neg (show ¬ (false = true) by decide)] at H; exact H
                          clear H
                          have H := H1
                          clear H1
                          have H' := Aside0.mk H
                          clear H
                          go_wp2
                          go_meet
                          case rel => exact ⟨_, (false), (by first | rfl | (simp; done) | (simp [*]; done)), H', ⟨by have := HJ6.out; have := HJ8.out; have := HJ10.out; first | omega | exact Nat.le_refl _⟩, by repeat (first | exact Drawn0.refl _ | apply Drawn0.step)⟩
                      case rest =>
                        clear HC14
                        try clear c1
                        try clear p2
                        try clear q2
                        try clear hx2
                        try clear qi2
                        try clear c3
                        try clear c3b0
                        try clear c3b1
                        try clear c5
                        try clear c5b0
                        try clear c6
                        try clear c6b0
                        try clear p6
                        try clear c8
                        try clear c8b0
                        try clear c10
                        try clear c10b0
                        try clear c12
                        try clear c13
                        try clear c15
                        try clear hx205_0
                        try clear hx206_0
                        try clear p2
                        try clear p205
                        try clear p206
                        try clear p6
                        try clear q2
                        try clear q205
                        try clear q206
                        obtain ⟨kq, x38_13, rfl, HA, HJ13, ⟨mc13, rfl⟩⟩ := hcut
                        cases kq with
                        | zero => exact absurd HA.out (by simp [vendmeterref_counts.j3])
                        | succ kj13 =>
                          have H := HA.out
                          clear HA
                          simp only [vendmeterref_counts.j3] at H
                          by_cases c16 : x38_13 = true
                          · subst c16
                            have H1 : ((vendmeterref_follows.f (rd l0 0) (rd l0 (ji4))).bind fun t207 => (if t207 = true then (some 1) else (some 0))) = some r := by rw [if_pos rfl] at H; exact H
                            clear H
                            have H := H1
                            clear H1
                            replace H := Option.bind_eq_some_iff.mp H
                            obtain ⟨t207, A170, H⟩ := H
                            replace H : (if t207 = true then (some 1) else (some 0)) = some r := H
                            have A17 := Aside0.mk A170
                            clear A170
                            by_cases c18 : t207 = true
                            · subst c18
                              have H1 : (some 1) = some r := by rw [if_pos rfl] at H; exact H
                              clear H
                              have H := H1
                              clear H1
                              obtain rfl := Option.some.inj H
                              go_wp2_with (first | ((with_reducible refine gate_callee (f := 151) rfl ?_); refine goesL_ (some 41) rfl rfl Try.func151 (by kernel_rfl) rfl #[.int .u32 (rd l0 0), .int .u32 (rd l0 (ji4))] rfl (by (try simp only [List.map_toArray, List.map_cons, List.map_nil]); first | done | (simp only [hji4]; rfl) | rfl | (simp only [List.length_drop, List.length_take]; rfl)) ?_; (with_reducible refine (vendmeterref_follows.calls (rd l0 0) (rd l0 (ji4)) true _ A17.out).mono ?_); rintro e w' ⟨rfl, ⟨nd, rfl⟩⟩; refine ⟨_, rfl, ?_⟩))
                              go_ret
                              exact ⟨by first | rfl | (simp; done) | (simp only [← hji4] <;> (first | rfl | simp)) | (simp [*]; done), by repeat (first | exact Drawn0.refl _ | apply Drawn0.step)⟩
                            · replace c18 := Bool.eq_false_iff.mpr c18
                              subst c18
                              have H1 : (some 0) = some r := by rw [if_neg (show ¬ (false = true) by decide)] at H; exact H
                              clear H
                              have H := H1
                              clear H1
                              obtain rfl := Option.some.inj H
                              go_wp2_with (first | ((with_reducible refine gate_callee (f := 151) rfl ?_); refine goesL_ (some 41) rfl rfl Try.func151 (by kernel_rfl) rfl #[.int .u32 (rd l0 0), .int .u32 (rd l0 (ji4))] rfl (by (try simp only [List.map_toArray, List.map_cons, List.map_nil]); first | done | (simp only [hji4]; rfl) | rfl | (simp only [List.length_drop, List.length_take]; rfl)) ?_; (with_reducible refine (vendmeterref_follows.calls (rd l0 0) (rd l0 (ji4)) false _ A17.out).mono ?_); rintro e w' ⟨rfl, ⟨nd, rfl⟩⟩; refine ⟨_, rfl, ?_⟩))
                              go_ret
                              exact ⟨by first | rfl | (simp; done) | (simp only [← hji4] <;> (first | rfl | simp)) | (simp [*]; done), by repeat (first | exact Drawn0.refl _ | apply Drawn0.step)⟩
                          · replace c16 := Bool.eq_false_iff.mpr c16
                            subst c16
                            have H1 : (if x8_8 = true then (some 1) else (some 0)) = some r := by rw [if_neg (show ¬ (false = true) by decide)] at H; exact H
                            clear H
                            have H := H1
                            clear H1
                            by_cases c19 : x8_8 = true
                            · subst c19
                              have H1 : (some 1) = some r := by rw [if_pos rfl] at H; exact H
                              clear H
                              have H := H1
                              clear H1
                              obtain rfl := Option.some.inj H
                              go_wp2
                              go_ret
                              exact ⟨by first | rfl | (simp; done) | (simp only [← hji4] <;> (first | rfl | simp)) | (simp [*]; done), by repeat (first | exact Drawn0.refl _ | apply Drawn0.step)⟩
                            · replace c19 := Bool.eq_false_iff.mpr c19
                              subst c19
                              have H1 : (some 0) = some r := by rw [if_neg (show ¬ (false = true) by decide)] at H; exact H
                              clear H
                              have H := H1
                              clear H1
                              obtain rfl := Option.some.inj H
                              go_wp2
                              go_ret
                              exact ⟨by first | rfl | (simp; done) | (simp only [← hji4] <;> (first | rfl | simp)) | (simp [*]; done), by repeat (first | exact Drawn0.refl _ | apply Drawn0.step)⟩
      · rw [if_neg c6] at H
        exact absurd H (by simp)
    · rw [if_neg c5] at H
      exact absurd H (by simp)
  · rw [if_neg c3] at H
    exact absurd H (by simp)

/-! ### vendmeterref_SlotLoaded: function 102 -/
def vendmeterref_SlotLoaded.l0 : Nat → List Int → Int → Int → List Int → Int → Option (List Int × Int)
  | 0, _, _, _, _, _ => none
  | k + 1, x0, x1, x6, x7, x8 => if x8 ≤ x1 then (if 0 ≤ (wrap64 ((wrap64 (x6 * (wrap64 (x1 + 1)))) + x8)) then (if (wrap64 ((wrap64 (x6 * (wrap64 (x1 + 1)))) + x8)) < (x0.length : Int) then (if x7.length < 35184372088832 then (vendmeterref_SlotLoaded.l0 k x0 x1 x6 (x7 ++ [rd x0 (wrap64 ((wrap64 (x6 * (wrap64 (x1 + 1)))) + x8))]) (wrap64 (x8 + 1))) else (none)) else (none)) else (none)) else (some (x7, 0))
def vendmeterref_SlotLoaded.f (k : Nat) (l0 : List Int) (a1 : Int) : Option (List Int × Int) := (vendmeterref_SlotFits.f (l0.length : Int) a1).bind fun t208 => (if t208 = true then ((vendmeterref_counts.f k l0 a1).bind fun t209 => (if t209 = 2 then (some (([] : List Int), 17)) else (vendmeterref_SlotLoaded.l0 k l0 a1 t209 ([] : List Int) 1))) else (some (([] : List Int), 1)))
theorem vendmeterref_SlotLoaded.mono_l : ∀ k, (∀ y0 y1 y2 y3 y4, LeO (vendmeterref_SlotLoaded.l0 k y0 y1 y2 y3 y4) (vendmeterref_SlotLoaded.l0 (k + 1) y0 y1 y2 y3 y4))
  | 0 => fun _ _ _ _ _ r h => by simp [vendmeterref_SlotLoaded.l0] at h
  | k + 1 => by
    have ih0 := vendmeterref_SlotLoaded.mono_l k
    · intro y0 y1 y2 y3 y4
      unfold vendmeterref_SlotLoaded.l0
      repeat' first
      | (with_reducible exact ih0 _ _ _ _ _)
      | (with_reducible exact vendmeterref_counts.mono _ _ _)
      | (with_reducible exact LeO.refl _)
      | (with_reducible exact LeO.none _)
      | (with_reducible refine LeO.ite ?_ ?_)
      | (with_reducible refine LeO.bind ?_ (fun _ => ?_))
      | exact ih0 _ _ _ _ _
      | exact vendmeterref_counts.mono _ _ _
      | exact LeO.none _
      | refine LeO.ite ?_ ?_
      | refine LeO.bind ?_ (fun _ => ?_)
theorem vendmeterref_SlotLoaded.mono : ∀ a0 a1 k, LeO (vendmeterref_SlotLoaded.f k a0 a1) (vendmeterref_SlotLoaded.f (k + 1) a0 a1) := by
  intro a0 a1 k
  have ih0 := vendmeterref_SlotLoaded.mono_l k
  unfold vendmeterref_SlotLoaded.f
  repeat' first
      | (with_reducible exact ih0 _ _ _ _ _)
      | (with_reducible exact vendmeterref_counts.mono _ _ _)
      | (with_reducible exact LeO.refl _)
      | (with_reducible exact LeO.none _)
      | (with_reducible refine LeO.ite ?_ ?_)
      | (with_reducible refine LeO.bind ?_ (fun _ => ?_))
      | exact ih0 _ _ _ _ _
      | exact vendmeterref_counts.mono _ _ _
      | exact LeO.none _
      | refine LeO.ite ?_ ?_
      | refine LeO.bind ?_ (fun _ => ?_)
set_option maxHeartbeats 8000000 in
set_option maxRecDepth 100000 in
theorem vendmeterref_SlotLoaded.calls (k : Nat) (A0 : Option Addr) (c0 : Nat) (l0 : List Int) (a1 : Int) (r1 : List Int) (r2 : Int) (w : World) (hr0 : Kd.C (Kd.int .u32) w A0 l0.length l0) (hc0 : l0.length ≤ c0) (h : vendmeterref_SlotLoaded.f k l0 a1 = some (r1, r2)) :
    Calls Try.prog 102 #[.slice A0 l0.length c0, .int .i64 a1] w fun e w' => ∃ v0_ : Value, e = .returned (.tuple #[v0_, .int .i64 r2]) ∧ Kd.R (Kd.int .u32) 99 w' w.heap.size (fun _ => True) v0_ r1 ∧ Below w.heap.size w w' := by
  have HR0 := Aside0.mk hr0
  have HC0 := Aside0.mk hc0
  clear hr0 hc0
  have HB := Aside0.mk (Below.refl w.heap.size w)
  have H : ((vendmeterref_SlotFits.f (l0.length : Int) a1).bind fun t208 => (if t208 = true then ((vendmeterref_counts.f k l0 a1).bind fun t209 => (if t209 = 2 then (some (([] : List Int), 17)) else (vendmeterref_SlotLoaded.l0 k l0 a1 t209 ([] : List Int) 1))) else (some (([] : List Int), 1)))) = some (r1, r2) := h
  clear h
  replace H := Option.bind_eq_some_iff.mp H
  obtain ⟨t208, A30, H⟩ := H
  replace H : (if t208 = true then ((vendmeterref_counts.f k l0 a1).bind fun t209 => (if t209 = 2 then (some (([] : List Int), 17)) else (vendmeterref_SlotLoaded.l0 k l0 a1 t209 ([] : List Int) 1))) else (some (([] : List Int), 1))) = some (r1, r2) := H
  have A3 := Aside0.mk A30
  clear A30
  by_cases c4 : t208 = true
  · subst c4
    have H1 : ((vendmeterref_counts.f k l0 a1).bind fun t209 => (if t209 = 2 then (some (([] : List Int), 17)) else (vendmeterref_SlotLoaded.l0 k l0 a1 t209 ([] : List Int) 1))) = some (r1, r2) := by rw [if_pos rfl] at H; exact H
    clear H
    have H := H1
    clear H1
    replace H := Option.bind_eq_some_iff.mp H
    obtain ⟨t209, A50, H⟩ := H
    replace H : (if t209 = 2 then (some (([] : List Int), 17)) else (vendmeterref_SlotLoaded.l0 k l0 a1 t209 ([] : List Int) 1)) = some (r1, r2) := H
    have A5 := Aside0.mk A50
    clear A50
    by_cases c6 : t209 = 2
    · rw [if_pos c6] at H
      have c6b0 : (t209 == 2) = true := beq_iff_eq.mpr c6
      have c6b1 : (t209 != 2) = false := bne_eq_false_iff_eq.mpr c6
      clear c6
      simp only [Option.some.injEq, Prod.mk.injEq] at H
      obtain ⟨rfl, rfl⟩ := H
      go_enter Try.func102, Try.ntmps102
      go_wp2_with (first | ((with_reducible refine gate_callee (f := 137) rfl ?_); refine goesL_ (some 12) rfl rfl Try.func137 (by kernel_rfl) rfl #[.int .i64 (l0.length : Int), .int .i64 a1] rfl (by (try simp only [List.map_toArray, List.map_cons, List.map_nil]); first | done | rfl | (simp only [List.length_drop, List.length_take]; rfl)) ?_; (with_reducible refine (vendmeterref_SlotFits.calls (l0.length : Int) a1 true _ A3.out).mono ?_); rintro e w' ⟨rfl, ⟨nd, rfl⟩⟩; refine ⟨_, rfl, ?_⟩) | ((with_reducible refine gate_callee (f := 138) rfl ?_); refine goesL_ (some 16) rfl rfl Try.func138 (by kernel_rfl) rfl #[.slice A0 l0.length c0, .int .i64 a1] rfl (by (try simp only [List.map_toArray, List.map_cons, List.map_nil]); first | done | rfl | (simp only [List.length_drop, List.length_take]; rfl)) ?_; (with_reducible refine (vendmeterref_counts.calls k _ _ l0 a1 t209 _ ?side1 ?side2 A5.out).mono ?_); (case side1 => repeat (first | exact HR0.out | (with_reducible refine Kd.C_alloc ?_ _) | (with_reducible refine Kd.C_drewN ?_ _) | (with_reducible refine Kd.C_drew ?_))); (case side2 => exact HC0.out); rintro e w' ⟨rfl, ⟨nd, rfl⟩⟩; refine ⟨_, rfl, ?_⟩))
      go_ret2
      exact ⟨_, by first | rfl | (simp [errW_none, errW_some] <;> rfl) | (simp [*, errW_none, errW_some] <;> rfl), by first | exact Kd.R_nil _ _ _ _ _ | exact Kd.N_nil _ _ _ _ _ | exact Kd.V_nil _ _ _ _ _ | exact Kd.Q_nil _ _ _ _ _ | exact Kd.S_nil _ _ _ _ _, by repeat (first | (with_reducible first | exact HB.out | apply below_alloc | apply pw_below_drewN | apply below_drew1) | exact HB.out)⟩
    · rw [if_neg c6] at H
      have c6b0 : (t209 == 2) = false := beq_eq_false_iff_ne.mpr c6
      have c6b1 : (t209 != 2) = true := bne_iff_ne.mpr c6
      have H' := Aside0.mk H
      clear H
      go_enter Try.func102, Try.ntmps102
      go_wp2_with (first | ((with_reducible refine gate_callee (f := 137) rfl ?_); refine goesL_ (some 12) rfl rfl Try.func137 (by kernel_rfl) rfl #[.int .i64 (l0.length : Int), .int .i64 a1] rfl (by (try simp only [List.map_toArray, List.map_cons, List.map_nil]); first | done | rfl | (simp only [List.length_drop, List.length_take]; rfl)) ?_; (with_reducible refine (vendmeterref_SlotFits.calls (l0.length : Int) a1 true _ A3.out).mono ?_); rintro e w' ⟨rfl, ⟨nd, rfl⟩⟩; refine ⟨_, rfl, ?_⟩) | ((with_reducible refine gate_callee (f := 138) rfl ?_); refine goesL_ (some 16) rfl rfl Try.func138 (by kernel_rfl) rfl #[.slice A0 l0.length c0, .int .i64 a1] rfl (by (try simp only [List.map_toArray, List.map_cons, List.map_nil]); first | done | rfl | (simp only [List.length_drop, List.length_take]; rfl)) ?_; (with_reducible refine (vendmeterref_counts.calls k _ _ l0 a1 t209 _ ?side1 ?side2 A5.out).mono ?_); (case side1 => repeat (first | exact HR0.out | (with_reducible refine Kd.C_alloc ?_ _) | (with_reducible refine Kd.C_drewN ?_ _) | (with_reducible refine Kd.C_drew ?_))); (case side2 => exact HC0.out); rintro e w' ⟨rfl, ⟨nd, rfl⟩⟩; refine ⟨_, rfl, ?_⟩))
      go_loopg [7, 8] k (fun kq v7 v8 w' => ∃ (x7_1 : List Int) (x8_1 : Int), v8 = .int .i64 x8_1 ∧ Aside0 (vendmeterref_SlotLoaded.l0 kq l0 a1 t209 x7_1 x8_1 = some (r1, r2)) ∧ Aside0 (kq ≤ k) ∧ Aside0 (Kd.R (Kd.int .u32) 99 w' w.heap.size (fun _ => True) v7 x7_1) ∧ Aside0 (Below w.heap.size w w'))
      case atStart => exact ⟨(([] : List Int)), (1), (by first | rfl | (simp; done) | (simp [*]; done)), H', ⟨Nat.le_refl _⟩, ⟨by first | exact Kd.R_nil _ _ _ _ _ | exact Kd.N_nil _ _ _ _ _ | exact Kd.V_nil _ _ _ _ _ | exact Kd.Q_nil _ _ _ _ _ | exact Kd.S_nil _ _ _ _ _⟩, ⟨by repeat (first | (with_reducible first | exact HB.out | apply below_alloc | apply pw_below_drewN | apply below_drew1) | exact HB.out)⟩⟩
      case round =>
        clear H'
        try clear c1
        try clear p2
        try clear c4
        try clear c6
        try clear c6b0
        try clear c6b1
        obtain ⟨x7_1, x8_1, rfl, HA, HK1, HO_7, HB⟩ := hrel
        cases gk with
        | zero => exact absurd HA.out (by simp [vendmeterref_SlotLoaded.l0])
        | succ k1 =>
          have H := HA.out
          clear HA
          simp only [vendmeterref_SlotLoaded.l0] at H
          by_cases c7 : x8_1 ≤ a1
          · rw [if_pos c7] at H
            have c7b0 : decide (x8_1 ≤ a1) = true := decide_eq_true c7
            clear c7
            obtain ⟨ji8, hji8⟩ : ∃ j_ : Int, (wrap64 ((wrap64 (t209 * (wrap64 (a1 + 1)))) + x8_1)) = j_ := ⟨_, rfl⟩
            replace H : (if 0 ≤ (ji8) then (if (ji8) < (l0.length : Int) then (if x7_1.length < 35184372088832 then (vendmeterref_SlotLoaded.l0 k1 l0 a1 t209 (x7_1 ++ [rd l0 (ji8)]) (wrap64 (x8_1 + 1))) else (none)) else (none)) else (none)) = some (r1, r2) := by first | (rw [hji8] at H; exact H) | (simp only [hji8] at H ⊢; exact H)
            have hji8w : (IntKind.i64.wrap ((wrap64 (t209 * (wrap64 (a1 + 1)))) + x8_1)) = ji8 := (i64_w _).trans hji8
            by_cases c9 : 0 ≤ (ji8)
            · rw [if_pos c9] at H
              have c9b0 : decide (0 ≤ (ji8)) = true := decide_eq_true c9
              clear c9
              by_cases c10 : (ji8) < (l0.length : Int)
              · rw [if_pos c10] at H
                have c10b0 : decide ((ji8) < (l0.length : Int)) = true := decide_eq_true c10
                clear c10
                by_cases c11 : x7_1.length < 35184372088832
                · rw [if_pos c11] at H
                  have LMc11 := Aside0.mk c11
                  clear c11
                  obtain ⟨y211, hy211⟩ : ∃ y_ : List Int, y_ = (x7_1 ++ [rd l0 (ji8)]) := ⟨_, rfl⟩
                  replace H : (vendmeterref_SlotLoaded.l0 k1 l0 a1 t209 y211 (wrap64 (x8_1 + 1))) = some (r1, r2) := by first | (rw [hy211]; with_reducible exact H) | (have H2_ := (Option.bind_some _ _).symm.trans H; rw [hy211]; with_reducible exact H2_) | (have H2_ := (Option.bind_some _ _).symm.trans H; with_reducible exact H2_) | with_reducible exact H | (rw [hy211]; exact H) | exact H
                  have Ny211 := Aside0.mk hy211
                  clear hy211
                  have H' := Aside0.mk H
                  clear H
                  have p210 : 0 ≤ ((ji8) : Int) := of_decide_eq_true (by first | (with_reducible assumption) | assumption)
                  have q210 : (ji8) < (l0.length : Int) := of_decide_eq_true (by first | (with_reducible assumption) | assumption)
                  obtain ⟨ad210, e210, hx210_0⟩ := Kd.at_int HR0.out (ji8) p210 q210
                  cases e210
                  replace hx210_0 := (HB.out.cell (World.block_lt_of_cell? w _ hx210_0)).trans hx210_0
                  replace p210 := eq_true p210
                  replace q210 := eq_true q210
                  go_wp2_with (first | ((with_reducible refine gate_builtin (b := .append) (xs := #[.tmp 24, .tmp 34]) rfl ?_); at_builtin; refine Kd.R_append (Kd.int .u32) (w0 := w) w.heap.size rfl (.tmp 24) (.tmp 34) 22 99 (.int .u32 0) 4 rfl Try.underlying22 info99 rfl (by decide) (by omega) u7 x7_1 (rd l0 (ji8)) [.int .u32 (rd l0 (ji8))] (fun _ => True) (fun _ => False) rfl rfl ?aP (fun _ hk => hk.elim) ?aF ?aO ?aB ?aS ?aL ?_; (case aP => exact rfl); (case aB => exact (by repeat (first | (with_reducible first | exact HB.out | apply below_alloc | apply pw_below_drewN | apply below_drew1) | exact HB.out))); (case aF => exact (fun _ _ => trivial)); (case aO => exact (by (with_reducible repeat (first | apply Kd.R_alloc | apply Kd.R_drewN | apply Kd.R_drew)); exact HO_7.out)); (case aS => exact (below_size (by repeat (first | (with_reducible first | exact HB.out | apply below_alloc | apply pw_below_drewN | apply below_drew1) | exact HB.out)))); (case aL => have := LMc11.out; omega); intro v212 w12 ho hb hg hat; rw [← Ny211.out] at ho; have n0_ := Aside0.mk (hb); have n1_ := Aside0.mk (ho); clear HB; clear HO_7; have HB := n0_; have HO213 := n1_; clear n0_ n1_; clear ho hb hg hat))
                  go_roundg k1
                  case measure => have := HK1.out; omega
                  case rel => exact ⟨(y211), (wrap64 (x8_1 + 1)), (by first | rfl | (simp; done) | (simp [*]; done)), H', ⟨by have := HK1.out; omega⟩, ⟨by (with_reducible repeat (first | apply Kd.R_alloc | apply Kd.R_drewN | apply Kd.R_drew)); exact HO213.out⟩, ⟨by repeat (first | (with_reducible first | exact HB.out | apply below_alloc | apply pw_below_drewN | apply below_drew1) | exact HB.out)⟩⟩
                · rw [if_neg c11] at H
                  exact absurd H (by simp)
              · rw [if_neg c10] at H
                exact absurd H (by simp)
            · rw [if_neg c9] at H
              exact absurd H (by simp)
          · rw [if_neg c7] at H
            have c7b0 : decide (x8_1 ≤ a1) = false := decide_eq_false c7
            clear c7
            simp only [Option.some.injEq, Prod.mk.injEq] at H
            obtain ⟨rfl, rfl⟩ := H
            go_wp2
            go_ret2
            exact ⟨_, by first | rfl | (simp [errW_none, errW_some] <;> rfl) | (simp [*, errW_none, errW_some] <;> rfl), by (with_reducible repeat (first | apply Kd.R_alloc | apply Kd.R_drewN | apply Kd.R_drew)); exact HO_7.out, by repeat (first | (with_reducible first | exact HB.out | apply below_alloc | apply pw_below_drewN | apply below_drew1) | exact HB.out)⟩
  · replace c4 := Bool.eq_false_iff.mpr c4
    subst c4
    have H1 : (some (([] : List Int), 1)) = some (r1, r2) := by rw [if_neg (show ¬ (false = true) by decide)] at H; exact H
    clear H
    have H := H1
    clear H1
    simp only [Option.some.injEq, Prod.mk.injEq] at H
    obtain ⟨rfl, rfl⟩ := H
    go_enter Try.func102, Try.ntmps102
    go_wp2_with (first | ((with_reducible refine gate_callee (f := 137) rfl ?_); refine goesL_ (some 12) rfl rfl Try.func137 (by kernel_rfl) rfl #[.int .i64 (l0.length : Int), .int .i64 a1] rfl (by (try simp only [List.map_toArray, List.map_cons, List.map_nil]); first | done | rfl | (simp only [List.length_drop, List.length_take]; rfl)) ?_; (with_reducible refine (vendmeterref_SlotFits.calls (l0.length : Int) a1 false _ A3.out).mono ?_); rintro e w' ⟨rfl, ⟨nd, rfl⟩⟩; refine ⟨_, rfl, ?_⟩))
    go_ret2
    exact ⟨_, by first | rfl | (simp [errW_none, errW_some] <;> rfl) | (simp [*, errW_none, errW_some] <;> rfl), by first | exact Kd.R_nil _ _ _ _ _ | exact Kd.N_nil _ _ _ _ _ | exact Kd.V_nil _ _ _ _ _ | exact Kd.Q_nil _ _ _ _ _ | exact Kd.S_nil _ _ _ _ _, by repeat (first | (with_reducible first | exact HB.out | apply below_alloc | apply pw_below_drewN | apply below_drew1) | exact HB.out)⟩

/-! ### vendmeterref_bitAt: function 145 -/
def vendmeterref_bitAt.l0 : Nat → Int → Int → Int → Option (Bool)
  | 0, _, _, _ => none
  | k + 1, x0, x1, x5 => if x5 < x1 then (vendmeterref_bitAt.l0 k (IntKind.u64.wrap (Int.tdiv x0 2)) x1 (wrap64 (x5 + 1))) else (some ((Int.tmod x0 2) == 1))
def vendmeterref_bitAt.f (k : Nat) (a0 : Int) (a1 : Int) : Option (Bool) := vendmeterref_bitAt.l0 k a0 a1 0
theorem vendmeterref_bitAt.mono_l : ∀ k, (∀ y0 y1 y2, LeO (vendmeterref_bitAt.l0 k y0 y1 y2) (vendmeterref_bitAt.l0 (k + 1) y0 y1 y2))
  | 0 => fun _ _ _ r h => by simp [vendmeterref_bitAt.l0] at h
  | k + 1 => by
    have ih0 := vendmeterref_bitAt.mono_l k
    · intro y0 y1 y2
      unfold vendmeterref_bitAt.l0
      repeat' first
      | (with_reducible exact ih0 _ _ _)
      | (with_reducible exact LeO.refl _)
      | (with_reducible exact LeO.none _)
      | (with_reducible refine LeO.ite ?_ ?_)
      | (with_reducible refine LeO.bind ?_ (fun _ => ?_))
      | exact ih0 _ _ _
      | exact LeO.none _
      | refine LeO.ite ?_ ?_
      | refine LeO.bind ?_ (fun _ => ?_)
theorem vendmeterref_bitAt.mono : ∀ a0 a1 k, LeO (vendmeterref_bitAt.f k a0 a1) (vendmeterref_bitAt.f (k + 1) a0 a1) := by
  intro a0 a1 k
  have ih0 := vendmeterref_bitAt.mono_l k
  unfold vendmeterref_bitAt.f
  repeat' first
      | (with_reducible exact ih0 _ _ _)
      | (with_reducible exact LeO.refl _)
      | (with_reducible exact LeO.none _)
      | (with_reducible refine LeO.ite ?_ ?_)
      | (with_reducible refine LeO.bind ?_ (fun _ => ?_))
      | exact ih0 _ _ _
      | exact LeO.none _
      | refine LeO.ite ?_ ?_
      | refine LeO.bind ?_ (fun _ => ?_)
set_option maxHeartbeats 8000000 in
set_option maxRecDepth 100000 in
theorem vendmeterref_bitAt.calls (k : Nat) (a0 : Int) (a1 : Int) (r : Bool) (w : World) (h : vendmeterref_bitAt.f k a0 a1 = some r) :
    Calls Try.prog 145 #[.int .u64 a0, .int .i64 a1] w fun e w' => e = .returned (.bool r) ∧ Drawn0 w w' := by
  have H : (vendmeterref_bitAt.l0 k a0 a1 0) = some r := h
  clear h
  have H' := Aside0.mk H
  clear H
  go_enter Try.func145, Try.ntmps145
  go_wp2
  go_loopg [0, 5] k (fun kq v0 v5 w' => ∃ (x0_1 : Int) (x5_1 : Int), v0 = .int .u64 x0_1 ∧ v5 = .int .i64 x5_1 ∧ Aside0 (vendmeterref_bitAt.l0 kq x0_1 a1 x5_1 = some r) ∧ Aside0 (kq ≤ k) ∧ Drawn0 w w')
  case atStart => exact ⟨(a0), (0), (by first | rfl | (simp; done) | (simp [*]; done)), (by first | rfl | (simp; done) | (simp [*]; done)), H', ⟨Nat.le_refl _⟩, by repeat (first | exact Drawn0.refl _ | apply Drawn0.step)⟩
  case round =>
    clear H'
    try clear c1
    try clear p2
    obtain ⟨x0_1, x5_1, rfl, rfl, HA, HK1, ⟨m1, rfl⟩⟩ := hrel
    cases gk with
    | zero => exact absurd HA.out (by simp [vendmeterref_bitAt.l0])
    | succ k1 =>
      have H := HA.out
      clear HA
      simp only [vendmeterref_bitAt.l0] at H
      by_cases c3 : x5_1 < a1
      · rw [if_pos c3] at H
        have c3b0 : decide (x5_1 < a1) = true := decide_eq_true c3
        clear c3
        have H' := Aside0.mk H
        clear H
        go_wp2
        go_roundg k1
        case measure => have := HK1.out; omega
        case rel => exact ⟨(IntKind.u64.wrap (Int.tdiv x0_1 2)), (wrap64 (x5_1 + 1)), (by first | rfl | (simp; done) | (simp [*]; done)), (by first | rfl | (simp; done) | (simp [*]; done)), H', ⟨by have := HK1.out; omega⟩, by repeat (first | exact Drawn0.refl _ | apply Drawn0.step)⟩
      · rw [if_neg c3] at H
        have c3b0 : decide (x5_1 < a1) = false := decide_eq_false c3
        clear c3
        obtain rfl := Option.some.inj H
        go_wp2
        go_ret
        exact ⟨by first | rfl | (simp; done) | (simp [*]; done), by repeat (first | exact Drawn0.refl _ | apply Drawn0.step)⟩

end Go.Proofs.Ythmmadniaakapaa.PPocketTicks
