-- written by this session's program wip/xp/xprint.py (it drives the kit's print and adds to it)
import Derived.Test.YtcllddkmcnfejaaGreatDoorPPocketKeysx0
import Derived.Test.YtcllddkmcnfejaaGreatDoorPPocketKeysx12
namespace Go.Proofs.YtcllddkmcnfejaaGreatDoor.PPocketKeys
open Go.RowKit Go.Proofs.YtcllddkmcnfejaaGreatDoorW.PrintWords Go.Proofs.YtcllddkmcnfejaaGreatDoorW.PrintLast Go.Proofs.YtcllddkmcnfejaaGreatDoorW.PrintMore
attribute [local go_sem] max2_int min2_int max_two min_two max_three min_three max_four min_four
set_option linter.unusedVariables false
set_option linter.unusedSimpArgs false
set_option maxHeartbeats 8000000
set_option maxRecDepth 100000

/-! ### vendmeterref_counts: function 76 -/
mutual
def vendmeterref_counts.j0 : Nat → Int → Int → Bool → Option (Int)
 | 0, _, _, _ => none
 | k + 1, x5, x6, x7 => if x6 ≥ 1 then (vendmeterref_counts.j1 k x5 x6 x7 (decide (x6 ≤ 3))) else (vendmeterref_counts.j1 k x5 x6 x7 false)
def vendmeterref_counts.j1 : Nat → Int → Int → Bool → Bool → Option (Int)
 | 0, _, _, _, _ => none
 | k + 1, x5, x6, x7, x8 => if x7 = true then (vendmeterref_counts.j2 k x5 x6 x7 x8 false) else (vendmeterref_counts.j2 k x5 x6 x7 x8 (!x8))
def vendmeterref_counts.j2 : Nat → Int → Int → Bool → Bool → Bool → Option (Int)
 | 0, _, _, _, _, _ => none
 | k + 1, x5, x6, x7, x8, x34 => if x34 = true then (some 2) else (if x7 = true then (vendmeterref_counts.j3 k x5 x6 x8 x8) else (vendmeterref_counts.j3 k x5 x6 x8 false))
def vendmeterref_counts.j3 : Nat → Int → Int → Bool → Bool → Option (Int)
 | 0, _, _, _, _ => none
 | k + 1, x5, x6, x8, x38 => if x38 = true then ((vendmeterref_follows.f x5 x6).bind fun t237 => (if t237 = true then (some 1) else (some 0))) else (if x8 = true then (some 1) else (some 0))
end
def vendmeterref_counts.f (k : Nat) (l0 : List Int) (a1 : Int) : Option (Int) := if 0 < (l0.length : Int) then (if 0 ≤ (wrap64 (a1 + 1)) then (if (wrap64 (a1 + 1)) < (l0.length : Int) then (if (rd l0 0) ≥ 1 then (vendmeterref_counts.j0 k (rd l0 0) (rd l0 (wrap64 (a1 + 1))) (decide ((rd l0 0) ≤ 3))) else (vendmeterref_counts.j0 k (rd l0 0) (rd l0 (wrap64 (a1 + 1))) false)) else (none)) else (none)) else (none)
theorem vendmeterref_counts.mono_l : ∀ k, (∀ y0 y1 y2, LeO (vendmeterref_counts.j0 k y0 y1 y2) (vendmeterref_counts.j0 (k + 1) y0 y1 y2)) ∧ (∀ y0 y1 y2 y3, LeO (vendmeterref_counts.j1 k y0 y1 y2 y3) (vendmeterref_counts.j1 (k + 1) y0 y1 y2 y3)) ∧ (∀ y0 y1 y2 y3 y4, LeO (vendmeterref_counts.j2 k y0 y1 y2 y3 y4) (vendmeterref_counts.j2 (k + 1) y0 y1 y2 y3 y4)) ∧ (∀ y0 y1 y2 y3, LeO (vendmeterref_counts.j3 k y0 y1 y2 y3) (vendmeterref_counts.j3 (k + 1) y0 y1 y2 y3))
 | 0 => ⟨fun _ _ _ r h => by simp [vendmeterref_counts.j0] at h, fun _ _ _ _ r h => by simp [vendmeterref_counts.j1] at h, fun _ _ _ _ _ r h => by simp [vendmeterref_counts.j2] at h, fun _ _ _ _ r h => by simp [vendmeterref_counts.j3] at h⟩
 | k + 1 => by
  obtain ⟨ih0, ih1, ih2, ih3⟩ := vendmeterref_counts.mono_l k
  refine ⟨?_, ?_, ?_, ?_⟩
  ·
   intro y0 y1 y2
   unfold vendmeterref_counts.j0
   repeat' first
   | (with_reducible exact ih0 _ _ _)
   | (with_reducible exact ih1 _ _ _ _)
   | (with_reducible exact ih2 _ _ _ _ _)
   | (with_reducible exact ih3 _ _ _ _)
   | (with_reducible exact LeO.refl _)
   | (with_reducible exact LeO.none _)
   | (with_reducible refine LeO.ite ?_ ?_)
   | (with_reducible refine LeO.bind ?_ (fun _ => ?_))
  ·
   intro y0 y1 y2 y3
   unfold vendmeterref_counts.j1
   repeat' first
   | (with_reducible exact ih0 _ _ _)
   | (with_reducible exact ih1 _ _ _ _)
   | (with_reducible exact ih2 _ _ _ _ _)
   | (with_reducible exact ih3 _ _ _ _)
   | (with_reducible exact LeO.refl _)
   | (with_reducible exact LeO.none _)
   | (with_reducible refine LeO.ite ?_ ?_)
   | (with_reducible refine LeO.bind ?_ (fun _ => ?_))
  ·
   intro y0 y1 y2 y3 y4
   unfold vendmeterref_counts.j2
   repeat' first
   | (with_reducible exact ih0 _ _ _)
   | (with_reducible exact ih1 _ _ _ _)
   | (with_reducible exact ih2 _ _ _ _ _)
   | (with_reducible exact ih3 _ _ _ _)
   | (with_reducible exact LeO.refl _)
   | (with_reducible exact LeO.none _)
   | (with_reducible refine LeO.ite ?_ ?_)
   | (with_reducible refine LeO.bind ?_ (fun _ => ?_))
  ·
   intro y0 y1 y2 y3
   unfold vendmeterref_counts.j3
   repeat' first
   | (with_reducible exact ih0 _ _ _)
   | (with_reducible exact ih1 _ _ _ _)
   | (with_reducible exact ih2 _ _ _ _ _)
   | (with_reducible exact ih3 _ _ _ _)
   | (with_reducible exact LeO.refl _)
   | (with_reducible exact LeO.none _)
   | (with_reducible refine LeO.ite ?_ ?_)
   | (with_reducible refine LeO.bind ?_ (fun _ => ?_))
theorem vendmeterref_counts.mono : ∀ a0 a1 k, LeO (vendmeterref_counts.f k a0 a1) (vendmeterref_counts.f (k + 1) a0 a1) := by
 intro a0 a1 k
 obtain ⟨ih0, ih1, ih2, ih3⟩ := vendmeterref_counts.mono_l k
 unfold vendmeterref_counts.f
 repeat' first
   | (with_reducible exact ih0 _ _ _)
   | (with_reducible exact ih1 _ _ _ _)
   | (with_reducible exact ih2 _ _ _ _ _)
   | (with_reducible exact ih3 _ _ _ _)
   | (with_reducible exact LeO.refl _)
   | (with_reducible exact LeO.none _)
   | (with_reducible refine LeO.ite ?_ ?_)
   | (with_reducible refine LeO.bind ?_ (fun _ => ?_))
theorem vendmeterref_counts.calls (k : Nat) (A0 : Option Addr) (c0 : Nat) (l0 : List Int) (a1 : Int) (r : Int) (w : World) (hr0 : Kd.C (Kd.int .u32) w A0 l0.length l0) (hc0 : l0.length ≤ c0) (h : vendmeterref_counts.f k l0 a1 = some r) :
  Calls Tryz.prog 76 #[.slice A0 l0.length c0, .int .i64 a1] w fun e w' => e = .returned (.int .i64 r) ∧ Drawn0 w w' := by
 have HR0 := am hr0
 have HC0 := am hc0
 clear hr0 hc0
 have H : (if 0 < (l0.length : Int) then (if 0 ≤ (wrap64 (a1 + 1)) then (if (wrap64 (a1 + 1)) < (l0.length : Int) then (if (rd l0 0) ≥ 1 then (vendmeterref_counts.j0 k (rd l0 0) (rd l0 (wrap64 (a1 + 1))) (decide ((rd l0 0) ≤ 3))) else (vendmeterref_counts.j0 k (rd l0 0) (rd l0 (wrap64 (a1 + 1))) false)) else (none)) else (none)) else (none)) = some r := h
 clear h
 by_cases c3 : 0 < (l0.length : Int)
 ·
  rw [if_pos c3] at H
  have c3b0 : decide (0 < (l0.length : Int)) = true := decide_eq_true c3
  have c3b1 : decide (0 < l0.length) = true := decide_eq_true (by omega)
  clear c3
  obtain ⟨ji4, hji4⟩ : ∃ j_ : Int, (wrap64 (a1 + 1)) = j_ := ⟨_, rfl⟩
  replace H : (if 0 ≤ (ji4) then (if (ji4) < (l0.length : Int) then (if (rd l0 0) ≥ 1 then (vendmeterref_counts.j0 k (rd l0 0) (rd l0 (ji4)) (decide ((rd l0 0) ≤ 3))) else (vendmeterref_counts.j0 k (rd l0 0) (rd l0 (ji4)) false)) else (none)) else (none)) = some r := by first | (rw [hji4] at H; exact H) | (simp only [hji4] at H ⊢; exact H)
  have hji4w : (IntKind.i64.wrap (a1 + 1)) = ji4 := (i64_w _).trans hji4
  by_cases c5 : 0 ≤ (ji4)
  ·
   rw [if_pos c5] at H
   have c5b0 : decide (0 ≤ (ji4)) = true := decide_eq_true c5
   clear c5
   by_cases c6 : (ji4) < (l0.length : Int)
   ·
    rw [if_pos c6] at H
    have c6b0 : decide ((ji4) < (l0.length : Int)) = true := decide_eq_true c6
    clear c6
    have HC7 := am H
    clear H
    have p235 : 0 ≤ (0 : Int) := (by omega)
    have q235 : 0 < (l0.length : Int) := czd
    obtain ⟨ad235, e235, hx235_0⟩ := Kd.at_int HR0.out 0 p235 q235
    cases e235
    have qi235 : (0 < l0.length) = True := eq_true (by omega)
    (try rw [show ((0 : Int)).toNat = 0 from rfl] at hx235_0)
    (try rw [Addr.add_zero'] at hx235_0)
    replace p235 := eq_true p235
    replace q235 := eq_true q235
    have p236 : 0 ≤ ((ji4) : Int) := czd
    have q236 : (ji4) < (l0.length : Int) := czd
    obtain ⟨ad236, e236, hx236_0⟩ := Kd.at_int HR0.out (ji4) p236 q236
    obtain rfl : ad235 = ad236 := (by injection e236)
    replace p236 := eq_true p236
    replace q236 := eq_true q236
    go_enter Tryz.func76, Tryz.ntmps76
    go_upto_region 3 with (fail)
    go_cut [7] (fun v7 wc => ∃ (kq : Nat) (x7_6 : Bool), v7 = .bool x7_6 ∧ Aside0 (vendmeterref_counts.j0 kq (rd l0 0) (rd l0 (ji4)) x7_6 = some r) ∧ Aside0 (kq ≤ k) ∧ Drawn0 w wc)
    case first =>
     have H := HC7.out
     clear HC7
     by_cases c8 : (rd l0 0) ≥ 1
     ·
      rw [if_pos c8] at H
      have c8b0 : decide (1 ≤ (rd l0 0)) = true := decide_eq_true c8
      clear c8
      (first | rw [c8b0] | (simp only [i64_w, i32_w]; rw [c8b0]) | skip)
      have H' := am H
      clear H
      go_wp2
      go_meet
      case rel => exact ⟨_, (decide ((rd l0 0) ≤ 3)), czr, H', ⟨by first | omega | exact Nat.le_refl _⟩, by repeat (first | exact Drawn0.refl _ | apply Drawn0.step)⟩
     ·
      rw [if_neg c8] at H
      have c8b0 : decide (1 ≤ (rd l0 0)) = false := decide_eq_false c8
      clear c8
      (first | rw [c8b0] | (simp only [i64_w, i32_w]; rw [c8b0]) | skip)
      have H' := am H
      clear H
      go_wp2
      go_meet
      case rel => exact ⟨_, (false), czr, H', ⟨by first | omega | exact Nat.le_refl _⟩, by repeat (first | exact Drawn0.refl _ | apply Drawn0.step)⟩
    case rest =>
     clear HC7
     try clear p2
     try clear q2
     try clear hx2
     try clear qi2
     try clear c3
     try clear c3b0
     try clear c3b1
     try clear c5
     try clear c5b0
     try clear c6
     try clear c6b0
     try clear p6
     try clear c7
     try clear c8
     try clear c8b0
     try clear hx235_0
     try clear hx236_0
     try clear p235
     try clear p236
     try clear q235
     try clear q236
     obtain ⟨kq, x7_6, rfl, HA, HJ6, ⟨mc6, rfl⟩⟩ := hcut
     cases kq with
     | zero => exact absurd HA.out (by simp [vendmeterref_counts.j0])
     | succ kj6 =>
      have H := HA.out
      clear HA
      simp only [vendmeterref_counts.j0] at H
      have HC9 := am H
      clear H
      go_upto_region 4 with (fail)
      go_cut [8] (fun v8 wc => ∃ (kq : Nat) (x8_8 : Bool), v8 = .bool x8_8 ∧ Aside0 (vendmeterref_counts.j1 kq (rd l0 0) (rd l0 (ji4)) x7_6 x8_8 = some r) ∧ Aside0 (kq ≤ kj6) ∧ Drawn0 w wc)
      case first =>
       have H := HC9.out
       clear HC9
       by_cases c10 : (rd l0 (ji4)) ≥ 1
       ·
        rw [if_pos c10] at H
        have c10b0 : decide (1 ≤ (rd l0 (ji4))) = true := decide_eq_true c10
        clear c10
        (first | rw [c10b0] | (simp only [i64_w, i32_w]; rw [c10b0]) | skip)
        have H' := am H
        clear H
        go_wp2
        go_meet
        case rel => exact ⟨_, (decide ((rd l0 (ji4)) ≤ 3)), (by first | rfl | (simp; done) | (simp only [← hji4] <;> (first | rfl | simp)) | (simp [*]; done)), H', ⟨by have := HJ6.out; first | omega | exact Nat.le_refl _⟩, by repeat (first | exact Drawn0.refl _ | apply Drawn0.step)⟩
       ·
        rw [if_neg c10] at H
        have c10b0 : decide (1 ≤ (rd l0 (ji4))) = false := decide_eq_false c10
        clear c10
        (first | rw [c10b0] | (simp only [i64_w, i32_w]; rw [c10b0]) | skip)
        have H' := am H
        clear H
        go_wp2
        go_meet
        case rel => exact ⟨_, (false), czr, H', ⟨by have := HJ6.out; first | omega | exact Nat.le_refl _⟩, by repeat (first | exact Drawn0.refl _ | apply Drawn0.step)⟩
      case rest =>
       clear HC9
       try clear c1
       try clear p2
       try clear q2
       try clear hx2
       try clear qi2
       try clear c3
       try clear c3b0
       try clear c3b1
       try clear c5
       try clear c5b0
       try clear c6
       try clear c6b0
       try clear p6
       try clear c7
       try clear c8
       try clear c8b0
       try clear c10
       try clear c10b0
       try clear hx235_0
       try clear hx236_0
       try clear p2
       try clear p235
       try clear p236
       try clear p6
       try clear q2
       try clear q235
       try clear q236
       obtain ⟨kq, x8_8, rfl, HA, HJ8, ⟨mc8, rfl⟩⟩ := hcut
       cases kq with
       | zero => exact absurd HA.out (by simp [vendmeterref_counts.j1])
       | succ kj8 =>
        have H := HA.out
        clear HA
        simp only [vendmeterref_counts.j1] at H
        have HC11 := am H
        clear H
        go_upto_region 5 with (fail)
        go_cut [34] (fun v34 wc => ∃ (kq : Nat) (x34_10 : Bool), v34 = .bool x34_10 ∧ Aside0 (vendmeterref_counts.j2 kq (rd l0 0) (rd l0 (ji4)) x7_6 x8_8 x34_10 = some r) ∧ Aside0 (kq ≤ kj8) ∧ Drawn0 w wc)
        case first =>
         have H := HC11.out
         clear HC11
         by_cases c12 : x7_6 = true
         ·
          subst c12
          have H1 : (vendmeterref_counts.j2 kj8 (rd l0 0) (rd l0 (ji4)) true x8_8 false) = some r := by rw [if_pos rfl] at H; exact H
          clear H
          have H := H1
          clear H1
          have H' := am H
          clear H
          go_wp2
          go_meet
          case rel => exact ⟨_, (false), czr, H', ⟨by have := HJ6.out; have := HJ8.out; first | omega | exact Nat.le_refl _⟩, by repeat (first | exact Drawn0.refl _ | apply Drawn0.step)⟩
         ·
          replace c12 := Bool.eq_false_iff.mpr c12
          subst c12
          have H1 : (vendmeterref_counts.j2 kj8 (rd l0 0) (rd l0 (ji4)) false x8_8 (!x8_8)) = some r := by rw [if_neg (show ¬ (false = true) by decide)] at H; exact H
          clear H
          have H := H1
          clear H1
          have H' := am H
          clear H
          go_wp2
          go_meet
          case rel => exact ⟨_, (!x8_8), czr, H', ⟨by have := HJ6.out; have := HJ8.out; first | omega | exact Nat.le_refl _⟩, by repeat (first | exact Drawn0.refl _ | apply Drawn0.step)⟩
        case rest =>
         clear HC11
         try clear c1
         try clear p2
         try clear q2
         try clear hx2
         try clear qi2
         try clear c3
         try clear c3b0
         try clear c3b1
         try clear c5
         try clear c5b0
         try clear c6
         try clear c6b0
         try clear p6
         try clear c7
         try clear c8
         try clear c8b0
         try clear c10
         try clear c10b0
         try clear c12
         try clear hx235_0
         try clear hx236_0
         try clear p2
         try clear p235
         try clear p236
         try clear p6
         try clear q2
         try clear q235
         try clear q236
         obtain ⟨kq, x34_10, rfl, HA, HJ10, ⟨mc10, rfl⟩⟩ := hcut
         cases kq with
         | zero => exact absurd HA.out (by simp [vendmeterref_counts.j2])
         | succ kj10 =>
          have H := HA.out
          clear HA
          simp only [vendmeterref_counts.j2] at H
          by_cases c13 : x34_10 = true
          ·
           subst c13
           have H1 : (some 2) = some r := by rw [if_pos rfl] at H; exact H
           clear H
           have H := H1
           clear H1
           obtain rfl := Option.some.inj H
           go_wp2
           go_ret
           exact ⟨by first | rfl | (simp; done) | (simp only [← hji4] <;> (first | rfl | simp)) | (simp [*]; done), by repeat (first | exact Drawn0.refl _ | apply Drawn0.step)⟩
          ·
           replace c13 := Bool.eq_false_iff.mpr c13
           subst c13
           have H1 : (if x7_6 = true then (vendmeterref_counts.j3 kj10 (rd l0 0) (rd l0 (ji4)) x8_8 x8_8) else (vendmeterref_counts.j3 kj10 (rd l0 0) (rd l0 (ji4)) x8_8 false)) = some r := by rw [if_neg (show ¬ (false = true) by decide)] at H; exact H
           clear H
           have H := H1
           clear H1
           have HC14 := am H
           clear H
           go_upto_region 7 with (fail)
           go_cut [38] (fun v38 wc => ∃ (kq : Nat) (x38_13 : Bool), v38 = .bool x38_13 ∧ Aside0 (vendmeterref_counts.j3 kq (rd l0 0) (rd l0 (ji4)) x8_8 x38_13 = some r) ∧ Aside0 (kq ≤ kj10) ∧ Drawn0 w wc)
           case first =>
            have H := HC14.out
            clear HC14
            by_cases c15 : x7_6 = true
            ·
             subst c15
             have H1 : (vendmeterref_counts.j3 kj10 (rd l0 0) (rd l0 (ji4)) x8_8 x8_8) = some r := by rw [if_pos rfl] at H; exact H
             clear H
             have H := H1
             clear H1
             have H' := am H
             clear H
             go_wp2
             go_meet
             case rel => exact ⟨_, (x8_8), czr, H', ⟨by have := HJ6.out; have := HJ8.out; have := HJ10.out; first | omega | exact Nat.le_refl _⟩, by repeat (first | exact Drawn0.refl _ | apply Drawn0.step)⟩
            ·
             replace c15 := Bool.eq_false_iff.mpr c15
             subst c15
             have H1 : (vendmeterref_counts.j3 kj10 (rd l0 0) (rd l0 (ji4)) x8_8 false) = some r := by rw [if_neg (show ¬ (false = true) by decide)] at H; exact H
             clear H
             have H := H1
             clear H1
             have H' := am H
             clear H
             go_wp2
             go_meet
             case rel => exact ⟨_, (false), czr, H', ⟨by have := HJ6.out; have := HJ8.out; have := HJ10.out; first | omega | exact Nat.le_refl _⟩, by repeat (first | exact Drawn0.refl _ | apply Drawn0.step)⟩
           case rest =>
            clear HC14
            try clear c1
            try clear p2
            try clear q2
            try clear hx2
            try clear qi2
            try clear c3
            try clear c3b0
            try clear c3b1
            try clear c5
            try clear c5b0
            try clear c6
            try clear c6b0
            try clear p6
            try clear c7
            try clear c8
            try clear c8b0
            try clear c10
            try clear c10b0
            try clear c12
            try clear c13
            try clear c15
            try clear hx235_0
            try clear hx236_0
            try clear p2
            try clear p235
            try clear p236
            try clear p6
            try clear q2
            try clear q235
            try clear q236
            obtain ⟨kq, x38_13, rfl, HA, HJ13, ⟨mc13, rfl⟩⟩ := hcut
            cases kq with
            | zero => exact absurd HA.out (by simp [vendmeterref_counts.j3])
            | succ kj13 =>
             have H := HA.out
             clear HA
             simp only [vendmeterref_counts.j3] at H
             by_cases c16 : x38_13 = true
             ·
              subst c16
              have H1 : ((vendmeterref_follows.f (rd l0 0) (rd l0 (ji4))).bind fun t237 => (if t237 = true then (some 1) else (some 0))) = some r := by rw [if_pos rfl] at H; exact H
              clear H
              have H := H1
              clear H1
              replace H := Option.bind_eq_some_iff.mp H
              obtain ⟨t237, A170, H⟩ := H
              (try dsimp only at H)
              have A17 := am A170
              clear A170
              by_cases c18 : t237 = true
              ·
               subst c18
               have H1 : (some 1) = some r := by rw [if_pos rfl] at H; exact H
               clear H
               have H := H1
               clear H1
               obtain rfl := Option.some.inj H
               go_wp2_with (first | ((with_reducible refine gate_callee (f := 102) rfl ?_); refine goesL_ (some 41) rfl rfl Tryz.func102 (by kernel_rfl) rfl #[.int .u32 (rd l0 0), .int .u32 (rd l0 (ji4))] rfl (by (try simp only [List.map_toArray, List.map_cons, List.map_nil]); first | done | (simp only [hji4]; rfl) | rfl | (simp only [List.length_drop, List.length_take]; rfl)) ?_; (with_reducible refine (vendmeterref_follows.calls (rd l0 0) (rd l0 (ji4)) true _ A17.out).mono ?_); rintro e w' ⟨rfl, ⟨nd, rfl⟩⟩; refine ⟨_, rfl, ?_⟩))
               go_ret
               exact ⟨by first | rfl | (simp; done) | (simp only [← hji4] <;> (first | rfl | simp)) | (simp [*]; done), by repeat (first | exact Drawn0.refl _ | apply Drawn0.step)⟩
              ·
               replace c18 := Bool.eq_false_iff.mpr c18
               subst c18
               have H1 : (some 0) = some r := by rw [if_neg (show ¬ (false = true) by decide)] at H; exact H
               clear H
               have H := H1
               clear H1
               obtain rfl := Option.some.inj H
               go_wp2_with (first | ((with_reducible refine gate_callee (f := 102) rfl ?_); refine goesL_ (some 41) rfl rfl Tryz.func102 (by kernel_rfl) rfl #[.int .u32 (rd l0 0), .int .u32 (rd l0 (ji4))] rfl (by (try simp only [List.map_toArray, List.map_cons, List.map_nil]); first | done | (simp only [hji4]; rfl) | rfl | (simp only [List.length_drop, List.length_take]; rfl)) ?_; (with_reducible refine (vendmeterref_follows.calls (rd l0 0) (rd l0 (ji4)) false _ A17.out).mono ?_); rintro e w' ⟨rfl, ⟨nd, rfl⟩⟩; refine ⟨_, rfl, ?_⟩))
               go_ret
               exact ⟨by first | rfl | (simp; done) | (simp only [← hji4] <;> (first | rfl | simp)) | (simp [*]; done), by repeat (first | exact Drawn0.refl _ | apply Drawn0.step)⟩
             ·
              replace c16 := Bool.eq_false_iff.mpr c16
              subst c16
              have H1 : (if x8_8 = true then (some 1) else (some 0)) = some r := by rw [if_neg (show ¬ (false = true) by decide)] at H; exact H
              clear H
              have H := H1
              clear H1
              by_cases c19 : x8_8 = true
              ·
               subst c19
               have H1 : (some 1) = some r := by rw [if_pos rfl] at H; exact H
               clear H
               have H := H1
               clear H1
               obtain rfl := Option.some.inj H
               go_wp2
               go_ret
               exact ⟨by first | rfl | (simp; done) | (simp only [← hji4] <;> (first | rfl | simp)) | (simp [*]; done), by repeat (first | exact Drawn0.refl _ | apply Drawn0.step)⟩
              ·
               replace c19 := Bool.eq_false_iff.mpr c19
               subst c19
               have H1 : (some 0) = some r := by rw [if_neg (show ¬ (false = true) by decide)] at H; exact H
               clear H
               have H := H1
               clear H1
               obtain rfl := Option.some.inj H
               go_wp2
               go_ret
               exact ⟨by first | rfl | (simp; done) | (simp only [← hji4] <;> (first | rfl | simp)) | (simp [*]; done), by repeat (first | exact Drawn0.refl _ | apply Drawn0.step)⟩
   ·
    rw [if_neg c6] at H
    exact absurd H (by simp)
  ·
   rw [if_neg c5] at H
   exact absurd H (by simp)
 ·
  rw [if_neg c3] at H
  exact absurd H (by simp)

/-! ### vendmeterref_SlotLoaded: function 35 -/
def vendmeterref_SlotLoaded.l0 : Nat → List Int → Int → Int → List Int → Int → Option (List Int × Int)
 | 0, _, _, _, _, _ => none
 | k + 1, x0, x1, x6, x7, x8 => if x8 ≤ x1 then (if 0 ≤ (wrap64 ((wrap64 (x6 * (wrap64 (x1 + 1)))) + x8)) then (if (wrap64 ((wrap64 (x6 * (wrap64 (x1 + 1)))) + x8)) < (x0.length : Int) then (if x7.length < 35184372088832 then (vendmeterref_SlotLoaded.l0 k x0 x1 x6 (x7 ++ [rd x0 (wrap64 ((wrap64 (x6 * (wrap64 (x1 + 1)))) + x8))]) (wrap64 (x8 + 1))) else (none)) else (none)) else (none)) else (some (x7, 0))
def vendmeterref_SlotLoaded.f (k : Nat) (l0 : List Int) (a1 : Int) : Option (List Int × Int) := (vendmeterref_SlotFits.f (l0.length : Int) a1).bind fun t238 => (if t238 = true then ((vendmeterref_counts.f k l0 a1).bind fun t239 => (if t239 = 2 then (some (([] : List Int), 17)) else (vendmeterref_SlotLoaded.l0 k l0 a1 t239 ([] : List Int) 1))) else (some (([] : List Int), 1)))
theorem vendmeterref_SlotLoaded.mono_l : ∀ k, (∀ y0 y1 y2 y3 y4, LeO (vendmeterref_SlotLoaded.l0 k y0 y1 y2 y3 y4) (vendmeterref_SlotLoaded.l0 (k + 1) y0 y1 y2 y3 y4))
 | 0 => fun _ _ _ _ _ r h => by simp [vendmeterref_SlotLoaded.l0] at h
 | k + 1 => by
  have ih0 := vendmeterref_SlotLoaded.mono_l k
  ·
   intro y0 y1 y2 y3 y4
   unfold vendmeterref_SlotLoaded.l0
   repeat' first
   | (with_reducible exact ih0 _ _ _ _ _)
   | (with_reducible exact vendmeterref_counts.mono _ _ _)
   | (with_reducible exact LeO.refl _)
   | (with_reducible exact LeO.none _)
   | (with_reducible refine LeO.ite ?_ ?_)
   | (with_reducible refine LeO.bind ?_ (fun _ => ?_))
theorem vendmeterref_SlotLoaded.mono : ∀ a0 a1 k, LeO (vendmeterref_SlotLoaded.f k a0 a1) (vendmeterref_SlotLoaded.f (k + 1) a0 a1) := by
 intro a0 a1 k
 have ih0 := vendmeterref_SlotLoaded.mono_l k
 unfold vendmeterref_SlotLoaded.f
 repeat' first
   | (with_reducible exact ih0 _ _ _ _ _)
   | (with_reducible exact vendmeterref_counts.mono _ _ _)
   | (with_reducible exact LeO.refl _)
   | (with_reducible exact LeO.none _)
   | (with_reducible refine LeO.ite ?_ ?_)
   | (with_reducible refine LeO.bind ?_ (fun _ => ?_))
theorem vendmeterref_SlotLoaded.calls (k : Nat) (A0 : Option Addr) (c0 : Nat) (l0 : List Int) (a1 : Int) (r1 : List Int) (r2 : Int) (w : World) (hr0 : Kd.C (Kd.int .u32) w A0 l0.length l0) (hc0 : l0.length ≤ c0) (h : vendmeterref_SlotLoaded.f k l0 a1 = some (r1, r2)) :
  Calls Tryz.prog 35 #[.slice A0 l0.length c0, .int .i64 a1] w fun e w' => ∃ v0_ : Value, e = .returned (.tuple #[v0_, .int .i64 r2]) ∧ Kd.R (Kd.int .u32) 51 w' w.heap.size (fun _ => True) v0_ r1 ∧ Below w.heap.size w w' := by
 have HR0 := am hr0
 have HC0 := am hc0
 clear hr0 hc0
 have HB := am (Below.refl w.heap.size w)
 have H : ((vendmeterref_SlotFits.f (l0.length : Int) a1).bind fun t238 => (if t238 = true then ((vendmeterref_counts.f k l0 a1).bind fun t239 => (if t239 = 2 then (some (([] : List Int), 17)) else (vendmeterref_SlotLoaded.l0 k l0 a1 t239 ([] : List Int) 1))) else (some (([] : List Int), 1)))) = some (r1, r2) := h
 clear h
 replace H := Option.bind_eq_some_iff.mp H
 obtain ⟨t238, A30, H⟩ := H
 (try dsimp only at H)
 have A3 := am A30
 clear A30
 by_cases c4 : t238 = true
 ·
  subst c4
  have H1 : ((vendmeterref_counts.f k l0 a1).bind fun t239 => (if t239 = 2 then (some (([] : List Int), 17)) else (vendmeterref_SlotLoaded.l0 k l0 a1 t239 ([] : List Int) 1))) = some (r1, r2) := by rw [if_pos rfl] at H; exact H
  clear H
  have H := H1
  clear H1
  replace H := Option.bind_eq_some_iff.mp H
  obtain ⟨t239, A50, H⟩ := H
  (try dsimp only at H)
  have A5 := am A50
  clear A50
  have HC6 := am H
  clear H
  go_enter Tryz.func35, Tryz.ntmps35
  go_upto_region 4 with (first | ((with_reducible refine gate_callee (f := 75) rfl ?_); refine czgo (some 12) Tryz.func75 #[.int .i64 (l0.length : Int), .int .i64 a1] ?_; (with_reducible refine (vendmeterref_SlotFits.calls (l0.length : Int) a1 true _ A3.out).mono ?_); rintro e w' ⟨rfl, ⟨nd, rfl⟩⟩; refine ⟨_, rfl, ?_⟩) | ((with_reducible refine gate_callee (f := 76) rfl ?_); refine czgo (some 16) Tryz.func76 #[.slice A0 l0.length c0, .int .i64 a1] ?_; (with_reducible refine (vendmeterref_counts.calls k _ _ l0 a1 t239 _ ?side1 ?side2 A5.out).mono ?_); (case side1 => repeat (first | exact HR0.out | (with_reducible refine Kd.C_alloc ?_ _) | (with_reducible refine Kd.C_drewN ?_ _) | (with_reducible refine Kd.C_drew ?_))); (case side2 => exact HC0.out); rintro e w' ⟨rfl, ⟨nd, rfl⟩⟩; refine ⟨_, rfl, ?_⟩))
  have H := HC6.out
  clear HC6
  revert H
  refine czei (fun c7b0 c7b1 H => ?_) (fun c7 c7b0 c7b1 H => ?_)
  ·
   simp only [Option.some.injEq, Prod.mk.injEq] at H
   obtain ⟨rfl, rfl⟩ := H
   go_wp2
   go_ret2
   exact ⟨_, czeq, by first | exact Kd.R_nil _ _ _ _ _ | exact Kd.N_nil _ _ _ _ _ | exact Kd.V_nil _ _ _ _ _ | exact Kd.Q_nil _ _ _ _ _ | exact Kd.S_nil _ _ _ _ _, czbl HB⟩
  ·
   have H' := am H
   clear H
   go_wp2
   go_loopg [7, 8] k (fun kq v7 v8 w' => ∃ (x7_1 : List Int) (x8_1 : Int), v8 = .int .i64 x8_1 ∧ Aside0 (vendmeterref_SlotLoaded.l0 kq l0 a1 t239 x7_1 x8_1 = some (r1, r2)) ∧ Aside0 (kq ≤ k) ∧ Aside0 (Kd.R (Kd.int .u32) 51 w' w.heap.size (fun _ => True) v7 x7_1) ∧ Aside0 (Below w.heap.size w w'))
   case atStart => exact ⟨(([] : List Int)), (1), czr, H', ⟨Nat.le_refl _⟩, ⟨by first | exact Kd.R_nil _ _ _ _ _ | exact Kd.N_nil _ _ _ _ _ | exact Kd.V_nil _ _ _ _ _ | exact Kd.Q_nil _ _ _ _ _ | exact Kd.S_nil _ _ _ _ _⟩, ⟨czbl HB⟩⟩
   case round =>
    clear H'
    try clear p2
    try clear c3
    try clear c4
    try clear c7
    try clear c7b0
    try clear c7b1
    obtain ⟨x7_1, x8_1, rfl, HA, HK1, HO_7, HB⟩ := hrel
    cases gk with
    | zero => exact absurd HA.out (by simp [vendmeterref_SlotLoaded.l0])
    | succ k1 =>
     have H := HA.out
     clear HA
     simp only [vendmeterref_SlotLoaded.l0] at H
     revert H
     refine czif (fun c8b0 H => ?_) (fun c8b0 H => ?_)
     ·
      obtain ⟨ji9, hji9⟩ : ∃ j_ : Int, (wrap64 ((wrap64 (t239 * (wrap64 (a1 + 1)))) + x8_1)) = j_ := ⟨_, rfl⟩
      replace H : (if 0 ≤ (ji9) then (if (ji9) < (l0.length : Int) then (if x7_1.length < 35184372088832 then (vendmeterref_SlotLoaded.l0 k1 l0 a1 t239 (x7_1 ++ [rd l0 (ji9)]) (wrap64 (x8_1 + 1))) else (none)) else (none)) else (none)) = some (r1, r2) := by first | (rw [hji9] at H; exact H) | (simp only [hji9] at H ⊢; exact H)
      have hji9w : (IntKind.i64.wrap ((wrap64 (t239 * (wrap64 (a1 + 1)))) + x8_1)) = ji9 := (i64_w _).trans hji9
      by_cases c10 : 0 ≤ (ji9)
      ·
       rw [if_pos c10] at H
       have c10b0 : decide (0 ≤ (ji9)) = true := decide_eq_true c10
       clear c10
       by_cases c11 : (ji9) < (l0.length : Int)
       ·
        rw [if_pos c11] at H
        have c11b0 : decide ((ji9) < (l0.length : Int)) = true := decide_eq_true c11
        clear c11
        by_cases c12 : x7_1.length < 35184372088832
        ·
         rw [if_pos c12] at H
         have LMc12 := am c12
         clear c12
         obtain ⟨y241, hy241⟩ : ∃ y_ : List Int, y_ = (x7_1 ++ [rd l0 (ji9)]) := ⟨_, rfl⟩
         replace H : (vendmeterref_SlotLoaded.l0 k1 l0 a1 t239 y241 (wrap64 (x8_1 + 1))) = some (r1, r2) := by first | (rw [hy241]; with_reducible exact H) | (have H2_ := (Option.bind_some _ _).symm.trans H; rw [hy241]; with_reducible exact H2_) | (have H2_ := (Option.bind_some _ _).symm.trans H; with_reducible exact H2_) | with_reducible exact H | (rw [hy241]; exact H) | exact H
         have Ny241 := am hy241
         clear hy241
         have H' := am H
         clear H
         have p240 : 0 ≤ ((ji9) : Int) := czd
         have q240 : (ji9) < (l0.length : Int) := czd
         obtain ⟨ad240, e240, hx240_0⟩ := Kd.at_int HR0.out (ji9) p240 q240
         cases e240
         replace hx240_0 := (HB.1.cell (World.block_lt_of_cell? w _ hx240_0)).trans hx240_0
         replace p240 := eq_true p240
         replace q240 := eq_true q240
         go_wp2_with (first | ((with_reducible refine gate_builtin (b := .append) (xs := #[.tmp 24, .tmp 34]) rfl ?_); at_builtin; refine Kd.R_append (Kd.int .u32) (w0 := w) w.heap.size rfl (.tmp 24) (.tmp 34) 22 51 (.int .u32 0) 4 rfl Tryz.underlying22 info51 rfl (by decide) (by omega) u7 x7_1 (rd l0 (ji9)) [.int .u32 (rd l0 (ji9))] (fun _ => True) (fun _ => False) rfl rfl ?aP (fun _ hk => hk.elim) ?aF ?aO ?aB ?aS ?aL ?_; (case aP => exact rfl); (case aB => exact (czbl HB)); (case aF => exact (fun _ _ => trivial)); (case aO => exact (czR HO_7)); (case aS => exact (below_size (czbl HB))); (case aL => have := LMc12.out; omega); intro v242 w13 ho hb hg hat; rw [← Ny241.out] at ho; have HO243 := am (ho); replace HB := am (hb); clear HO_7; clear ho hb hg hat))
         go_roundg k1
         case measure => have := HK1.out; omega
         case rel => exact ⟨(y241), (wrap64 (x8_1 + 1)), czr, H', ⟨by have := HK1.out; omega⟩, ⟨czR HO243⟩, ⟨czbl HB⟩⟩
        ·
         rw [if_neg c12] at H
         exact absurd H (by simp)
       ·
        rw [if_neg c11] at H
        exact absurd H (by simp)
      ·
       rw [if_neg c10] at H
       exact absurd H (by simp)
     ·
      simp only [Option.some.injEq, Prod.mk.injEq] at H
      obtain ⟨rfl, rfl⟩ := H
      go_wp2
      go_ret2
      exact ⟨_, czeq, czR HO_7, czbl HB⟩
 ·
  replace c4 := Bool.eq_false_iff.mpr c4
  subst c4
  have H1 : (some (([] : List Int), 1)) = some (r1, r2) := by rw [if_neg (show ¬ (false = true) by decide)] at H; exact H
  clear H
  have H := H1
  clear H1
  simp only [Option.some.injEq, Prod.mk.injEq] at H
  obtain ⟨rfl, rfl⟩ := H
  go_enter Tryz.func35, Tryz.ntmps35
  go_wp2_with (first | ((with_reducible refine gate_callee (f := 75) rfl ?_); refine czgo (some 12) Tryz.func75 #[.int .i64 (l0.length : Int), .int .i64 a1] ?_; (with_reducible refine (vendmeterref_SlotFits.calls (l0.length : Int) a1 false _ A3.out).mono ?_); rintro e w' ⟨rfl, ⟨nd, rfl⟩⟩; refine ⟨_, rfl, ?_⟩))
  go_ret2
  exact ⟨_, czeq, by first | exact Kd.R_nil _ _ _ _ _ | exact Kd.N_nil _ _ _ _ _ | exact Kd.V_nil _ _ _ _ _ | exact Kd.Q_nil _ _ _ _ _ | exact Kd.S_nil _ _ _ _ _, czbl HB⟩

/-! ### vendmeterref_bitAt: function 113 -/
def vendmeterref_bitAt.l0 : Nat → Int → Int → Int → Option (Bool)
 | 0, _, _, _ => none
 | k + 1, x0, x1, x5 => if x5 < x1 then (vendmeterref_bitAt.l0 k (IntKind.u64.wrap (Int.tdiv x0 2)) x1 (wrap64 (x5 + 1))) else (some ((Int.tmod x0 2) == 1))
def vendmeterref_bitAt.f (k : Nat) (a0 : Int) (a1 : Int) : Option (Bool) := vendmeterref_bitAt.l0 k a0 a1 0
theorem vendmeterref_bitAt.mono_l : ∀ k, (∀ y0 y1 y2, LeO (vendmeterref_bitAt.l0 k y0 y1 y2) (vendmeterref_bitAt.l0 (k + 1) y0 y1 y2))
 | 0 => fun _ _ _ r h => by simp [vendmeterref_bitAt.l0] at h
 | k + 1 => by
  have ih0 := vendmeterref_bitAt.mono_l k
  ·
   intro y0 y1 y2
   unfold vendmeterref_bitAt.l0
   repeat' first
   | (with_reducible exact ih0 _ _ _)
   | (with_reducible exact LeO.refl _)
   | (with_reducible exact LeO.none _)
   | (with_reducible refine LeO.ite ?_ ?_)
   | (with_reducible refine LeO.bind ?_ (fun _ => ?_))
theorem vendmeterref_bitAt.mono : ∀ a0 a1 k, LeO (vendmeterref_bitAt.f k a0 a1) (vendmeterref_bitAt.f (k + 1) a0 a1) := by
 intro a0 a1 k
 have ih0 := vendmeterref_bitAt.mono_l k
 unfold vendmeterref_bitAt.f
 repeat' first
   | (with_reducible exact ih0 _ _ _)
   | (with_reducible exact LeO.refl _)
   | (with_reducible exact LeO.none _)
   | (with_reducible refine LeO.ite ?_ ?_)
   | (with_reducible refine LeO.bind ?_ (fun _ => ?_))
theorem vendmeterref_bitAt.calls (k : Nat) (a0 : Int) (a1 : Int) (r : Bool) (w : World) (h : vendmeterref_bitAt.f k a0 a1 = some r) :
  Calls Tryz.prog 113 #[.int .u64 a0, .int .i64 a1] w fun e w' => e = .returned (.bool r) ∧ Drawn0 w w' := by
 have H : (vendmeterref_bitAt.l0 k a0 a1 0) = some r := h
 clear h
 have H' := am H
 clear H
 go_enter Tryz.func113, Tryz.ntmps113
 go_wp2
 go_loopg [0, 5] k (fun kq v0 v5 w' => ∃ (x0_1 : Int) (x5_1 : Int), v0 = .int .u64 x0_1 ∧ v5 = .int .i64 x5_1 ∧ Aside0 (vendmeterref_bitAt.l0 kq x0_1 a1 x5_1 = some r) ∧ Aside0 (kq ≤ k) ∧ Drawn0 w w')
 case atStart => exact ⟨(a0), (0), czr, czr, H', ⟨Nat.le_refl _⟩, by repeat (first | exact Drawn0.refl _ | apply Drawn0.step)⟩
 case round =>
  clear H'
  try clear c1
  try clear p2
  obtain ⟨x0_1, x5_1, rfl, rfl, HA, HK1, ⟨m1, rfl⟩⟩ := hrel
  cases gk with
  | zero => exact absurd HA.out (by simp [vendmeterref_bitAt.l0])
  | succ k1 =>
   have H := HA.out
   clear HA
   simp only [vendmeterref_bitAt.l0] at H
   revert H
   refine czif (fun c3b0 H => ?_) (fun c3b0 H => ?_)
   ·
    have H' := am H
    clear H
    go_wp2
    go_roundg k1
    case measure => have := HK1.out; omega
    case rel => exact ⟨(IntKind.u64.wrap (Int.tdiv x0_1 2)), (wrap64 (x5_1 + 1)), czr, czr, H', ⟨by have := HK1.out; omega⟩, by repeat (first | exact Drawn0.refl _ | apply Drawn0.step)⟩
   ·
    obtain rfl := Option.some.inj H
    go_wp2
    go_ret
    exact ⟨by first | rfl | (simp; done) | (simp [*]; done), by repeat (first | exact Drawn0.refl _ | apply Drawn0.step)⟩

/-! ### vendmeterref_members: function 87 -/
def vendmeterref_members.l0 : Nat → List Int → Int → Int → Int → Option (List Int)
 | 0, _, _, _, _ => none
 | k + 1, x3, x4, x245000, x245001 => if x4 ≥ 0 then ((vendmeterref_bitAt.f k x245001 x4).bind fun t245 => (if t245 = true then (if x3.length < 17592186044416 then (vendmeterref_members.l0 k (x3 ++ [wrap64 (x245000 - x4)]) (wrap64 (x4 - 1)) x245000 x245001) else (none)) else (vendmeterref_members.l0 k x3 (wrap64 (x4 - 1)) x245000 x245001))) else (some x3)
def vendmeterref_members.f (k : Nat) (a0_0 : Int) (a0_1 : Int) : Option (List Int) := vendmeterref_members.l0 k ([] : List Int) 63 a0_0 a0_1
theorem vendmeterref_members.mono_l : ∀ k, (∀ y0 y1 y2 y3, LeO (vendmeterref_members.l0 k y0 y1 y2 y3) (vendmeterref_members.l0 (k + 1) y0 y1 y2 y3))
 | 0 => fun _ _ _ _ r h => by simp [vendmeterref_members.l0] at h
 | k + 1 => by
  have ih0 := vendmeterref_members.mono_l k
  ·
   intro y0 y1 y2 y3
   unfold vendmeterref_members.l0
   repeat' first
   | (with_reducible exact ih0 _ _ _ _)
   | (with_reducible exact vendmeterref_bitAt.mono _ _ _)
   | (with_reducible exact LeO.refl _)
   | (with_reducible exact LeO.none _)
   | (with_reducible refine LeO.ite ?_ ?_)
   | (with_reducible refine LeO.bind ?_ (fun _ => ?_))
theorem vendmeterref_members.mono : ∀ a0 a1 k, LeO (vendmeterref_members.f k a0 a1) (vendmeterref_members.f (k + 1) a0 a1) := by
 intro a0 a1 k
 have ih0 := vendmeterref_members.mono_l k
 unfold vendmeterref_members.f
 repeat' first
   | (with_reducible exact ih0 _ _ _ _)
   | (with_reducible exact vendmeterref_bitAt.mono _ _ _)
   | (with_reducible exact LeO.refl _)
   | (with_reducible exact LeO.none _)
   | (with_reducible refine LeO.ite ?_ ?_)
   | (with_reducible refine LeO.bind ?_ (fun _ => ?_))
theorem vendmeterref_members.calls (k : Nat) (a0_0 : Int) (a0_1 : Int) (r : List Int) (w : World) (h : vendmeterref_members.f k a0_0 a0_1 = some r) :
  Calls Tryz.prog 87 #[.agg #[.int .i64 a0_0, .int .u64 a0_1]] w fun e w' => ∃ v0_ : Value, e = .returned (v0_) ∧ Kd.R (Kd.int .i64) 3 w' w.heap.size (fun _ => True) v0_ r ∧ Below w.heap.size w w' := by
 have hu38 := Tryz.underlying38
 have HB := am (Below.refl w.heap.size w)
 have H : (vendmeterref_members.l0 k ([] : List Int) 63 a0_0 a0_1) = some r := h
 clear h
 have H' := am H
 clear H
 go_enter Tryz.func87, Tryz.ntmps87
 go_wp2_with (first | ((with_reducible refine gate_dst (N := 1) rfl ?_); refine czbox 1 #[.int .i64 a0_0, .int .u64 a0_1] 38 ?_; intro gb244 hg w2 hbox hb; have BK244 := am (hbox); have GW244 := czsz hg (czbl HB); have GE244 := czsz hg (czbl HB); replace HB := am (below_step (czbl HB) hb); clear hb hbox hg))
 go_loopg [3, 4] k (fun kq v3 v4 w' => ∃ (x3_1 : List Int) (x4_1 : Int), v4 = .int .i64 x4_1 ∧ Aside0 (vendmeterref_members.l0 kq x3_1 x4_1 a0_0 a0_1 = some r) ∧ Aside0 (kq ≤ k) ∧ Aside0 (Kd.R (Kd.int .i64) 3 w' w.heap.size (fun _ => True) v3 x3_1) ∧ Aside0 (w'.heap[gb244]? = some (.cells #[.int .i64 a0_0, .int .u64 a0_1] 38 (0, 0))) ∧ Aside0 (Below w.heap.size w w'))
 case atStart => exact ⟨(([] : List Int)), (63), czr, H', ⟨Nat.le_refl _⟩, ⟨by first | exact Kd.R_nil _ _ _ _ _ | exact Kd.N_nil _ _ _ _ _ | exact Kd.V_nil _ _ _ _ _ | exact Kd.Q_nil _ _ _ _ _ | exact Kd.S_nil _ _ _ _ _⟩, ⟨czbk BK244⟩, ⟨czbl1 HB GE244⟩⟩
 case round =>
  clear H'
  try clear p2
  obtain ⟨x3_1, x4_1, rfl, HA, HK1, HO_3, BK244, HB⟩ := hrel
  cases gk with
  | zero => exact absurd HA.out (by simp [vendmeterref_members.l0])
  | succ k1 =>
   have H := HA.out
   clear HA
   simp only [vendmeterref_members.l0] at H
   by_cases c3 : x4_1 ≥ 0
   ·
    rw [if_pos c3] at H
    have c3b0 : decide (0 ≤ x4_1) = true := decide_eq_true c3
    clear c3
    replace H := Option.bind_eq_some_iff.mp H
    obtain ⟨t245, A40, H⟩ := H
    (try dsimp only at H)
    have A4 := am A40
    clear A40
    by_cases c5 : t245 = true
    ·
     subst c5
     have H1 : (if x3_1.length < 17592186044416 then (vendmeterref_members.l0 k1 (x3_1 ++ [wrap64 (a0_0 - x4_1)]) (wrap64 (x4_1 - 1)) a0_0 a0_1) else (none)) = some r := by rw [if_pos rfl] at H; exact H
     clear H
     have H := H1
     clear H1
     by_cases c6 : x3_1.length < 17592186044416
     ·
      rw [if_pos c6] at H
      have LMc6 := am c6
      clear c6
      obtain ⟨y246, hy246⟩ : ∃ y_ : List Int, y_ = (x3_1 ++ [wrap64 (a0_0 - x4_1)]) := ⟨_, rfl⟩
      replace H : (vendmeterref_members.l0 k1 y246 (wrap64 (x4_1 - 1)) a0_0 a0_1) = some r := by first | (rw [hy246]; with_reducible exact H) | (have H2_ := (Option.bind_some _ _).symm.trans H; rw [hy246]; with_reducible exact H2_) | (have H2_ := (Option.bind_some _ _).symm.trans H; with_reducible exact H2_) | with_reducible exact H | (rw [hy246]; exact H) | exact H
      have Ny246 := am hy246
      clear hy246
      have H' := am H
      clear H
      obtain ⟨hcz7_0, hcz7_1⟩ := czc2 BK244.1
      obtain ⟨hfz7_0, hfz7_1⟩ := czf2 BK244.1
      go_wp2_with (first | ((with_reducible refine gate_callee (f := 113) rfl ?_); refine czgo (some 12) Tryz.func113 #[.int .u64 a0_1, .int .i64 x4_1] ?_; (with_reducible refine (vendmeterref_bitAt.calls k1 a0_1 x4_1 true _ A4.out).mono ?_); rintro e w' ⟨rfl, ⟨nd, rfl⟩⟩; refine ⟨_, rfl, ?_⟩) | ((with_reducible refine gate_builtin (b := .append) (xs := #[.tmp 13, .tmp 18]) rfl ?_); at_builtin; refine Kd.R_append (Kd.int .i64) (w0 := w) w.heap.size rfl (.tmp 13) (.tmp 18) 113 3 (.int .i64 0) 8 rfl Tryz.underlying113 info3 rfl (by decide) (by omega) u3 x3_1 (wrap64 (a0_0 - x4_1)) [.int .i64 (wrap64 (a0_0 - x4_1))] (fun _ => True) (fun _ => False) rfl rfl ?aP (fun _ hk => hk.elim) ?aF ?aO ?aB ?aS ?aL ?_; (case aP => exact rfl); (case aB => exact (czbl1 HB GE244)); (case aF => exact (fun _ _ => trivial)); (case aO => exact (czR HO_3)); (case aS => exact (below_size (czbl1 HB GE244))); (case aL => have := LMc6.out; omega); intro v247 w8 ho hb hg hat; rw [← Ny246.out] at ho; have HO248 := am (ho); replace BK244 := am (blk_grown (g := gb244) (o := .cells #[.int .i64 a0_0, .int .u64 a0_1] 38 (0, 0)) (czbk BK244) hg (Kd.R_ne HO_3.out BK244.1 (by decide))); replace HB := am (hb); clear HO_3; clear ho hb hg hat))
      go_roundg k1
      case measure => have := HK1.out; omega
      case rel => exact ⟨(y246), (wrap64 (x4_1 - 1)), czr, H', ⟨by have := HK1.out; omega⟩, ⟨czR HO248⟩, ⟨czbk BK244⟩, ⟨czbl1 HB GE244⟩⟩
     ·
      rw [if_neg c6] at H
      exact absurd H (by simp)
    ·
     replace c5 := Bool.eq_false_iff.mpr c5
     subst c5
     have H1 : (vendmeterref_members.l0 k1 x3_1 (wrap64 (x4_1 - 1)) a0_0 a0_1) = some r := by rw [if_neg (show ¬ (false = true) by decide)] at H; exact H
     clear H
     have H := H1
     clear H1
     have H' := am H
     clear H
     obtain ⟨hcz9_0, hcz9_1⟩ := czc2 BK244.1
     obtain ⟨hfz9_0, hfz9_1⟩ := czf2 BK244.1
     go_wp2_with (first | ((with_reducible refine gate_callee (f := 113) rfl ?_); refine czgo (some 12) Tryz.func113 #[.int .u64 a0_1, .int .i64 x4_1] ?_; (with_reducible refine (vendmeterref_bitAt.calls k1 a0_1 x4_1 false _ A4.out).mono ?_); rintro e w' ⟨rfl, ⟨nd, rfl⟩⟩; refine ⟨_, rfl, ?_⟩))
     go_roundg k1
     case measure => have := HK1.out; omega
     case rel => exact ⟨(x3_1), (wrap64 (x4_1 - 1)), czr, H', ⟨by have := HK1.out; omega⟩, ⟨czR HO_3⟩, ⟨czbk BK244⟩, ⟨czbl1 HB GE244⟩⟩
   ·
    rw [if_neg c3] at H
    have c3b0 : decide (0 ≤ x4_1) = false := decide_eq_false c3
    clear c3
    obtain rfl := Option.some.inj H
    go_wp2
    go_ret
    exact ⟨_, czeq, czR HO_3, czbl1 HB GE244⟩

end Go.Proofs.YtcllddkmcnfejaaGreatDoor.PPocketKeys
