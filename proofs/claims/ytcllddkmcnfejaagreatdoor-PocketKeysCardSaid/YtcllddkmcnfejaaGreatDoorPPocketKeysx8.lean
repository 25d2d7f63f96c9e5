-- written by this session's program wip/xp/xprint.py (it drives the kit's print and adds to it)
import Derived.Test.YtcllddkmcnfejaaGreatDoorPPocketKeysx0
namespace Go.Proofs.YtcllddkmcnfejaaGreatDoor.PPocketKeys
open Go.RowKit Go.Proofs.YtcllddkmcnfejaaGreatDoorW.PrintWords Go.Proofs.YtcllddkmcnfejaaGreatDoorW.PrintLast Go.Proofs.YtcllddkmcnfejaaGreatDoorW.PrintMore
attribute [local go_sem] max2_int min2_int max_two min_two max_three min_three max_four min_four
set_option linter.unusedVariables false
set_option linter.unusedSimpArgs false
set_option maxHeartbeats 8000000
set_option maxRecDepth 100000

/-! ### token_bounds: function 65 -/
def token_bounds.f (a0 : Int) : Option (Int × Int × Bool) := if a0 = 0 then (some (1, 2097151, true)) else (if a0 = 2 then (some (1, 15, true)) else (if a0 = 1 then (some (0, 0, true)) else (if a0 = 3 then (some (0, 0, true)) else (some (0, 0, false)))))
theorem token_bounds.calls (a0 : Int) (r1 : Int) (r2 : Int) (r3 : Bool) (w : World) (h : token_bounds.f a0 = some (r1, r2, r3)) :
  Calls Tryz.prog 65 #[.int .i64 a0] w fun e w' => e = .returned (.tuple #[.int .i64 r1, .int .i64 r2, .bool r3]) ∧ Drawn0 w w' := by
 have H : (if a0 = 0 then (some (1, 2097151, true)) else (if a0 = 2 then (some (1, 15, true)) else (if a0 = 1 then (some (0, 0, true)) else (if a0 = 3 then (some (0, 0, true)) else (some (0, 0, false)))))) = some (r1, r2, r3) := h
 clear h
 revert H
 refine czei (fun c2b0 c2b1 H => ?_) (fun c2 c2b0 c2b1 H => ?_)
 ·
  simp only [Option.some.injEq, Prod.mk.injEq] at H
  obtain ⟨rfl, rfl, rfl⟩ := H
  go_enter Tryz.func65, Tryz.ntmps65
  go_wp2
  go_ret3
  exact ⟨by first | rfl | (simp; done) | (simp [*]; done), by repeat (first | exact Drawn0.refl _ | apply Drawn0.step)⟩
 ·
  revert H
  refine czei (fun c3b0 c3b1 H => ?_) (fun c3 c3b0 c3b1 H => ?_)
  ·
   simp only [Option.some.injEq, Prod.mk.injEq] at H
   obtain ⟨rfl, rfl, rfl⟩ := H
   go_enter Tryz.func65, Tryz.ntmps65
   go_wp2
   go_ret3
   exact ⟨by first | rfl | (simp; done) | (simp [*]; done), by repeat (first | exact Drawn0.refl _ | apply Drawn0.step)⟩
  ·
   revert H
   refine czei (fun c4b0 c4b1 H => ?_) (fun c4 c4b0 c4b1 H => ?_)
   ·
    simp only [Option.some.injEq, Prod.mk.injEq] at H
    obtain ⟨rfl, rfl, rfl⟩ := H
    go_enter Tryz.func65, Tryz.ntmps65
    go_wp2
    go_ret3
    exact ⟨by first | rfl | (simp; done) | (simp [*]; done), by repeat (first | exact Drawn0.refl _ | apply Drawn0.step)⟩
   ·
    revert H
    refine czei (fun c5b0 c5b1 H => ?_) (fun c5 c5b0 c5b1 H => ?_)
    ·
     simp only [Option.some.injEq, Prod.mk.injEq] at H
     obtain ⟨rfl, rfl, rfl⟩ := H
     go_enter Tryz.func65, Tryz.ntmps65
     go_wp2
     go_ret3
     exact ⟨by first | rfl | (simp; done) | (simp [*]; done), by repeat (first | exact Drawn0.refl _ | apply Drawn0.step)⟩
    ·
     simp only [Option.some.injEq, Prod.mk.injEq] at H
     obtain ⟨rfl, rfl, rfl⟩ := H
     go_enter Tryz.func65, Tryz.ntmps65
     go_wp2
     go_ret3
     exact ⟨by first | rfl | (simp; done) | (simp [*]; done), by repeat (first | exact Drawn0.refl _ | apply Drawn0.step)⟩

/-! ### token_fault: function 27 -/
def token_fault.f (a0_0 : Int) (a0_1 : Int) (a0_2 : Int) (a0_3 : Int) : Option (Int) := (token_bounds.f a0_0).bind fun bt155 => (if bt155.2.2 = true then (if a0_1 < 1 then (some 2) else (if a0_1 > 1048575 then (some 2) else (if a0_2 < bt155.1 then (some 2) else (if a0_2 > bt155.2.1 then (some 2) else (if a0_3 < 0 then (some 2) else (if a0_3 > 65535 then (some 2) else (some 0))))))) else (some 9))
theorem token_fault.calls (a0_0 : Int) (a0_1 : Int) (a0_2 : Int) (a0_3 : Int) (r : Int) (w : World) (h : token_fault.f a0_0 a0_1 a0_2 a0_3 = some r) :
  Calls Tryz.prog 27 #[.agg #[.int .i64 a0_0, .int .i64 a0_1, .int .i64 a0_2, .int .i64 a0_3]] w fun e w' => e = .returned (.int .i64 r) ∧ Below w.heap.size w w' := by
 have hu44 := Tryz.underlying44
 have HB := am (Below.refl w.heap.size w)
 have H : ((token_bounds.f a0_0).bind fun bt155 => (if bt155.2.2 = true then (if a0_1 < 1 then (some 2) else (if a0_1 > 1048575 then (some 2) else (if a0_2 < bt155.1 then (some 2) else (if a0_2 > bt155.2.1 then (some 2) else (if a0_3 < 0 then (some 2) else (if a0_3 > 65535 then (some 2) else (some 0))))))) else (some 9))) = some r := h
 clear h
 replace H := Option.bind_eq_some_iff.mp H
 obtain ⟨⟨t155, t156, t157⟩, A20, H⟩ := H
 (try dsimp only at H)
 have A2 := am A20
 clear A20
 by_cases c3 : t157 = true
 ·
  subst c3
  have H1 : (if a0_1 < 1 then (some 2) else (if a0_1 > 1048575 then (some 2) else (if a0_2 < t155 then (some 2) else (if a0_2 > t156 then (some 2) else (if a0_3 < 0 then (some 2) else (if a0_3 > 65535 then (some 2) else (some 0))))))) = some r := by rw [if_pos rfl] at H; exact H
  clear H
  have H := H1
  clear H1
  have HC4 := am H
  clear H
  go_enter Tryz.func27, Tryz.ntmps27
  go_upto_region 4 with (first | ((with_reducible refine gate_dst (N := 1) rfl ?_); refine czbox 1 #[.int .i64 a0_0, .int .i64 a0_1, .int .i64 a0_2, .int .i64 a0_3] 44 ?_; intro gb154 hg w5 hbox hb; have BK154 := am (hbox); have GW154 := czsz hg (czbl HB); have GE154 := czsz hg (czbl HB); replace HB := am (below_step (czbl HB) hb); clear hb hbox hg; obtain ⟨hcz6_0, hcz6_1, hcz6_2, hcz6_3⟩ := czc4 BK154.1) | ((with_reducible refine gate_callee (f := 65) rfl ?_); refine czgo (some 9) Tryz.func65 #[.int .i64 a0_0] ?_; (with_reducible refine (token_bounds.calls a0_0 t155 t156 true _ A2.out).mono ?_); rintro e w' ⟨rfl, ⟨nd, rfl⟩⟩; refine ⟨_, rfl, ?_⟩))
  have H := HC4.out
  clear HC4
  revert H
  refine czif (fun c7b0 H => ?_) (fun c7b0 H => ?_)
  ·
   obtain rfl := Option.some.inj H
   obtain ⟨hcz8_0, hcz8_1, hcz8_2, hcz8_3⟩ := czc4 BK154.1
   go_wp2
   go_ret
   exact ⟨czeq, czbl1 HB GE154⟩
  ·
   by_cases c9 : a0_1 > 1048575
   ·
    rw [if_pos c9] at H
    have c9b0 : decide (1048575 < a0_1) = true := decide_eq_true c9
    clear c9
    obtain rfl := Option.some.inj H
    obtain ⟨hcz10_0, hcz10_1, hcz10_2, hcz10_3⟩ := czc4 BK154.1
    go_wp2
    go_ret
    exact ⟨czeq, czbl1 HB GE154⟩
   ·
    rw [if_neg c9] at H
    have c9b0 : decide (1048575 < a0_1) = false := decide_eq_false c9
    clear c9
    revert H
    refine czif (fun c11b0 H => ?_) (fun c11b0 H => ?_)
    ·
     obtain rfl := Option.some.inj H
     obtain ⟨hcz12_0, hcz12_1, hcz12_2, hcz12_3⟩ := czc4 BK154.1
     go_wp2
     go_ret
     exact ⟨czeq, czbl1 HB GE154⟩
    ·
     by_cases c13 : a0_2 > t156
     ·
      rw [if_pos c13] at H
      have c13b0 : decide (t156 < a0_2) = true := decide_eq_true c13
      clear c13
      obtain rfl := Option.some.inj H
      obtain ⟨hcz14_0, hcz14_1, hcz14_2, hcz14_3⟩ := czc4 BK154.1
      go_wp2
      go_ret
      exact ⟨czeq, czbl1 HB GE154⟩
     ·
      rw [if_neg c13] at H
      have c13b0 : decide (t156 < a0_2) = false := decide_eq_false c13
      clear c13
      revert H
      refine czif (fun c15b0 H => ?_) (fun c15b0 H => ?_)
      ·
       obtain rfl := Option.some.inj H
       obtain ⟨hcz16_0, hcz16_1, hcz16_2, hcz16_3⟩ := czc4 BK154.1
       go_wp2
       go_ret
       exact ⟨czeq, czbl1 HB GE154⟩
      ·
       by_cases c17 : a0_3 > 65535
       ·
        rw [if_pos c17] at H
        have c17b0 : decide (65535 < a0_3) = true := decide_eq_true c17
        clear c17
        obtain rfl := Option.some.inj H
        obtain ⟨hcz18_0, hcz18_1, hcz18_2, hcz18_3⟩ := czc4 BK154.1
        go_wp2
        go_ret
        exact ⟨czeq, czbl1 HB GE154⟩
       ·
        rw [if_neg c17] at H
        have c17b0 : decide (65535 < a0_3) = false := decide_eq_false c17
        clear c17
        obtain rfl := Option.some.inj H
        obtain ⟨hcz19_0, hcz19_1, hcz19_2, hcz19_3⟩ := czc4 BK154.1
        go_wp2
        go_ret
        exact ⟨czeq, czbl1 HB GE154⟩
 ·
  replace c3 := Bool.eq_false_iff.mpr c3
  subst c3
  have H1 : (some 9) = some r := by rw [if_neg (show ¬ (false = true) by decide)] at H; exact H
  clear H
  have H := H1
  clear H1
  obtain rfl := Option.some.inj H
  go_enter Tryz.func27, Tryz.ntmps27
  go_wp2_with (first | ((with_reducible refine gate_dst (N := 1) rfl ?_); refine czbox 1 #[.int .i64 a0_0, .int .i64 a0_1, .int .i64 a0_2, .int .i64 a0_3] 44 ?_; intro gb154 hg w20 hbox hb; have BK154 := am (hbox); have GW154 := czsz hg (czbl HB); have GE154 := czsz hg (czbl HB); replace HB := am (below_step (czbl HB) hb); clear hb hbox hg; obtain ⟨hcz21_0, hcz21_1, hcz21_2, hcz21_3⟩ := czc4 BK154.1) | ((with_reducible refine gate_callee (f := 65) rfl ?_); refine czgo (some 9) Tryz.func65 #[.int .i64 a0_0] ?_; (with_reducible refine (token_bounds.calls a0_0 t155 t156 false _ A2.out).mono ?_); rintro e w' ⟨rfl, ⟨nd, rfl⟩⟩; refine ⟨_, rfl, ?_⟩))
  go_ret
  exact ⟨czeq, czbl1 HB GE154⟩

end Go.Proofs.YtcllddkmcnfejaaGreatDoor.PPocketKeys
