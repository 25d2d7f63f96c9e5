-- written by this session's program wip/xp/xprint.py (it drives the kit's print and adds to it)
import Derived.Test.YtacgddnjlfkdmaaPWordsReadsx0
namespace Go.Proofs.Ytacgddnjlfkdmaa.PWordsReads
open Go.RowKit Go.Proofs.YtacgddnjlfkdmaaW.PrintWords Go.Proofs.YtacgddnjlfkdmaaW.PrintLast Go.Proofs.YtacgddnjlfkdmaaW.PrintMore
attribute [local go_sem] max2_int min2_int max_two min_two max_three min_three max_four min_four   -- for this text's walks alone
set_option linter.unusedVariables false
set_option linter.unusedSimpArgs false

/-! ### vendmeterbig_mul stands in bw.A, bw.B -/

-- NOT PRINTED: function 84 (vendmeterbig_Int_Mul)

/-! ### vendmeterref_Digit: function 99 -/
def vendmeterref_Digit.f (a0 : Int) : Option (Bool) := if a0 ≥ 48 then (some (decide (a0 ≤ 57))) else (some false)
set_option maxHeartbeats 8000000 in
set_option maxRecDepth 100000 in
theorem vendmeterref_Digit.calls (a0 : Int) (r : Bool) (w : World) (h : vendmeterref_Digit.f a0 = some r) :
    Calls Try.prog 99 #[.int .u8 a0] w fun e w' => e = .returned (.bool r) ∧ Drawn0 w w' := by
  have H : (if a0 ≥ 48 then (some (decide (a0 ≤ 57))) else (some false)) = some r := h
  clear h
  by_cases c2 : a0 ≥ 48
  · rw [if_pos c2] at H
    have c2b0 : decide (48 ≤ a0) = true := decide_eq_true c2
    clear c2
    obtain rfl := Option.some.inj H
    go_enter Try.func99, Try.ntmps99
    go_wp2
    go_ret
    exact ⟨by first | rfl | (simp; done) | (simp [*]; done), by repeat (first | exact Drawn0.refl _ | apply Drawn0.step)⟩
  · rw [if_neg c2] at H
    have c2b0 : decide (48 ≤ a0) = false := decide_eq_false c2
    clear c2
    obtain rfl := Option.some.inj H
    go_enter Try.func99, Try.ntmps99
    go_wp2
    go_ret
    exact ⟨by first | rfl | (simp; done) | (simp [*]; done), by repeat (first | exact Drawn0.refl _ | apply Drawn0.step)⟩

/-! ### BitLen stands in bw.B, bw.L -/

-- NOT PRINTED: function 47 (vendmeterref_WideRead)

end Go.Proofs.Ytacgddnjlfkdmaa.PWordsReads
