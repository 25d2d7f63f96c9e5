/- vendmeterlaw.CheckMuls returns true at every two numbers: check.Mul answers as the reference does. No condition. -/
import Derived.Test.YtccokgnohmafjaaPCheckMulsx1
import Derived.Test.YtccokgnohmafjaaXLib
set_option linter.unusedVariables false
set_option linter.unusedSimpArgs false
namespace Go.Proofs.Ytccokgnohmafjaa.Pure
open Go.RowKit Go.Proofs.Ytccokgnohmafjaa.PCheckMuls Go.Proofs.YtccokgnohmafjaaW.PrintWords Go.Proofs.YtccokgnohmafjaaW.PrintLast Go.Proofs.YtccokgnohmafjaaW.PrintMore Go.Proofs.YtccokgnohmafjaaW.XLib

theorem vendmeterref_In.eq (a b c : Int) : vendmeterref_In.f a b c = some (decide (b ≤ a ∧ a ≤ c)) := by
  unfold vendmeterref_In.f
  by_cases h : b ≤ a
  · rw [if_pos h]; simp [h]
  · rw [if_neg h]; simp [h]

theorem check_digit.eq (a : Int) : check_digit.f a = some (decide (0 ≤ a ∧ a ≤ 9)) := by
  unfold check_digit.f
  by_cases h : 0 ≤ a
  · rw [if_pos h]; simp [h]
  · rw [if_neg h]; simp [h]
theorem all_moves : ∀ a b : Fin 10, vendmeterlaw_CheckMuls.f 12 (a.val : Int) (b.val : Int) = some true := by decide +kernel
theorem CheckMuls : vendmeterlaw_CheckMuls.Pure := by
  intro a b _ _
  have jT : Ev (fun k => vendmeterref_Moved.j0 k a b true) (0, 2) := Ev.step (f := fun _ => some (0, 2)) (fun k => rfl) (Ev.now _)
  by_cases ha : 0 ≤ a ∧ a ≤ 9
  · by_cases hb : 0 ≤ b ∧ b ≤ 9
    · have h := all_moves ⟨a.toNat, by omega⟩ ⟨b.toNat, by omega⟩
      dsimp only at h
      rw [show ((a.toNat : Nat) : Int) = a by omega, show ((b.toNat : Nat) : Int) = b by omega] at h
      exact ⟨12, h⟩
    · refine Ev.rounds ?_
      unfold vendmeterlaw_CheckMuls.f
      refine Ev.bind (a := (0, 2)) ?_ (Ev.bind (a := (0, 2)) ?_ (Ev.pos rfl (Ev.now _)))
      · unfold check_Mul.f
        rw [check_digit.eq, check_digit.eq]
        refine Ev.letS (Ev.pos (decide_eq_true ha) (Ev.letS (Ev.neg (by rw [decide_eq_false hb]; decide) (Ev.now _))))
      · unfold vendmeterref_Moved.f
        rw [vendmeterref_In.eq, vendmeterref_In.eq]
        refine Ev.letS (Ev.pos (decide_eq_true ha) (Ev.letS ?_))
        rw [decide_eq_false hb]
        exact jT
  · refine Ev.rounds ?_
    unfold vendmeterlaw_CheckMuls.f
    refine Ev.bind (a := (0, 2)) ?_ (Ev.bind (a := (0, 2)) ?_ (Ev.pos rfl (Ev.now _)))
    · unfold check_Mul.f
      rw [check_digit.eq]
      exact Ev.letS (Ev.neg (by rw [decide_eq_false ha]; decide) (Ev.now _))
    · unfold vendmeterref_Moved.f
      rw [vendmeterref_In.eq]
      exact Ev.letS (Ev.neg (by rw [decide_eq_false ha]; decide) jT)

end Go.Proofs.Ytccokgnohmafjaa.Pure
