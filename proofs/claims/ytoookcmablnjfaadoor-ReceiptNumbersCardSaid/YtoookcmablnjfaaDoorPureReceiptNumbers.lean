/- vendmeterlaw.ReceiptNumbers returns true at every meter: there are fifty of them, each one reckoned; beside them both answer the same fault. No condition. -/
import Derived.Test.YtoookcmablnjfaaDoorPReceiptNumbersx3
import Derived.Test.YtoookcmablnjfaaDoorXLib
set_option linter.unusedVariables false
set_option linter.unusedSimpArgs false
namespace Go.Proofs.YtoookcmablnjfaaDoor.Pure
open Go.RowKit Go.Proofs.YtoookcmablnjfaaDoor.PReceiptNumbers Go.Proofs.YtoookcmablnjfaaDoorW.PrintWords Go.Proofs.YtoookcmablnjfaaDoorW.PrintLast Go.Proofs.YtoookcmablnjfaaDoorW.PrintMore Go.Proofs.YtoookcmablnjfaaDoorW.XLib


theorem rn_all : ∀ a : Fin 50, vendmeterlaw_ReceiptNumbers.f 40 (a.val : Int) = some true := by decide +kernel
theorem ReceiptNumbers : vendmeterlaw_ReceiptNumbers.Pure := by
  intro a _
  by_cases h : 0 ≤ a ∧ a < 50
  · refine ⟨40, ?_⟩
    have := rn_all ⟨a.toNat, by omega⟩
    rwa [show (((⟨a.toNat, by omega⟩ : Fin 50).val : Nat) : Int) = a by simp; omega] at this
  · refine Ev.rounds ?_
    unfold vendmeterlaw_ReceiptNumbers.f
    have h1 : Ev (fun k => receipt_Number.f k a) ((⟨#[]⟩ : ByteArray), 18) := by
      unfold receipt_Number.f
      by_cases h0 : a < 0
      · refine Ev.pos h0 (Ev.succ ?_)
        simp only [receipt_Number.j0]
        exact Ev.pos (by first | rfl | trivial) (Ev.now _)
      · refine Ev.neg h0 (Ev.succ ?_)
        simp only [receipt_Number.j0]
        exact Ev.pos (decide_eq_true (by omega)) (Ev.now _)
    have h2 : Ev (fun k => vendmeterref_NumberOf.f k a) ((⟨#[]⟩ : ByteArray), 18) := by
      unfold vendmeterref_NumberOf.f vendmeterref_In.f
      by_cases h0 : a ≥ 0
      · rw [if_pos h0, decide_eq_false (by omega)]
        exact Ev.letS (Ev.neg (by decide) (Ev.now _))
      · rw [if_neg h0]
        exact Ev.letS (Ev.neg (by decide) (Ev.now _))
    exact Ev.bind h1 (Ev.bind h2 (Ev.pos rfl (Ev.ret (by simp))))

end Go.Proofs.YtoookcmablnjfaaDoor.Pure
