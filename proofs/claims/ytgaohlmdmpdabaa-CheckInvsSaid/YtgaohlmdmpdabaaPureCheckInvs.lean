/- vendmeterlaw.CheckInvs returns true at every number: check.Inv answers as the reference does. No condition. -/
import Derived.Test.YtgaohlmdmpdabaaPCheckInvsx1
set_option linter.unusedVariables false
set_option linter.unusedSimpArgs false
namespace Go.Proofs.Ytgaohlmdmpdabaa.Pure
open Go.RowKit Go.Proofs.Ytgaohlmdmpdabaa.PCheckInvs Go.Proofs.YtgaohlmdmpdabaaW.PrintWords Go.Proofs.YtgaohlmdmpdabaaW.PrintLast

theorem inv_all : ∀ n : Nat, n < 10 → vendmeterlaw_CheckInvs.f 30 (n : Int) = some true := by
  intro n hn
  match n, hn with
  | 0, _ => decide +kernel
  | 1, _ => decide +kernel
  | 2, _ => decide +kernel
  | 3, _ => decide +kernel
  | 4, _ => decide +kernel
  | 5, _ => decide +kernel
  | 6, _ => decide +kernel
  | 7, _ => decide +kernel
  | 8, _ => decide +kernel
  | 9, _ => decide +kernel

theorem CheckInvs : vendmeterlaw_CheckInvs.Pure := by
  intro a _
  refine ⟨30, ?_⟩
  by_cases h1 : 0 ≤ a
  · by_cases h2 : a ≤ 9
    · obtain ⟨n, rfl⟩ := Int.eq_ofNat_of_zero_le h1
      exact inv_all n (by omega)
    · unfold vendmeterlaw_CheckInvs.f check_Inv.f vendmeterref_Undone.f vendmeterref_In.f check_digit.f
      simp [h1, h2]
  · unfold vendmeterlaw_CheckInvs.f check_Inv.f vendmeterref_Undone.f vendmeterref_In.f check_digit.f
    simp [h1]

end Go.Proofs.Ytgaohlmdmpdabaa.Pure
