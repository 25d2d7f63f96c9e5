-- written by this session's program wip/xp/xprint.py (it drives the kit's print and adds to it)
import Derived.Test.YthjmmbcdkpjheaaPDebtAgesx3
import Derived.Test.YthjmmbcdkpjheaaPDebtAgesx0
namespace Go.Proofs.Ythjmmbcdkpjheaa.PDebtAges
open Go.RowKit Go.Proofs.YthjmmbcdkpjheaaW.PrintWords Go.Proofs.YthjmmbcdkpjheaaW.PrintLast Go.Proofs.YthjmmbcdkpjheaaW.PrintMore
attribute [local go_sem] max2_int min2_int max_two min_two max_three min_three max_four min_four   -- for this text's walks alone
set_option linter.unusedVariables false
set_option linter.unusedSimpArgs false

def ok76 (x : S76) : Prop := (Lit.int .i64 x.f0).wf = true ∧ (Lit.int .i64 x.f1).wf = true
/-- THE ONE PURE STATEMENT of vendmeterlaw_DebtAges. -/
def vendmeterlaw_DebtAges.Pure : Prop := ∀ (l0 : List (S76)) (a1 : Int), (l0.length * 16 ≤ 140737488351232 ∧ ∀ y ∈ l0, ok76 y) → (Lit.int .i64 a1).wf = true → ∃ k, vendmeterlaw_DebtAges.f k l0 a1 = some true
theorem vendmeterlaw_DebtAges.walk (P : vendmeterlaw_DebtAges.Pure) (A0 : Option Addr) (c0 : Nat) (l0 : List (S76)) (a1 : Int) (w : World) (hr0 : Kd.C k76 w A0 l0.length l0) (hc0 : l0.length ≤ c0) (o0 : (l0.length * 16 ≤ 140737488351232 ∧ ∀ y ∈ l0, ok76 y)) (o1 : (Lit.int .i64 a1).wf = true) :
    Calls Try.prog 7 #[.slice A0 l0.length c0, .int .i64 a1] w fun e w' => e = .returned (.bool true) ∧ Below w.heap.size w w' := by
  obtain ⟨k, h⟩ := P l0 a1 o0 o1
  refine (vendmeterlaw_DebtAges.calls k _ _ l0 a1 true w hr0 hc0 h).mono ?_
  rintro e w' ⟨rfl, hd⟩
  exact ⟨rfl, hd⟩
end Go.Proofs.Ythjmmbcdkpjheaa.PDebtAges
