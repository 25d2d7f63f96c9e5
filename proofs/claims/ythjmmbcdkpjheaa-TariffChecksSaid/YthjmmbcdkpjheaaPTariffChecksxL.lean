-- written by this session's program wip/xp/xprint.py (it drives the kit's print and adds to it)
import Derived.Test.YthjmmbcdkpjheaaPTariffChecksx2
import Derived.Test.YthjmmbcdkpjheaaPTariffChecksx0
namespace Go.Proofs.Ythjmmbcdkpjheaa.PTariffChecks
open Go.RowKit Go.Proofs.YthjmmbcdkpjheaaW.PrintWords Go.Proofs.YthjmmbcdkpjheaaW.PrintLast Go.Proofs.YthjmmbcdkpjheaaW.PrintMore
attribute [local go_sem] max2_int min2_int max_two min_two max_three min_three max_four min_four   -- for this text's walks alone
set_option linter.unusedVariables false
set_option linter.unusedSimpArgs false

def ok81 (x : S81) : Prop := (Lit.int .i64 x.f0).wf = true ∧ (Lit.int .i64 x.f1).wf = true
/-- THE ONE PURE STATEMENT of vendmeterlaw_TariffChecks. -/
def vendmeterlaw_TariffChecks.Pure : Prop := ∀ (l0 : List (S81)), (l0.length * 16 ≤ 140737488351232 ∧ ∀ y ∈ l0, ok81 y) → ∃ k, vendmeterlaw_TariffChecks.f k l0 = some true
theorem vendmeterlaw_TariffChecks.walk (P : vendmeterlaw_TariffChecks.Pure) (A0 : Option Addr) (c0 : Nat) (l0 : List (S81)) (w : World) (hr0 : Kd.C k81 w A0 l0.length l0) (hc0 : l0.length ≤ c0) (o0 : (l0.length * 16 ≤ 140737488351232 ∧ ∀ y ∈ l0, ok81 y)) :
    Calls Try.prog 10 #[.slice A0 l0.length c0] w fun e w' => e = .returned (.bool true) ∧ Below w.heap.size w w' := by
  obtain ⟨k, h⟩ := P l0 o0
  refine (vendmeterlaw_TariffChecks.calls k _ _ l0 true w hr0 hc0 h).mono ?_
  rintro e w' ⟨rfl, hd⟩
  exact ⟨rfl, hd⟩
end Go.Proofs.Ythjmmbcdkpjheaa.PTariffChecks
