-- written by this session's program wip/xp/xprint.py (it drives the kit's print and adds to it)
import Derived.Test.YtojnaalncgofhaaPBookDecodesx6
import Derived.Test.YtojnaalncgofhaaPBookDecodesx0
namespace Go.Proofs.Ytojnaalncgofhaa.PBookDecodes
open Go.RowKit Go.Proofs.YtojnaalncgofhaaW.PrintWords Go.Proofs.YtojnaalncgofhaaW.PrintLast Go.Proofs.YtojnaalncgofhaaW.PrintMore
attribute [local go_sem] max2_int min2_int max_two min_two max_three min_three max_four min_four   -- for this text's walks alone
set_option linter.unusedVariables false
set_option linter.unusedSimpArgs false

/-- THE ONE PURE STATEMENT of vendmeterlaw_BookDecodes. -/
def vendmeterlaw_BookDecodes.Pure : Prop := ∀ (l0 : List Int), (l0.length * 4 ≤ 140737488351232 ∧ ∀ y ∈ l0, (Lit.int .u32 y).wf = true) → ∃ k, vendmeterlaw_BookDecodes.f k l0 = some true
theorem vendmeterlaw_BookDecodes.walk (P : vendmeterlaw_BookDecodes.Pure) (A0 : Option Addr) (c0 : Nat) (l0 : List Int) (w : World) (hr0 : Kd.C (Kd.int .u32) w A0 l0.length l0) (hc0 : l0.length ≤ c0) (o0 : (l0.length * 4 ≤ 140737488351232 ∧ ∀ y ∈ l0, (Lit.int .u32 y).wf = true)) :
    Calls Try.prog 5 #[.slice A0 l0.length c0] w fun e w' => e = .returned (.bool true) ∧ Below w.heap.size w w' := by
  obtain ⟨k, h⟩ := P l0 o0
  refine (vendmeterlaw_BookDecodes.calls k _ _ l0 true w hr0 hc0 h).mono ?_
  rintro e w' ⟨rfl, hd⟩
  exact ⟨rfl, hd⟩
end Go.Proofs.Ytojnaalncgofhaa.PBookDecodes
