-- written by this session's program wip/xp/xprint.py (it drives the kit's print and adds to it)
import Derived.Test.YtpoiaheehhnnhaaPWindowUsesx3
import Derived.Test.YtpoiaheehhnnhaaPWindowUsesx0
namespace Go.Proofs.Ytpoiaheehhnnhaa.PWindowUses
open Go.RowKit Go.Proofs.YtpoiaheehhnnhaaW.PrintWords Go.Proofs.YtpoiaheehhnnhaaW.PrintLast Go.Proofs.YtpoiaheehhnnhaaW.PrintMore
attribute [local go_sem] max2_int min2_int max_two min_two max_three min_three max_four min_four   -- for this text's walks alone
set_option linter.unusedVariables false
set_option linter.unusedSimpArgs false

/-- THE ONE PURE STATEMENT of vendmeterlaw_WindowUses. -/
def vendmeterlaw_WindowUses.Pure : Prop := ∀ (a0_0 : Int) (a0_1 : Int), (Lit.int .i64 a0_0).wf = true → (Lit.int .u64 a0_1).wf = true → ∃ k, vendmeterlaw_WindowUses.f k a0_0 a0_1 = some true
theorem vendmeterlaw_WindowUses.walk (P : vendmeterlaw_WindowUses.Pure) (a0_0 : Int) (a0_1 : Int) (w : World) (o0_0 : (Lit.int .i64 a0_0).wf = true) (o0_1 : (Lit.int .u64 a0_1).wf = true) :
    Calls Try.prog 8 #[.agg #[.int .i64 a0_0, .int .u64 a0_1]] w fun e w' => e = .returned (.bool true) ∧ Below w.heap.size w w' := by
  obtain ⟨k, h⟩ := P a0_0 a0_1 o0_0 o0_1
  refine (vendmeterlaw_WindowUses.calls k a0_0 a0_1 true w h).mono ?_
  rintro e w' ⟨rfl, hd⟩
  exact ⟨rfl, hd⟩
end Go.Proofs.Ytpoiaheehhnnhaa.PWindowUses
