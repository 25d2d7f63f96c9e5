-- written by this session's program wip/xp/xprint.py (it drives the kit's print and adds to it)
import Derived.Test.YtpoiaheehhnnhaaPWindowTakesx3
import Derived.Test.YtpoiaheehhnnhaaPWindowTakesx0
namespace Go.Proofs.Ytpoiaheehhnnhaa.PWindowTakes
open Go.RowKit Go.Proofs.YtpoiaheehhnnhaaW.PrintWords Go.Proofs.YtpoiaheehhnnhaaW.PrintLast Go.Proofs.YtpoiaheehhnnhaaW.PrintMore
attribute [local go_sem] max2_int min2_int max_two min_two max_three min_three max_four min_four   -- for this text's walks alone
set_option linter.unusedVariables false
set_option linter.unusedSimpArgs false

/-- THE ONE PURE STATEMENT of vendmeterlaw_WindowTakes. -/
def vendmeterlaw_WindowTakes.Pure : Prop := ∀ (a0_0 : Int) (a0_1 : Int) (a1 : Int), (Lit.int .i64 a0_0).wf = true → (Lit.int .u64 a0_1).wf = true → (Lit.int .i64 a1).wf = true → ∃ k, vendmeterlaw_WindowTakes.f k a0_0 a0_1 a1 = some true
theorem vendmeterlaw_WindowTakes.walk (P : vendmeterlaw_WindowTakes.Pure) (a0_0 : Int) (a0_1 : Int) (a1 : Int) (w : World) (o0_0 : (Lit.int .i64 a0_0).wf = true) (o0_1 : (Lit.int .u64 a0_1).wf = true) (o1 : (Lit.int .i64 a1).wf = true) :
    Calls Try.prog 10 #[.agg #[.int .i64 a0_0, .int .u64 a0_1], .int .i64 a1] w fun e w' => e = .returned (.bool true) ∧ Below w.heap.size w w' := by
  obtain ⟨k, h⟩ := P a0_0 a0_1 a1 o0_0 o0_1 o1
  refine (vendmeterlaw_WindowTakes.calls k a0_0 a0_1 a1 true w h).mono ?_
  rintro e w' ⟨rfl, hd⟩
  exact ⟨rfl, hd⟩
end Go.Proofs.Ytpoiaheehhnnhaa.PWindowTakes
