-- written by this session's program wip/xp/xprint.py (it drives the kit's print and adds to it)
import Derived.Test.YtacgddnjlfkdmaaPWordsOverx5
import Derived.Test.YtacgddnjlfkdmaaPWordsOverx0
namespace Go.Proofs.Ytacgddnjlfkdmaa.PWordsOver
open Go.RowKit Go.Proofs.YtacgddnjlfkdmaaW.PrintWords Go.Proofs.YtacgddnjlfkdmaaW.PrintLast Go.Proofs.YtacgddnjlfkdmaaW.PrintMore
attribute [local go_sem] max2_int min2_int max_two min_two max_three min_three max_four min_four   -- for this text's walks alone
set_option linter.unusedVariables false
set_option linter.unusedSimpArgs false

/-- THE ONE PURE STATEMENT of vendmeterlaw_WordsOver. -/
def vendmeterlaw_WordsOver.Pure : Prop := ∀ (a0_0 : Int) (a0_1 : Int) (a0_2 : Int) (a1 : Int), (Lit.int .u32 a0_0).wf = true → (Lit.int .u32 a0_1).wf = true → (Lit.int .u32 a0_2).wf = true → (Lit.int .u32 a1).wf = true → vendmeterlaw_WordsOver.f a0_0 a0_1 a0_2 a1 = some true
theorem vendmeterlaw_WordsOver.walk (P : vendmeterlaw_WordsOver.Pure) (a0_0 : Int) (a0_1 : Int) (a0_2 : Int) (a1 : Int) (w : World) (o0_0 : (Lit.int .u32 a0_0).wf = true) (o0_1 : (Lit.int .u32 a0_1).wf = true) (o0_2 : (Lit.int .u32 a0_2).wf = true) (o1 : (Lit.int .u32 a1).wf = true) :
    Calls Try.prog 10 #[.agg #[.int .u32 a0_0, .int .u32 a0_1, .int .u32 a0_2], .int .u32 a1] w fun e w' => e = .returned (.bool true) ∧ Below w.heap.size w w' := by
  have h := P a0_0 a0_1 a0_2 a1 o0_0 o0_1 o0_2 o1
  refine (vendmeterlaw_WordsOver.calls a0_0 a0_1 a0_2 a1 true w h).mono ?_
  rintro e w' ⟨rfl, hd⟩
  exact ⟨rfl, hd⟩
end Go.Proofs.Ytacgddnjlfkdmaa.PWordsOver
