-- written by this session's program wip/xp/xprint.py (it drives the kit's print and adds to it)
import Derived.Test.YtacgddnjlfkdmaaPWordsCmpsx4
import Derived.Test.YtacgddnjlfkdmaaPWordsCmpsx0
namespace Go.Proofs.Ytacgddnjlfkdmaa.PWordsCmps
open Go.RowKit Go.Proofs.YtacgddnjlfkdmaaW.PrintWords Go.Proofs.YtacgddnjlfkdmaaW.PrintLast Go.Proofs.YtacgddnjlfkdmaaW.PrintMore
attribute [local go_sem] max2_int min2_int max_two min_two max_three min_three max_four min_four   -- for this text's walks alone
set_option linter.unusedVariables false
set_option linter.unusedSimpArgs false

/-- THE ONE PURE STATEMENT of vendmeterlaw_WordsCmps. -/
def vendmeterlaw_WordsCmps.Pure : Prop := ∀ (a0_0 : Int) (a0_1 : Int) (a0_2 : Int) (a1_0 : Int) (a1_1 : Int) (a1_2 : Int), (Lit.int .u32 a0_0).wf = true → (Lit.int .u32 a0_1).wf = true → (Lit.int .u32 a0_2).wf = true → (Lit.int .u32 a1_0).wf = true → (Lit.int .u32 a1_1).wf = true → (Lit.int .u32 a1_2).wf = true → vendmeterlaw_WordsCmps.f a0_0 a0_1 a0_2 a1_0 a1_1 a1_2 = some true
theorem vendmeterlaw_WordsCmps.walk (P : vendmeterlaw_WordsCmps.Pure) (a0_0 : Int) (a0_1 : Int) (a0_2 : Int) (a1_0 : Int) (a1_1 : Int) (a1_2 : Int) (w : World) (o0_0 : (Lit.int .u32 a0_0).wf = true) (o0_1 : (Lit.int .u32 a0_1).wf = true) (o0_2 : (Lit.int .u32 a0_2).wf = true) (o1_0 : (Lit.int .u32 a1_0).wf = true) (o1_1 : (Lit.int .u32 a1_1).wf = true) (o1_2 : (Lit.int .u32 a1_2).wf = true) :
    Calls Try.prog 11 #[.agg #[.int .u32 a0_0, .int .u32 a0_1, .int .u32 a0_2], .agg #[.int .u32 a1_0, .int .u32 a1_1, .int .u32 a1_2]] w fun e w' => e = .returned (.bool true) ∧ Below w.heap.size w w' := by
  have h := P a0_0 a0_1 a0_2 a1_0 a1_1 a1_2 o0_0 o0_1 o0_2 o1_0 o1_1 o1_2
  refine (vendmeterlaw_WordsCmps.calls a0_0 a0_1 a0_2 a1_0 a1_1 a1_2 true w h).mono ?_
  rintro e w' ⟨rfl, hd⟩
  exact ⟨rfl, hd⟩
end Go.Proofs.Ytacgddnjlfkdmaa.PWordsCmps
