-- written by this session's program wip/xp/xprint.py (it drives the kit's print and adds to it)
import Derived.Test.YtacgddnjlfkdmaaPWordsPutsx6
import Derived.Test.YtacgddnjlfkdmaaPWordsPutsx0
namespace Go.Proofs.Ytacgddnjlfkdmaa.PWordsPuts
open Go.RowKit Go.Proofs.YtacgddnjlfkdmaaW.PrintWords Go.Proofs.YtacgddnjlfkdmaaW.PrintLast Go.Proofs.YtacgddnjlfkdmaaW.PrintMore
attribute [local go_sem] max2_int min2_int max_two min_two max_three min_three max_four min_four   -- for this text's walks alone
set_option linter.unusedVariables false
set_option linter.unusedSimpArgs false

/-- THE ONE PURE STATEMENT of vendmeterlaw_WordsPuts. -/
def vendmeterlaw_WordsPuts.Pure : Prop := ∀ (a0_0 : Int) (a0_1 : Int) (a0_2 : Int) (a1 : Int) (a2 : Int) (a3 : Int), (Lit.int .u32 a0_0).wf = true → (Lit.int .u32 a0_1).wf = true → (Lit.int .u32 a0_2).wf = true → (Lit.int .i64 a1).wf = true → (Lit.int .i64 a2).wf = true → (Lit.int .u64 a3).wf = true → vendmeterlaw_WordsPuts.f a0_0 a0_1 a0_2 a1 a2 a3 = some true
theorem vendmeterlaw_WordsPuts.walk (P : vendmeterlaw_WordsPuts.Pure) (a0_0 : Int) (a0_1 : Int) (a0_2 : Int) (a1 : Int) (a2 : Int) (a3 : Int) (w : World) (o0_0 : (Lit.int .u32 a0_0).wf = true) (o0_1 : (Lit.int .u32 a0_1).wf = true) (o0_2 : (Lit.int .u32 a0_2).wf = true) (o1 : (Lit.int .i64 a1).wf = true) (o2 : (Lit.int .i64 a2).wf = true) (o3 : (Lit.int .u64 a3).wf = true) :
    Calls Try.prog 13 #[.agg #[.int .u32 a0_0, .int .u32 a0_1, .int .u32 a0_2], .int .i64 a1, .int .i64 a2, .int .u64 a3] w fun e w' => e = .returned (.bool true) ∧ Below w.heap.size w w' := by
  have h := P a0_0 a0_1 a0_2 a1 a2 a3 o0_0 o0_1 o0_2 o1 o2 o3
  refine (vendmeterlaw_WordsPuts.calls a0_0 a0_1 a0_2 a1 a2 a3 true w h).mono ?_
  rintro e w' ⟨rfl, hd⟩
  exact ⟨rfl, hd⟩
end Go.Proofs.Ytacgddnjlfkdmaa.PWordsPuts
