-- written by this session's program wip/xp/xprint.py (it drives the kit's print and adds to it)
import Derived.Test.YtoookcmablnjfaaPWordsShowsx5
import Derived.Test.YtoookcmablnjfaaPWordsShowsx0
namespace Go.Proofs.Ytoookcmablnjfaa.PWordsShows
open Go.RowKit Go.Proofs.YtoookcmablnjfaaW.PrintWords Go.Proofs.YtoookcmablnjfaaW.PrintLast Go.Proofs.YtoookcmablnjfaaW.PrintMore
attribute [local go_sem] max2_int min2_int max_two min_two max_three min_three max_four min_four   -- for this text's walks alone
set_option linter.unusedVariables false
set_option linter.unusedSimpArgs false

/-- THE ONE PURE STATEMENT of vendmeterlaw_WordsShows. -/
def vendmeterlaw_WordsShows.Pure : Prop := ∀ (a0_0 : Int) (a0_1 : Int) (a0_2 : Int), (Lit.int .u32 a0_0).wf = true → (Lit.int .u32 a0_1).wf = true → (Lit.int .u32 a0_2).wf = true → ∃ k, vendmeterlaw_WordsShows.f k a0_0 a0_1 a0_2 = some true
theorem vendmeterlaw_WordsShows.walk (P : vendmeterlaw_WordsShows.Pure) (a0_0 : Int) (a0_1 : Int) (a0_2 : Int) (w : World) (o0_0 : (Lit.int .u32 a0_0).wf = true) (o0_1 : (Lit.int .u32 a0_1).wf = true) (o0_2 : (Lit.int .u32 a0_2).wf = true) :
    Calls Try.prog 3 #[.agg #[.int .u32 a0_0, .int .u32 a0_1, .int .u32 a0_2]] w fun e w' => e = .returned (.bool true) ∧ Below w.heap.size w w' := by
  obtain ⟨k, h⟩ := P a0_0 a0_1 a0_2 o0_0 o0_1 o0_2
  refine (vendmeterlaw_WordsShows.calls k a0_0 a0_1 a0_2 true w h).mono ?_
  rintro e w' ⟨rfl, hd⟩
  exact ⟨rfl, hd⟩
end Go.Proofs.Ytoookcmablnjfaa.PWordsShows
