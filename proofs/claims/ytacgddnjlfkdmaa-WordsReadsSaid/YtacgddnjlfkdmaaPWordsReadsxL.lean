-- written by this session's program wip/xp/xprint.py (it drives the kit's print and adds to it)
import Derived.Test.YtacgddnjlfkdmaaPWordsReadsx5
import Derived.Test.YtacgddnjlfkdmaaPWordsReadsx0
namespace Go.Proofs.Ytacgddnjlfkdmaa.PWordsReads
open Go.RowKit Go.Proofs.YtacgddnjlfkdmaaW.PrintWords Go.Proofs.YtacgddnjlfkdmaaW.PrintLast Go.Proofs.YtacgddnjlfkdmaaW.PrintMore
attribute [local go_sem] max2_int min2_int max_two min_two max_three min_three max_four min_four   -- for this text's walks alone
set_option linter.unusedVariables false
set_option linter.unusedSimpArgs false

/-- THE ONE PURE STATEMENT of vendmeterlaw_WordsReads. -/
def vendmeterlaw_WordsReads.Pure : Prop := ∀ (a0 : ByteArray), a0.size ≤ 140737488351232 → vendmeterlaw_WordsReads.f a0 = some true
theorem vendmeterlaw_WordsReads.walk (P : vendmeterlaw_WordsReads.Pure) (a0 : ByteArray) (w : World) (o0 : a0.size ≤ 140737488351232) :
    Calls Try.prog 14 #[.string a0] w fun e w' => e = .returned (.bool true) ∧ Below w.heap.size w w' := by
  have h := P a0 o0
  refine (vendmeterlaw_WordsReads.calls a0 true w h).mono ?_
  rintro e w' ⟨rfl, hd⟩
  exact ⟨rfl, hd⟩
end Go.Proofs.Ytacgddnjlfkdmaa.PWordsReads
