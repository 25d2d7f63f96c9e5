/- vendmeterlaw.WordsOver returns true at every three words and every word: words.Over answers what the reference does: the number of 96 bits by a word, what is left, and the error where the word is 0. No condition. -/
import Derived.Test.YtacgddnjlfkdmaaPWordsOverxL
import Derived.Test.YtacgddnjlfkdmaaXLib
set_option linter.unusedVariables false
set_option linter.unusedSimpArgs false
namespace Go.Proofs.Ytacgddnjlfkdmaa.Pure
open Go.RowKit Go.Proofs.Ytacgddnjlfkdmaa.PWordsOver Go.Proofs.YtacgddnjlfkdmaaW.PrintWords Go.Proofs.YtacgddnjlfkdmaaW.PrintLast Go.Proofs.YtacgddnjlfkdmaaW.PrintMore Go.Proofs.YtacgddnjlfkdmaaW.XLib


theorem WordsOver : vendmeterlaw_WordsOver.Pure := by
  intro a b c d h0 h1 h2 h3
  unfold vendmeterlaw_WordsOver.f
  have k0 := wfu32 h0
  have k1 := wfu32 h1
  have k2 := wfu32 h2
  have k3 := wfu32 h3
  rw [if_pos (by omega)]

end Go.Proofs.Ytacgddnjlfkdmaa.Pure
