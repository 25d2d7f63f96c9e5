/- vendmeterlaw.WordsReads returns true at every text: words.Read answers what the reference does: the number of 96 bits that the digits say, or the error: too long, not in form, or over. No condition. -/
import Derived.Test.YtacgddnjlfkdmaaPWordsReadsxL
import Derived.Test.YtacgddnjlfkdmaaXLib
set_option linter.unusedVariables false
set_option linter.unusedSimpArgs false
namespace Go.Proofs.Ytacgddnjlfkdmaa.Pure
open Go.RowKit Go.Proofs.Ytacgddnjlfkdmaa.PWordsReads Go.Proofs.YtacgddnjlfkdmaaW.PrintWords Go.Proofs.YtacgddnjlfkdmaaW.PrintLast Go.Proofs.YtacgddnjlfkdmaaW.PrintMore Go.Proofs.YtacgddnjlfkdmaaW.XLib


theorem WordsReads : vendmeterlaw_WordsReads.Pure := by
  intro a _
  exact rfl

end Go.Proofs.Ytacgddnjlfkdmaa.Pure
