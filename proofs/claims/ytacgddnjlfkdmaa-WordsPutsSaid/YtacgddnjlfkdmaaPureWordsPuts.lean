/- vendmeterlaw.WordsPuts returns true at every three words and every three numbers: words.Put answers what the reference does: the number of 96 bits with a field's bits turned, or the error where no such field is or the value is too long for it. No condition. -/
import Derived.Test.YtacgddnjlfkdmaaPWordsPutsxL
import Derived.Test.YtacgddnjlfkdmaaXLib
set_option linter.unusedVariables false
set_option linter.unusedSimpArgs false
namespace Go.Proofs.Ytacgddnjlfkdmaa.Pure
open Go.RowKit Go.Proofs.Ytacgddnjlfkdmaa.PWordsPuts Go.Proofs.YtacgddnjlfkdmaaW.PrintWords Go.Proofs.YtacgddnjlfkdmaaW.PrintLast Go.Proofs.YtacgddnjlfkdmaaW.PrintMore Go.Proofs.YtacgddnjlfkdmaaW.XLib


theorem WordsPuts : vendmeterlaw_WordsPuts.Pure := by
  intro a b c d e f h0 h1 h2 h3 h4 h5
  unfold vendmeterlaw_WordsPuts.f
  have k0 := wfu32 h0
  have k1 := wfu32 h1
  have k2 := wfu32 h2
  have k5 := wfu64 h5
  rw [if_pos (by omega)]

end Go.Proofs.Ytacgddnjlfkdmaa.Pure
