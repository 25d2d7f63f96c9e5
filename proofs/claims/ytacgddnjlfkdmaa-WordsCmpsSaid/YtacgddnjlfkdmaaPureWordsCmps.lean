/- vendmeterlaw.WordsCmps returns true at every three words and every other three: words.Cmp answers what the reference does: -1, 0 or 1, as the first number of 96 bits lies below, at or above the second. No condition. -/
import Derived.Test.YtacgddnjlfkdmaaPWordsCmpsxL
import Derived.Test.YtacgddnjlfkdmaaXLib
set_option linter.unusedVariables false
set_option linter.unusedSimpArgs false
namespace Go.Proofs.Ytacgddnjlfkdmaa.Pure
open Go.RowKit Go.Proofs.Ytacgddnjlfkdmaa.PWordsCmps Go.Proofs.YtacgddnjlfkdmaaW.PrintWords Go.Proofs.YtacgddnjlfkdmaaW.PrintLast Go.Proofs.YtacgddnjlfkdmaaW.PrintMore Go.Proofs.YtacgddnjlfkdmaaW.XLib


theorem WordsCmps : vendmeterlaw_WordsCmps.Pure := by
  intro a b c d e f h0 h1 h2 h3 h4 h5
  unfold vendmeterlaw_WordsCmps.f
  have k0 := wfu32 h0
  have k1 := wfu32 h1
  have k2 := wfu32 h2
  have k3 := wfu32 h3
  have k4 := wfu32 h4
  have k5 := wfu32 h5
  rw [if_pos (by omega)]

end Go.Proofs.Ytacgddnjlfkdmaa.Pure
