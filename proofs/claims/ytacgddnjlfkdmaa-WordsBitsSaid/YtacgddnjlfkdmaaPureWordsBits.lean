/- vendmeterlaw.WordsBits returns true at every three words and every two numbers: words.Bits answers what the reference does: the bits of a field of the number of 96 bits, or the error where no such field is. No condition. -/
import Derived.Test.YtacgddnjlfkdmaaPWordsBitsxL
import Derived.Test.YtacgddnjlfkdmaaXLib
set_option linter.unusedVariables false
set_option linter.unusedSimpArgs false
namespace Go.Proofs.Ytacgddnjlfkdmaa.Pure
open Go.RowKit Go.Proofs.Ytacgddnjlfkdmaa.PWordsBits Go.Proofs.YtacgddnjlfkdmaaW.PrintWords Go.Proofs.YtacgddnjlfkdmaaW.PrintLast Go.Proofs.YtacgddnjlfkdmaaW.PrintMore Go.Proofs.YtacgddnjlfkdmaaW.XLib


theorem WordsBits : vendmeterlaw_WordsBits.Pure := by
  intro a b c d e h0 h1 h2 h3 h4
  unfold vendmeterlaw_WordsBits.f
  have k0 := wfu32 h0
  have k1 := wfu32 h1
  have k2 := wfu32 h2
  rw [if_pos (by omega)]

end Go.Proofs.Ytacgddnjlfkdmaa.Pure
