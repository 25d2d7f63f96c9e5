-- written by this session's program wip/xp/xprint.py (it drives the kit's print and adds to it)
import Derived.Test.YtohdemglbdfpfaaProg
import Derived.Below
import Derived.Deep.Draws
import Derived.Deep.AppendLies
import Derived.Maps.AppendAt
import Derived.OwnWalk
import Derived.Laws.BytesArg
import Derived.Laws.MakeOwn
import Derived.Laws.OwnMore
import Derived.Deep.OwnRows
import Derived.Tactics
import Derived.Lib.ConvBytes
import Derived.Laws.Slices
import Derived.WalkKit
import Derived.KernelRfl
import Derived.RowKit3
import Derived.Deep.LoopGhost
import Derived.Deep.QuietTactic
import Derived.BigQuiet
import Derived.WideLaws
import Derived.Deep.DeepCutAuto
import Derived.Deep.CutBlock
import Derived.Deep.RegionHeld3
import Derived.Laws.Rows
import Derived.Lib.AppendStr
import Derived.ArgAppend
import Derived.Laws.IdiomCopy
import Derived.OrdersHeld
import Derived.Laws.BitsLemmas
import Derived.RowKit
import Derived.Lib.OthersKept
import Derived.Laws.RangeAny
import Derived.Lib.ReflectliteSlice
import Derived.Laws.CopyOwn
import Derived.Lib.Hide
import Derived.Test.YtohdemglbdfpfaaWWords
import Derived.Test.YtohdemglbdfpfaaWLast
import Derived.Test.YtohdemglbdfpfaaWTab
import Derived.Test.YtohdemglbdfpfaaWFour
import Derived.Test.YtohdemglbdfpfaaWQPut
import Derived.Test.YtohdemglbdfpfaaWApart
import Derived.Test.YtohdemglbdfpfaaWArr
import Derived.Test.YtohdemglbdfpfaaWZeros
import Derived.Test.YtohdemglbdfpfaaWFoot
import Derived.Test.YtohdemglbdfpfaaWKept
import Derived.Test.YtohdemglbdfpfaaWShare
import Derived.Test.YtohdemglbdfpfaaWN
import Derived.Test.YtohdemglbdfpfaaWFootNe
import Derived.Test.YtohdemglbdfpfaaWAt
import Derived.Test.YtohdemglbdfpfaaWEqStruct
import Derived.Test.YtohdemglbdfpfaaWRepsOne
import Derived.Test.YtohdemglbdfpfaaWInv
import Derived.Test.YtohdemglbdfpfaaWInvWords
import Derived.Test.YtohdemglbdfpfaaWGuard
import Derived.Test.YtohdemglbdfpfaaWNEv
import Derived.Test.YtohdemglbdfpfaaWMore
namespace Go.Proofs.Ytohdemglbdfpfaa.PTokenBodies
open Go.RowKit Go.Proofs.YtohdemglbdfpfaaW.PrintWords Go.Proofs.YtohdemglbdfpfaaW.PrintLast Go.Proofs.YtohdemglbdfpfaaW.PrintMore
attribute [local go_sem] max2_int min2_int max_two min_two max_three min_three max_four min_four   -- for this text's walks alone
set_option linter.unusedVariables false
set_option linter.unusedSimpArgs false



def errW : Option Int → Value
  | none => .nilIface
  | some c => .iface 0 (.int .i64 c)
theorem errW_none : errW none = .nilIface := rfl
theorem errW_some (c : Int) : errW (some c) = .iface 0 (.int .i64 c) := rfl

-- the values' own types

end Go.Proofs.Ytohdemglbdfpfaa.PTokenBodies
