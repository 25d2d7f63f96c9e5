-- written by this session's program wip/xp/xprint.py (it drives the kit's print and adds to it)
import Derived.Test.YtdijplohafjbcaaDoorProg
import Derived.Below
import Derived.Deep.Draws
import Derived.Deep.AppendLies
import Derived.Maps.AppendAt
import Derived.OwnWalk
import Derived.Laws.BytesArg
import Derived.Laws.MakeOwn
import Derived.Laws.OwnMore
import Derived.Deep.OwnRows
import Derived.Tactics
import Derived.Lib.ConvBytes
import Derived.Laws.Slices
import Derived.WalkKit
import Derived.KernelRfl
import Derived.RowKit3
import Derived.Deep.LoopGhost
import Derived.Deep.QuietTactic
import Derived.BigQuiet
import Derived.WideLaws
import Derived.Deep.DeepCutAuto
import Derived.Deep.CutBlock
import Derived.Deep.RegionHeld3
import Derived.Laws.Rows
import Derived.Lib.AppendStr
import Derived.ArgAppend
import Derived.Laws.IdiomCopy
import Derived.OrdersHeld
import Derived.Laws.BitsLemmas
import Derived.RowKit
import Derived.Lib.OthersKept
import Derived.Laws.RangeAny
import Derived.Lib.ReflectliteSlice
import Derived.RangeFuncRecord
import Derived.Laws.CopyOwn
import Derived.Lib.Hide
import Derived.WalkSpells
import Derived.Test.YtdijplohafjbcaaDoorShelf
import Derived.Test.YtdijplohafjbcaaDoorWWords
import Derived.Test.YtdijplohafjbcaaDoorWLast
import Derived.Test.YtdijplohafjbcaaDoorWTab
import Derived.Test.YtdijplohafjbcaaDoorWFour
import Derived.Test.YtdijplohafjbcaaDoorWQPut
import Derived.Test.YtdijplohafjbcaaDoorWApart
import Derived.Test.YtdijplohafjbcaaDoorWArr
import Derived.Test.YtdijplohafjbcaaDoorWZeros
import Derived.Test.YtdijplohafjbcaaDoorWFoot
import Derived.Test.YtdijplohafjbcaaDoorWKept
import Derived.Test.YtdijplohafjbcaaDoorWShare
import Derived.Test.YtdijplohafjbcaaDoorWN
import Derived.Test.YtdijplohafjbcaaDoorWFootNe
import Derived.Test.YtdijplohafjbcaaDoorWAt
import Derived.Test.YtdijplohafjbcaaDoorWEqStruct
import Derived.Test.YtdijplohafjbcaaDoorWRepsOne
import Derived.Test.YtdijplohafjbcaaDoorWInv
import Derived.Test.YtdijplohafjbcaaDoorWInvWords
import Derived.Test.YtdijplohafjbcaaDoorWGuard
import Derived.Test.YtdijplohafjbcaaDoorWNEv
import Derived.Test.YtdijplohafjbcaaDoorWMore
namespace Go.Proofs.YtdijplohafjbcaaDoor.POrderShows
open Go.RowKit Go.Proofs.YtdijplohafjbcaaDoorW.PrintWords Go.Proofs.YtdijplohafjbcaaDoorW.PrintLast Go.Proofs.YtdijplohafjbcaaDoorW.PrintMore
attribute [local go_sem] max2_int min2_int max_two min_two max_three min_three max_four min_four   -- for this text's walks alone
set_option linter.unusedVariables false
set_option linter.unusedSimpArgs false



def errW : Option Int → Value
  | none => .nilIface
  | some c => .iface 0 (.int .i64 c)
theorem errW_none : errW none = .nilIface := rfl
theorem errW_some (c : Int) : errW (some c) = .iface 0 (.int .i64 c) := rfl

theorem info5 : (Tryd.prog.info? 5).map (fun i => (i.zero, i.size, i.bytes)) = some (some (.int .u8 0), 1, 1) := by kernel_rfl
-- the values' own types

end Go.Proofs.YtdijplohafjbcaaDoor.POrderShows
