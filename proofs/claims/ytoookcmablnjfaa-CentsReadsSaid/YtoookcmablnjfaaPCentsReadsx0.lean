-- written by this session's program wip/xp/xprint.py (it drives the kit's print and adds to it)
import Derived.Test.YtoookcmablnjfaaProg
import Derived.Below
import Derived.Deep.Draws
import Derived.Deep.AppendLies
import Derived.Maps.AppendAt
import Derived.OwnWalk
import Derived.Laws.BytesArg
import Derived.Laws.MakeOwn
import Derived.Laws.OwnMore
import Derived.Deep.OwnRows
import Derived.Tactics
import Derived.Lib.ConvBytes
import Derived.Laws.Slices
import Derived.WalkKit
import Derived.KernelRfl
import Derived.RowKit3
import Derived.Deep.LoopGhost
import Derived.Deep.QuietTactic
import Derived.BigQuiet
import Derived.WideLaws
import Derived.Deep.DeepCutAuto
import Derived.Deep.CutBlock
import Derived.Deep.RegionHeld3
import Derived.Laws.Rows
import Derived.Lib.AppendStr
import Derived.ArgAppend
import Derived.Laws.IdiomCopy
import Derived.OrdersHeld
import Derived.Laws.BitsLemmas
import Derived.RowKit
import Derived.Lib.OthersKept
import Derived.Laws.RangeAny
import Derived.Lib.ReflectliteSlice
import Derived.RangeFuncRecord
import Derived.Laws.CopyOwn
import Derived.Lib.Hide
import Derived.WalkSpells
import Derived.Test.YtoookcmablnjfaaShelf
import Derived.Test.YtoookcmablnjfaaWWords
import Derived.Test.YtoookcmablnjfaaWLast
import Derived.Test.YtoookcmablnjfaaWTab
import Derived.Test.YtoookcmablnjfaaWFour
import Derived.Test.YtoookcmablnjfaaWQPut
import Derived.Test.YtoookcmablnjfaaWApart
import Derived.Test.YtoookcmablnjfaaWArr
import Derived.Test.YtoookcmablnjfaaWZeros
import Derived.Test.YtoookcmablnjfaaWFoot
import Derived.Test.YtoookcmablnjfaaWKept
import Derived.Test.YtoookcmablnjfaaWShare
import Derived.Test.YtoookcmablnjfaaWN
import Derived.Test.YtoookcmablnjfaaWFootNe
import Derived.Test.YtoookcmablnjfaaWAt
import Derived.Test.YtoookcmablnjfaaWEqStruct
import Derived.Test.YtoookcmablnjfaaWRepsOne
import Derived.Test.YtoookcmablnjfaaWInv
import Derived.Test.YtoookcmablnjfaaWInvWords
import Derived.Test.YtoookcmablnjfaaWGuard
import Derived.Test.YtoookcmablnjfaaWNEv
import Derived.Test.YtoookcmablnjfaaWMore
namespace Go.Proofs.Ytoookcmablnjfaa.PCentsReads
open Go.RowKit Go.Proofs.YtoookcmablnjfaaW.PrintWords Go.Proofs.YtoookcmablnjfaaW.PrintLast Go.Proofs.YtoookcmablnjfaaW.PrintMore
attribute [local go_sem] max2_int min2_int max_two min_two max_three min_three max_four min_four   -- for this text's walks alone
set_option linter.unusedVariables false
set_option linter.unusedSimpArgs false



def errW : Option Int → Value
  | none => .nilIface
  | some c => .iface 0 (.int .i64 c)
theorem errW_none : errW none = .nilIface := rfl
theorem errW_some (c : Int) : errW (some c) = .iface 0 (.int .i64 c) := rfl

-- the values' own types

end Go.Proofs.Ytoookcmablnjfaa.PCentsReads
