-- written by this session's program wip/xp/xprint.py (it drives the kit's print and adds to it)
import Derived.Test.YthacfmjljglbiaaDoorProg
import Derived.Below
import Derived.Deep.Draws
import Derived.Deep.AppendLies
import Derived.Maps.AppendAt
import Derived.OwnWalk
import Derived.Laws.BytesArg
import Derived.Laws.MakeOwn
import Derived.Laws.OwnMore
import Derived.Deep.OwnRows
import Derived.Tactics
import Derived.Lib.ConvBytes
import Derived.Laws.Slices
import Derived.WalkKit
import Derived.KernelRfl
import Derived.RowKit3
import Derived.Deep.LoopGhost
import Derived.Deep.QuietTactic
import Derived.BigQuiet
import Derived.WideLaws
import Derived.Deep.DeepCutAuto
import Derived.Deep.CutBlock
import Derived.Deep.RegionHeld3
import Derived.Laws.Rows
import Derived.Lib.AppendStr
import Derived.ArgAppend
import Derived.Laws.IdiomCopy
import Derived.OrdersHeld
import Derived.Laws.BitsLemmas
import Derived.RowKit
import Derived.Lib.OthersKept
import Derived.Laws.RangeAny
import Derived.Lib.ReflectliteSlice
import Derived.RangeFuncRecord
import Derived.Laws.CopyOwn
import Derived.Lib.Hide
import Derived.WalkSpells
import Derived.ChangeKeysEq
import Derived.Laws.BitsAllLaws
import Derived.Test.YthacfmjljglbiaaDoorShelf
import Derived.Test.YthacfmjljglbiaaDoorWWords
import Derived.Test.YthacfmjljglbiaaDoorWLast
import Derived.Test.YthacfmjljglbiaaDoorWTab
import Derived.Test.YthacfmjljglbiaaDoorWFour
import Derived.Test.YthacfmjljglbiaaDoorWQPut
import Derived.Test.YthacfmjljglbiaaDoorWApart
import Derived.Test.YthacfmjljglbiaaDoorWArr
import Derived.Test.YthacfmjljglbiaaDoorWZeros
import Derived.Test.YthacfmjljglbiaaDoorWFoot
import Derived.Test.YthacfmjljglbiaaDoorWKept
import Derived.Test.YthacfmjljglbiaaDoorWShare
import Derived.Test.YthacfmjljglbiaaDoorWN
import Derived.Test.YthacfmjljglbiaaDoorWFootNe
import Derived.Test.YthacfmjljglbiaaDoorWAt
import Derived.Test.YthacfmjljglbiaaDoorWEqStruct
import Derived.Test.YthacfmjljglbiaaDoorWRepsOne
import Derived.Test.YthacfmjljglbiaaDoorWInv
import Derived.Test.YthacfmjljglbiaaDoorWInvWords
import Derived.Test.YthacfmjljglbiaaDoorWGuard
import Derived.Test.YthacfmjljglbiaaDoorWNEv
import Derived.Test.YthacfmjljglbiaaDoorWMore
namespace Go.Proofs.YthacfmjljglbiaaDoor.PReceiptChecks
open Go.RowKit Go.Proofs.YthacfmjljglbiaaDoorW.PrintWords Go.Proofs.YthacfmjljglbiaaDoorW.PrintLast Go.Proofs.YthacfmjljglbiaaDoorW.PrintMore
attribute [local go_sem] max2_int min2_int max_two min_two max_three min_three max_four min_four   -- for this text's walks alone
set_option linter.unusedVariables false
set_option linter.unusedSimpArgs false



def errW : Option Int → Value
  | none => .nilIface
  | some c => .iface 0 (.int .i64 c)
theorem errW_none : errW none = .nilIface := rfl
theorem errW_some (c : Int) : errW (some c) = .iface 0 (.int .i64 c) := rfl

theorem info87 : (Tryd.prog.info? 87).map (fun i => (i.zero, i.size, i.bytes)) = some (some (.int .u32 0), 1, 4) := by kernel_rfl
-- the values' own types

end Go.Proofs.YthacfmjljglbiaaDoor.PReceiptChecks
