-- written by this session's program wip/xp/xprint.py (it drives the kit's print and adds to it)
import Derived.Test.YtnofknkiffnpaaaProg
import Derived.Below
import Derived.Deep.Draws
import Derived.Deep.AppendLies
import Derived.Maps.AppendAt
import Derived.OwnWalk
import Derived.Laws.BytesArg
import Derived.Laws.MakeOwn
import Derived.Laws.OwnMore
import Derived.Deep.OwnRows
import Derived.Tactics
import Derived.Lib.ConvBytes
import Derived.Laws.Slices
import Derived.WalkKit
import Derived.KernelRfl
import Derived.RowKit3
import Derived.Deep.LoopGhost
import Derived.Deep.QuietTactic
import Derived.BigQuiet
import Derived.WideLaws
import Derived.Deep.DeepCutAuto
import Derived.Deep.CutBlock
import Derived.Deep.RegionHeld3
import Derived.Laws.Rows
import Derived.Lib.AppendStr
import Derived.ArgAppend
import Derived.Laws.IdiomCopy
import Derived.OrdersHeld
import Derived.Laws.BitsLemmas
import Derived.RowKit
import Derived.Test.YtnofknkiffnpaaaWWords
import Derived.Test.YtnofknkiffnpaaaWLast
import Derived.Test.YtnofknkiffnpaaaWTab
import Derived.Test.YtnofknkiffnpaaaWFour
import Derived.Test.YtnofknkiffnpaaaWQPut
import Derived.Test.YtnofknkiffnpaaaWApart
import Derived.Test.YtnofknkiffnpaaaWArr
import Derived.Test.YtnofknkiffnpaaaWZeros
import Derived.Test.YtnofknkiffnpaaaWFoot
import Derived.Test.YtnofknkiffnpaaaWKept
import Derived.Test.YtnofknkiffnpaaaWShare
import Derived.Test.YtnofknkiffnpaaaWN
import Derived.Test.YtnofknkiffnpaaaWFootNe
import Derived.Test.YtnofknkiffnpaaaWAt
import Derived.Test.YtnofknkiffnpaaaWEqStruct
import Derived.Test.YtnofknkiffnpaaaWRepsOne
import Derived.Test.YtnofknkiffnpaaaWInv
import Derived.Test.YtnofknkiffnpaaaWInvWords
import Derived.Test.YtnofknkiffnpaaaWGuard
import Derived.Test.YtnofknkiffnpaaaWNEv
import Derived.Test.YtnofknkiffnpaaaWMore
namespace Go.Proofs.Ytnofknkiffnpaaa.PMeterTicks
open Go.RowKit Go.Proofs.YtnofknkiffnpaaaW.PrintWords Go.Proofs.YtnofknkiffnpaaaW.PrintLast Go.Proofs.YtnofknkiffnpaaaW.PrintMore
attribute [local go_sem] max2_int min2_int max_two min_two max_three min_three max_four min_four   -- for this text's walks alone
set_option linter.unusedVariables false
set_option linter.unusedSimpArgs false



def errW : Option Int → Value
  | none => .nilIface
  | some c => .iface 0 (.int .i64 c)
theorem errW_none : errW none = .nilIface := rfl
theorem errW_some (c : Int) : errW (some c) = .iface 0 (.int .i64 c) := rfl

theorem info3 : (Try.prog.info? 3).map (fun i => (i.zero, i.size, i.bytes)) = some (some (.int .i64 0), 1, 8) := by kernel_rfl
-- the values' own types

end Go.Proofs.Ytnofknkiffnpaaa.PMeterTicks
