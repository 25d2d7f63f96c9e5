-- written by this session's program wip/xp/xprint.py (it drives the kit's print and adds to it)
import Derived.Test.YthjmmbcdkpjheaaProg
import Derived.Below
import Derived.Deep.Draws
import Derived.Deep.AppendLies
import Derived.Maps.AppendAt
import Derived.OwnWalk
import Derived.Laws.BytesArg
import Derived.Laws.MakeOwn
import Derived.Laws.OwnMore
import Derived.Deep.OwnRows
import Derived.Tactics
import Derived.Lib.ConvBytes
import Derived.Laws.Slices
import Derived.WalkKit
import Derived.KernelRfl
import Derived.RowKit3
import Derived.Deep.LoopGhost
import Derived.Deep.QuietTactic
import Derived.BigQuiet
import Derived.WideLaws
import Derived.Deep.DeepCutAuto
import Derived.Deep.CutBlock
import Derived.Deep.RegionHeld3
import Derived.Laws.Rows
import Derived.Lib.AppendStr
import Derived.ArgAppend
import Derived.Laws.IdiomCopy
import Derived.OrdersHeld
import Derived.Laws.BitsLemmas
import Derived.RowKit
import Derived.Test.YthjmmbcdkpjheaaWWords
import Derived.Test.YthjmmbcdkpjheaaWLast
import Derived.Test.YthjmmbcdkpjheaaWTab
import Derived.Test.YthjmmbcdkpjheaaWFour
import Derived.Test.YthjmmbcdkpjheaaWQPut
import Derived.Test.YthjmmbcdkpjheaaWApart
import Derived.Test.YthjmmbcdkpjheaaWArr
import Derived.Test.YthjmmbcdkpjheaaWZeros
import Derived.Test.YthjmmbcdkpjheaaWFoot
import Derived.Test.YthjmmbcdkpjheaaWKept
import Derived.Test.YthjmmbcdkpjheaaWShare
import Derived.Test.YthjmmbcdkpjheaaWN
import Derived.Test.YthjmmbcdkpjheaaWFootNe
import Derived.Test.YthjmmbcdkpjheaaWAt
import Derived.Test.YthjmmbcdkpjheaaWEqStruct
import Derived.Test.YthjmmbcdkpjheaaWRepsOne
import Derived.Test.YthjmmbcdkpjheaaWInv
import Derived.Test.YthjmmbcdkpjheaaWInvWords
import Derived.Test.YthjmmbcdkpjheaaWGuard
import Derived.Test.YthjmmbcdkpjheaaWNEv
import Derived.Test.YthjmmbcdkpjheaaWMore
namespace Go.Proofs.Ythjmmbcdkpjheaa.PCentsSums
open Go.RowKit Go.Proofs.YthjmmbcdkpjheaaW.PrintWords Go.Proofs.YthjmmbcdkpjheaaW.PrintLast Go.Proofs.YthjmmbcdkpjheaaW.PrintMore
attribute [local go_sem] max2_int min2_int max_two min_two max_three min_three max_four min_four   -- for this text's walks alone
set_option linter.unusedVariables false
set_option linter.unusedSimpArgs false



def errW : Option Int → Value
  | none => .nilIface
  | some c => .iface 0 (.int .i64 c)
theorem errW_none : errW none = .nilIface := rfl
theorem errW_some (c : Int) : errW (some c) = .iface 0 (.int .i64 c) := rfl

theorem info3 : (Try.prog.info? 3).map (fun i => (i.zero, i.size, i.bytes)) = some (some (.int .i64 0), 1, 8) := by kernel_rfl
-- the values' own types

end Go.Proofs.Ythjmmbcdkpjheaa.PCentsSums
