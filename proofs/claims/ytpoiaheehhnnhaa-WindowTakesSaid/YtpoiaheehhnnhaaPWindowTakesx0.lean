-- written by this session's program wip/xp/xprint.py (it drives the kit's print and adds to it)
import Derived.Test.YtpoiaheehhnnhaaProg
import Derived.Below
import Derived.Deep.Draws
import Derived.Deep.AppendLies
import Derived.Maps.AppendAt
import Derived.OwnWalk
import Derived.Laws.BytesArg
import Derived.Laws.MakeOwn
import Derived.Laws.OwnMore
import Derived.Deep.OwnRows
import Derived.Tactics
import Derived.Lib.ConvBytes
import Derived.Laws.Slices
import Derived.WalkKit
import Derived.KernelRfl
import Derived.RowKit3
import Derived.Deep.LoopGhost
import Derived.Deep.QuietTactic
import Derived.BigQuiet
import Derived.WideLaws
import Derived.Deep.DeepCutAuto
import Derived.Deep.CutBlock
import Derived.Deep.RegionHeld3
import Derived.Laws.Rows
import Derived.Lib.AppendStr
import Derived.ArgAppend
import Derived.Laws.IdiomCopy
import Derived.OrdersHeld
import Derived.Laws.BitsLemmas
import Derived.RowKit
import Derived.Test.YtpoiaheehhnnhaaWWords
import Derived.Test.YtpoiaheehhnnhaaWLast
import Derived.Test.YtpoiaheehhnnhaaWTab
import Derived.Test.YtpoiaheehhnnhaaWFour
import Derived.Test.YtpoiaheehhnnhaaWQPut
import Derived.Test.YtpoiaheehhnnhaaWApart
import Derived.Test.YtpoiaheehhnnhaaWArr
import Derived.Test.YtpoiaheehhnnhaaWZeros
import Derived.Test.YtpoiaheehhnnhaaWFoot
import Derived.Test.YtpoiaheehhnnhaaWKept
import Derived.Test.YtpoiaheehhnnhaaWShare
import Derived.Test.YtpoiaheehhnnhaaWN
import Derived.Test.YtpoiaheehhnnhaaWFootNe
import Derived.Test.YtpoiaheehhnnhaaWAt
import Derived.Test.YtpoiaheehhnnhaaWEqStruct
import Derived.Test.YtpoiaheehhnnhaaWRepsOne
import Derived.Test.YtpoiaheehhnnhaaWInv
import Derived.Test.YtpoiaheehhnnhaaWInvWords
import Derived.Test.YtpoiaheehhnnhaaWGuard
import Derived.Test.YtpoiaheehhnnhaaWNEv
import Derived.Test.YtpoiaheehhnnhaaWMore
namespace Go.Proofs.Ytpoiaheehhnnhaa.PWindowTakes
open Go.RowKit Go.Proofs.YtpoiaheehhnnhaaW.PrintWords Go.Proofs.YtpoiaheehhnnhaaW.PrintLast Go.Proofs.YtpoiaheehhnnhaaW.PrintMore
attribute [local go_sem] max2_int min2_int max_two min_two max_three min_three max_four min_four   -- for this text's walks alone
set_option linter.unusedVariables false
set_option linter.unusedSimpArgs false



def errW : Option Int → Value
  | none => .nilIface
  | some c => .iface 0 (.int .i64 c)
theorem errW_none : errW none = .nilIface := rfl
theorem errW_some (c : Int) : errW (some c) = .iface 0 (.int .i64 c) := rfl

theorem info3 : (Try.prog.info? 3).map (fun i => (i.zero, i.size, i.bytes)) = some (some (.int .i64 0), 1, 8) := by kernel_rfl
-- the values' own types

end Go.Proofs.Ytpoiaheehhnnhaa.PWindowTakes
