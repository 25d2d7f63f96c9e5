-- written by this session's program wip/xp/xprint.py (it drives the kit's print and adds to it)
import Derived.Test.YtgelnjcohnfmhaaProg
import Derived.Below
import Derived.Deep.Draws
import Derived.Deep.AppendLies
import Derived.Maps.AppendAt
import Derived.OwnWalk
import Derived.Laws.BytesArg
import Derived.Laws.MakeOwn
import Derived.Laws.OwnMore
import Derived.Deep.OwnRows
import Derived.Tactics
import Derived.Lib.ConvBytes
import Derived.Laws.Slices
import Derived.WalkKit
import Derived.KernelRfl
import Derived.RowKit3
import Derived.Deep.LoopGhost
import Derived.Deep.QuietTactic
import Derived.BigQuiet
import Derived.WideLaws
import Derived.Deep.DeepCutAuto
import Derived.Deep.CutBlock
import Derived.Deep.RegionHeld3
import Derived.Laws.Rows
import Derived.Lib.AppendStr
import Derived.ArgAppend
import Derived.Laws.IdiomCopy
import Derived.OrdersHeld
import Derived.Laws.BitsLemmas
import Derived.RowKit
import Derived.Lib.OthersKept
import Derived.Laws.RangeAny
import Derived.Lib.ReflectliteSlice
import Derived.Laws.CopyOwn
import Derived.Lib.Hide
import Derived.Test.YtgelnjcohnfmhaaWWords
import Derived.Test.YtgelnjcohnfmhaaWLast
import Derived.Test.YtgelnjcohnfmhaaWTab
import Derived.Test.YtgelnjcohnfmhaaWFour
import Derived.Test.YtgelnjcohnfmhaaWQPut
import Derived.Test.YtgelnjcohnfmhaaWApart
import Derived.Test.YtgelnjcohnfmhaaWArr
import Derived.Test.YtgelnjcohnfmhaaWZeros
import Derived.Test.YtgelnjcohnfmhaaWFoot
import Derived.Test.YtgelnjcohnfmhaaWKept
import Derived.Test.YtgelnjcohnfmhaaWShare
import Derived.Test.YtgelnjcohnfmhaaWN
import Derived.Test.YtgelnjcohnfmhaaWFootNe
import Derived.Test.YtgelnjcohnfmhaaWAt
import Derived.Test.YtgelnjcohnfmhaaWEqStruct
import Derived.Test.YtgelnjcohnfmhaaWRepsOne
import Derived.Test.YtgelnjcohnfmhaaWInv
import Derived.Test.YtgelnjcohnfmhaaWInvWords
import Derived.Test.YtgelnjcohnfmhaaWGuard
import Derived.Test.YtgelnjcohnfmhaaWNEv
import Derived.Test.YtgelnjcohnfmhaaWMore
namespace Go.Proofs.Ytgelnjcohnfmhaa.PPocketMakes
open Go.RowKit Go.Proofs.YtgelnjcohnfmhaaW.PrintWords Go.Proofs.YtgelnjcohnfmhaaW.PrintLast Go.Proofs.YtgelnjcohnfmhaaW.PrintMore
attribute [local go_sem] max2_int min2_int max_two min_two max_three min_three max_four min_four   -- for this text's walks alone
set_option linter.unusedVariables false
set_option linter.unusedSimpArgs false



def errW : Option Int → Value
  | none => .nilIface
  | some c => .iface 0 (.int .i64 c)
theorem errW_none : errW none = .nilIface := rfl
theorem errW_some (c : Int) : errW (some c) = .iface 0 (.int .i64 c) := rfl

theorem info3 : (Try.prog.info? 3).map (fun i => (i.zero, i.size, i.bytes)) = some (some (.int .i64 0), 1, 8) := by kernel_rfl
theorem info101 : (Try.prog.info? 101).map (fun i => (i.zero, i.size, i.bytes)) = some (some (.int .u32 0), 1, 4) := by kernel_rfl
-- the values' own types

end Go.Proofs.Ytgelnjcohnfmhaa.PPocketMakes
