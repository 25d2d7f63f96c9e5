-- written by this session's program wip/xp/xprint.py (it drives the kit's print and adds to it)
import Derived.Test.YtccokgnohmafjaaProg
import Derived.Below
import Derived.Deep.Draws
import Derived.Deep.AppendLies
import Derived.Maps.AppendAt
import Derived.OwnWalk
import Derived.Laws.BytesArg
import Derived.Laws.MakeOwn
import Derived.Laws.OwnMore
import Derived.Deep.OwnRows
import Derived.Tactics
import Derived.Lib.ConvBytes
import Derived.Laws.Slices
import Derived.WalkKit
import Derived.KernelRfl
import Derived.RowKit3
import Derived.Deep.LoopGhost
import Derived.Deep.QuietTactic
import Derived.BigQuiet
import Derived.WideLaws
import Derived.Deep.DeepCutAuto
import Derived.Deep.CutBlock
import Derived.Deep.RegionHeld3
import Derived.Laws.Rows
import Derived.Lib.AppendStr
import Derived.ArgAppend
import Derived.Laws.IdiomCopy
import Derived.OrdersHeld
import Derived.Laws.BitsLemmas
import Derived.RowKit
import Derived.Lib.OthersKept
import Derived.Laws.RangeAny
import Derived.Test.YtccokgnohmafjaaWWords
import Derived.Test.YtccokgnohmafjaaWLast
import Derived.Test.YtccokgnohmafjaaWTab
import Derived.Test.YtccokgnohmafjaaWFour
import Derived.Test.YtccokgnohmafjaaWQPut
import Derived.Test.YtccokgnohmafjaaWApart
import Derived.Test.YtccokgnohmafjaaWArr
import Derived.Test.YtccokgnohmafjaaWZeros
import Derived.Test.YtccokgnohmafjaaWFoot
import Derived.Test.YtccokgnohmafjaaWKept
import Derived.Test.YtccokgnohmafjaaWShare
import Derived.Test.YtccokgnohmafjaaWN
import Derived.Test.YtccokgnohmafjaaWFootNe
import Derived.Test.YtccokgnohmafjaaWAt
import Derived.Test.YtccokgnohmafjaaWEqStruct
import Derived.Test.YtccokgnohmafjaaWRepsOne
import Derived.Test.YtccokgnohmafjaaWInv
import Derived.Test.YtccokgnohmafjaaWInvWords
import Derived.Test.YtccokgnohmafjaaWGuard
import Derived.Test.YtccokgnohmafjaaWNEv
import Derived.Test.YtccokgnohmafjaaWMore
namespace Go.Proofs.Ytccokgnohmafjaa.PCheckDigits
open Go.RowKit Go.Proofs.YtccokgnohmafjaaW.PrintWords Go.Proofs.YtccokgnohmafjaaW.PrintLast Go.Proofs.YtccokgnohmafjaaW.PrintMore
attribute [local go_sem] max2_int min2_int max_two min_two max_three min_three max_four min_four   -- for this text's walks alone
set_option linter.unusedVariables false
set_option linter.unusedSimpArgs false



def errW : Option Int → Value
  | none => .nilIface
  | some c => .iface 0 (.int .i64 c)
theorem errW_none : errW none = .nilIface := rfl
theorem errW_some (c : Int) : errW (some c) = .iface 0 (.int .i64 c) := rfl

theorem info5 : (Try.prog.info? 5).map (fun i => (i.zero, i.size, i.bytes)) = some (some (.int .u8 0), 1, 1) := by kernel_rfl
-- the values' own types

end Go.Proofs.Ytccokgnohmafjaa.PCheckDigits
