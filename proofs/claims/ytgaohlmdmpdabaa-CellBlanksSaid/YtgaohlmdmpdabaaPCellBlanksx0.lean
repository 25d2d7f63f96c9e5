-- PRINTED BY print.sh 35421559b90ae4d0a3588c463048766b98c2df88dd9212a6774a882060cdf62d: not written by this session
import Derived.Test.YtgaohlmdmpdabaaProg
import Derived.Below
import Derived.Deep.Draws
import Derived.Deep.AppendLies
import Derived.Maps.AppendAt
import Derived.OwnWalk
import Derived.Laws.BytesArg
import Derived.Laws.MakeOwn
import Derived.Laws.OwnMore
import Derived.Deep.OwnRows
import Derived.Tactics
import Derived.Lib.ConvBytes
import Derived.Laws.Slices
import Derived.WalkKit
import Derived.KernelRfl
import Derived.RowKit3
import Derived.Deep.LoopGhost
import Derived.Deep.QuietTactic
import Derived.BigQuiet
import Derived.WideLaws
import Derived.Deep.DeepCutAuto
import Derived.Deep.CutBlock
import Derived.Deep.RegionHeld3
import Derived.Laws.Rows
import Derived.Lib.AppendStr
import Derived.ArgAppend
import Derived.Laws.IdiomCopy
import Derived.OrdersHeld
import Derived.Laws.BitsLemmas
import Derived.RowKit
import Derived.Test.YtgaohlmdmpdabaaWWords
import Derived.Test.YtgaohlmdmpdabaaWLast
import Derived.Test.YtgaohlmdmpdabaaWTab
import Derived.Test.YtgaohlmdmpdabaaWFour
import Derived.Test.YtgaohlmdmpdabaaWQPut
import Derived.Test.YtgaohlmdmpdabaaWApart
import Derived.Test.YtgaohlmdmpdabaaWArr
import Derived.Test.YtgaohlmdmpdabaaWZeros
import Derived.Test.YtgaohlmdmpdabaaWFoot
import Derived.Test.YtgaohlmdmpdabaaWKept
import Derived.Test.YtgaohlmdmpdabaaWShare
import Derived.Test.YtgaohlmdmpdabaaWN
import Derived.Test.YtgaohlmdmpdabaaWFootNe
import Derived.Test.YtgaohlmdmpdabaaWAt
import Derived.Test.YtgaohlmdmpdabaaWEqStruct
import Derived.Test.YtgaohlmdmpdabaaWRepsOne
import Derived.Test.YtgaohlmdmpdabaaWInv
import Derived.Test.YtgaohlmdmpdabaaWInvWords
import Derived.Test.YtgaohlmdmpdabaaWGuard
import Derived.Test.YtgaohlmdmpdabaaWNEv
import Derived.Test.YtgaohlmdmpdabaaWMore
namespace Go.Proofs.Ytgaohlmdmpdabaa.PCellBlanks
open Go.RowKit Go.Proofs.YtgaohlmdmpdabaaW.PrintWords Go.Proofs.YtgaohlmdmpdabaaW.PrintLast Go.Proofs.YtgaohlmdmpdabaaW.PrintMore
attribute [local go_sem] max2_int min2_int max_two min_two max_three min_three max_four min_four   -- for this text's walks alone
set_option linter.unusedVariables false
set_option linter.unusedSimpArgs false



def errW : Option Int → Value
  | none => .nilIface
  | some c => .iface 0 (.int .i64 c)
theorem errW_none : errW none = .nilIface := rfl
theorem errW_some (c : Int) : errW (some c) = .iface 0 (.int .i64 c) := rfl

theorem info41 : (Try.prog.info? 41).map (fun i => (i.zero, i.size, i.bytes)) = some (some (.int .u32 0), 1, 4) := by kernel_rfl
-- the values' own types

end Go.Proofs.Ytgaohlmdmpdabaa.PCellBlanks
