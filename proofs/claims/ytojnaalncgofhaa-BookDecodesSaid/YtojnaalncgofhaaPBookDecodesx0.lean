-- written by this session's program wip/xp/xprint.py (it drives the kit's print and adds to it)
import Derived.Test.YtojnaalncgofhaaProg
import Derived.Below
import Derived.Deep.Draws
import Derived.Deep.AppendLies
import Derived.Maps.AppendAt
import Derived.OwnWalk
import Derived.Laws.BytesArg
import Derived.Laws.MakeOwn
import Derived.Laws.OwnMore
import Derived.Deep.OwnRows
import Derived.Tactics
import Derived.Lib.ConvBytes
import Derived.Laws.Slices
import Derived.WalkKit
import Derived.KernelRfl
import Derived.RowKit3
import Derived.Deep.LoopGhost
import Derived.Deep.QuietTactic
import Derived.BigQuiet
import Derived.WideLaws
import Derived.Deep.DeepCutAuto
import Derived.Deep.CutBlock
import Derived.Deep.RegionHeld3
import Derived.Laws.Rows
import Derived.Lib.AppendStr
import Derived.ArgAppend
import Derived.Laws.IdiomCopy
import Derived.OrdersHeld
import Derived.Laws.BitsLemmas
import Derived.RowKit
import Derived.Lib.OthersKept
import Derived.Laws.RangeAny
import Derived.Lib.ReflectliteSlice
import Derived.RangeFuncRecord
import Derived.Laws.CopyOwn
import Derived.Lib.Hide
import Derived.WalkSpells
import Derived.WalkLawsBesides
import Derived.Defers
import Derived.Recover
import Derived.Test.YtojnaalncgofhaaWWords
import Derived.Test.YtojnaalncgofhaaWLast
import Derived.Test.YtojnaalncgofhaaWTab
import Derived.Test.YtojnaalncgofhaaWFour
import Derived.Test.YtojnaalncgofhaaWQPut
import Derived.Test.YtojnaalncgofhaaWApart
import Derived.Test.YtojnaalncgofhaaWArr
import Derived.Test.YtojnaalncgofhaaWZeros
import Derived.Test.YtojnaalncgofhaaWFoot
import Derived.Test.YtojnaalncgofhaaWKept
import Derived.Test.YtojnaalncgofhaaWShare
import Derived.Test.YtojnaalncgofhaaWN
import Derived.Test.YtojnaalncgofhaaWFootNe
import Derived.Test.YtojnaalncgofhaaWAt
import Derived.Test.YtojnaalncgofhaaWEqStruct
import Derived.Test.YtojnaalncgofhaaWRepsOne
import Derived.Test.YtojnaalncgofhaaWInv
import Derived.Test.YtojnaalncgofhaaWInvWords
import Derived.Test.YtojnaalncgofhaaWGuard
import Derived.Test.YtojnaalncgofhaaWNEv
import Derived.Test.YtojnaalncgofhaaWMore
namespace Go.Proofs.Ytojnaalncgofhaa.PBookDecodes
open Go.RowKit Go.Proofs.YtojnaalncgofhaaW.PrintWords Go.Proofs.YtojnaalncgofhaaW.PrintLast Go.Proofs.YtojnaalncgofhaaW.PrintMore
attribute [local go_sem] max2_int min2_int max_two min_two max_three min_three max_four min_four   -- for this text's walks alone
set_option linter.unusedVariables false
set_option linter.unusedSimpArgs false



def errW : Option Int → Value
  | none => .nilIface
  | some c => .iface 0 (.int .i64 c)
theorem errW_none : errW none = .nilIface := rfl
theorem errW_some (c : Int) : errW (some c) = .iface 0 (.int .i64 c) := rfl

theorem info86 : (Try.prog.info? 86).map (fun i => (i.zero, i.size, i.bytes)) = some (some (.int .u32 0), 1, 4) := by kernel_rfl
-- the values' own types

end Go.Proofs.Ytojnaalncgofhaa.PBookDecodes
