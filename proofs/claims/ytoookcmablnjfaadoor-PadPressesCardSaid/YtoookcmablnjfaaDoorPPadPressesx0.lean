-- written by this session's program wip/xp/xprint.py (it drives the kit's print and adds to it)
import Derived.Test.YtoookcmablnjfaaDoorProg
import Derived.Below
import Derived.Deep.Draws
import Derived.Deep.AppendLies
import Derived.Maps.AppendAt
import Derived.OwnWalk
import Derived.Laws.BytesArg
import Derived.Laws.MakeOwn
import Derived.Laws.OwnMore
import Derived.Deep.OwnRows
import Derived.Tactics
import Derived.Lib.ConvBytes
import Derived.Laws.Slices
import Derived.WalkKit
import Derived.KernelRfl
import Derived.RowKit3
import Derived.Deep.LoopGhost
import Derived.Deep.QuietTactic
import Derived.BigQuiet
import Derived.WideLaws
import Derived.Deep.DeepCutAuto
import Derived.Deep.CutBlock
import Derived.Deep.RegionHeld3
import Derived.Laws.Rows
import Derived.Lib.AppendStr
import Derived.ArgAppend
import Derived.Laws.IdiomCopy
import Derived.OrdersHeld
import Derived.Laws.BitsLemmas
import Derived.RowKit
import Derived.Lib.OthersKept
import Derived.Laws.RangeAny
import Derived.Lib.ReflectliteSlice
import Derived.RangeFuncRecord
import Derived.Laws.CopyOwn
import Derived.Lib.Hide
import Derived.WalkSpells
import Derived.Test.YtoookcmablnjfaaDoorShelf
import Derived.Test.YtoookcmablnjfaaDoorWWords
import Derived.Test.YtoookcmablnjfaaDoorWLast
import Derived.Test.YtoookcmablnjfaaDoorWTab
import Derived.Test.YtoookcmablnjfaaDoorWFour
import Derived.Test.YtoookcmablnjfaaDoorWQPut
import Derived.Test.YtoookcmablnjfaaDoorWApart
import Derived.Test.YtoookcmablnjfaaDoorWArr
import Derived.Test.YtoookcmablnjfaaDoorWZeros
import Derived.Test.YtoookcmablnjfaaDoorWFoot
import Derived.Test.YtoookcmablnjfaaDoorWKept
import Derived.Test.YtoookcmablnjfaaDoorWShare
import Derived.Test.YtoookcmablnjfaaDoorWN
import Derived.Test.YtoookcmablnjfaaDoorWFootNe
import Derived.Test.YtoookcmablnjfaaDoorWAt
import Derived.Test.YtoookcmablnjfaaDoorWEqStruct
import Derived.Test.YtoookcmablnjfaaDoorWRepsOne
import Derived.Test.YtoookcmablnjfaaDoorWInv
import Derived.Test.YtoookcmablnjfaaDoorWInvWords
import Derived.Test.YtoookcmablnjfaaDoorWGuard
import Derived.Test.YtoookcmablnjfaaDoorWNEv
import Derived.Test.YtoookcmablnjfaaDoorWMore
namespace Go.Proofs.YtoookcmablnjfaaDoor.PPadPresses
open Go.RowKit Go.Proofs.YtoookcmablnjfaaDoorW.PrintWords Go.Proofs.YtoookcmablnjfaaDoorW.PrintLast Go.Proofs.YtoookcmablnjfaaDoorW.PrintMore
attribute [local go_sem] max2_int min2_int max_two min_two max_three min_three max_four min_four   -- for this text's walks alone
set_option linter.unusedVariables false
set_option linter.unusedSimpArgs false



def errW : Option Int → Value
  | none => .nilIface
  | some c => .iface 0 (.int .i64 c)
theorem errW_none : errW none = .nilIface := rfl
theorem errW_some (c : Int) : errW (some c) = .iface 0 (.int .i64 c) := rfl

theorem info5 : (Tryd.prog.info? 5).map (fun i => (i.zero, i.size, i.bytes)) = some (some (.int .u8 0), 1, 1) := by kernel_rfl
theorem info82 : (Tryd.prog.info? 82).map (fun i => (i.zero, i.size, i.bytes)) = some (some (.agg #[(.string ⟨#[]⟩), (.int .i64 0)]), 2, 24) := by kernel_rfl
-- the values' own types
/-! #### struct type 82 -/
structure S82 where
  f0 : ByteArray
  f1 : Int
def z82 : S82 := ⟨(⟨#[]⟩ : ByteArray), (0 : Int)⟩
def k82 : Kd S82 := Kd.iso (Kd.pair Kd.string (Kd.int .i64)) (fun x : S82 => (x.f0, x.f1))
theorem k82_open {w : World} {x : S82} {cs : List Value} (h : k82.K w x cs) : cs = [.string x.f0, .int .i64 x.f1] := by
  obtain ⟨_, _, rfl, rfl, rfl⟩ := h
  exact rfl
theorem k82_openM {w : World} {base : Nat} {ok : Nat → Prop} {x : S82} {cs : List Value} (h : k82.M w base ok x cs) : cs = [.string x.f0, .int .i64 x.f1] := by
  obtain ⟨_, _, rfl, rfl, rfl⟩ := h
  exact rfl
theorem k82_mk (w : World) (x : S82)  : k82.K w x [.string x.f0, .int .i64 x.f1] := ⟨[.string x.f0], [.int .i64 x.f1], rfl, rfl, rfl⟩
theorem k82_mkM (w : World) (base : Nat) (ok : Nat → Prop) (x : S82)  : k82.M w base ok x [.string x.f0, .int .i64 x.f1] := ⟨[.string x.f0], [.int .i64 x.f1], rfl, rfl, rfl⟩
def rd_T82 (xs : List S82) (i : Int) : S82 := xs.getD i.toNat z82
theorem at_T82 {w : World} {A : Option Addr} {n : Nat} {xs : List S82} (h : Kd.C k82 w A n xs) (i : Int) (h0 : 0 ≤ i) (h1 : i < n) : ∃ ad , A = some ad ∧ w.cell? (ad.add (i.toNat * 2)) = some (.string (rd_T82 xs i).f0) ∧ w.cell? ⟨(ad.add (i.toNat * 2)).block, (ad.add (i.toNat * 2)).off + 1, none⟩ = some (.int .i64 (rd_T82 xs i).f1) := by
  obtain ⟨ad, c, e, _, hK, hc0⟩ := Kd.C_get h z82 i h0 h1
  have hc : ∀ j u, c[j]? = some u → w.cell? (ad.add (i.toNat * 2 + j)) = some u := hc0
  obtain rfl := k82_open hK
  exact ⟨ad, e, hc 0 _ rfl, by rw [← add_field _ _ 1 (by omega)]; exact hc 1 _ rfl⟩

end Go.Proofs.YtoookcmablnjfaaDoor.PPadPresses
