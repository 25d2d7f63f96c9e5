-- written by this session's program wip/xp/xprint.py (it drives the kit's print and adds to it)
import Derived.Test.YtpoiaheehhnnhaaRows
import Derived.Test.YtpoiaheehhnnhaaPSlotStoresxL
import Derived.Test.YtpoiaheehhnnhaaPureSlotStores
import Derived.Test.YtpoiaheehhnnhaaXOpen
import Derived.WalkKit
import Derived.ProofKit
import Derived.OpenShut
import Derived.ShutString
import Derived.ChangeOld
import Derived.Below
import Derived.SizedLaws
namespace Go.Proofs.Ytpoiaheehhnnhaa.slotStores
open Go.ChangeShapes Go.WideShapes Go.ChangeAt Go.RowKit Go.Proofs.YtpoiaheehhnnhaaW.PrintWords Go.Proofs.YtpoiaheehhnnhaaW.XOpen Go.Proofs.Ytpoiaheehhnnhaa.PSlotStores
open Go.ChangeMaps (open_string shut_string)
set_option linter.unusedVariables false
set_option linter.unusedSimpArgs false
theorem own : ownKnob Try.prog.godebug = none := by kernel_rfl
theorem laidOut : laidOutB Try.prog = true := by kernel_rfl
set_option maxRecDepth 100000 in
theorem lifted (os : Os) (started : os.Started) (H : Type) (enc : TypeId × Value → H) :
    ReturnsInHanded {} Try.checked os 5 .any (Rows.slotStoresSpec.pre6 enc Try.prog Try.f5 Rows.slotStoresRow.domain false) (Rows.slotStoresSpec.post enc Try.prog Try.f5 false true false false) := by
  refine returnsInHanded_of_change_sized (C := Try.checked) own started (by kernel_rfl) Try.func5
    (ChangeSpec.witness6 (enc := enc) (C := Try.checked) false ⟨#[], #[.slice none 0 0, .slice none 0 0], []⟩ 8 (by kernel_rfl) (by kernel_rfl) (by kernel_rfl) (by kernel_rfl)) ?_
  intro W base args ds gs before hval0 hW hcnd hsz0 _
  have hsz : (DataW.weightsEach Try.prog (Try.f5.params.toList ++ Rows.slotStoresSpec.plain.varTypes Try.prog) (ds ++ gs)).all (· ≤ reachBytes) = true := hsz0
  have hval : ∀ (j : Nat) t v, Try.f5.params[j]? = some t → args[j]? = some v → Value.okWide Try.prog W .any base t v := hval0
  have hW' := hW
  obtain ⟨p, q, hA0, hV, rfl, hfz, hnd⟩ := hW
  have hA : DataW.TrodAll enc Try.prog W 0 (fun _ => true) true Try.f5.params.toList args.toList ds p := hA0
  rw [Try.params5] at hA hval hsz
  obtain ⟨v0, vs0, d0, ds0, p0, q0, hargs, rfl, rfl, h0, r0⟩ := trodAll_cons hA
  obtain ⟨v1, vs1, d1, ds1, p1, q1, rfl, rfl, rfl, h1, r1⟩ := trodAll_cons r0
  obtain ⟨rfl, rfl, rfl⟩ := trodAll_nil r1
  obtain rfl : args = #[v0, v1] := by cases args; simp_all
  obtain ⟨rfl, rfl⟩ := trodVars_none hV
  have k0 := h0
  have lt0 : ∀ x ∈ p0, x.block < W.heap.size := by obtain ⟨m, hm⟩ := k0; exact DataW.trod_lt m _ _ _ hm
  have hz0 := weight_of hsz (j := 0) rfl rfl
  obtain ⟨A0, len0, c0, rfl⟩ := okWide_slice Try.underlying22 (hval 0 22 v0 rfl rfl)
  obtain ⟨l0, ⟨A0', c0', e0, hc0, hr0⟩, o0⟩ := opens_trod (opens_slice (B := 4) Try.underlying22 (by kernel_rfl) (by kernel_rfl) 0 (opens_int Try.underlying63)) h0 hz0
  have e0' : [Value.slice A0 len0 c0] = [Value.slice A0' l0.length c0'] := e0
  simp only [List.cons.injEq, Value.slice.injEq, and_true] at e0'
  obtain ⟨rfl, rfl, rfl⟩ := e0'
  have k1 := h1
  have lt1 : ∀ x ∈ p1, x.block < W.heap.size := by obtain ⟨m, hm⟩ := k1; exact DataW.trod_lt m _ _ _ hm
  have hz1 := weight_of hsz (j := 1) rfl rfl
  obtain ⟨A1, len1, c1, rfl⟩ := okWide_slice Try.underlying22 (hval 1 22 v1 rfl rfl)
  obtain ⟨l1, ⟨A1', c1', e1, hc1, hr1⟩, o1⟩ := opens_trod (opens_slice (B := 4) Try.underlying22 (by kernel_rfl) (by kernel_rfl) 0 (opens_int Try.underlying63)) h1 hz1
  have e1' : [Value.slice A1 len1 c1] = [Value.slice A1' l1.length c1'] := e1
  simp only [List.cons.injEq, Value.slice.injEq, and_true] at e1'
  obtain ⟨rfl, rfl, rfl⟩ := e1'
  clear hA0 hval0 hsz0 hsz
  refine (PSlotStores.vendmeterlaw_SlotStores.walk Pure.SlotStores A0 c0 l0 A1 c1 l1 W hr0 hc0 hr1 hc1 o0 o1).mono fun e W' ⟨he, bel⟩ => ?_
  subst he
  exact ⟨_, rfl, _, _, _, [], _, [], hW', trodAll_mk1 (shut_bool Try.underlying4 _), (trodAll_cons_mk (Below.trod laidOut (by kernel_rfl) (of_decide_eq_true (by kernel_rfl)) k0 bel lt0) (trodAll_cons_mk (Below.trod laidOut (by kernel_rfl) (of_decide_eq_true (by kernel_rfl)) k1 bel lt1) trodAll_mk0)), rfl, bel.frame _, fun h => by cases h⟩
theorem over : Rows.slotStoresRow.holds Try.pinned (OpenSpec.ofChange Rows.slotStoresSpec) :=
  OpenClaim.holds_of_wide 5 Try.f5 rfl rfl rfl rfl rfl rfl rfl ⟨rfl, rfl, rfl, rfl, rfl⟩ rfl rfl rfl rfl rfl (by kernel_rfl) Try.func5 (by kernel_rfl)
    (of_decide_eq_true (by kernel_rfl)) (by unfold Func.isWrapper; first | (rw [if_pos (by decide +kernel)]; kernel_rfl) | (rw [if_neg (by decide +kernel)]; exact ⟨rfl, rfl⟩))
    (fun os started H enc _ => lifted os started H enc)
theorem proved : Rows.SlotStoresSaid := over
#print axioms proved
end Go.Proofs.Ytpoiaheehhnnhaa.slotStores
namespace Go.Proofs.Ytpoiaheehhnnhaa
/-- The row, under a short name, for the claim. -/
theorem slotStores_holds : Rows.SlotStoresSaid := slotStores.proved
end Go.Proofs.Ytpoiaheehhnnhaa
