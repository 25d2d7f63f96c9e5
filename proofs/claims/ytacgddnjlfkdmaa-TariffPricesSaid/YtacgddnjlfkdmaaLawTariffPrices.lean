-- written by this session's program wip/xp/xprint.py (it drives the kit's print and adds to it)
import Derived.Test.YtacgddnjlfkdmaaRows
import Derived.Test.YtacgddnjlfkdmaaPTariffPricesxL
import Derived.Test.YtacgddnjlfkdmaaPureTariffPrices
import Derived.Test.YtacgddnjlfkdmaaXOpen
import Derived.WalkKit
import Derived.ProofKit
import Derived.OpenShut
import Derived.ShutString
import Derived.ChangeOld
import Derived.Below
import Derived.SizedLaws
namespace Go.Proofs.Ytacgddnjlfkdmaa.tariffPrices
open Go.ChangeShapes Go.WideShapes Go.ChangeAt Go.RowKit Go.Proofs.YtacgddnjlfkdmaaW.PrintWords Go.Proofs.YtacgddnjlfkdmaaW.XOpen Go.Proofs.Ytacgddnjlfkdmaa.PTariffPrices
open Go.ChangeMaps (open_string shut_string)
set_option linter.unusedVariables false
set_option linter.unusedSimpArgs false
theorem own : ownKnob Try.prog.godebug = none := by kernel_rfl
theorem laidOut : laidOutB Try.prog = true := by kernel_rfl
theorem opens_T149 : Opens Try.prog 149 k149 ok149 := by
  intro H enc w base spare held fuel cs x h hw
  obtain ⟨hl0, n, hp⟩ := parts_struct Try.underlying149 h hw
  have hl : cs.length = 2 := hl0.trans (by kernel_rfl)
  obtain ⟨y0, g0, w0⟩ := hp 0 _ rfl
  have h0 : DataW.trod enc Try.prog w base spare held n 3 ((cs.drop 0).take 1) = some y0 := fit (t := 3) (s := 1) (by kernel_rfl) g0
  obtain ⟨y1, g1, w1⟩ := hp 1 _ rfl
  have h1 : DataW.trod enc Try.prog w base spare held n 3 ((cs.drop 1).take 1) = some y1 := fit (t := 3) (s := 1) (by kernel_rfl) g1
  obtain ⟨x0, K0, o0⟩ := (opens_int Try.underlying3) H enc w base spare held n _ _ h0 w0
  obtain ⟨x1, K1, o1⟩ := (opens_int Try.underlying3) H enc w base spare held n _ _ h1 w1
  exact ⟨⟨x0, x1⟩, ⟨_, _, cut_one cs 0 1 1 rfl, K0, (by rw [cut_last cs 1 1 (by omega)]; exact K1)⟩, ⟨o0, o1⟩⟩
set_option maxRecDepth 100000 in
theorem lifted (os : Os) (started : os.Started) (H : Type) (enc : TypeId × Value → H) :
    ReturnsInHanded {} Try.checked os 3 .any (Rows.tariffPricesSpec.pre6 enc Try.prog Try.f3 Rows.tariffPricesRow.domain false) (Rows.tariffPricesSpec.post enc Try.prog Try.f3 false true false false) := by
  refine returnsInHanded_of_change_sized (C := Try.checked) own started (by kernel_rfl) Try.func3
    (ChangeSpec.witness6 (enc := enc) (C := Try.checked) false ⟨#[], #[.slice none 0 0, .int .i64 0, .int .i64 0], []⟩ 8 (by kernel_rfl) (by kernel_rfl) (by kernel_rfl) (by kernel_rfl)) ?_
  intro W base args ds gs before hval0 hW hcnd hsz0 _
  have hsz : (DataW.weightsEach Try.prog (Try.f3.params.toList ++ Rows.tariffPricesSpec.plain.varTypes Try.prog) (ds ++ gs)).all (· ≤ reachBytes) = true := hsz0
  have hval : ∀ (j : Nat) t v, Try.f3.params[j]? = some t → args[j]? = some v → Value.okWide Try.prog W .any base t v := hval0
  have hW' := hW
  obtain ⟨p, q, hA0, hV, rfl, hfz, hnd⟩ := hW
  have hA : DataW.TrodAll enc Try.prog W 0 (fun _ => true) true Try.f3.params.toList args.toList ds p := hA0
  rw [Try.params3] at hA hval hsz
  obtain ⟨v0, vs0, d0, ds0, p0, q0, hargs, rfl, rfl, h0, r0⟩ := trodAll_cons hA
  obtain ⟨v1, vs1, d1, ds1, p1, q1, rfl, rfl, rfl, h1, r1⟩ := trodAll_cons r0
  obtain ⟨v2, vs2, d2, ds2, p2, q2, rfl, rfl, rfl, h2, r2⟩ := trodAll_cons r1
  obtain ⟨rfl, rfl, rfl⟩ := trodAll_nil r2
  obtain rfl : args = #[v0, v1, v2] := by cases args; simp_all
  obtain ⟨rfl, rfl⟩ := trodVars_none hV
  have k0 := h0
  have lt0 : ∀ x ∈ p0, x.block < W.heap.size := by obtain ⟨m, hm⟩ := k0; exact DataW.trod_lt m _ _ _ hm
  have hz0 := weight_of hsz (j := 0) rfl rfl
  obtain ⟨A0, len0, c0, rfl⟩ := okWide_slice Try.underlying22 (hval 0 22 v0 rfl rfl)
  obtain ⟨l0, ⟨A0', c0', e0, hc0, hr0⟩, o0⟩ := opens_trod (opens_slice (B := 16) Try.underlying22 (by kernel_rfl) (by kernel_rfl) z149 opens_T149) h0 hz0
  have e0' : [Value.slice A0 len0 c0] = [Value.slice A0' l0.length c0'] := e0
  simp only [List.cons.injEq, Value.slice.injEq, and_true] at e0'
  obtain ⟨rfl, rfl, rfl⟩ := e0'
  obtain ⟨a1, rfl, rfl, rfl, w1⟩ := open_int Try.underlying3 (hval 1 3 v1 rfl rfl) h1
  obtain ⟨a2, rfl, rfl, rfl, w2⟩ := open_int Try.underlying3 (hval 2 3 v2 rfl rfl) h2
  clear hA0 hval0 hsz0 hsz
  refine (PTariffPrices.vendmeterlaw_TariffPrices.walk Pure.TariffPrices A0 c0 l0 a1 a2 W hr0 hc0 o0 w1 w2).mono fun e W' ⟨he, bel⟩ => ?_
  subst he
  exact ⟨_, rfl, _, _, _, [], _, [], hW', trodAll_mk1 (shut_bool Try.underlying4 _), (trodAll_cons_mk (Below.trod laidOut (by kernel_rfl) (of_decide_eq_true (by kernel_rfl)) k0 bel lt0) (trodAll_cons_mk (shut_int Try.underlying3 w1) (trodAll_cons_mk (shut_int Try.underlying3 w2) trodAll_mk0))), rfl, bel.frame _, fun h => by cases h⟩
theorem over : Rows.tariffPricesRow.holds Try.pinned (OpenSpec.ofChange Rows.tariffPricesSpec) :=
  OpenClaim.holds_of_wide 3 Try.f3 rfl rfl rfl rfl rfl rfl rfl ⟨rfl, rfl, rfl, rfl, rfl⟩ rfl rfl rfl rfl rfl (by kernel_rfl) Try.func3 (by kernel_rfl)
    (of_decide_eq_true (by kernel_rfl)) (by unfold Func.isWrapper; first | (rw [if_pos (by decide +kernel)]; kernel_rfl) | (rw [if_neg (by decide +kernel)]; exact ⟨rfl, rfl⟩))
    (fun os started H enc _ => lifted os started H enc)
theorem proved : Rows.TariffPricesSaid := over
#print axioms proved
end Go.Proofs.Ytacgddnjlfkdmaa.tariffPrices
namespace Go.Proofs.Ytacgddnjlfkdmaa
/-- The row, under a short name, for the claim. -/
theorem tariffPrices_holds : Rows.TariffPricesSaid := tariffPrices.proved
end Go.Proofs.Ytacgddnjlfkdmaa
