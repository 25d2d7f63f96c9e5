-- written by this session's program wip/xp/xprint.py (it drives the kit's print and adds to it)
import Derived.Test.YtacgddnjlfkdmaaRows
import Derived.Test.YtacgddnjlfkdmaaPWordsPutsxL
import Derived.Test.YtacgddnjlfkdmaaPureWordsPuts
import Derived.Test.YtacgddnjlfkdmaaXOpen
import Derived.WalkKit
import Derived.ProofKit
import Derived.OpenShut
import Derived.ShutString
import Derived.ChangeOld
import Derived.Below
import Derived.SizedLaws
namespace Go.Proofs.Ytacgddnjlfkdmaa.wordsPuts
open Go.ChangeShapes Go.WideShapes Go.ChangeAt Go.RowKit Go.Proofs.YtacgddnjlfkdmaaW.PrintWords Go.Proofs.YtacgddnjlfkdmaaW.XOpen Go.Proofs.Ytacgddnjlfkdmaa.PWordsPuts
open Go.ChangeMaps (open_string shut_string)
set_option linter.unusedVariables false
set_option linter.unusedSimpArgs false
theorem own : ownKnob Try.prog.godebug = none := by kernel_rfl
theorem laidOut : laidOutB Try.prog = true := by kernel_rfl
theorem openA_63 {H : Type} {enc : TypeId × Value → H} {w : World} {base : Nat} {spare : Nat → Bool} {held : Bool} {fuel : Nat} {cs : List Value} {x : DataW H × List MemPlace} (h : DataW.trod enc Try.prog w base spare held fuel 63 cs = some x) (hw : ∀ n ∈ x.1.weights Try.prog 63, n ≤ reachBytes) : ∃ (an0 : Int) (an1 : Int) (an2 : Int), cs = [.int .u32 an0, .int .u32 an1, .int .u32 an2] ∧ (Lit.int .u32 an0).wf = true ∧ (Lit.int .u32 an1).wf = true ∧ (Lit.int .u32 an2).wf = true := by
  obtain ⟨hl0, n, hp⟩ := parts_array Try.underlying63 h hw
  have hl : cs.length = 3 := hl0.trans (by kernel_rfl)
  obtain ⟨y0, g0, w0⟩ := hp 0 (by decide)
  have h0 : DataW.trod enc Try.prog w base spare held n 61 ((cs.drop 0).take 1) = some y0 := fitA (t := 61) (s := 1) (by kernel_rfl) g0
  obtain ⟨y1, g1, w1⟩ := hp 1 (by decide)
  have h1 : DataW.trod enc Try.prog w base spare held n 61 ((cs.drop 1).take 1) = some y1 := fitA (t := 61) (s := 1) (by kernel_rfl) g1
  obtain ⟨y2, g2, w2⟩ := hp 2 (by decide)
  have h2 : DataW.trod enc Try.prog w base spare held n 61 ((cs.drop 2).take 1) = some y2 := fitA (t := 61) (s := 1) (by kernel_rfl) g2
  obtain ⟨a0, e0, o0⟩ := (opens_int Try.underlying61) H enc w base spare held n _ _ h0 w0
  replace e0 : (cs.drop 0).take 1 = [.int .u32 a0] := e0
  obtain ⟨a1, e1, o1⟩ := (opens_int Try.underlying61) H enc w base spare held n _ _ h1 w1
  replace e1 : (cs.drop 1).take 1 = [.int .u32 a1] := e1
  obtain ⟨a2, e2, o2⟩ := (opens_int Try.underlying61) H enc w base spare held n _ _ h2 w2
  replace e2 : (cs.drop 2).take 1 = [.int .u32 a2] := e2
  have e : cs = _ := (cut_one cs 0 1 1 rfl).trans (congrArg (fun z_ => (cs.drop 0).take 1 ++ z_) ((cut_one cs 1 1 2 rfl).trans (congrArg (fun z_ => (cs.drop 1).take 1 ++ z_) (cut_last cs 2 1 (by omega)))))
  rw [e0, e1, e2] at e
  exact ⟨a0, a1, a2, e, o0, o1, o2⟩
set_option maxRecDepth 100000 in
theorem lifted (os : Os) (started : os.Started) (H : Type) (enc : TypeId × Value → H) :
    ReturnsInHanded {} Try.checked os 13 .any (Rows.wordsPutsSpec.pre6 enc Try.prog Try.f13 Rows.wordsPutsRow.domain false) (Rows.wordsPutsSpec.post enc Try.prog Try.f13 false true false false) := by
  refine returnsInHanded_of_change_sized (C := Try.checked) own started (by kernel_rfl) Try.func13
    (ChangeSpec.witness6 (enc := enc) (C := Try.checked) false ⟨#[], #[.agg #[.int .u32 0, .int .u32 0, .int .u32 0], .int .i64 0, .int .i64 0, .int .u64 0], []⟩ 8 (by kernel_rfl) (by kernel_rfl) (by kernel_rfl) (by kernel_rfl)) ?_
  intro W base args ds gs before hval0 hW hcnd hsz0 _
  have hsz : (DataW.weightsEach Try.prog (Try.f13.params.toList ++ Rows.wordsPutsSpec.plain.varTypes Try.prog) (ds ++ gs)).all (· ≤ reachBytes) = true := hsz0
  have hval : ∀ (j : Nat) t v, Try.f13.params[j]? = some t → args[j]? = some v → Value.okWide Try.prog W .any base t v := hval0
  have hW' := hW
  obtain ⟨p, q, hA0, hV, rfl, hfz, hnd⟩ := hW
  have hA : DataW.TrodAll enc Try.prog W 0 (fun _ => true) true Try.f13.params.toList args.toList ds p := hA0
  rw [Try.params13] at hA hval hsz
  obtain ⟨v0, vs0, d0, ds0, p0, q0, hargs, rfl, rfl, h0, r0⟩ := trodAll_cons hA
  obtain ⟨v1, vs1, d1, ds1, p1, q1, rfl, rfl, rfl, h1, r1⟩ := trodAll_cons r0
  obtain ⟨v2, vs2, d2, ds2, p2, q2, rfl, rfl, rfl, h2, r2⟩ := trodAll_cons r1
  obtain ⟨v3, vs3, d3, ds3, p3, q3, rfl, rfl, rfl, h3, r3⟩ := trodAll_cons r2
  obtain ⟨rfl, rfl, rfl⟩ := trodAll_nil r3
  obtain rfl : args = #[v0, v1, v2, v3] := by cases args; simp_all
  obtain ⟨rfl, rfl⟩ := trodVars_none hV
  have k0 := h0
  have lt0 : ∀ x ∈ p0, x.block < W.heap.size := by obtain ⟨m, hm⟩ := k0; exact DataW.trod_lt m _ _ _ hm
  have hz0 := weight_of hsz (j := 0) rfl rfl
  obtain ⟨cs0, rfl⟩ := agg_of (.inr ⟨_, _, Try.underlying63⟩) (hval 0 63 v0 rfl rfl)
  obtain ⟨fu0, hf0⟩ := h0
  obtain ⟨a0_0, a0_1, a0_2, e0, o0_0, o0_1, o0_2⟩ := openA_63 hf0 hz0
  obtain rfl := toArray_of (cs := cs0) e0
  obtain ⟨a1, rfl, rfl, rfl, w1⟩ := open_int Try.underlying3 (hval 1 3 v1 rfl rfl) h1
  obtain ⟨a2, rfl, rfl, rfl, w2⟩ := open_int Try.underlying3 (hval 2 3 v2 rfl rfl) h2
  obtain ⟨a3, rfl, rfl, rfl, w3⟩ := open_int Try.underlying71 (hval 3 71 v3 rfl rfl) h3
  clear hA0 hval0 hsz0 hsz
  refine (PWordsPuts.vendmeterlaw_WordsPuts.walk Pure.WordsPuts a0_0 a0_1 a0_2 a1 a2 a3 W  o0_0 o0_1 o0_2 w1 w2 w3).mono fun e W' ⟨he, bel⟩ => ?_
  subst he
  exact ⟨_, rfl, _, _, _, [], _, [], hW', trodAll_mk1 (shut_bool Try.underlying4 _), (trodAll_cons_mk (Below.trod laidOut (by kernel_rfl) (of_decide_eq_true (by kernel_rfl)) k0 bel lt0) (trodAll_cons_mk (shut_int Try.underlying3 w1) (trodAll_cons_mk (shut_int Try.underlying3 w2) (trodAll_cons_mk (shut_int Try.underlying71 w3) trodAll_mk0)))), rfl, bel.frame _, fun h => by cases h⟩
theorem over : Rows.wordsPutsRow.holds Try.pinned (OpenSpec.ofChange Rows.wordsPutsSpec) :=
  OpenClaim.holds_of_wide 13 Try.f13 rfl rfl rfl rfl rfl rfl rfl ⟨rfl, rfl, rfl, rfl, rfl⟩ rfl rfl rfl rfl rfl (by kernel_rfl) Try.func13 (by kernel_rfl)
    (of_decide_eq_true (by kernel_rfl)) (by unfold Func.isWrapper; first | (rw [if_pos (by decide +kernel)]; kernel_rfl) | (rw [if_neg (by decide +kernel)]; exact ⟨rfl, rfl⟩))
    (fun os started H enc _ => lifted os started H enc)
theorem proved : Rows.WordsPutsSaid := over
#print axioms proved
end Go.Proofs.Ytacgddnjlfkdmaa.wordsPuts
namespace Go.Proofs.Ytacgddnjlfkdmaa
/-- The row, under a short name, for the claim. -/
theorem wordsPuts_holds : Rows.WordsPutsSaid := wordsPuts.proved
end Go.Proofs.Ytacgddnjlfkdmaa
