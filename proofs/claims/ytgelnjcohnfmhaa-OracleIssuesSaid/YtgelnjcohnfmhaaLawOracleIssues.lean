-- written by this session's program wip/xp/xprint.py (it drives the kit's print and adds to it)
import Derived.Test.YtgelnjcohnfmhaaRows
import Derived.Test.YtgelnjcohnfmhaaPOracleIssuesxL
import Derived.Test.YtgelnjcohnfmhaaPureOracleIssues
import Derived.Test.YtgelnjcohnfmhaaXOpen
import Derived.WalkKit
import Derived.ProofKit
import Derived.OpenShut
import Derived.ShutString
import Derived.ChangeOld
import Derived.Below
import Derived.SizedLaws
namespace Go.Proofs.Ytgelnjcohnfmhaa.oracleIssues
open Go.ChangeShapes Go.WideShapes Go.ChangeAt Go.RowKit Go.Proofs.YtgelnjcohnfmhaaW.PrintWords Go.Proofs.YtgelnjcohnfmhaaW.XOpen Go.Proofs.Ytgelnjcohnfmhaa.POracleIssues
open Go.ChangeMaps (open_string shut_string)
set_option linter.unusedVariables false
set_option linter.unusedSimpArgs false
theorem own : ownKnob Try.prog.godebug = none := by kernel_rfl
theorem laidOut : laidOutB Try.prog = true := by kernel_rfl
theorem opens_T83 : Opens Try.prog 83 k83 ok83 := by
  intro H enc w base spare held fuel cs x h hw
  obtain ⟨hl0, n, hp⟩ := parts_struct Try.underlying83 h hw
  have hl : cs.length = 4 := hl0.trans (by kernel_rfl)
  obtain ⟨y0, g0, w0⟩ := hp 0 _ rfl
  have h0 : DataW.trod enc Try.prog w base spare held n 3 ((cs.drop 0).take 1) = some y0 := fit (t := 3) (s := 1) (by kernel_rfl) g0
  obtain ⟨y1, g1, w1⟩ := hp 1 _ rfl
  have h1 : DataW.trod enc Try.prog w base spare held n 3 ((cs.drop 1).take 1) = some y1 := fit (t := 3) (s := 1) (by kernel_rfl) g1
  obtain ⟨y2, g2, w2⟩ := hp 2 _ rfl
  have h2 : DataW.trod enc Try.prog w base spare held n 3 ((cs.drop 2).take 1) = some y2 := fit (t := 3) (s := 1) (by kernel_rfl) g2
  obtain ⟨y3, g3, w3⟩ := hp 3 _ rfl
  have h3 : DataW.trod enc Try.prog w base spare held n 3 ((cs.drop 3).take 1) = some y3 := fit (t := 3) (s := 1) (by kernel_rfl) g3
  obtain ⟨x0, K0, o0⟩ := (opens_int Try.underlying3) H enc w base spare held n _ _ h0 w0
  obtain ⟨x1, K1, o1⟩ := (opens_int Try.underlying3) H enc w base spare held n _ _ h1 w1
  obtain ⟨x2, K2, o2⟩ := (opens_int Try.underlying3) H enc w base spare held n _ _ h2 w2
  obtain ⟨x3, K3, o3⟩ := (opens_int Try.underlying3) H enc w base spare held n _ _ h3 w3
  exact ⟨⟨x0, x1, x2, x3⟩, ⟨_, _, cut_one cs 0 1 1 rfl, K0, ⟨_, _, cut_one cs 1 1 2 rfl, K1, ⟨_, _, cut_one cs 2 1 3 rfl, K2, (by rw [cut_last cs 3 1 (by omega)]; exact K3)⟩⟩⟩, ⟨o0, o1, o2, o3⟩⟩
theorem openA_24 {H : Type} {enc : TypeId × Value → H} {w : World} {base : Nat} {spare : Nat → Bool} {held : Bool} {fuel : Nat} {cs : List Value} {x : DataW H × List MemPlace} (h : DataW.trod enc Try.prog w base spare held fuel 24 cs = some x) (hw : ∀ n ∈ x.1.weights Try.prog 24, n ≤ reachBytes) : ∃ (An0 : Option Addr) (cn0 : Nat) (ln0 : List (S83)), cs = [.slice An0 ln0.length cn0] ∧ Kd.C k83 w An0 ln0.length ln0 ∧ ln0.length ≤ cn0 ∧ (ln0.length * 32 ≤ 140737488351232 ∧ ∀ y ∈ ln0, ok83 y) := by
  obtain ⟨hl0, n, hp⟩ := parts_struct Try.underlying24 h hw
  have hl : cs.length = 1 := hl0.trans (by kernel_rfl)
  obtain ⟨y0, g0, w0⟩ := hp 0 _ rfl
  have h0 : DataW.trod enc Try.prog w base spare held n 22 ((cs.drop 0).take 1) = some y0 := fit (t := 22) (s := 1) (by kernel_rfl) g0
  obtain ⟨l0, ⟨A0, c0, e0, B0, C0⟩, o0⟩ := (opens_slice (B := 32) Try.underlying22 (by kernel_rfl) (by kernel_rfl) z83 opens_T83) H enc w base spare held n _ _ h0 w0
  have e : cs = _ := cut_last cs 0 1 (by omega)
  rw [e0] at e
  exact ⟨A0, c0, l0, e, C0, B0, o0⟩
set_option maxRecDepth 100000 in
theorem lifted (os : Os) (started : os.Started) (H : Type) (enc : TypeId × Value → H) :
    ReturnsInHanded {} Try.checked os 5 .any (Rows.oracleIssuesSpec.pre6 enc Try.prog Try.f5 Rows.oracleIssuesRow.domain false) (Rows.oracleIssuesSpec.post enc Try.prog Try.f5 false true false false) := by
  refine returnsInHanded_of_change_sized (C := Try.checked) own started (by kernel_rfl) Try.func5
    (ChangeSpec.witness6 (enc := enc) (C := Try.checked) false ⟨#[], #[.agg #[.slice none 0 0], .int .i64 0, .int .i64 0, .int .i64 0, .int .i64 0], []⟩ 8 (by kernel_rfl) (by kernel_rfl) (by kernel_rfl) (by kernel_rfl)) ?_
  intro W base args ds gs before hval0 hW hcnd hsz0 _
  have hsz : (DataW.weightsEach Try.prog (Try.f5.params.toList ++ Rows.oracleIssuesSpec.plain.varTypes Try.prog) (ds ++ gs)).all (· ≤ reachBytes) = true := hsz0
  have hval : ∀ (j : Nat) t v, Try.f5.params[j]? = some t → args[j]? = some v → Value.okWide Try.prog W .any base t v := hval0
  have hW' := hW
  obtain ⟨p, q, hA0, hV, rfl, hfz, hnd⟩ := hW
  have hA : DataW.TrodAll enc Try.prog W 0 (fun _ => true) true Try.f5.params.toList args.toList ds p := hA0
  rw [Try.params5] at hA hval hsz
  obtain ⟨v0, vs0, d0, ds0, p0, q0, hargs, rfl, rfl, h0, r0⟩ := trodAll_cons hA
  obtain ⟨v1, vs1, d1, ds1, p1, q1, rfl, rfl, rfl, h1, r1⟩ := trodAll_cons r0
  obtain ⟨v2, vs2, d2, ds2, p2, q2, rfl, rfl, rfl, h2, r2⟩ := trodAll_cons r1
  obtain ⟨v3, vs3, d3, ds3, p3, q3, rfl, rfl, rfl, h3, r3⟩ := trodAll_cons r2
  obtain ⟨v4, vs4, d4, ds4, p4, q4, rfl, rfl, rfl, h4, r4⟩ := trodAll_cons r3
  obtain ⟨rfl, rfl, rfl⟩ := trodAll_nil r4
  obtain rfl : args = #[v0, v1, v2, v3, v4] := by cases args; simp_all
  obtain ⟨rfl, rfl⟩ := trodVars_none hV
  have k0 := h0
  have lt0 : ∀ x ∈ p0, x.block < W.heap.size := by obtain ⟨m, hm⟩ := k0; exact DataW.trod_lt m _ _ _ hm
  have hz0 := weight_of hsz (j := 0) rfl rfl
  obtain ⟨cs0, rfl⟩ := agg_of (.inl ⟨_, Try.underlying24⟩) (hval 0 24 v0 rfl rfl)
  obtain ⟨fu0, hf0⟩ := h0
  obtain ⟨A0_0, c0_0, l0_0, e0, hr0_0, hc0_0, o0_0⟩ := openA_24 hf0 hz0
  obtain rfl := toArray_of (cs := cs0) e0
  obtain ⟨a1, rfl, rfl, rfl, w1⟩ := open_int Try.underlying3 (hval 1 3 v1 rfl rfl) h1
  obtain ⟨a2, rfl, rfl, rfl, w2⟩ := open_int Try.underlying3 (hval 2 3 v2 rfl rfl) h2
  obtain ⟨a3, rfl, rfl, rfl, w3⟩ := open_int Try.underlying3 (hval 3 3 v3 rfl rfl) h3
  obtain ⟨a4, rfl, rfl, rfl, w4⟩ := open_int Try.underlying3 (hval 4 3 v4 rfl rfl) h4
  clear hA0 hval0 hsz0 hsz
  refine (POracleIssues.vendmeterlaw_OracleIssues.walk Pure.OracleIssues A0_0 c0_0 l0_0 a1 a2 a3 a4 W hr0_0 hc0_0 o0_0 w1 w2 w3 w4).mono fun e W' ⟨he, bel⟩ => ?_
  subst he
  exact ⟨_, rfl, _, _, _, [], _, [], hW', trodAll_mk1 (shut_bool Try.underlying4 _), (trodAll_cons_mk (Below.trod laidOut (by kernel_rfl) (of_decide_eq_true (by kernel_rfl)) k0 bel lt0) (trodAll_cons_mk (shut_int Try.underlying3 w1) (trodAll_cons_mk (shut_int Try.underlying3 w2) (trodAll_cons_mk (shut_int Try.underlying3 w3) (trodAll_cons_mk (shut_int Try.underlying3 w4) trodAll_mk0))))), rfl, bel.frame _, fun h => by cases h⟩
theorem over : Rows.oracleIssuesRow.holds Try.pinned (OpenSpec.ofChange Rows.oracleIssuesSpec) :=
  OpenClaim.holds_of_wide 5 Try.f5 rfl rfl rfl rfl rfl rfl rfl ⟨rfl, rfl, rfl, rfl, rfl⟩ rfl rfl rfl rfl rfl (by kernel_rfl) Try.func5 (by kernel_rfl)
    (of_decide_eq_true (by kernel_rfl)) (by unfold Func.isWrapper; first | (rw [if_pos (by decide +kernel)]; kernel_rfl) | (rw [if_neg (by decide +kernel)]; exact ⟨rfl, rfl⟩))
    (fun os started H enc _ => lifted os started H enc)
theorem proved : Rows.OracleIssuesSaid := over
#print axioms proved
end Go.Proofs.Ytgelnjcohnfmhaa.oracleIssues
namespace Go.Proofs.Ytgelnjcohnfmhaa
/-- The row, under a short name, for the claim. -/
theorem oracleIssues_holds : Rows.OracleIssuesSaid := oracleIssues.proved
end Go.Proofs.Ytgelnjcohnfmhaa
