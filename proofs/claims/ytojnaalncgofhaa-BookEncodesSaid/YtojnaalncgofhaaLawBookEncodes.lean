-- written by this session's program wip/xp/xprint.py (it drives the kit's print and adds to it)
import Derived.Test.YtojnaalncgofhaaRows
import Derived.Test.YtojnaalncgofhaaPBookEncodesxL
import Derived.Test.YtojnaalncgofhaaPureBookEncodes
import Derived.Test.YtojnaalncgofhaaXOpen
import Derived.WalkKit
import Derived.ProofKit
import Derived.OpenShut
import Derived.ShutString
import Derived.ChangeOld
import Derived.Below
import Derived.SizedLaws
namespace Go.Proofs.Ytojnaalncgofhaa.bookEncodes
open Go.ChangeShapes Go.WideShapes Go.ChangeAt Go.RowKit Go.Proofs.YtojnaalncgofhaaW.PrintWords Go.Proofs.YtojnaalncgofhaaW.XOpen Go.Proofs.Ytojnaalncgofhaa.PBookEncodes
open Go.ChangeMaps (open_string shut_string)
set_option linter.unusedVariables false
set_option linter.unusedSimpArgs false
theorem own : ownKnob Try.prog.godebug = none := by kernel_rfl
theorem laidOut : laidOutB Try.prog = true := by kernel_rfl
theorem openA_31 {H : Type} {enc : TypeId × Value → H} {w : World} {base : Nat} {spare : Nat → Bool} {held : Bool} {fuel : Nat} {cs : List Value} {x : DataW H × List MemPlace} (h : DataW.trod enc Try.prog w base spare held fuel 31 cs = some x) (hw : ∀ n ∈ x.1.weights Try.prog 31, n ≤ reachBytes) : ∃ (an0 : Int) (an1 : Int) (an2 : Int) (an3 : Int) (an4 : Int) (an5 : Int) (an6 : Int), cs = [.int .i64 an0, .int .i64 an1, .int .i64 an2, .int .i64 an3, .int .i64 an4, .int .i64 an5, .int .i64 an6] ∧ (Lit.int .i64 an0).wf = true ∧ (Lit.int .i64 an1).wf = true ∧ (Lit.int .i64 an2).wf = true ∧ (Lit.int .i64 an3).wf = true ∧ (Lit.int .i64 an4).wf = true ∧ (Lit.int .i64 an5).wf = true ∧ (Lit.int .i64 an6).wf = true := by
  obtain ⟨hl0, n, hp⟩ := parts_struct Try.underlying31 h hw
  have hl : cs.length = 7 := hl0.trans (by kernel_rfl)
  obtain ⟨y0, g0, w0⟩ := hp 0 _ rfl
  have h0 : DataW.trod enc Try.prog w base spare held n 3 ((cs.drop 0).take 1) = some y0 := fit (t := 3) (s := 1) (by kernel_rfl) g0
  obtain ⟨y1, g1, w1⟩ := hp 1 _ rfl
  have h1 : DataW.trod enc Try.prog w base spare held n 3 ((cs.drop 1).take 1) = some y1 := fit (t := 3) (s := 1) (by kernel_rfl) g1
  obtain ⟨y2, g2, w2⟩ := hp 2 _ rfl
  have h2 : DataW.trod enc Try.prog w base spare held n 3 ((cs.drop 2).take 1) = some y2 := fit (t := 3) (s := 1) (by kernel_rfl) g2
  obtain ⟨y3, g3, w3⟩ := hp 3 _ rfl
  have h3 : DataW.trod enc Try.prog w base spare held n 3 ((cs.drop 3).take 1) = some y3 := fit (t := 3) (s := 1) (by kernel_rfl) g3
  obtain ⟨y4, g4, w4⟩ := hp 4 _ rfl
  have h4 : DataW.trod enc Try.prog w base spare held n 3 ((cs.drop 4).take 1) = some y4 := fit (t := 3) (s := 1) (by kernel_rfl) g4
  obtain ⟨y5, g5, w5⟩ := hp 5 _ rfl
  have h5 : DataW.trod enc Try.prog w base spare held n 3 ((cs.drop 5).take 1) = some y5 := fit (t := 3) (s := 1) (by kernel_rfl) g5
  obtain ⟨y6, g6, w6⟩ := hp 6 _ rfl
  have h6 : DataW.trod enc Try.prog w base spare held n 3 ((cs.drop 6).take 1) = some y6 := fit (t := 3) (s := 1) (by kernel_rfl) g6
  obtain ⟨a0, e0, o0⟩ := (opens_int Try.underlying3) H enc w base spare held n _ _ h0 w0
  replace e0 : (cs.drop 0).take 1 = [.int .i64 a0] := e0
  obtain ⟨a1, e1, o1⟩ := (opens_int Try.underlying3) H enc w base spare held n _ _ h1 w1
  replace e1 : (cs.drop 1).take 1 = [.int .i64 a1] := e1
  obtain ⟨a2, e2, o2⟩ := (opens_int Try.underlying3) H enc w base spare held n _ _ h2 w2
  replace e2 : (cs.drop 2).take 1 = [.int .i64 a2] := e2
  obtain ⟨a3, e3, o3⟩ := (opens_int Try.underlying3) H enc w base spare held n _ _ h3 w3
  replace e3 : (cs.drop 3).take 1 = [.int .i64 a3] := e3
  obtain ⟨a4, e4, o4⟩ := (opens_int Try.underlying3) H enc w base spare held n _ _ h4 w4
  replace e4 : (cs.drop 4).take 1 = [.int .i64 a4] := e4
  obtain ⟨a5, e5, o5⟩ := (opens_int Try.underlying3) H enc w base spare held n _ _ h5 w5
  replace e5 : (cs.drop 5).take 1 = [.int .i64 a5] := e5
  obtain ⟨a6, e6, o6⟩ := (opens_int Try.underlying3) H enc w base spare held n _ _ h6 w6
  replace e6 : (cs.drop 6).take 1 = [.int .i64 a6] := e6
  have e : cs = _ := (cut_one cs 0 1 1 rfl).trans (congrArg (fun z_ => (cs.drop 0).take 1 ++ z_) ((cut_one cs 1 1 2 rfl).trans (congrArg (fun z_ => (cs.drop 1).take 1 ++ z_) ((cut_one cs 2 1 3 rfl).trans (congrArg (fun z_ => (cs.drop 2).take 1 ++ z_) ((cut_one cs 3 1 4 rfl).trans (congrArg (fun z_ => (cs.drop 3).take 1 ++ z_) ((cut_one cs 4 1 5 rfl).trans (congrArg (fun z_ => (cs.drop 4).take 1 ++ z_) ((cut_one cs 5 1 6 rfl).trans (congrArg (fun z_ => (cs.drop 5).take 1 ++ z_) (cut_last cs 6 1 (by omega)))))))))))))
  rw [e0, e1, e2, e3, e4, e5, e6] at e
  exact ⟨a0, a1, a2, a3, a4, a5, a6, e, o0, o1, o2, o3, o4, o5, o6⟩
theorem openA_39 {H : Type} {enc : TypeId × Value → H} {w : World} {base : Nat} {spare : Nat → Bool} {held : Bool} {fuel : Nat} {cs : List Value} {x : DataW H × List MemPlace} (h : DataW.trod enc Try.prog w base spare held fuel 39 cs = some x) (hw : ∀ n ∈ x.1.weights Try.prog 39, n ≤ reachBytes) : ∃ (an0 : Int) (an1 : Int), cs = [.int .i64 an0, .int .i64 an1] ∧ (Lit.int .i64 an0).wf = true ∧ (Lit.int .i64 an1).wf = true := by
  obtain ⟨hl0, n, hp⟩ := parts_struct Try.underlying39 h hw
  have hl : cs.length = 2 := hl0.trans (by kernel_rfl)
  obtain ⟨y0, g0, w0⟩ := hp 0 _ rfl
  have h0 : DataW.trod enc Try.prog w base spare held n 3 ((cs.drop 0).take 1) = some y0 := fit (t := 3) (s := 1) (by kernel_rfl) g0
  obtain ⟨y1, g1, w1⟩ := hp 1 _ rfl
  have h1 : DataW.trod enc Try.prog w base spare held n 3 ((cs.drop 1).take 1) = some y1 := fit (t := 3) (s := 1) (by kernel_rfl) g1
  obtain ⟨a0, e0, o0⟩ := (opens_int Try.underlying3) H enc w base spare held n _ _ h0 w0
  replace e0 : (cs.drop 0).take 1 = [.int .i64 a0] := e0
  obtain ⟨a1, e1, o1⟩ := (opens_int Try.underlying3) H enc w base spare held n _ _ h1 w1
  replace e1 : (cs.drop 1).take 1 = [.int .i64 a1] := e1
  have e : cs = _ := (cut_one cs 0 1 1 rfl).trans (congrArg (fun z_ => (cs.drop 0).take 1 ++ z_) (cut_last cs 1 1 (by omega)))
  rw [e0, e1] at e
  exact ⟨a0, a1, e, o0, o1⟩
theorem openA_41 {H : Type} {enc : TypeId × Value → H} {w : World} {base : Nat} {spare : Nat → Bool} {held : Bool} {fuel : Nat} {cs : List Value} {x : DataW H × List MemPlace} (h : DataW.trod enc Try.prog w base spare held fuel 41 cs = some x) (hw : ∀ n ∈ x.1.weights Try.prog 41, n ≤ reachBytes) : ∃ (an0 : Int) (an1 : Int) (an2 : Int) (an3_0 : Int) (an3_1 : Int) (an3_2 : Int) (an3_3 : Int) (an3_4 : Int) (an3_5 : Int) (an3_6 : Int) (an4 : Int) (an5_0 : Int) (an5_1 : Int), cs = [.int .i64 an0, .int .i64 an1, .int .i64 an2, .int .i64 an3_0, .int .i64 an3_1, .int .i64 an3_2, .int .i64 an3_3, .int .i64 an3_4, .int .i64 an3_5, .int .i64 an3_6, .int .i64 an4, .int .i64 an5_0, .int .i64 an5_1] ∧ (Lit.int .i64 an0).wf = true ∧ (Lit.int .i64 an1).wf = true ∧ (Lit.int .i64 an2).wf = true ∧ (Lit.int .i64 an3_0).wf = true ∧ (Lit.int .i64 an3_1).wf = true ∧ (Lit.int .i64 an3_2).wf = true ∧ (Lit.int .i64 an3_3).wf = true ∧ (Lit.int .i64 an3_4).wf = true ∧ (Lit.int .i64 an3_5).wf = true ∧ (Lit.int .i64 an3_6).wf = true ∧ (Lit.int .i64 an4).wf = true ∧ (Lit.int .i64 an5_0).wf = true ∧ (Lit.int .i64 an5_1).wf = true := by
  obtain ⟨hl0, n, hp⟩ := parts_struct Try.underlying41 h hw
  have hl : cs.length = 13 := hl0.trans (by kernel_rfl)
  obtain ⟨y0, g0, w0⟩ := hp 0 _ rfl
  have h0 : DataW.trod enc Try.prog w base spare held n 3 ((cs.drop 0).take 1) = some y0 := fit (t := 3) (s := 1) (by kernel_rfl) g0
  obtain ⟨y1, g1, w1⟩ := hp 1 _ rfl
  have h1 : DataW.trod enc Try.prog w base spare held n 3 ((cs.drop 1).take 1) = some y1 := fit (t := 3) (s := 1) (by kernel_rfl) g1
  obtain ⟨y2, g2, w2⟩ := hp 2 _ rfl
  have h2 : DataW.trod enc Try.prog w base spare held n 3 ((cs.drop 2).take 1) = some y2 := fit (t := 3) (s := 1) (by kernel_rfl) g2
  obtain ⟨y3, g3, w3⟩ := hp 3 _ rfl
  have h3 : DataW.trod enc Try.prog w base spare held n 31 ((cs.drop 3).take 7) = some y3 := fit (t := 31) (s := 7) (by kernel_rfl) g3
  obtain ⟨y4, g4, w4⟩ := hp 4 _ rfl
  have h4 : DataW.trod enc Try.prog w base spare held n 3 ((cs.drop 10).take 1) = some y4 := fit (t := 3) (s := 1) (by kernel_rfl) g4
  obtain ⟨y5, g5, w5⟩ := hp 5 _ rfl
  have h5 : DataW.trod enc Try.prog w base spare held n 39 ((cs.drop 11).take 2) = some y5 := fit (t := 39) (s := 2) (by kernel_rfl) g5
  obtain ⟨a0, e0, o0⟩ := (opens_int Try.underlying3) H enc w base spare held n _ _ h0 w0
  replace e0 : (cs.drop 0).take 1 = [.int .i64 a0] := e0
  obtain ⟨a1, e1, o1⟩ := (opens_int Try.underlying3) H enc w base spare held n _ _ h1 w1
  replace e1 : (cs.drop 1).take 1 = [.int .i64 a1] := e1
  obtain ⟨a2, e2, o2⟩ := (opens_int Try.underlying3) H enc w base spare held n _ _ h2 w2
  replace e2 : (cs.drop 2).take 1 = [.int .i64 a2] := e2
  obtain ⟨a3_0, a3_1, a3_2, a3_3, a3_4, a3_5, a3_6, e3, o3_0, o3_1, o3_2, o3_3, o3_4, o3_5, o3_6⟩ := openA_31 h3 w3
  obtain ⟨a4, e4, o4⟩ := (opens_int Try.underlying3) H enc w base spare held n _ _ h4 w4
  replace e4 : (cs.drop 10).take 1 = [.int .i64 a4] := e4
  obtain ⟨a5_0, a5_1, e5, o5_0, o5_1⟩ := openA_39 h5 w5
  have e : cs = _ := (cut_one cs 0 1 1 rfl).trans (congrArg (fun z_ => (cs.drop 0).take 1 ++ z_) ((cut_one cs 1 1 2 rfl).trans (congrArg (fun z_ => (cs.drop 1).take 1 ++ z_) ((cut_one cs 2 1 3 rfl).trans (congrArg (fun z_ => (cs.drop 2).take 1 ++ z_) ((cut_one cs 3 7 10 rfl).trans (congrArg (fun z_ => (cs.drop 3).take 7 ++ z_) ((cut_one cs 10 1 11 rfl).trans (congrArg (fun z_ => (cs.drop 10).take 1 ++ z_) (cut_last cs 11 2 (by omega)))))))))))
  rw [e0, e1, e2, e3, e4, e5] at e
  exact ⟨a0, a1, a2, a3_0, a3_1, a3_2, a3_3, a3_4, a3_5, a3_6, a4, a5_0, a5_1, e, o0, o1, o2, o3_0, o3_1, o3_2, o3_3, o3_4, o3_5, o3_6, o4, o5_0, o5_1⟩
set_option maxRecDepth 100000 in
theorem lifted (os : Os) (started : os.Started) (H : Type) (enc : TypeId × Value → H) :
    ReturnsInHanded {} Try.checked os 4 .any (Rows.bookEncodesSpec.pre6 enc Try.prog Try.f4 Rows.bookEncodesRow.domain false) (Rows.bookEncodesSpec.post enc Try.prog Try.f4 false true false false) := by
  refine returnsInHanded_of_change_sized (C := Try.checked) own started (by kernel_rfl) Try.func4
    (ChangeSpec.witness6 (enc := enc) (C := Try.checked) false ⟨#[], #[.agg #[.int .i64 0, .int .i64 0, .int .i64 0, .int .i64 0, .int .i64 0, .int .i64 0, .int .i64 0, .int .i64 0, .int .i64 0, .int .i64 0, .int .i64 0, .int .i64 0, .int .i64 0]], []⟩ 8 (by kernel_rfl) (by kernel_rfl) (by kernel_rfl) (by kernel_rfl)) ?_
  intro W base args ds gs before hval0 hW hcnd hsz0 _
  have hsz : (DataW.weightsEach Try.prog (Try.f4.params.toList ++ Rows.bookEncodesSpec.plain.varTypes Try.prog) (ds ++ gs)).all (· ≤ reachBytes) = true := hsz0
  have hval : ∀ (j : Nat) t v, Try.f4.params[j]? = some t → args[j]? = some v → Value.okWide Try.prog W .any base t v := hval0
  have hW' := hW
  obtain ⟨p, q, hA0, hV, rfl, hfz, hnd⟩ := hW
  have hA : DataW.TrodAll enc Try.prog W 0 (fun _ => true) true Try.f4.params.toList args.toList ds p := hA0
  rw [Try.params4] at hA hval hsz
  obtain ⟨v0, vs0, d0, ds0, p0, q0, hargs, rfl, rfl, h0, r0⟩ := trodAll_cons hA
  obtain ⟨rfl, rfl, rfl⟩ := trodAll_nil r0
  obtain rfl : args = #[v0] := by cases args; simp_all
  obtain ⟨rfl, rfl⟩ := trodVars_none hV
  have k0 := h0
  have lt0 : ∀ x ∈ p0, x.block < W.heap.size := by obtain ⟨m, hm⟩ := k0; exact DataW.trod_lt m _ _ _ hm
  have hz0 := weight_of hsz (j := 0) rfl rfl
  obtain ⟨cs0, rfl⟩ := agg_of (.inl ⟨_, Try.underlying41⟩) (hval 0 41 v0 rfl rfl)
  obtain ⟨fu0, hf0⟩ := h0
  obtain ⟨a0_0, a0_1, a0_2, a0_3, a0_4, a0_5, a0_6, a0_7, a0_8, a0_9, a0_10, a0_11, a0_12, e0, o0_0, o0_1, o0_2, o0_3, o0_4, o0_5, o0_6, o0_7, o0_8, o0_9, o0_10, o0_11, o0_12⟩ := openA_41 hf0 hz0
  obtain rfl := toArray_of (cs := cs0) e0
  clear hA0 hval0 hsz0 hsz
  refine (PBookEncodes.vendmeterlaw_BookEncodes.walk Pure.BookEncodes a0_0 a0_1 a0_2 a0_3 a0_4 a0_5 a0_6 a0_7 a0_8 a0_9 a0_10 a0_11 a0_12 W  o0_0 o0_1 o0_2 o0_3 o0_4 o0_5 o0_6 o0_7 o0_8 o0_9 o0_10 o0_11 o0_12).mono fun e W' ⟨he, bel⟩ => ?_
  subst he
  exact ⟨_, rfl, _, _, _, [], _, [], hW', trodAll_mk1 (shut_bool Try.underlying4 _), (trodAll_cons_mk (Below.trod laidOut (by kernel_rfl) (of_decide_eq_true (by kernel_rfl)) k0 bel lt0) trodAll_mk0), rfl, bel.frame _, fun h => by cases h⟩
theorem over : Rows.bookEncodesRow.holds Try.pinned (OpenSpec.ofChange Rows.bookEncodesSpec) :=
  OpenClaim.holds_of_wide 4 Try.f4 rfl rfl rfl rfl rfl rfl rfl ⟨rfl, rfl, rfl, rfl, rfl⟩ rfl rfl rfl rfl rfl (by kernel_rfl) Try.func4 (by kernel_rfl)
    (of_decide_eq_true (by kernel_rfl)) (by unfold Func.isWrapper; first | (rw [if_pos (by decide +kernel)]; kernel_rfl) | (rw [if_neg (by decide +kernel)]; exact ⟨rfl, rfl⟩))
    (fun os started H enc _ => lifted os started H enc)
theorem proved : Rows.BookEncodesSaid := over
#print axioms proved
end Go.Proofs.Ytojnaalncgofhaa.bookEncodes
namespace Go.Proofs.Ytojnaalncgofhaa
/-- The row, under a short name, for the claim. -/
theorem bookEncodes_holds : Rows.BookEncodesSaid := bookEncodes.proved
end Go.Proofs.Ytojnaalncgofhaa
