-- written by this session's program wip/xp/xprint.py (it drives the kit's print and adds to it)
import Derived.Test.YtojnaalncgofhaaRows
import Derived.Test.YtojnaalncgofhaaPAccountSellsxL
import Derived.Test.YtojnaalncgofhaaPureAccountSells
import Derived.Test.YtojnaalncgofhaaXAccountSellsOpen
import Derived.WalkKit
import Derived.ProofKit
import Derived.OpenShut
import Derived.ShutString
import Derived.ChangeOld
import Derived.Below
import Derived.SizedLaws
namespace Go.Proofs.Ytojnaalncgofhaa.accountSells
open Go.ChangeShapes Go.WideShapes Go.ChangeAt Go.RowKit Go.Proofs.YtojnaalncgofhaaW.PrintWords Go.Proofs.YtojnaalncgofhaaW.XOpen Go.Proofs.Ytojnaalncgofhaa.PAccountSells
open Go.ChangeMaps (open_string shut_string)
set_option linter.unusedVariables false
set_option linter.unusedSimpArgs false
theorem own : ownKnob Try.prog.godebug = none := by kernel_rfl
theorem laidOut : laidOutB Try.prog = true := by kernel_rfl
theorem opens_T39 : Opens Try.prog 39 k39 ok39 := by
  intro H enc w base spare held fuel cs x h hw
  obtain ⟨hl0, n, hp⟩ := parts_struct Try.underlying39 h hw
  have hl : cs.length = 2 := hl0.trans (by kernel_rfl)
  obtain ⟨y0, g0, w0⟩ := hp 0 _ rfl
  have h0 : DataW.trod enc Try.prog w base spare held n 3 ((cs.drop 0).take 1) = some y0 := fit (t := 3) (s := 1) (by kernel_rfl) g0
  obtain ⟨y1, g1, w1⟩ := hp 1 _ rfl
  have h1 : DataW.trod enc Try.prog w base spare held n 3 ((cs.drop 1).take 1) = some y1 := fit (t := 3) (s := 1) (by kernel_rfl) g1
  obtain ⟨x0, K0, o0⟩ := (opens_int Try.underlying3) H enc w base spare held n _ _ h0 w0
  obtain ⟨x1, K1, o1⟩ := (opens_int Try.underlying3) H enc w base spare held n _ _ h1 w1
  exact ⟨⟨x0, x1⟩, ⟨_, _, cut_one cs 0 1 1 rfl, K0, (by rw [cut_last cs 1 1 (by omega)]; exact K1)⟩, ⟨o0, o1⟩⟩
theorem opens_T99 : Opens Try.prog 99 k99 ok99 := by
  intro H enc w base spare held fuel cs x h hw
  obtain ⟨hl0, n, hp⟩ := parts_struct Try.underlying99 h hw
  have hl : cs.length = 2 := hl0.trans (by kernel_rfl)
  obtain ⟨y0, g0, w0⟩ := hp 0 _ rfl
  have h0 : DataW.trod enc Try.prog w base spare held n 3 ((cs.drop 0).take 1) = some y0 := fit (t := 3) (s := 1) (by kernel_rfl) g0
  obtain ⟨y1, g1, w1⟩ := hp 1 _ rfl
  have h1 : DataW.trod enc Try.prog w base spare held n 3 ((cs.drop 1).take 1) = some y1 := fit (t := 3) (s := 1) (by kernel_rfl) g1
  obtain ⟨x0, K0, o0⟩ := (opens_int Try.underlying3) H enc w base spare held n _ _ h0 w0
  obtain ⟨x1, K1, o1⟩ := (opens_int Try.underlying3) H enc w base spare held n _ _ h1 w1
  exact ⟨⟨x0, x1⟩, ⟨_, _, cut_one cs 0 1 1 rfl, K0, (by rw [cut_last cs 1 1 (by omega)]; exact K1)⟩, ⟨o0, o1⟩⟩
theorem openA_24 {H : Type} {enc : TypeId × Value → H} {w : World} {base : Nat} {spare : Nat → Bool} {held : Bool} {fuel : Nat} {cs : List Value} {x : DataW H × List MemPlace} (h : DataW.trod enc Try.prog w base spare held fuel 24 cs = some x) (hw : ∀ n ∈ x.1.weights Try.prog 24, n ≤ reachBytes) : ∃ (an0 : Int) (an1 : Int) (an2 : Int) (an3 : Int) (an4 : Int) (an5 : Int) (An6 : Option Addr) (cn6 : Nat) (ln6 : List (S39)), cs = [.int .i64 an0, .int .i64 an1, .int .i64 an2, .int .i64 an3, .int .i64 an4, .int .i64 an5, .slice An6 ln6.length cn6] ∧ (Lit.int .i64 an0).wf = true ∧ (Lit.int .i64 an1).wf = true ∧ (Lit.int .i64 an2).wf = true ∧ (Lit.int .i64 an3).wf = true ∧ (Lit.int .i64 an4).wf = true ∧ (Lit.int .i64 an5).wf = true ∧ Kd.C k39 w An6 ln6.length ln6 ∧ ln6.length ≤ cn6 ∧ (ln6.length * 16 ≤ 140737488351232 ∧ ∀ y ∈ ln6, ok39 y) := by
  obtain ⟨hl0, n, hp⟩ := parts_struct Try.underlying24 h hw
  have hl : cs.length = 7 := hl0.trans (by kernel_rfl)
  obtain ⟨y0, g0, w0⟩ := hp 0 _ rfl
  have h0 : DataW.trod enc Try.prog w base spare held n 3 ((cs.drop 0).take 1) = some y0 := fit (t := 3) (s := 1) (by kernel_rfl) g0
  obtain ⟨y1, g1, w1⟩ := hp 1 _ rfl
  have h1 : DataW.trod enc Try.prog w base spare held n 3 ((cs.drop 1).take 1) = some y1 := fit (t := 3) (s := 1) (by kernel_rfl) g1
  obtain ⟨y2, g2, w2⟩ := hp 2 _ rfl
  have h2 : DataW.trod enc Try.prog w base spare held n 3 ((cs.drop 2).take 1) = some y2 := fit (t := 3) (s := 1) (by kernel_rfl) g2
  obtain ⟨y3, g3, w3⟩ := hp 3 _ rfl
  have h3 : DataW.trod enc Try.prog w base spare held n 3 ((cs.drop 3).take 1) = some y3 := fit (t := 3) (s := 1) (by kernel_rfl) g3
  obtain ⟨y4, g4, w4⟩ := hp 4 _ rfl
  have h4 : DataW.trod enc Try.prog w base spare held n 3 ((cs.drop 4).take 1) = some y4 := fit (t := 3) (s := 1) (by kernel_rfl) g4
  obtain ⟨y5, g5, w5⟩ := hp 5 _ rfl
  have h5 : DataW.trod enc Try.prog w base spare held n 3 ((cs.drop 5).take 1) = some y5 := fit (t := 3) (s := 1) (by kernel_rfl) g5
  obtain ⟨y6, g6, w6⟩ := hp 6 _ rfl
  have h6 : DataW.trod enc Try.prog w base spare held n 22 ((cs.drop 6).take 1) = some y6 := fit (t := 22) (s := 1) (by kernel_rfl) g6
  obtain ⟨a0, e0, o0⟩ := (opens_int Try.underlying3) H enc w base spare held n _ _ h0 w0
  replace e0 : (cs.drop 0).take 1 = [.int .i64 a0] := e0
  obtain ⟨a1, e1, o1⟩ := (opens_int Try.underlying3) H enc w base spare held n _ _ h1 w1
  replace e1 : (cs.drop 1).take 1 = [.int .i64 a1] := e1
  obtain ⟨a2, e2, o2⟩ := (opens_int Try.underlying3) H enc w base spare held n _ _ h2 w2
  replace e2 : (cs.drop 2).take 1 = [.int .i64 a2] := e2
  obtain ⟨a3, e3, o3⟩ := (opens_int Try.underlying3) H enc w base spare held n _ _ h3 w3
  replace e3 : (cs.drop 3).take 1 = [.int .i64 a3] := e3
  obtain ⟨a4, e4, o4⟩ := (opens_int Try.underlying3) H enc w base spare held n _ _ h4 w4
  replace e4 : (cs.drop 4).take 1 = [.int .i64 a4] := e4
  obtain ⟨a5, e5, o5⟩ := (opens_int Try.underlying3) H enc w base spare held n _ _ h5 w5
  replace e5 : (cs.drop 5).take 1 = [.int .i64 a5] := e5
  obtain ⟨l6, ⟨A6, c6, e6, B6, C6⟩, o6⟩ := (opens_slice (B := 16) Try.underlying22 (by kernel_rfl) (by kernel_rfl) z39 opens_T39) H enc w base spare held n _ _ h6 w6
  have e : cs = _ := (cut_one cs 0 1 1 rfl).trans (congrArg (fun z_ => (cs.drop 0).take 1 ++ z_) ((cut_one cs 1 1 2 rfl).trans (congrArg (fun z_ => (cs.drop 1).take 1 ++ z_) ((cut_one cs 2 1 3 rfl).trans (congrArg (fun z_ => (cs.drop 2).take 1 ++ z_) ((cut_one cs 3 1 4 rfl).trans (congrArg (fun z_ => (cs.drop 3).take 1 ++ z_) ((cut_one cs 4 1 5 rfl).trans (congrArg (fun z_ => (cs.drop 4).take 1 ++ z_) ((cut_one cs 5 1 6 rfl).trans (congrArg (fun z_ => (cs.drop 5).take 1 ++ z_) (cut_last cs 6 1 (by omega)))))))))))))
  rw [e0, e1, e2, e3, e4, e5, e6] at e
  exact ⟨a0, a1, a2, a3, a4, a5, A6, c6, l6, e, o0, o1, o2, o3, o4, o5, C6, B6, o6⟩
theorem openA_27 {H : Type} {enc : TypeId × Value → H} {w : World} {base : Nat} {spare : Nat → Bool} {held : Bool} {fuel : Nat} {cs : List Value} {x : DataW H × List MemPlace} (h : DataW.trod enc Try.prog w base spare held fuel 27 cs = some x) (hw : ∀ n ∈ x.1.weights Try.prog 27, n ≤ reachBytes) : ∃ (An0 : Option Addr) (cn0 : Nat) (ln0 : List (S99)) (an1 : Int) (an2 : Int) (an3 : Int) (an4 : Int), cs = [.slice An0 ln0.length cn0, .int .i64 an1, .int .i64 an2, .int .i64 an3, .int .i64 an4] ∧ Kd.C k99 w An0 ln0.length ln0 ∧ ln0.length ≤ cn0 ∧ (ln0.length * 16 ≤ 140737488351232 ∧ ∀ y ∈ ln0, ok99 y) ∧ (Lit.int .i64 an1).wf = true ∧ (Lit.int .i64 an2).wf = true ∧ (Lit.int .i64 an3).wf = true ∧ (Lit.int .i64 an4).wf = true := by
  obtain ⟨hl0, n, hp⟩ := parts_struct Try.underlying27 h hw
  have hl : cs.length = 5 := hl0.trans (by kernel_rfl)
  obtain ⟨y0, g0, w0⟩ := hp 0 _ rfl
  have h0 : DataW.trod enc Try.prog w base spare held n 25 ((cs.drop 0).take 1) = some y0 := fit (t := 25) (s := 1) (by kernel_rfl) g0
  obtain ⟨y1, g1, w1⟩ := hp 1 _ rfl
  have h1 : DataW.trod enc Try.prog w base spare held n 3 ((cs.drop 1).take 1) = some y1 := fit (t := 3) (s := 1) (by kernel_rfl) g1
  obtain ⟨y2, g2, w2⟩ := hp 2 _ rfl
  have h2 : DataW.trod enc Try.prog w base spare held n 3 ((cs.drop 2).take 1) = some y2 := fit (t := 3) (s := 1) (by kernel_rfl) g2
  obtain ⟨y3, g3, w3⟩ := hp 3 _ rfl
  have h3 : DataW.trod enc Try.prog w base spare held n 3 ((cs.drop 3).take 1) = some y3 := fit (t := 3) (s := 1) (by kernel_rfl) g3
  obtain ⟨y4, g4, w4⟩ := hp 4 _ rfl
  have h4 : DataW.trod enc Try.prog w base spare held n 3 ((cs.drop 4).take 1) = some y4 := fit (t := 3) (s := 1) (by kernel_rfl) g4
  obtain ⟨l0, ⟨A0, c0, e0, B0, C0⟩, o0⟩ := (opens_slice (B := 16) Try.underlying25 (by kernel_rfl) (by kernel_rfl) z99 opens_T99) H enc w base spare held n _ _ h0 w0
  obtain ⟨a1, e1, o1⟩ := (opens_int Try.underlying3) H enc w base spare held n _ _ h1 w1
  replace e1 : (cs.drop 1).take 1 = [.int .i64 a1] := e1
  obtain ⟨a2, e2, o2⟩ := (opens_int Try.underlying3) H enc w base spare held n _ _ h2 w2
  replace e2 : (cs.drop 2).take 1 = [.int .i64 a2] := e2
  obtain ⟨a3, e3, o3⟩ := (opens_int Try.underlying3) H enc w base spare held n _ _ h3 w3
  replace e3 : (cs.drop 3).take 1 = [.int .i64 a3] := e3
  obtain ⟨a4, e4, o4⟩ := (opens_int Try.underlying3) H enc w base spare held n _ _ h4 w4
  replace e4 : (cs.drop 4).take 1 = [.int .i64 a4] := e4
  have e : cs = _ := (cut_one cs 0 1 1 rfl).trans (congrArg (fun z_ => (cs.drop 0).take 1 ++ z_) ((cut_one cs 1 1 2 rfl).trans (congrArg (fun z_ => (cs.drop 1).take 1 ++ z_) ((cut_one cs 2 1 3 rfl).trans (congrArg (fun z_ => (cs.drop 2).take 1 ++ z_) ((cut_one cs 3 1 4 rfl).trans (congrArg (fun z_ => (cs.drop 3).take 1 ++ z_) (cut_last cs 4 1 (by omega)))))))))
  rw [e0, e1, e2, e3, e4] at e
  exact ⟨A0, c0, l0, a1, a2, a3, a4, e, C0, B0, o0, o1, o2, o3, o4⟩
set_option maxRecDepth 100000 in
theorem lifted (os : Os) (started : os.Started) (H : Type) (enc : TypeId × Value → H) :
    ReturnsInHanded {} Try.checked os 3 .any (Rows.accountSellsSpec.pre6 enc Try.prog Try.f3 Rows.accountSellsRow.domain false) (Rows.accountSellsSpec.post enc Try.prog Try.f3 false true false false) := by
  refine returnsInHanded_of_change_sized (C := Try.checked) own started (by kernel_rfl) Try.func3
    (ChangeSpec.witness6 (enc := enc) (C := Try.checked) false ⟨#[], #[.agg #[.int .i64 0, .int .i64 0, .int .i64 0, .int .i64 0, .int .i64 0, .int .i64 0, .slice none 0 0], .agg #[.slice none 0 0, .int .i64 0, .int .i64 0, .int .i64 0, .int .i64 0], .int .i64 0, .int .i64 0], []⟩ 8 (by kernel_rfl) (by kernel_rfl) (by kernel_rfl) (by kernel_rfl)) ?_
  intro W base args ds gs before hval0 hW hcnd hsz0 _
  have hsz : (DataW.weightsEach Try.prog (Try.f3.params.toList ++ Rows.accountSellsSpec.plain.varTypes Try.prog) (ds ++ gs)).all (· ≤ reachBytes) = true := hsz0
  have hval : ∀ (j : Nat) t v, Try.f3.params[j]? = some t → args[j]? = some v → Value.okWide Try.prog W .any base t v := hval0
  have hW' := hW
  obtain ⟨p, q, hA0, hV, rfl, hfz, hnd⟩ := hW
  have hA : DataW.TrodAll enc Try.prog W 0 (fun _ => true) true Try.f3.params.toList args.toList ds p := hA0
  rw [Try.params3] at hA hval hsz
  obtain ⟨v0, vs0, d0, ds0, p0, q0, hargs, rfl, rfl, h0, r0⟩ := trodAll_cons hA
  obtain ⟨v1, vs1, d1, ds1, p1, q1, rfl, rfl, rfl, h1, r1⟩ := trodAll_cons r0
  obtain ⟨v2, vs2, d2, ds2, p2, q2, rfl, rfl, rfl, h2, r2⟩ := trodAll_cons r1
  obtain ⟨v3, vs3, d3, ds3, p3, q3, rfl, rfl, rfl, h3, r3⟩ := trodAll_cons r2
  obtain ⟨rfl, rfl, rfl⟩ := trodAll_nil r3
  obtain rfl : args = #[v0, v1, v2, v3] := by cases args; simp_all
  obtain ⟨rfl, rfl⟩ := trodVars_none hV
  have k0 := h0
  have lt0 : ∀ x ∈ p0, x.block < W.heap.size := by obtain ⟨m, hm⟩ := k0; exact DataW.trod_lt m _ _ _ hm
  have hz0 := weight_of hsz (j := 0) rfl rfl
  obtain ⟨cs0, rfl⟩ := agg_of (.inl ⟨_, Try.underlying24⟩) (hval 0 24 v0 rfl rfl)
  obtain ⟨fu0, hf0⟩ := h0
  obtain ⟨a0_0, a0_1, a0_2, a0_3, a0_4, a0_5, A0_6, c0_6, l0_6, e0, o0_0, o0_1, o0_2, o0_3, o0_4, o0_5, hr0_6, hc0_6, o0_6⟩ := openA_24 hf0 hz0
  obtain rfl := toArray_of (cs := cs0) e0
  have k1 := h1
  have lt1 : ∀ x ∈ p1, x.block < W.heap.size := by obtain ⟨m, hm⟩ := k1; exact DataW.trod_lt m _ _ _ hm
  have hz1 := weight_of hsz (j := 1) rfl rfl
  obtain ⟨cs1, rfl⟩ := agg_of (.inl ⟨_, Try.underlying27⟩) (hval 1 27 v1 rfl rfl)
  obtain ⟨fu1, hf1⟩ := h1
  obtain ⟨A1_0, c1_0, l1_0, a1_1, a1_2, a1_3, a1_4, e1, hr1_0, hc1_0, o1_0, o1_1, o1_2, o1_3, o1_4⟩ := openA_27 hf1 hz1
  obtain rfl := toArray_of (cs := cs1) e1
  obtain ⟨a2, rfl, rfl, rfl, w2⟩ := open_int Try.underlying3 (hval 2 3 v2 rfl rfl) h2
  obtain ⟨a3, rfl, rfl, rfl, w3⟩ := open_int Try.underlying3 (hval 3 3 v3 rfl rfl) h3
  clear hA0 hval0 hsz0 hsz
  refine (PAccountSells.vendmeterlaw_AccountSells.walk Pure.AccountSells a0_0 a0_1 a0_2 a0_3 a0_4 a0_5 A0_6 c0_6 l0_6 A1_0 c1_0 l1_0 a1_1 a1_2 a1_3 a1_4 a2 a3 W hr0_6 hc0_6 hr1_0 hc1_0 o0_0 o0_1 o0_2 o0_3 o0_4 o0_5 o0_6 o1_0 o1_1 o1_2 o1_3 o1_4 w2 w3).mono fun e W' ⟨he, bel⟩ => ?_
  subst he
  exact ⟨_, rfl, _, _, _, [], _, [], hW', trodAll_mk1 (shut_bool Try.underlying4 _), (trodAll_cons_mk (Below.trod laidOut (by kernel_rfl) (of_decide_eq_true (by kernel_rfl)) k0 bel lt0) (trodAll_cons_mk (Below.trod laidOut (by kernel_rfl) (of_decide_eq_true (by kernel_rfl)) k1 bel lt1) (trodAll_cons_mk (shut_int Try.underlying3 w2) (trodAll_cons_mk (shut_int Try.underlying3 w3) trodAll_mk0)))), rfl, bel.frame _, fun h => by cases h⟩
theorem over : Rows.accountSellsRow.holds Try.pinned (OpenSpec.ofChange Rows.accountSellsSpec) :=
  OpenClaim.holds_of_wide 3 Try.f3 rfl rfl rfl rfl rfl rfl rfl ⟨rfl, rfl, rfl, rfl, rfl⟩ rfl rfl rfl rfl rfl (by kernel_rfl) Try.func3 (by kernel_rfl)
    (of_decide_eq_true (by kernel_rfl)) (by unfold Func.isWrapper; first | (rw [if_pos (by decide +kernel)]; kernel_rfl) | (rw [if_neg (by decide +kernel)]; exact ⟨rfl, rfl⟩))
    (fun os started H enc _ => lifted os started H enc)
theorem proved : Rows.AccountSellsSaid := over
#print axioms proved
end Go.Proofs.Ytojnaalncgofhaa.accountSells
namespace Go.Proofs.Ytojnaalncgofhaa
/-- The row, under a short name, for the claim. -/
theorem accountSells_holds : Rows.AccountSellsSaid := accountSells.proved
end Go.Proofs.Ytojnaalncgofhaa
