-- written by this session's program wip/xp/xprint.py (it drives the kit's print and adds to it)
import Derived.Test.YtoookcmablnjfaaDoorRows
import Derived.LaidMore
import Derived.Lay
import Derived.SevenTiedAt
import Derived.Stop.Joined
import Derived.LaidLaws
import Derived.LaidHandle
import Derived.MakeChecks
import Derived.Lib.LaidTab
import Derived.Test.YtoookcmablnjfaaDoorTie
import Derived.Test.YtoookcmablnjfaaDoorCards
import Derived.Test.YtoookcmablnjfaaDoorPCodeShowsxL
import Derived.Test.YtoookcmablnjfaaDoorPureCodeShows
import Derived.Test.YtoookcmablnjfaaDoorXOpen
import Derived.WalkKit
import Derived.ProofKit
import Derived.OpenShut
import Derived.ShutString
import Derived.ChangeOld
import Derived.Below
import Derived.SizedLaws
namespace Go.Proofs.YtoookcmablnjfaaDoor.codeShows
open Go.ChangeShapes Go.WideShapes Go.ChangeAt Go.RowKit Go.Proofs.YtoookcmablnjfaaDoorW.PrintWords Go.Proofs.YtoookcmablnjfaaDoorW.XOpen Go.Proofs.YtoookcmablnjfaaDoor.PCodeShows
open Go.ChangeMaps (open_string shut_string)
set_option linter.unusedVariables false
set_option linter.unusedSimpArgs false
theorem own : ownKnob Tryd.prog.godebug = none := by kernel_rfl
theorem laidOut : laidOutB Tryd.prog = true := by kernel_rfl
theorem openA_42 {H : Type} {enc : TypeId × Value → H} {w : World} {base : Nat} {spare : Nat → Bool} {held : Bool} {fuel : Nat} {cs : List Value} {x : DataW H × List MemPlace} (h : DataW.trod enc Tryd.prog w base spare held fuel 42 cs = some x) (hw : ∀ n ∈ x.1.weights Tryd.prog 42, n ≤ reachBytes) : ∃ (an0 : Int) (an1 : Int), cs = [.int .i64 an0, .int .u64 an1] ∧ (Lit.int .i64 an0).wf = true ∧ (Lit.int .u64 an1).wf = true := by
  obtain ⟨hl0, n, hp⟩ := parts_struct Tryd.underlying42 h hw
  have hl : cs.length = 2 := hl0.trans (by kernel_rfl)
  obtain ⟨y0, g0, w0⟩ := hp 0 _ rfl
  have h0 : DataW.trod enc Tryd.prog w base spare held n 3 ((cs.drop 0).take 1) = some y0 := fit (t := 3) (s := 1) (by kernel_rfl) g0
  obtain ⟨y1, g1, w1⟩ := hp 1 _ rfl
  have h1 : DataW.trod enc Tryd.prog w base spare held n 40 ((cs.drop 1).take 1) = some y1 := fit (t := 40) (s := 1) (by kernel_rfl) g1
  obtain ⟨a0, e0, o0⟩ := (opens_int Tryd.underlying3) H enc w base spare held n _ _ h0 w0
  replace e0 : (cs.drop 0).take 1 = [.int .i64 a0] := e0
  obtain ⟨a1, e1, o1⟩ := (opens_int Tryd.underlying40) H enc w base spare held n _ _ h1 w1
  replace e1 : (cs.drop 1).take 1 = [.int .u64 a1] := e1
  have e : cs = _ := (cut_one cs 0 1 1 rfl).trans (congrArg (fun z_ => (cs.drop 0).take 1 ++ z_) (cut_last cs 1 1 (by omega)))
  rw [e0, e1] at e
  exact ⟨a0, a1, e, o0, o1⟩
theorem openA_44 {H : Type} {enc : TypeId × Value → H} {w : World} {base : Nat} {spare : Nat → Bool} {held : Bool} {fuel : Nat} {cs : List Value} {x : DataW H × List MemPlace} (h : DataW.trod enc Tryd.prog w base spare held fuel 44 cs = some x) (hw : ∀ n ∈ x.1.weights Tryd.prog 44, n ≤ reachBytes) : ∃ (an0 : Int) (an1 : Int) (an2 : Int) (an3_0 : Int) (an3_1 : Int) (an4 : Int) (an5 : Int), cs = [.int .i64 an0, .int .i64 an1, .int .i64 an2, .int .i64 an3_0, .int .u64 an3_1, .int .i64 an4, .int .i64 an5] ∧ (Lit.int .i64 an0).wf = true ∧ (Lit.int .i64 an1).wf = true ∧ (Lit.int .i64 an2).wf = true ∧ (Lit.int .i64 an3_0).wf = true ∧ (Lit.int .u64 an3_1).wf = true ∧ (Lit.int .i64 an4).wf = true ∧ (Lit.int .i64 an5).wf = true := by
  obtain ⟨hl0, n, hp⟩ := parts_struct Tryd.underlying44 h hw
  have hl : cs.length = 7 := hl0.trans (by kernel_rfl)
  obtain ⟨y0, g0, w0⟩ := hp 0 _ rfl
  have h0 : DataW.trod enc Tryd.prog w base spare held n 3 ((cs.drop 0).take 1) = some y0 := fit (t := 3) (s := 1) (by kernel_rfl) g0
  obtain ⟨y1, g1, w1⟩ := hp 1 _ rfl
  have h1 : DataW.trod enc Tryd.prog w base spare held n 3 ((cs.drop 1).take 1) = some y1 := fit (t := 3) (s := 1) (by kernel_rfl) g1
  obtain ⟨y2, g2, w2⟩ := hp 2 _ rfl
  have h2 : DataW.trod enc Tryd.prog w base spare held n 3 ((cs.drop 2).take 1) = some y2 := fit (t := 3) (s := 1) (by kernel_rfl) g2
  obtain ⟨y3, g3, w3⟩ := hp 3 _ rfl
  have h3 : DataW.trod enc Tryd.prog w base spare held n 42 ((cs.drop 3).take 2) = some y3 := fit (t := 42) (s := 2) (by kernel_rfl) g3
  obtain ⟨y4, g4, w4⟩ := hp 4 _ rfl
  have h4 : DataW.trod enc Tryd.prog w base spare held n 3 ((cs.drop 5).take 1) = some y4 := fit (t := 3) (s := 1) (by kernel_rfl) g4
  obtain ⟨y5, g5, w5⟩ := hp 5 _ rfl
  have h5 : DataW.trod enc Tryd.prog w base spare held n 3 ((cs.drop 6).take 1) = some y5 := fit (t := 3) (s := 1) (by kernel_rfl) g5
  obtain ⟨a0, e0, o0⟩ := (opens_int Tryd.underlying3) H enc w base spare held n _ _ h0 w0
  replace e0 : (cs.drop 0).take 1 = [.int .i64 a0] := e0
  obtain ⟨a1, e1, o1⟩ := (opens_int Tryd.underlying3) H enc w base spare held n _ _ h1 w1
  replace e1 : (cs.drop 1).take 1 = [.int .i64 a1] := e1
  obtain ⟨a2, e2, o2⟩ := (opens_int Tryd.underlying3) H enc w base spare held n _ _ h2 w2
  replace e2 : (cs.drop 2).take 1 = [.int .i64 a2] := e2
  obtain ⟨a3_0, a3_1, e3, o3_0, o3_1⟩ := openA_42 h3 w3
  obtain ⟨a4, e4, o4⟩ := (opens_int Tryd.underlying3) H enc w base spare held n _ _ h4 w4
  replace e4 : (cs.drop 5).take 1 = [.int .i64 a4] := e4
  obtain ⟨a5, e5, o5⟩ := (opens_int Tryd.underlying3) H enc w base spare held n _ _ h5 w5
  replace e5 : (cs.drop 6).take 1 = [.int .i64 a5] := e5
  have e : cs = _ := (cut_one cs 0 1 1 rfl).trans (congrArg (fun z_ => (cs.drop 0).take 1 ++ z_) ((cut_one cs 1 1 2 rfl).trans (congrArg (fun z_ => (cs.drop 1).take 1 ++ z_) ((cut_one cs 2 1 3 rfl).trans (congrArg (fun z_ => (cs.drop 2).take 1 ++ z_) ((cut_one cs 3 2 5 rfl).trans (congrArg (fun z_ => (cs.drop 3).take 2 ++ z_) ((cut_one cs 5 1 6 rfl).trans (congrArg (fun z_ => (cs.drop 5).take 1 ++ z_) (cut_last cs 6 1 (by omega)))))))))))
  rw [e0, e1, e2, e3, e4, e5] at e
  exact ⟨a0, a1, a2, a3_0, a3_1, a4, a5, e, o0, o1, o2, o3_0, o3_1, o4, o5⟩
theorem tab_of_vars {W : World} {ps : List MemPlace} {d1 d2 : String × DataW Unit} {rest : List (String × DataW Unit)} (h : DataW.LaidVars Tryd.prog W (d1 :: d2 :: ("internal/strconv.uint64pow10", Lib.tabData .u64 Lib.pow10Tab) :: rest) ps) : Lib.TabIs Tryd.prog W "internal/strconv.uint64pow10" .u64 Lib.pow10Tab := by
  obtain ⟨_, _, _, _, _, _, _, _, _, _, h, _⟩ := h
  obtain ⟨_, _, _, _, _, _, _, _, _, _, h, _⟩ := h
  obtain ⟨g', t', cs, fuel, p, q, hg', ht', hvar, hd, _, _⟩ := h
  obtain rfl := Option.some.inj ((show Tryd.prog.globalNamed "internal/strconv.uint64pow10" = some 5 by kernel_rfl).symm.trans hg')
  obtain rfl := Option.some.inj ((show (Tryd.prog.globals[5]?).map (·.type) = some 192 by kernel_rfl).symm.trans ht')
  unfold Lib.TabIs
  rw [hvar, ← Lib.cells_of_tab Tryd.underlying192 Tryd.underlying40 (by kernel_rfl) (by kernel_rfl) hd]
theorem laidW_of {W : World} (h : laidMetH Tryd.prog Rows.codeShowsRow.laid W) : PCodeShows.LaidW W := ⟨by
  rw [MakeChecks.laidMetH_plain _ _ _ (by kernel_rfl)] at h
  obtain ⟨ps, h, _⟩ := h
  exact tab_of_vars h⟩
set_option maxRecDepth 100000 in
theorem lifted (os : Os) (started : os.Started) (H : Type) (enc : TypeId × Value → H) :
    ReturnsInHanded {} Tryd.checked os 8 .any (fun w args => (Rows.codeShowsSpec.pre enc Tryd.prog Tryd.f8 Rows.codeShowsRow.domain false w args ∧ laidMetH Tryd.prog Rows.codeShowsRow.laid w) ∧ sizedMet enc Tryd.prog Tryd.f8 (OpenSpec.ofChange Rows.codeShowsSpec) false w args) (Rows.codeShowsSpec.post enc Tryd.prog Tryd.f8 false true false false) := by
  refine returnsInHanded_of_change_and (C := Tryd.checked) (X := fun w _ => laidMetH Tryd.prog Rows.codeShowsRow.laid w) (fun _ _ _ hh h => h.of_heap hh) own started (by kernel_rfl) Tryd.func8
    (ChangeSpec.witness_shaped (enc := enc) (C := Tryd.checked) (os := os) (X := fun w _ => laidMetH Tryd.prog Rows.codeShowsRow.laid w) false (World.laidAll Tryd.prog os Rows.codeShowsRow.laid) #[.agg #[.int .i64 0, .int .i64 0, .int .i64 0, .int .i64 0, .int .u64 0, .int .i64 0, .int .i64 0]] 8 (World.laidAll_os _ _ _)
      (World.shaped_of_ZipB (by kernel_rfl) (by kernel_rfl)) (by kernel_rfl) (by kernel_rfl) (by kernel_rfl)
      (by rw [MakeChecks.laidMetH_plain _ _ _ (by kernel_rfl)]; exact laidMet_laidAll _ (by kernel_rfl) (by kernel_rfl))) ?_
  intro W base args ds gs before hval0 hW hcnd hsz0 hL _
  have hsz : (DataW.weightsEach Tryd.prog (Tryd.f8.params.toList ++ Rows.codeShowsSpec.plain.varTypes Tryd.prog) (ds ++ gs)).all (· ≤ reachBytes) = true := hsz0
  have hval : ∀ (j : Nat) t v, Tryd.f8.params[j]? = some t → args[j]? = some v → Value.okWide Tryd.prog W .any base t v := hval0
  have hW' := hW
  obtain ⟨p, q, hA0, hV, rfl, hfz, hnd⟩ := hW
  have hA : DataW.TrodAll enc Tryd.prog W 0 (fun _ => true) true Tryd.f8.params.toList args.toList ds p := hA0
  rw [Tryd.params8] at hA hval hsz
  obtain ⟨v0, vs0, d0, ds0, p0, q0, hargs, rfl, rfl, h0, r0⟩ := trodAll_cons hA
  obtain ⟨rfl, rfl, rfl⟩ := trodAll_nil r0
  obtain rfl : args = #[v0] := by cases args; simp_all
  obtain ⟨rfl, rfl⟩ := trodVars_none hV
  have k0 := h0
  have lt0 : ∀ x ∈ p0, x.block < W.heap.size := by obtain ⟨m, hm⟩ := k0; exact DataW.trod_lt m _ _ _ hm
  have hz0 := weight_of hsz (j := 0) rfl rfl
  obtain ⟨cs0, rfl⟩ := agg_of (.inl ⟨_, Tryd.underlying44⟩) (hval 0 44 v0 rfl rfl)
  obtain ⟨fu0, hf0⟩ := h0
  obtain ⟨a0_0, a0_1, a0_2, a0_3, a0_4, a0_5, a0_6, e0, o0_0, o0_1, o0_2, o0_3, o0_4, o0_5, o0_6⟩ := openA_44 hf0 hz0
  obtain rfl := toArray_of (cs := cs0) e0
  clear hA0 hval0 hsz0 hsz
  refine (PCodeShows.vendmeterlaw_CodeShows.walk Pure.CodeShows a0_0 a0_1 a0_2 a0_3 a0_4 a0_5 a0_6 W (laidW_of hL)  o0_0 o0_1 o0_2 o0_3 o0_4 o0_5 o0_6).mono fun e W' ⟨he, bel⟩ => ?_
  subst he
  exact ⟨_, rfl, _, _, _, [], _, [], hW', trodAll_mk1 (shut_bool Tryd.underlying4 _), (trodAll_cons_mk (Below.trod laidOut (by kernel_rfl) (of_decide_eq_true (by kernel_rfl)) k0 bel lt0) trodAll_mk0), rfl, bel.frame _, fun h => by cases h⟩
theorem over : Rows.codeShowsRow.holds Tryd.pinned (OpenSpec.ofChange Rows.codeShowsSpec) :=
  OpenClaim.holds_of_wide 8 Tryd.f8 rfl rfl rfl rfl rfl rfl rfl ⟨rfl, rfl, rfl, rfl, rfl⟩ rfl rfl rfl rfl rfl (by kernel_rfl) Tryd.func8 (by kernel_rfl)
    (of_decide_eq_true (by kernel_rfl)) (by unfold Func.isWrapper; first | (rw [if_pos (by decide +kernel)]; kernel_rfl) | (rw [if_neg (by decide +kernel)]; exact ⟨rfl, rfl⟩))
    (fun os started H enc _ => lifted os started H enc)
theorem proved : Rows.CodeShowsCardSaid :=
  Claim7.holds_tied_plain_at .later [] Rows.codeShowsCard.laidKinds Rows.codeShowsCard.laidTests Rows.codeShowsCard.stood.harness Rows.codeShowsCard.stood.looks over (fun _ h => by cases h) (by kernel_rfl) (fun _ h => by cases h) codeShows_row_tie rfl ⟨rfl, rfl⟩ (by kernel_rfl) rfl
    (fun f fn hf hfn => by
      obtain rfl : f = 8 := Option.some.inj ((show Tryd.prog.funcNamed Rows.codeShowsRow.func = some 8 by kernel_rfl).symm.trans hf) |>.symm
      obtain rfl : fn = Tryd.f8 := (Option.some.inj (Tryd.func8.symm.trans hfn)).symm
      exact ⟨by kernel_rfl, fun j t ht => by
        rw [Tryd.params8] at ht
        have hall : (#[44].toList.all fun u => !Tryd.prog.wantsStandIn u) = true := by kernel_rfl
        have hm : t ∈ #[44].toList := Array.mem_toList_iff.2 (Array.mem_of_getElem? ht)
        exact (show Tryd.prog.wantsStandIn t = false by simpa using List.all_eq_true.1 hall t hm)⟩)
    (by kernel_rfl)
#print axioms proved
end Go.Proofs.YtoookcmablnjfaaDoor.codeShows
namespace Go.Proofs.YtoookcmablnjfaaDoor
/-- The row, under a short name, for the claim. -/
theorem codeShows_holds : Rows.CodeShowsCardSaid := codeShows.proved
end Go.Proofs.YtoookcmablnjfaaDoor
