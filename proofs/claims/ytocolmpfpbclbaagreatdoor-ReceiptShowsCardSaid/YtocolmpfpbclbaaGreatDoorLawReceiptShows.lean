-- written by this session's program wip/xp/xprint.py (it drives the kit's print and adds to it)
import Derived.Test.YtocolmpfpbclbaaGreatDoorRows
import Derived.LaidMore
import Derived.Lay
import Derived.SevenTiedAt
import Derived.Stop.Joined
import Derived.LaidLaws
import Derived.LaidHandle
import Derived.MakeChecks
import Derived.Lib.LaidTab
import Derived.Test.YtocolmpfpbclbaaGreatDoorTie
import Derived.Test.YtocolmpfpbclbaaGreatDoorCards
import Derived.Test.YtocolmpfpbclbaaGreatDoorPReceiptShowsxL
import Derived.Test.YtocolmpfpbclbaaGreatDoorPureReceiptShows
import Derived.Test.YtocolmpfpbclbaaGreatDoorXOpen
import Derived.WalkKit
import Derived.ProofKit
import Derived.OpenShut
import Derived.ShutString
import Derived.ChangeOld
import Derived.Below
import Derived.SizedLaws
namespace Go.Proofs.YtocolmpfpbclbaaGreatDoor.receiptShows
open Go.ChangeShapes Go.WideShapes Go.ChangeAt Go.RowKit Go.Proofs.YtocolmpfpbclbaaGreatDoorW.PrintWords Go.Proofs.YtocolmpfpbclbaaGreatDoorW.XOpen Go.Proofs.YtocolmpfpbclbaaGreatDoor.PReceiptShows
open Go.ChangeMaps (open_string shut_string)
set_option linter.unusedVariables false
set_option linter.unusedSimpArgs false
theorem own : ownKnob Tryz.prog.godebug = none := by kernel_rfl
theorem laidOut : laidOutB Tryz.prog = true := by kernel_rfl
theorem openA_23 {H : Type} {enc : TypeId × Value → H} {w : World} {base : Nat} {spare : Nat → Bool} {held : Bool} {fuel : Nat} {cs : List Value} {x : DataW H × List MemPlace} (h : DataW.trod enc Tryz.prog w base spare held fuel 23 cs = some x) (hw : ∀ n ∈ x.1.weights Tryz.prog 23, n ≤ reachBytes) : ∃ (an0 : Int) (an1 : Int) (an2 : Int) (an3 : Int) (an4 : Int) (an5 : Int) (an6 : Int), cs = [.int .i64 an0, .int .i64 an1, .int .i64 an2, .int .i64 an3, .int .i64 an4, .int .i64 an5, .int .i64 an6] ∧ (Lit.int .i64 an0).wf = true ∧ (Lit.int .i64 an1).wf = true ∧ (Lit.int .i64 an2).wf = true ∧ (Lit.int .i64 an3).wf = true ∧ (Lit.int .i64 an4).wf = true ∧ (Lit.int .i64 an5).wf = true ∧ (Lit.int .i64 an6).wf = true := by
  obtain ⟨hl0, n, hp⟩ := parts_struct Tryz.underlying23 h hw
  have hl : cs.length = 7 := hl0.trans (by kernel_rfl)
  obtain ⟨y0, g0, w0⟩ := hp 0 _ rfl
  have h0 : DataW.trod enc Tryz.prog w base spare held n 3 ((cs.drop 0).take 1) = some y0 := fit (t := 3) (s := 1) (by kernel_rfl) g0
  obtain ⟨y1, g1, w1⟩ := hp 1 _ rfl
  have h1 : DataW.trod enc Tryz.prog w base spare held n 3 ((cs.drop 1).take 1) = some y1 := fit (t := 3) (s := 1) (by kernel_rfl) g1
  obtain ⟨y2, g2, w2⟩ := hp 2 _ rfl
  have h2 : DataW.trod enc Tryz.prog w base spare held n 3 ((cs.drop 2).take 1) = some y2 := fit (t := 3) (s := 1) (by kernel_rfl) g2
  obtain ⟨y3, g3, w3⟩ := hp 3 _ rfl
  have h3 : DataW.trod enc Tryz.prog w base spare held n 3 ((cs.drop 3).take 1) = some y3 := fit (t := 3) (s := 1) (by kernel_rfl) g3
  obtain ⟨y4, g4, w4⟩ := hp 4 _ rfl
  have h4 : DataW.trod enc Tryz.prog w base spare held n 3 ((cs.drop 4).take 1) = some y4 := fit (t := 3) (s := 1) (by kernel_rfl) g4
  obtain ⟨y5, g5, w5⟩ := hp 5 _ rfl
  have h5 : DataW.trod enc Tryz.prog w base spare held n 3 ((cs.drop 5).take 1) = some y5 := fit (t := 3) (s := 1) (by kernel_rfl) g5
  obtain ⟨y6, g6, w6⟩ := hp 6 _ rfl
  have h6 : DataW.trod enc Tryz.prog w base spare held n 3 ((cs.drop 6).take 1) = some y6 := fit (t := 3) (s := 1) (by kernel_rfl) g6
  obtain ⟨a0, e0, o0⟩ := (opens_int Tryz.underlying3) H enc w base spare held n _ _ h0 w0
  replace e0 : (cs.drop 0).take 1 = [.int .i64 a0] := e0
  obtain ⟨a1, e1, o1⟩ := (opens_int Tryz.underlying3) H enc w base spare held n _ _ h1 w1
  replace e1 : (cs.drop 1).take 1 = [.int .i64 a1] := e1
  obtain ⟨a2, e2, o2⟩ := (opens_int Tryz.underlying3) H enc w base spare held n _ _ h2 w2
  replace e2 : (cs.drop 2).take 1 = [.int .i64 a2] := e2
  obtain ⟨a3, e3, o3⟩ := (opens_int Tryz.underlying3) H enc w base spare held n _ _ h3 w3
  replace e3 : (cs.drop 3).take 1 = [.int .i64 a3] := e3
  obtain ⟨a4, e4, o4⟩ := (opens_int Tryz.underlying3) H enc w base spare held n _ _ h4 w4
  replace e4 : (cs.drop 4).take 1 = [.int .i64 a4] := e4
  obtain ⟨a5, e5, o5⟩ := (opens_int Tryz.underlying3) H enc w base spare held n _ _ h5 w5
  replace e5 : (cs.drop 5).take 1 = [.int .i64 a5] := e5
  obtain ⟨a6, e6, o6⟩ := (opens_int Tryz.underlying3) H enc w base spare held n _ _ h6 w6
  replace e6 : (cs.drop 6).take 1 = [.int .i64 a6] := e6
  have e : cs = _ := (cut_one cs 0 1 1 rfl).trans (congrArg (fun z_ => (cs.drop 0).take 1 ++ z_) ((cut_one cs 1 1 2 rfl).trans (congrArg (fun z_ => (cs.drop 1).take 1 ++ z_) ((cut_one cs 2 1 3 rfl).trans (congrArg (fun z_ => (cs.drop 2).take 1 ++ z_) ((cut_one cs 3 1 4 rfl).trans (congrArg (fun z_ => (cs.drop 3).take 1 ++ z_) ((cut_one cs 4 1 5 rfl).trans (congrArg (fun z_ => (cs.drop 4).take 1 ++ z_) ((cut_one cs 5 1 6 rfl).trans (congrArg (fun z_ => (cs.drop 5).take 1 ++ z_) (cut_last cs 6 1 (by omega)))))))))))))
  rw [e0, e1, e2, e3, e4, e5, e6] at e
  exact ⟨a0, a1, a2, a3, a4, a5, a6, e, o0, o1, o2, o3, o4, o5, o6⟩
theorem openA_25 {H : Type} {enc : TypeId × Value → H} {w : World} {base : Nat} {spare : Nat → Bool} {held : Bool} {fuel : Nat} {cs : List Value} {x : DataW H × List MemPlace} (h : DataW.trod enc Tryz.prog w base spare held fuel 25 cs = some x) (hw : ∀ n ∈ x.1.weights Tryz.prog 25, n ≤ reachBytes) : ∃ (an0 : Int) (an1_0 : Int) (an1_1 : Int) (an1_2 : Int) (an1_3 : Int) (an1_4 : Int) (an1_5 : Int) (an1_6 : Int) (an2 : ByteArray), cs = [.int .i64 an0, .int .i64 an1_0, .int .i64 an1_1, .int .i64 an1_2, .int .i64 an1_3, .int .i64 an1_4, .int .i64 an1_5, .int .i64 an1_6, .string an2] ∧ (Lit.int .i64 an0).wf = true ∧ (Lit.int .i64 an1_0).wf = true ∧ (Lit.int .i64 an1_1).wf = true ∧ (Lit.int .i64 an1_2).wf = true ∧ (Lit.int .i64 an1_3).wf = true ∧ (Lit.int .i64 an1_4).wf = true ∧ (Lit.int .i64 an1_5).wf = true ∧ (Lit.int .i64 an1_6).wf = true ∧ an2.size ≤ 140737488351232 := by
  obtain ⟨hl0, n, hp⟩ := parts_struct Tryz.underlying25 h hw
  have hl : cs.length = 9 := hl0.trans (by kernel_rfl)
  obtain ⟨y0, g0, w0⟩ := hp 0 _ rfl
  have h0 : DataW.trod enc Tryz.prog w base spare held n 3 ((cs.drop 0).take 1) = some y0 := fit (t := 3) (s := 1) (by kernel_rfl) g0
  obtain ⟨y1, g1, w1⟩ := hp 1 _ rfl
  have h1 : DataW.trod enc Tryz.prog w base spare held n 23 ((cs.drop 1).take 7) = some y1 := fit (t := 23) (s := 7) (by kernel_rfl) g1
  obtain ⟨y2, g2, w2⟩ := hp 2 _ rfl
  have h2 : DataW.trod enc Tryz.prog w base spare held n 9 ((cs.drop 8).take 1) = some y2 := fit (t := 9) (s := 1) (by kernel_rfl) g2
  obtain ⟨a0, e0, o0⟩ := (opens_int Tryz.underlying3) H enc w base spare held n _ _ h0 w0
  replace e0 : (cs.drop 0).take 1 = [.int .i64 a0] := e0
  obtain ⟨a1_0, a1_1, a1_2, a1_3, a1_4, a1_5, a1_6, e1, o1_0, o1_1, o1_2, o1_3, o1_4, o1_5, o1_6⟩ := openA_23 h1 w1
  obtain ⟨a2, e2, o2⟩ := (opens_string Tryz.underlying9) H enc w base spare held n _ _ h2 w2
  replace e2 : (cs.drop 8).take 1 = [.string a2] := e2
  have e : cs = _ := (cut_one cs 0 1 1 rfl).trans (congrArg (fun z_ => (cs.drop 0).take 1 ++ z_) ((cut_one cs 1 7 8 rfl).trans (congrArg (fun z_ => (cs.drop 1).take 7 ++ z_) (cut_last cs 8 1 (by omega)))))
  rw [e0, e1, e2] at e
  exact ⟨a0, a1_0, a1_1, a1_2, a1_3, a1_4, a1_5, a1_6, a2, e, o0, o1_0, o1_1, o1_2, o1_3, o1_4, o1_5, o1_6, o2⟩
theorem tab_of_vars {W : World} {ps : List MemPlace} {d1 d2 : String × DataW Unit} {rest : List (String × DataW Unit)} (h : DataW.LaidVars Tryz.prog W (d1 :: d2 :: ("internal/strconv.uint64pow10", Lib.tabData .u64 Lib.pow10Tab) :: rest) ps) : Lib.TabIs Tryz.prog W "internal/strconv.uint64pow10" .u64 Lib.pow10Tab := by
  obtain ⟨_, _, _, _, _, _, _, _, _, _, h, _⟩ := h
  obtain ⟨_, _, _, _, _, _, _, _, _, _, h, _⟩ := h
  obtain ⟨g', t', cs, fuel, p, q, hg', ht', hvar, hd, _, _⟩ := h
  obtain rfl := Option.some.inj ((show Tryz.prog.globalNamed "internal/strconv.uint64pow10" = some 4 by kernel_rfl).symm.trans hg')
  obtain rfl := Option.some.inj ((show (Tryz.prog.globals[4]?).map (·.type) = some 168 by kernel_rfl).symm.trans ht')
  unfold Lib.TabIs
  rw [hvar, ← Lib.cells_of_tab Tryz.underlying168 Tryz.underlying92 (by kernel_rfl) (by kernel_rfl) hd]
theorem laidW_of {W : World} (h : laidMetH Tryz.prog Rows.receiptShowsRow.laid W) : PReceiptShows.LaidW W := ⟨by
  rw [MakeChecks.laidMetH_plain _ _ _ (by kernel_rfl)] at h
  obtain ⟨ps, h, _⟩ := h
  exact tab_of_vars h⟩
set_option maxRecDepth 100000 in
theorem lifted (os : Os) (started : os.Started) (H : Type) (enc : TypeId × Value → H) :
    ReturnsInHanded {} Tryz.checked os 3 .any (fun w args => (Rows.receiptShowsSpec.pre enc Tryz.prog Tryz.f3 Rows.receiptShowsRow.domain false w args ∧ laidMetH Tryz.prog Rows.receiptShowsRow.laid w) ∧ sizedMet enc Tryz.prog Tryz.f3 (OpenSpec.ofChange Rows.receiptShowsSpec) false w args) (Rows.receiptShowsSpec.post enc Tryz.prog Tryz.f3 false true false false) := by
  refine returnsInHanded_of_change_and (C := Tryz.checked) (X := fun w _ => laidMetH Tryz.prog Rows.receiptShowsRow.laid w) (fun _ _ _ hh h => h.of_heap hh) own started (by kernel_rfl) Tryz.func3
    (ChangeSpec.witness_shaped (enc := enc) (C := Tryz.checked) (os := os) (X := fun w _ => laidMetH Tryz.prog Rows.receiptShowsRow.laid w) false (World.laidAll Tryz.prog os Rows.receiptShowsRow.laid) #[.agg #[.int .i64 0, .int .i64 0, .int .i64 0, .int .i64 0, .int .i64 0, .int .i64 0, .int .i64 0, .int .i64 0, .string ByteArray.empty]] 8 (World.laidAll_os _ _ _)
      (World.shaped_of_ZipB (by kernel_rfl) (by kernel_rfl)) (by kernel_rfl) (by kernel_rfl) (by kernel_rfl)
      (by rw [MakeChecks.laidMetH_plain _ _ _ (by kernel_rfl)]; exact laidMet_laidAll _ (by kernel_rfl) (by kernel_rfl))) ?_
  intro W base args ds gs before hval0 hW hcnd hsz0 hL _
  have hsz : (DataW.weightsEach Tryz.prog (Tryz.f3.params.toList ++ Rows.receiptShowsSpec.plain.varTypes Tryz.prog) (ds ++ gs)).all (· ≤ reachBytes) = true := hsz0
  have hval : ∀ (j : Nat) t v, Tryz.f3.params[j]? = some t → args[j]? = some v → Value.okWide Tryz.prog W .any base t v := hval0
  have hW' := hW
  obtain ⟨p, q, hA0, hV, rfl, hfz, hnd⟩ := hW
  have hA : DataW.TrodAll enc Tryz.prog W 0 (fun _ => true) true Tryz.f3.params.toList args.toList ds p := hA0
  rw [Tryz.params3] at hA hval hsz
  obtain ⟨v0, vs0, d0, ds0, p0, q0, hargs, rfl, rfl, h0, r0⟩ := trodAll_cons hA
  obtain ⟨rfl, rfl, rfl⟩ := trodAll_nil r0
  obtain rfl : args = #[v0] := by cases args; simp_all
  obtain ⟨rfl, rfl⟩ := trodVars_none hV
  have k0 := h0
  have lt0 : ∀ x ∈ p0, x.block < W.heap.size := by obtain ⟨m, hm⟩ := k0; exact DataW.trod_lt m _ _ _ hm
  have hz0 := weight_of hsz (j := 0) rfl rfl
  obtain ⟨cs0, rfl⟩ := agg_of (.inl ⟨_, Tryz.underlying25⟩) (hval 0 25 v0 rfl rfl)
  obtain ⟨fu0, hf0⟩ := h0
  obtain ⟨a0_0, a0_1, a0_2, a0_3, a0_4, a0_5, a0_6, a0_7, a0_8, e0, o0_0, o0_1, o0_2, o0_3, o0_4, o0_5, o0_6, o0_7, o0_8⟩ := openA_25 hf0 hz0
  obtain rfl := toArray_of (cs := cs0) e0
  clear hA0 hval0 hsz0 hsz
  refine (PReceiptShows.vendmeterlaw_ReceiptShows.walk Pure.ReceiptShows a0_0 a0_1 a0_2 a0_3 a0_4 a0_5 a0_6 a0_7 a0_8 W (laidW_of hL)  o0_0 o0_1 o0_2 o0_3 o0_4 o0_5 o0_6 o0_7 o0_8).mono fun e W' ⟨he, bel⟩ => ?_
  subst he
  exact ⟨_, rfl, _, _, _, [], _, [], hW', trodAll_mk1 (shut_bool Tryz.underlying4 _), (trodAll_cons_mk (Below.trod laidOut (by kernel_rfl) (of_decide_eq_true (by kernel_rfl)) k0 bel lt0) trodAll_mk0), rfl, bel.frame _, fun h => by cases h⟩
theorem over : Rows.receiptShowsRow.holds Tryz.pinned (OpenSpec.ofChange Rows.receiptShowsSpec) :=
  OpenClaim.holds_of_wide 3 Tryz.f3 rfl rfl rfl rfl rfl rfl rfl ⟨rfl, rfl, rfl, rfl, rfl⟩ rfl rfl rfl rfl rfl (by kernel_rfl) Tryz.func3 (by kernel_rfl)
    (of_decide_eq_true (by kernel_rfl)) (by unfold Func.isWrapper; first | (rw [if_pos (by decide +kernel)]; kernel_rfl) | (rw [if_neg (by decide +kernel)]; exact ⟨rfl, rfl⟩))
    (fun os started H enc _ => lifted os started H enc)
theorem proved : Rows.ReceiptShowsCardSaid :=
  Claim7.holds_tied_plain_at .later [] Rows.receiptShowsCard.laidKinds Rows.receiptShowsCard.laidTests Rows.receiptShowsCard.stood.harness Rows.receiptShowsCard.stood.looks over (fun _ h => by cases h) (by kernel_rfl) (fun _ h => by cases h) receiptShows_row_tie rfl ⟨rfl, rfl⟩ (by kernel_rfl) rfl
    (fun f fn hf hfn => by
      obtain rfl : f = 3 := Option.some.inj ((show Tryz.prog.funcNamed Rows.receiptShowsRow.func = some 3 by kernel_rfl).symm.trans hf) |>.symm
      obtain rfl : fn = Tryz.f3 := (Option.some.inj (Tryz.func3.symm.trans hfn)).symm
      exact ⟨by kernel_rfl, fun j t ht => by
        rw [Tryz.params3] at ht
        have hall : (#[25].toList.all fun u => !Tryz.prog.wantsStandIn u) = true := by kernel_rfl
        have hm : t ∈ #[25].toList := Array.mem_toList_iff.2 (Array.mem_of_getElem? ht)
        exact (show Tryz.prog.wantsStandIn t = false by simpa using List.all_eq_true.1 hall t hm)⟩)
    (by kernel_rfl)
#print axioms proved
end Go.Proofs.YtocolmpfpbclbaaGreatDoor.receiptShows
namespace Go.Proofs.YtocolmpfpbclbaaGreatDoor
/-- The row, under a short name, for the claim. -/
theorem receiptShows_holds : Rows.ReceiptShowsCardSaid := receiptShows.proved
end Go.Proofs.YtocolmpfpbclbaaGreatDoor
