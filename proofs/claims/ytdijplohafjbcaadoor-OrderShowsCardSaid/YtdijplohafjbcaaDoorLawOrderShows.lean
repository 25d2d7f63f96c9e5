-- written by this session's program wip/xp/xprint.py (it drives the kit's print and adds to it)
import Derived.Test.YtdijplohafjbcaaDoorRows
import Derived.LaidMore
import Derived.Lay
import Derived.SevenTiedAt
import Derived.Stop.Joined
import Derived.LaidLaws
import Derived.LaidHandle
import Derived.MakeChecks
import Derived.Lib.LaidTab
import Derived.Lib.LaidU8T
import Derived.Test.YtdijplohafjbcaaDoorTie
import Derived.Test.YtdijplohafjbcaaDoorCards
import Derived.Test.YtdijplohafjbcaaDoorPOrderShowsxL
import Derived.Test.YtdijplohafjbcaaDoorPureOrderShows
import Derived.Test.YtdijplohafjbcaaDoorXOpen
import Derived.WalkKit
import Derived.ProofKit
import Derived.OpenShut
import Derived.ShutString
import Derived.ChangeOld
import Derived.Below
import Derived.SizedLaws
namespace Go.Proofs.YtdijplohafjbcaaDoor.orderShows
open Go.ChangeShapes Go.WideShapes Go.ChangeAt Go.RowKit Go.Proofs.YtdijplohafjbcaaDoorW.PrintWords Go.Proofs.YtdijplohafjbcaaDoorW.XOpen Go.Proofs.YtdijplohafjbcaaDoor.POrderShows
open Go.ChangeMaps (open_string shut_string)
set_option linter.unusedVariables false
set_option linter.unusedSimpArgs false
theorem own : ownKnob Tryd.prog.godebug = none := by kernel_rfl
theorem laidOut : laidOutB Tryd.prog = true := by kernel_rfl
theorem openA_31 {H : Type} {enc : TypeId × Value → H} {w : World} {base : Nat} {spare : Nat → Bool} {held : Bool} {fuel : Nat} {cs : List Value} {x : DataW H × List MemPlace} (h : DataW.trod enc Tryd.prog w base spare held fuel 31 cs = some x) (hw : ∀ n ∈ x.1.weights Tryd.prog 31, n ≤ reachBytes) : ∃ (an0 : Int) (an1 : Int) (an2 : Int) (an3 : Int) (an4 : Int) (an5 : ByteArray) (an6 : Int), cs = [.int .i64 an0, .int .i64 an1, .int .i64 an2, .int .i64 an3, .int .i64 an4, .string an5, .int .i64 an6] ∧ (Lit.int .i64 an0).wf = true ∧ (Lit.int .i64 an1).wf = true ∧ (Lit.int .i64 an2).wf = true ∧ (Lit.int .i64 an3).wf = true ∧ (Lit.int .i64 an4).wf = true ∧ an5.size ≤ 140737488351232 ∧ (Lit.int .i64 an6).wf = true := by
  obtain ⟨hl0, n, hp⟩ := parts_struct Tryd.underlying31 h hw
  have hl : cs.length = 7 := hl0.trans (by kernel_rfl)
  obtain ⟨y0, g0, w0⟩ := hp 0 _ rfl
  have h0 : DataW.trod enc Tryd.prog w base spare held n 3 ((cs.drop 0).take 1) = some y0 := fit (t := 3) (s := 1) (by kernel_rfl) g0
  obtain ⟨y1, g1, w1⟩ := hp 1 _ rfl
  have h1 : DataW.trod enc Tryd.prog w base spare held n 3 ((cs.drop 1).take 1) = some y1 := fit (t := 3) (s := 1) (by kernel_rfl) g1
  obtain ⟨y2, g2, w2⟩ := hp 2 _ rfl
  have h2 : DataW.trod enc Tryd.prog w base spare held n 3 ((cs.drop 2).take 1) = some y2 := fit (t := 3) (s := 1) (by kernel_rfl) g2
  obtain ⟨y3, g3, w3⟩ := hp 3 _ rfl
  have h3 : DataW.trod enc Tryd.prog w base spare held n 3 ((cs.drop 3).take 1) = some y3 := fit (t := 3) (s := 1) (by kernel_rfl) g3
  obtain ⟨y4, g4, w4⟩ := hp 4 _ rfl
  have h4 : DataW.trod enc Tryd.prog w base spare held n 3 ((cs.drop 4).take 1) = some y4 := fit (t := 3) (s := 1) (by kernel_rfl) g4
  obtain ⟨y5, g5, w5⟩ := hp 5 _ rfl
  have h5 : DataW.trod enc Tryd.prog w base spare held n 9 ((cs.drop 5).take 1) = some y5 := fit (t := 9) (s := 1) (by kernel_rfl) g5
  obtain ⟨y6, g6, w6⟩ := hp 6 _ rfl
  have h6 : DataW.trod enc Tryd.prog w base spare held n 3 ((cs.drop 6).take 1) = some y6 := fit (t := 3) (s := 1) (by kernel_rfl) g6
  obtain ⟨a0, e0, o0⟩ := (opens_int Tryd.underlying3) H enc w base spare held n _ _ h0 w0
  replace e0 : (cs.drop 0).take 1 = [.int .i64 a0] := e0
  obtain ⟨a1, e1, o1⟩ := (opens_int Tryd.underlying3) H enc w base spare held n _ _ h1 w1
  replace e1 : (cs.drop 1).take 1 = [.int .i64 a1] := e1
  obtain ⟨a2, e2, o2⟩ := (opens_int Tryd.underlying3) H enc w base spare held n _ _ h2 w2
  replace e2 : (cs.drop 2).take 1 = [.int .i64 a2] := e2
  obtain ⟨a3, e3, o3⟩ := (opens_int Tryd.underlying3) H enc w base spare held n _ _ h3 w3
  replace e3 : (cs.drop 3).take 1 = [.int .i64 a3] := e3
  obtain ⟨a4, e4, o4⟩ := (opens_int Tryd.underlying3) H enc w base spare held n _ _ h4 w4
  replace e4 : (cs.drop 4).take 1 = [.int .i64 a4] := e4
  obtain ⟨a5, e5, o5⟩ := (opens_string Tryd.underlying9) H enc w base spare held n _ _ h5 w5
  replace e5 : (cs.drop 5).take 1 = [.string a5] := e5
  obtain ⟨a6, e6, o6⟩ := (opens_int Tryd.underlying3) H enc w base spare held n _ _ h6 w6
  replace e6 : (cs.drop 6).take 1 = [.int .i64 a6] := e6
  have e : cs = _ := (cut_one cs 0 1 1 rfl).trans (congrArg (fun z_ => (cs.drop 0).take 1 ++ z_) ((cut_one cs 1 1 2 rfl).trans (congrArg (fun z_ => (cs.drop 1).take 1 ++ z_) ((cut_one cs 2 1 3 rfl).trans (congrArg (fun z_ => (cs.drop 2).take 1 ++ z_) ((cut_one cs 3 1 4 rfl).trans (congrArg (fun z_ => (cs.drop 3).take 1 ++ z_) ((cut_one cs 4 1 5 rfl).trans (congrArg (fun z_ => (cs.drop 4).take 1 ++ z_) ((cut_one cs 5 1 6 rfl).trans (congrArg (fun z_ => (cs.drop 5).take 1 ++ z_) (cut_last cs 6 1 (by omega)))))))))))))
  rw [e0, e1, e2, e3, e4, e5, e6] at e
  exact ⟨a0, a1, a2, a3, a4, a5, a6, e, o0, o1, o2, o3, o4, o5, o6⟩
theorem tab_of_vars {W : World} {ps : List MemPlace} {d1 d2 : String × DataW Unit} {rest : List (String × DataW Unit)} (h : DataW.LaidVars Tryd.prog W (d1 :: d2 :: ("internal/strconv.uint64pow10", Lib.tabData .u64 Lib.pow10Tab) :: rest) ps) : Lib.TabIs Tryd.prog W "internal/strconv.uint64pow10" .u64 Lib.pow10Tab := by
  obtain ⟨_, _, _, _, _, _, _, _, _, _, h, _⟩ := h
  obtain ⟨_, _, _, _, _, _, _, _, _, _, h, _⟩ := h
  obtain ⟨g', t', cs, fuel, p, q, hg', ht', hvar, hd, _, _⟩ := h
  obtain rfl := Option.some.inj ((show Tryd.prog.globalNamed "internal/strconv.uint64pow10" = some 4 by kernel_rfl).symm.trans hg')
  obtain rfl := Option.some.inj ((show (Tryd.prog.globals[4]?).map (·.type) = some 119 by kernel_rfl).symm.trans ht')
  unfold Lib.TabIs
  rw [hvar, ← Lib.cells_of_tab Tryd.underlying119 Tryd.underlying102 (by kernel_rfl) (by kernel_rfl) hd]
theorem one_of_take {cs : List Value} {o : Nat} {v : Value} (h : (cs.drop o).take 1 = [v]) : cs[o]? = some v := by
  have := congrArg (·[0]?) h
  simpa [List.getElem?_take, List.getElem?_drop] using this
theorem form_cells {H : Type} {enc : TypeId × Value → H} {w : World} {base : Nat} {sp : Nat → Bool} {held : Bool} {fuel : Nat} {cs : List Value} {k : Int} {s : List UInt8} {a b c : Bool} {q : List MemPlace}
    (h : DataW.trod enc Tryd.prog w base sp held fuel 49 cs = some (.agg [.lit (.int .i64 k), .lit (.string s), .lit (.bool a), .lit (.bool b), .lit (.bool c)], q)) :
    cs[0]? = some (.int .i64 k) ∧ cs[1]? = some (.string ⟨s.toArray⟩) ∧ cs[2]? = some (.bool a) ∧ cs[3]? = some (.bool b) ∧ cs[4]? = some (.bool c) := by
  obtain ⟨xs, n, rfl, hx, hl, hxl, hall⟩ := DataW.trod_struct Tryd.underlying49 h
  have h0 : DataW.trod enc Tryd.prog w base sp held n 3 ((cs.drop 0).take (Tryd.prog.cellsOf 3)) = xs[0]? := hall 0 _ rfl
  have h1 : DataW.trod enc Tryd.prog w base sp held n 9 ((cs.drop 1).take (Tryd.prog.cellsOf 9)) = xs[1]? := hall 1 _ rfl
  have h2 : DataW.trod enc Tryd.prog w base sp held n 4 ((cs.drop 2).take (Tryd.prog.cellsOf 4)) = xs[2]? := hall 2 _ rfl
  have h3 : DataW.trod enc Tryd.prog w base sp held n 4 ((cs.drop 3).take (Tryd.prog.cellsOf 4)) = xs[3]? := hall 3 _ rfl
  have h4 : DataW.trod enc Tryd.prog w base sp held n 4 ((cs.drop 4).take (Tryd.prog.cellsOf 4)) = xs[4]? := hall 4 _ rfl
  match xs, hxl with
  | [x0, x1, x2, x3, x4], _ =>
    have hd := congrArg Prod.fst hx
    simp only [List.map_cons, List.map_nil, DataW.agg.injEq, List.cons.injEq, and_true] at hd
    obtain ⟨e0, e1, e2, e3, e4⟩ := hd
    rw [show Tryd.prog.cellsOf 3 = 1 by kernel_rfl] at h0
    rw [show Tryd.prog.cellsOf 9 = 1 by kernel_rfl] at h1
    rw [show Tryd.prog.cellsOf 4 = 1 by kernel_rfl] at h2 h3 h4
    obtain ⟨z, hc0, rfl, _⟩ := DataW.trod_int Tryd.underlying3 h0
    obtain ⟨t, hc1, rfl, _⟩ := DataW.trod_string Tryd.underlying9 h1
    obtain ⟨u2, hc2, rfl⟩ := DataW.trod_bool Tryd.underlying4 h2
    obtain ⟨u3, hc3, rfl⟩ := DataW.trod_bool Tryd.underlying4 h3
    obtain ⟨u4, hc4, rfl⟩ := DataW.trod_bool Tryd.underlying4 h4
    simp only [DataW.lit.injEq, Lit.int.injEq, Lit.string.injEq, Lit.bool.injEq, true_and] at e0 e1 e2 e3 e4
    subst e0 e1 e2 e3 e4
    exact ⟨one_of_take hc0, one_of_take hc1, one_of_take hc2, one_of_take hc3, one_of_take hc4⟩
theorem forms_read {W : World} (h : Lib.VarReads Tryd.prog W "vendmeter/order.forms" Rows.laid_vendmeter_order_forms) (i : Nat) (k : Int) (s : List UInt8) (a b c : Bool) (hi : i < 7)
    (hd : ([(1, [114, 101, 103, 105, 115, 116, 101, 114], false, false, false), (2, [115, 101, 108, 108], true, true, true), (3, [103, 114, 97, 110, 116], true, false, true), (4, [114, 101, 107, 101, 121], false, false, true), (5, [99, 104, 97, 114, 103, 101], true, true, false), (6, [107, 101, 121], false, false, false), (7, [116, 105, 99, 107], true, false, false)] : List (Int × List UInt8 × Bool × Bool × Bool))[i]? = some (k, s, a, b, c)) :
    W.cell? ⟨0, i * 5, none⟩ = some (.int .i64 k) ∧ W.cell? ⟨0, i * 5 + 1, none⟩ = some (.string ⟨s.toArray⟩) ∧ W.cell? ⟨0, i * 5 + 2, none⟩ = some (.bool a) ∧ W.cell? ⟨0, i * 5 + 3, none⟩ = some (.bool b) ∧ W.cell? ⟨0, i * 5 + 4, none⟩ = some (.bool c) := by
  obtain ⟨g, t, cs, fuel, p, hg, hty, hvar, hdd⟩ := h
  have hg' := hg
  obtain rfl := Option.some.inj ((show Tryd.prog.globalNamed "vendmeter/order.forms" = some 0 by kernel_rfl).symm.trans hg)
  obtain rfl := Option.some.inj ((show (Tryd.prog.globals[0]?).map (·.type) = some 50 by kernel_rfl).symm.trans hty)
  obtain ⟨fuel', d, q, hdi, he⟩ := Lib.array_elem Tryd.underlying50 hdd i hi
  rw [show Tryd.prog.cellsOf 49 = 5 by kernel_rfl] at he
  have hdx : d = .agg [.lit (.int .i64 k), .lit (.string s), .lit (.bool a), .lit (.bool b), .lit (.bool c)] := by
    have hc : i = 0 ∨ i = 1 ∨ i = 2 ∨ i = 3 ∨ i = 4 ∨ i = 5 ∨ i = 6 := by omega
    rcases hc with rfl | rfl | rfl | rfl | rfl | rfl | rfl <;> (
      obtain ⟨rfl, rfl, rfl, rfl, rfl⟩ : _ ∧ _ ∧ _ ∧ _ ∧ _ := by simpa using hd
      simpa using hdi.symm)
  subst hdx
  obtain ⟨c0, c1, c2, c3, c4⟩ := form_cells he
  simp only [List.getElem?_take, List.getElem?_drop] at c0 c1 c2 c3 c4
  refine ⟨?_, ?_, ?_, ?_, ?_⟩
  · rw [World.var?_cell hg' hvar (i * 5), ← Array.getElem?_toList]; simpa using c0
  · rw [World.var?_cell hg' hvar (i * 5 + 1), ← Array.getElem?_toList]; simpa using c1
  · rw [World.var?_cell hg' hvar (i * 5 + 2), ← Array.getElem?_toList]; simpa using c2
  · rw [World.var?_cell hg' hvar (i * 5 + 3), ← Array.getElem?_toList]; simpa using c3
  · rw [World.var?_cell hg' hvar (i * 5 + 4), ← Array.getElem?_toList]; simpa using c4
theorem laidW_of {W : World} (h : laidMetH Tryd.prog Rows.orderShowsRow.laid W) : POrderShows.LaidW W := by
  rw [MakeChecks.laidMetH_plain _ _ _ (by kernel_rfl)] at h
  have hf := Lib.laidMet.reads h (n := "vendmeter/order.forms") (d := Rows.laid_vendmeter_order_forms) (by repeat (first | exact .head _ | apply List.Mem.tail))
  refine ⟨fun i hi => ?_, ?_⟩
  · have hc : i = 0 ∨ i = 1 ∨ i = 2 ∨ i = 3 ∨ i = 4 ∨ i = 5 ∨ i = 6 := by omega
    rcases hc with rfl | rfl | rfl | rfl | rfl | rfl | rfl
    · exact forms_read hf 0 1 [114, 101, 103, 105, 115, 116, 101, 114] false false false (by decide) rfl
    · exact forms_read hf 1 2 [115, 101, 108, 108] true true true (by decide) rfl
    · exact forms_read hf 2 3 [103, 114, 97, 110, 116] true false true (by decide) rfl
    · exact forms_read hf 3 4 [114, 101, 107, 101, 121] false false true (by decide) rfl
    · exact forms_read hf 4 5 [99, 104, 97, 114, 103, 101] true true false (by decide) rfl
    · exact forms_read hf 5 6 [107, 101, 121] false false false (by decide) rfl
    · exact forms_read hf 6 7 [116, 105, 99, 107] true false false (by decide) rfl
  · obtain ⟨ps, h, _⟩ := h
    exact tab_of_vars h
set_option maxRecDepth 100000 in
theorem lifted (os : Os) (started : os.Started) (H : Type) (enc : TypeId × Value → H) :
    ReturnsInHanded {} Tryd.checked os 4 .any (fun w args => (Rows.orderShowsSpec.pre enc Tryd.prog Tryd.f4 Rows.orderShowsRow.domain false w args ∧ laidMetH Tryd.prog Rows.orderShowsRow.laid w) ∧ sizedMet enc Tryd.prog Tryd.f4 (OpenSpec.ofChange Rows.orderShowsSpec) false w args) (Rows.orderShowsSpec.post enc Tryd.prog Tryd.f4 false true false false) := by
  refine returnsInHanded_of_change_and (C := Tryd.checked) (X := fun w _ => laidMetH Tryd.prog Rows.orderShowsRow.laid w) (fun _ _ _ hh h => h.of_heap hh) own started (by kernel_rfl) Tryd.func4
    (ChangeSpec.witness_shaped (enc := enc) (C := Tryd.checked) (os := os) (X := fun w _ => laidMetH Tryd.prog Rows.orderShowsRow.laid w) false (World.laidAll Tryd.prog os Rows.orderShowsRow.laid) #[.agg #[.int .i64 0, .int .i64 0, .int .i64 0, .int .i64 0, .int .i64 0, .string ByteArray.empty, .int .i64 0]] 8 (World.laidAll_os _ _ _)
      (World.shaped_of_ZipB (by kernel_rfl) (by kernel_rfl)) (by kernel_rfl) (by kernel_rfl) (by kernel_rfl)
      (by rw [MakeChecks.laidMetH_plain _ _ _ (by kernel_rfl)]; exact laidMet_laidAll _ (by kernel_rfl) (by kernel_rfl))) ?_
  intro W base args ds gs before hval0 hW hcnd hsz0 hL _
  have hsz : (DataW.weightsEach Tryd.prog (Tryd.f4.params.toList ++ Rows.orderShowsSpec.plain.varTypes Tryd.prog) (ds ++ gs)).all (· ≤ reachBytes) = true := hsz0
  have hval : ∀ (j : Nat) t v, Tryd.f4.params[j]? = some t → args[j]? = some v → Value.okWide Tryd.prog W .any base t v := hval0
  have hW' := hW
  obtain ⟨p, q, hA0, hV, rfl, hfz, hnd⟩ := hW
  have hA : DataW.TrodAll enc Tryd.prog W 0 (fun _ => true) true Tryd.f4.params.toList args.toList ds p := hA0
  rw [Tryd.params4] at hA hval hsz
  obtain ⟨v0, vs0, d0, ds0, p0, q0, hargs, rfl, rfl, h0, r0⟩ := trodAll_cons hA
  obtain ⟨rfl, rfl, rfl⟩ := trodAll_nil r0
  obtain rfl : args = #[v0] := by cases args; simp_all
  obtain ⟨rfl, rfl⟩ := trodVars_none hV
  have k0 := h0
  have lt0 : ∀ x ∈ p0, x.block < W.heap.size := by obtain ⟨m, hm⟩ := k0; exact DataW.trod_lt m _ _ _ hm
  have hz0 := weight_of hsz (j := 0) rfl rfl
  obtain ⟨cs0, rfl⟩ := agg_of (.inl ⟨_, Tryd.underlying31⟩) (hval 0 31 v0 rfl rfl)
  obtain ⟨fu0, hf0⟩ := h0
  obtain ⟨a0_0, a0_1, a0_2, a0_3, a0_4, a0_5, a0_6, e0, o0_0, o0_1, o0_2, o0_3, o0_4, o0_5, o0_6⟩ := openA_31 hf0 hz0
  obtain rfl := toArray_of (cs := cs0) e0
  clear hA0 hval0 hsz0 hsz
  refine (POrderShows.vendmeterlaw_OrderShows.walk Pure.OrderShows a0_0 a0_1 a0_2 a0_3 a0_4 a0_5 a0_6 W (laidW_of hL)  o0_0 o0_1 o0_2 o0_3 o0_4 o0_5 o0_6).mono fun e W' ⟨he, bel⟩ => ?_
  subst he
  exact ⟨_, rfl, _, _, _, [], _, [], hW', trodAll_mk1 (shut_bool Tryd.underlying4 _), (trodAll_cons_mk (Below.trod laidOut (by kernel_rfl) (of_decide_eq_true (by kernel_rfl)) k0 bel lt0) trodAll_mk0), rfl, bel.frame _, fun h => by cases h⟩
theorem over : Rows.orderShowsRow.holds Tryd.pinned (OpenSpec.ofChange Rows.orderShowsSpec) :=
  OpenClaim.holds_of_wide 4 Tryd.f4 rfl rfl rfl rfl rfl rfl rfl ⟨rfl, rfl, rfl, rfl, rfl⟩ rfl rfl rfl rfl rfl (by kernel_rfl) Tryd.func4 (by kernel_rfl)
    (of_decide_eq_true (by kernel_rfl)) (by unfold Func.isWrapper; first | (rw [if_pos (by decide +kernel)]; kernel_rfl) | (rw [if_neg (by decide +kernel)]; exact ⟨rfl, rfl⟩))
    (fun os started H enc _ => lifted os started H enc)
theorem proved : Rows.OrderShowsCardSaid :=
  Claim7.holds_tied_plain_at .later [] Rows.orderShowsCard.laidKinds Rows.orderShowsCard.laidTests Rows.orderShowsCard.stood.harness Rows.orderShowsCard.stood.looks over (fun _ h => by cases h) (by kernel_rfl) (fun _ h => by cases h) orderShows_row_tie rfl ⟨rfl, rfl⟩ (by kernel_rfl) rfl
    (fun f fn hf hfn => by
      obtain rfl : f = 4 := Option.some.inj ((show Tryd.prog.funcNamed Rows.orderShowsRow.func = some 4 by kernel_rfl).symm.trans hf) |>.symm
      obtain rfl : fn = Tryd.f4 := (Option.some.inj (Tryd.func4.symm.trans hfn)).symm
      exact ⟨by kernel_rfl, fun j t ht => by
        rw [Tryd.params4] at ht
        have hall : (#[31].toList.all fun u => !Tryd.prog.wantsStandIn u) = true := by kernel_rfl
        have hm : t ∈ #[31].toList := Array.mem_toList_iff.2 (Array.mem_of_getElem? ht)
        exact (show Tryd.prog.wantsStandIn t = false by simpa using List.all_eq_true.1 hall t hm)⟩)
    (by kernel_rfl)
#print axioms proved
end Go.Proofs.YtdijplohafjbcaaDoor.orderShows
namespace Go.Proofs.YtdijplohafjbcaaDoor
/-- The row, under a short name, for the claim. -/
theorem orderShows_holds : Rows.OrderShowsCardSaid := orderShows.proved
end Go.Proofs.YtdijplohafjbcaaDoor
