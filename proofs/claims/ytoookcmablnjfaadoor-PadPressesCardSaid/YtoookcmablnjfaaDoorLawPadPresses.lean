-- written by this session's program wip/xp/xprint.py (it drives the kit's print and adds to it)
import Derived.Test.YtoookcmablnjfaaDoorRows
import Derived.LaidMore
import Derived.Lay
import Derived.SevenTiedAt
import Derived.Stop.Joined
import Derived.LaidLaws
import Derived.LaidHandle
import Derived.MakeChecks
import Derived.Lib.LaidTab
import Derived.Test.YtoookcmablnjfaaDoorTie
import Derived.Test.YtoookcmablnjfaaDoorCards
import Derived.Test.YtoookcmablnjfaaDoorPPadPressesxL
import Derived.Test.YtoookcmablnjfaaDoorPurePadPresses
import Derived.Test.YtoookcmablnjfaaDoorXOpen
import Derived.WalkKit
import Derived.ProofKit
import Derived.OpenShut
import Derived.ShutString
import Derived.ChangeOld
import Derived.Below
import Derived.SizedLaws
namespace Go.Proofs.YtoookcmablnjfaaDoor.padPresses
open Go.ChangeShapes Go.WideShapes Go.ChangeAt Go.RowKit Go.Proofs.YtoookcmablnjfaaDoorW.PrintWords Go.Proofs.YtoookcmablnjfaaDoorW.XOpen Go.Proofs.YtoookcmablnjfaaDoor.PPadPresses
open Go.ChangeMaps (open_string shut_string)
set_option linter.unusedVariables false
set_option linter.unusedSimpArgs false
theorem own : ownKnob Tryd.prog.godebug = none := by kernel_rfl
theorem laidOut : laidOutB Tryd.prog = true := by kernel_rfl
theorem openA_33 {H : Type} {enc : TypeId × Value → H} {w : World} {base : Nat} {spare : Nat → Bool} {held : Bool} {fuel : Nat} {cs : List Value} {x : DataW H × List MemPlace} (h : DataW.trod enc Tryd.prog w base spare held fuel 33 cs = some x) (hw : ∀ n ∈ x.1.weights Tryd.prog 33, n ≤ reachBytes) : ∃ (an0 : ByteArray) (an1 : Bool), cs = [.string an0, .bool an1] ∧ an0.size ≤ 140737488351232 ∧ True := by
  obtain ⟨hl0, n, hp⟩ := parts_struct Tryd.underlying33 h hw
  have hl : cs.length = 2 := hl0.trans (by kernel_rfl)
  obtain ⟨y0, g0, w0⟩ := hp 0 _ rfl
  have h0 : DataW.trod enc Tryd.prog w base spare held n 9 ((cs.drop 0).take 1) = some y0 := fit (t := 9) (s := 1) (by kernel_rfl) g0
  obtain ⟨y1, g1, w1⟩ := hp 1 _ rfl
  have h1 : DataW.trod enc Tryd.prog w base spare held n 4 ((cs.drop 1).take 1) = some y1 := fit (t := 4) (s := 1) (by kernel_rfl) g1
  obtain ⟨a0, e0, o0⟩ := (opens_string Tryd.underlying9) H enc w base spare held n _ _ h0 w0
  replace e0 : (cs.drop 0).take 1 = [.string a0] := e0
  obtain ⟨a1, e1, o1⟩ := (opens_bool Tryd.underlying4) H enc w base spare held n _ _ h1 w1
  replace e1 : (cs.drop 1).take 1 = [.bool a1] := e1
  have e : cs = _ := (cut_one cs 0 1 1 rfl).trans (congrArg (fun z_ => (cs.drop 0).take 1 ++ z_) (cut_last cs 1 1 (by omega)))
  rw [e0, e1] at e
  exact ⟨a0, a1, e, o0, o1⟩
set_option maxRecDepth 100000 in
theorem lifted (os : Os) (started : os.Started) (H : Type) (enc : TypeId × Value → H) :
    ReturnsInHanded {} Tryd.checked os 6 .any (fun w args => (Rows.padPressesSpec.pre enc Tryd.prog Tryd.f6 Rows.padPressesRow.domain false w args ∧ laidMetH Tryd.prog Rows.padPressesRow.laid w) ∧ sizedMet enc Tryd.prog Tryd.f6 (OpenSpec.ofChange Rows.padPressesSpec) false w args) (Rows.padPressesSpec.post enc Tryd.prog Tryd.f6 false true false false) := by
  refine returnsInHanded_of_change_and (C := Tryd.checked) (X := fun w _ => laidMetH Tryd.prog Rows.padPressesRow.laid w) (fun _ _ _ hh h => h.of_heap hh) own started (by kernel_rfl) Tryd.func6
    (ChangeSpec.witness_shaped (enc := enc) (C := Tryd.checked) (os := os) (X := fun w _ => laidMetH Tryd.prog Rows.padPressesRow.laid w) false (World.laidAll Tryd.prog os Rows.padPressesRow.laid) #[.agg #[.string ByteArray.empty, .bool false], .int .i32 0] 8 (World.laidAll_os _ _ _)
      (World.shaped_of_ZipB (by kernel_rfl) (by kernel_rfl)) (by kernel_rfl) (by kernel_rfl) (by kernel_rfl)
      (by rw [MakeChecks.laidMetH_plain _ _ _ (by kernel_rfl)]; exact laidMet_laidAll _ (by kernel_rfl) (by kernel_rfl))) ?_
  intro W base args ds gs before hval0 hW hcnd hsz0 hL _
  have hsz : (DataW.weightsEach Tryd.prog (Tryd.f6.params.toList ++ Rows.padPressesSpec.plain.varTypes Tryd.prog) (ds ++ gs)).all (· ≤ reachBytes) = true := hsz0
  have hval : ∀ (j : Nat) t v, Tryd.f6.params[j]? = some t → args[j]? = some v → Value.okWide Tryd.prog W .any base t v := hval0
  have hW' := hW
  obtain ⟨p, q, hA0, hV, rfl, hfz, hnd⟩ := hW
  have hA : DataW.TrodAll enc Tryd.prog W 0 (fun _ => true) true Tryd.f6.params.toList args.toList ds p := hA0
  rw [Tryd.params6] at hA hval hsz
  obtain ⟨v0, vs0, d0, ds0, p0, q0, hargs, rfl, rfl, h0, r0⟩ := trodAll_cons hA
  obtain ⟨v1, vs1, d1, ds1, p1, q1, rfl, rfl, rfl, h1, r1⟩ := trodAll_cons r0
  obtain ⟨rfl, rfl, rfl⟩ := trodAll_nil r1
  obtain rfl : args = #[v0, v1] := by cases args; simp_all
  obtain ⟨rfl, rfl⟩ := trodVars_none hV
  have k0 := h0
  have lt0 : ∀ x ∈ p0, x.block < W.heap.size := by obtain ⟨m, hm⟩ := k0; exact DataW.trod_lt m _ _ _ hm
  have hz0 := weight_of hsz (j := 0) rfl rfl
  obtain ⟨cs0, rfl⟩ := agg_of (.inl ⟨_, Tryd.underlying33⟩) (hval 0 33 v0 rfl rfl)
  obtain ⟨fu0, hf0⟩ := h0
  obtain ⟨a0_0, a0_1, e0, o0_0, o0_1⟩ := openA_33 hf0 hz0
  obtain rfl := toArray_of (cs := cs0) e0
  obtain ⟨a1, rfl, rfl, rfl, w1⟩ := open_int Tryd.underlying21 (hval 1 21 v1 rfl rfl) h1
  clear hA0 hval0 hsz0 hsz
  refine (PPadPresses.vendmeterlaw_PadPresses.walk Pure.PadPresses a0_0 a0_1 a1 W  o0_0 w1).mono fun e W' ⟨he, bel⟩ => ?_
  subst he
  exact ⟨_, rfl, _, _, _, [], _, [], hW', trodAll_mk1 (shut_bool Tryd.underlying4 _), (trodAll_cons_mk (Below.trod laidOut (by kernel_rfl) (of_decide_eq_true (by kernel_rfl)) k0 bel lt0) (trodAll_cons_mk (shut_int Tryd.underlying21 w1) trodAll_mk0)), rfl, bel.frame _, fun h => by cases h⟩
theorem over : Rows.padPressesRow.holds Tryd.pinned (OpenSpec.ofChange Rows.padPressesSpec) :=
  OpenClaim.holds_of_wide 6 Tryd.f6 rfl rfl rfl rfl rfl rfl rfl ⟨rfl, rfl, rfl, rfl, rfl⟩ rfl rfl rfl rfl rfl (by kernel_rfl) Tryd.func6 (by kernel_rfl)
    (of_decide_eq_true (by kernel_rfl)) (by unfold Func.isWrapper; first | (rw [if_pos (by decide +kernel)]; kernel_rfl) | (rw [if_neg (by decide +kernel)]; exact ⟨rfl, rfl⟩))
    (fun os started H enc _ => lifted os started H enc)
theorem proved : Rows.PadPressesCardSaid :=
  Claim7.holds_tied_plain_at .later [] Rows.padPressesCard.laidKinds Rows.padPressesCard.laidTests Rows.padPressesCard.stood.harness Rows.padPressesCard.stood.looks over (fun _ h => by cases h) (by kernel_rfl) (fun _ h => by cases h) padPresses_row_tie rfl ⟨rfl, rfl⟩ (by kernel_rfl) rfl
    (fun f fn hf hfn => by
      obtain rfl : f = 6 := Option.some.inj ((show Tryd.prog.funcNamed Rows.padPressesRow.func = some 6 by kernel_rfl).symm.trans hf) |>.symm
      obtain rfl : fn = Tryd.f6 := (Option.some.inj (Tryd.func6.symm.trans hfn)).symm
      exact ⟨by kernel_rfl, fun j t ht => by
        rw [Tryd.params6] at ht
        have hall : (#[33, 21].toList.all fun u => !Tryd.prog.wantsStandIn u) = true := by kernel_rfl
        have hm : t ∈ #[33, 21].toList := Array.mem_toList_iff.2 (Array.mem_of_getElem? ht)
        exact (show Tryd.prog.wantsStandIn t = false by simpa using List.all_eq_true.1 hall t hm)⟩)
    (by kernel_rfl)
#print axioms proved
end Go.Proofs.YtoookcmablnjfaaDoor.padPresses
namespace Go.Proofs.YtoookcmablnjfaaDoor
/-- The row, under a short name, for the claim. -/
theorem padPresses_holds : Rows.PadPressesCardSaid := padPresses.proved
end Go.Proofs.YtoookcmablnjfaaDoor
