-- written by this session's program wip/xp/xprint.py (it drives the kit's print and adds to it)
import Derived.Test.YtcllddkmcnfejaaGreatDoorRows
import Derived.LaidMore
import Derived.Lay
import Derived.SevenTiedAt
import Derived.Stop.Joined
import Derived.LaidLaws
import Derived.LaidHandle
import Derived.MakeChecks
import Derived.Lib.LaidTab
import Derived.Test.YtcllddkmcnfejaaGreatDoorTie
import Derived.Test.YtcllddkmcnfejaaGreatDoorCards
import Derived.Test.YtcllddkmcnfejaaGreatDoorPPocketKeysxL
import Derived.Test.YtcllddkmcnfejaaGreatDoorPurePocketKeys
import Derived.Test.YtcllddkmcnfejaaGreatDoorXPocketKeysOpen
import Derived.WalkKit
import Derived.ProofKit
import Derived.OpenShut
import Derived.ShutString
import Derived.ChangeOld
import Derived.Below
import Derived.SizedLaws
namespace Go.Proofs.YtcllddkmcnfejaaGreatDoor.pocketKeys
open Go.ChangeShapes Go.WideShapes Go.ChangeAt Go.RowKit Go.Proofs.YtcllddkmcnfejaaGreatDoorW.PrintWords Go.Proofs.YtcllddkmcnfejaaGreatDoorW.XOpen Go.Proofs.YtcllddkmcnfejaaGreatDoor.PPocketKeys
open Go.ChangeMaps (open_string shut_string)
set_option linter.unusedVariables false
set_option linter.unusedSimpArgs false
theorem own : ownKnob Tryz.prog.godebug = none := by kernel_rfl
theorem laidOut : laidOutB Tryz.prog = true := by kernel_rfl
theorem opens_T55 : Opens Tryz.prog 55 k55 ok55 := by
 intro H enc w base spare held fuel cs x h hw
 obtain ⟨hl0, n, hp⟩ := parts_struct Tryz.underlying55 h hw
 have hl : cs.length = 4 := hl0.trans (by kernel_rfl)
 obtain ⟨y0, g0, w0⟩ := hp 0 _ rfl
 have h0 : DataW.trod enc Tryz.prog w base spare held n 3 ((cs.drop 0).take 1) = some y0 := fit (t := 3) (s := 1) (by kernel_rfl) g0
 obtain ⟨y1, g1, w1⟩ := hp 1 _ rfl
 have h1 : DataW.trod enc Tryz.prog w base spare held n 3 ((cs.drop 1).take 1) = some y1 := fit (t := 3) (s := 1) (by kernel_rfl) g1
 obtain ⟨y2, g2, w2⟩ := hp 2 _ rfl
 have h2 : DataW.trod enc Tryz.prog w base spare held n 3 ((cs.drop 2).take 1) = some y2 := fit (t := 3) (s := 1) (by kernel_rfl) g2
 obtain ⟨y3, g3, w3⟩ := hp 3 _ rfl
 have h3 : DataW.trod enc Tryz.prog w base spare held n 3 ((cs.drop 3).take 1) = some y3 := fit (t := 3) (s := 1) (by kernel_rfl) g3
 obtain ⟨x0, K0, o0⟩ := (opens_int Tryz.underlying3) H enc w base spare held n _ _ h0 w0
 obtain ⟨x1, K1, o1⟩ := (opens_int Tryz.underlying3) H enc w base spare held n _ _ h1 w1
 obtain ⟨x2, K2, o2⟩ := (opens_int Tryz.underlying3) H enc w base spare held n _ _ h2 w2
 obtain ⟨x3, K3, o3⟩ := (opens_int Tryz.underlying3) H enc w base spare held n _ _ h3 w3
 exact ⟨⟨x0, x1, x2, x3⟩, ⟨_, _, cut_one cs 0 1 1 rfl, K0, ⟨_, _, cut_one cs 1 1 2 rfl, K1, ⟨_, _, cut_one cs 2 1 3 rfl, K2, (by rw [cut_last cs 3 1 (by omega)]; exact K3)⟩⟩⟩, ⟨o0, o1, o2, o3⟩⟩
theorem openA_25 {H : Type} {enc : TypeId × Value → H} {w : World} {base : Nat} {spare : Nat → Bool} {held : Bool} {fuel : Nat} {cs : List Value} {x : DataW H × List MemPlace} (h : DataW.trod enc Tryz.prog w base spare held fuel 25 cs = some x) (hw : ∀ n ∈ x.1.weights Tryz.prog 25, n ≤ reachBytes) : ∃ (An0 : Option Addr) (cn0 : Nat) (ln0 : List (S55)), cs = [.slice An0 ln0.length cn0] ∧ Kd.C k55 w An0 ln0.length ln0 ∧ ln0.length ≤ cn0 ∧ (ln0.length * 32 ≤ 140737488351232 ∧ ∀ y ∈ ln0, ok55 y) := by
 obtain ⟨hl0, n, hp⟩ := parts_struct Tryz.underlying25 h hw
 have hl : cs.length = 1 := hl0.trans (by kernel_rfl)
 obtain ⟨y0, g0, w0⟩ := hp 0 _ rfl
 have h0 : DataW.trod enc Tryz.prog w base spare held n 23 ((cs.drop 0).take 1) = some y0 := fit (t := 23) (s := 1) (by kernel_rfl) g0
 obtain ⟨l0, ⟨A0, c0, e0, B0, C0⟩, o0⟩ := (opens_slice (B := 32) Tryz.underlying23 (by kernel_rfl) (by kernel_rfl) z55 opens_T55) H enc w base spare held n _ _ h0 w0
 have e : cs = _ := cut_last cs 0 1 (by omega)
 rw [e0] at e
 exact ⟨A0, c0, l0, e, C0, B0, o0⟩
set_option maxRecDepth 100000 in
theorem lifted (os : Os) (started : os.Started) (H : Type) (enc : TypeId × Value → H) :
  ReturnsInHanded {} Tryz.checked os 3 .any (fun w args => (Rows.pocketKeysSpec.pre enc Tryz.prog Tryz.f3 Rows.pocketKeysRow.domain false w args ∧ laidMetH Tryz.prog Rows.pocketKeysRow.laid w) ∧ sizedMet enc Tryz.prog Tryz.f3 (OpenSpec.ofChange Rows.pocketKeysSpec) false w args) (Rows.pocketKeysSpec.post enc Tryz.prog Tryz.f3 false true false false) := by
 refine returnsInHanded_of_change_and (C := Tryz.checked) (X := fun w _ => laidMetH Tryz.prog Rows.pocketKeysRow.laid w) (fun _ _ _ hh h => h.of_heap hh) own started (by kernel_rfl) Tryz.func3
  (ChangeSpec.witness_shaped (enc := enc) (C := Tryz.checked) (os := os) (X := fun w _ => laidMetH Tryz.prog Rows.pocketKeysRow.laid w) false (World.laidAll Tryz.prog os Rows.pocketKeysRow.laid) #[.slice none 0 0, .agg #[.slice none 0 0], .string ByteArray.empty] 8 (World.laidAll_os _ _ _)
   (World.shaped_of_ZipB (by kernel_rfl) (by kernel_rfl)) (by kernel_rfl) (by kernel_rfl) (by kernel_rfl)
   (by rw [MakeChecks.laidMetH_plain _ _ _ (by kernel_rfl)]; exact laidMet_laidAll _ (by kernel_rfl) (by kernel_rfl))) ?_
 intro W base args ds gs before hval0 hW hcnd hsz0 hL _
 have hsz : (DataW.weightsEach Tryz.prog (Tryz.f3.params.toList ++ Rows.pocketKeysSpec.plain.varTypes Tryz.prog) (ds ++ gs)).all (· ≤ reachBytes) = true := hsz0
 have hval : ∀ (j : Nat) t v, Tryz.f3.params[j]? = some t → args[j]? = some v → Value.okWide Tryz.prog W .any base t v := hval0
 have hW' := hW
 obtain ⟨p, q, hA0, hV, rfl, hfz, hnd⟩ := hW
 have hA : DataW.TrodAll enc Tryz.prog W 0 (fun _ => true) true Tryz.f3.params.toList args.toList ds p := hA0
 rw [Tryz.params3] at hA hval hsz
 obtain ⟨v0, vs0, d0, ds0, p0, q0, hargs, rfl, rfl, h0, r0⟩ := trodAll_cons hA
 obtain ⟨v1, vs1, d1, ds1, p1, q1, rfl, rfl, rfl, h1, r1⟩ := trodAll_cons r0
 obtain ⟨v2, vs2, d2, ds2, p2, q2, rfl, rfl, rfl, h2, r2⟩ := trodAll_cons r1
 obtain ⟨rfl, rfl, rfl⟩ := trodAll_nil r2
 obtain rfl : args = #[v0, v1, v2] := by cases args; simp_all
 obtain ⟨rfl, rfl⟩ := trodVars_none hV
 have k0 := h0
 have lt0 : ∀ x ∈ p0, x.block < W.heap.size := by obtain ⟨m, hm⟩ := k0; exact DataW.trod_lt m _ _ _ hm
 have hz0 := weight_of hsz (j := 0) rfl rfl
 obtain ⟨A0, len0, c0, rfl⟩ := okWide_slice Tryz.underlying22 (hval 0 22 v0 rfl rfl)
 obtain ⟨l0, ⟨A0', c0', e0, hc0, hr0⟩, o0⟩ := opens_trod (opens_slice (B := 4) Tryz.underlying22 (by kernel_rfl) (by kernel_rfl) 0 (opens_int Tryz.underlying51)) h0 hz0
 have e0' : [Value.slice A0 len0 c0] = [Value.slice A0' l0.length c0'] := e0
 simp only [List.cons.injEq, Value.slice.injEq, and_true] at e0'
 obtain ⟨rfl, rfl, rfl⟩ := e0'
 have k1 := h1
 have lt1 : ∀ x ∈ p1, x.block < W.heap.size := by obtain ⟨m, hm⟩ := k1; exact DataW.trod_lt m _ _ _ hm
 have hz1 := weight_of hsz (j := 1) rfl rfl
 obtain ⟨cs1, rfl⟩ := agg_of (.inl ⟨_, Tryz.underlying25⟩) (hval 1 25 v1 rfl rfl)
 obtain ⟨fu1, hf1⟩ := h1
 obtain ⟨A1_0, c1_0, l1_0, e1, hr1_0, hc1_0, o1_0⟩ := openA_25 hf1 hz1
 obtain rfl := toArray_of (cs := cs1) e1
 obtain ⟨a2, rfl, rfl, rfl, y2⟩ := open_string Tryz.underlying9 (hval 2 9 v2 rfl rfl) h2
 have w2 : a2.size ≤ 140737488351232 := by
  have z := sized_string hsz (j := 2) (t := 9) rfl rfl
  rw [Array.length_toList] at z
  exact z
 clear hA0 hval0 hsz0 hsz
 refine (PPocketKeys.vendmeterlaw_PocketKeys.walk Pure.PocketKeys A0 c0 l0 A1_0 c1_0 l1_0 a2 W hr0 hc0 hr1_0 hc1_0 o0 o1_0 w2).mono fun e W' ⟨he, bel⟩ => ?_
 subst he
 exact ⟨_, rfl, _, _, _, [], _, [], hW', trodAll_mk1 (shut_bool Tryz.underlying4 _), (trodAll_cons_mk (Below.trod laidOut (by kernel_rfl) (of_decide_eq_true (by kernel_rfl)) k0 bel lt0) (trodAll_cons_mk (Below.trod laidOut (by kernel_rfl) (of_decide_eq_true (by kernel_rfl)) k1 bel lt1) (trodAll_cons_mk (shut_string Tryz.underlying9 y2) trodAll_mk0))), rfl, bel.frame _, fun h => by cases h⟩
theorem over : Rows.pocketKeysRow.holds Tryz.pinned (OpenSpec.ofChange Rows.pocketKeysSpec) :=
 OpenClaim.holds_of_wide 3 Tryz.f3 rfl rfl rfl rfl rfl rfl rfl ⟨rfl, rfl, rfl, rfl, rfl⟩ rfl rfl rfl rfl rfl (by kernel_rfl) Tryz.func3 (by kernel_rfl)
  (of_decide_eq_true (by kernel_rfl)) (by unfold Func.isWrapper; first | (rw [if_pos (by decide +kernel)]; kernel_rfl) | (rw [if_neg (by decide +kernel)]; exact ⟨rfl, rfl⟩))
  (fun os started H enc _ => lifted os started H enc)
theorem proved : Rows.PocketKeysCardSaid :=
 Claim7.holds_tied_plain_at .later [] Rows.pocketKeysCard.laidKinds Rows.pocketKeysCard.laidTests Rows.pocketKeysCard.stood.harness Rows.pocketKeysCard.stood.looks over (fun _ h => by cases h) (by kernel_rfl) (fun _ h => by cases h) pocketKeys_row_tie rfl ⟨rfl, rfl⟩ (by kernel_rfl) rfl
  (fun f fn hf hfn => by
   obtain rfl : f = 3 := Option.some.inj ((show Tryz.prog.funcNamed Rows.pocketKeysRow.func = some 3 by kernel_rfl).symm.trans hf) |>.symm
   obtain rfl : fn = Tryz.f3 := (Option.some.inj (Tryz.func3.symm.trans hfn)).symm
   exact ⟨by kernel_rfl, fun j t ht => by
    rw [Tryz.params3] at ht
    have hall : (#[22, 25, 9].toList.all fun u => !Tryz.prog.wantsStandIn u) = true := by kernel_rfl
    have hm : t ∈ #[22, 25, 9].toList := Array.mem_toList_iff.2 (Array.mem_of_getElem? ht)
    exact (show Tryz.prog.wantsStandIn t = false by simpa using List.all_eq_true.1 hall t hm)⟩)
  (by kernel_rfl)
#print axioms proved
end Go.Proofs.YtcllddkmcnfejaaGreatDoor.pocketKeys
namespace Go.Proofs.YtcllddkmcnfejaaGreatDoor
/-- The row, under a short name, for the claim. -/
theorem pocketKeys_holds : Rows.PocketKeysCardSaid := pocketKeys.proved
end Go.Proofs.YtcllddkmcnfejaaGreatDoor
