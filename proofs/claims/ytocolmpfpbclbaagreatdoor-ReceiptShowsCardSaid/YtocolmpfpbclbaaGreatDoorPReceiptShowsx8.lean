-- written by this session's program wip/xp/xprint.py (it drives the kit's print and adds to it)
import Derived.Test.YtocolmpfpbclbaaGreatDoorPReceiptShowsx0
import Derived.Test.YtocolmpfpbclbaaGreatDoorPReceiptShowsx6
namespace Go.Proofs.YtocolmpfpbclbaaGreatDoor.PReceiptShows
open Go.RowKit Go.Proofs.YtocolmpfpbclbaaGreatDoorW.PrintWords Go.Proofs.YtocolmpfpbclbaaGreatDoorW.PrintLast Go.Proofs.YtocolmpfpbclbaaGreatDoorW.PrintMore
attribute [local go_sem] max2_int min2_int max_two min_two max_three min_three max_four min_four
set_option linter.unusedVariables false
set_option linter.unusedSimpArgs false
set_option maxHeartbeats 8000000
set_option maxRecDepth 100000

/-! ### vendmeterref_TokenFault: function 72 -/
mutual
def vendmeterref_TokenFault.j0 : Nat → Bool → Int → Int → Int → Int → Option (Int)
 | 0, _, _, _, _, _ => none
 | k + 1, x16, x204000, x204001, x204002, x204003 => if x16 = true then (some 2) else (if x204000 = 0 then ((vendmeterref_In.f x204002 1 2097151).bind fun t207 => (vendmeterref_TokenFault.j1 k (!t207) x204000 x204001 x204002 x204003)) else (vendmeterref_TokenFault.j1 k false x204000 x204001 x204002 x204003))
def vendmeterref_TokenFault.j1 : Nat → Bool → Int → Int → Int → Int → Option (Int)
 | 0, _, _, _, _, _ => none
 | k + 1, x25, x204000, x204001, x204002, x204003 => if x25 = true then (some 2) else (if x204000 = 2 then ((vendmeterref_In.f x204002 1 15).bind fun t208 => (vendmeterref_TokenFault.j2 k (!t208) x204000 x204001 x204002 x204003)) else (vendmeterref_TokenFault.j2 k false x204000 x204001 x204002 x204003))
def vendmeterref_TokenFault.j2 : Nat → Bool → Int → Int → Int → Int → Option (Int)
 | 0, _, _, _, _, _ => none
 | k + 1, x34, x204000, x204001, x204002, x204003 => if x34 = true then (some 2) else (if x204000 = 1 then (if x204002 = 0 then (some 0) else (some 2)) else (if x204000 = 3 then (if x204002 = 0 then (some 0) else (some 2)) else (some 0)))
end
def vendmeterref_TokenFault.f (k : Nat) (a0_0 : Int) (a0_1 : Int) (a0_2 : Int) (a0_3 : Int) : Option (Int) := (vendmeterref_In.f a0_0 0 3).bind fun t204 => (if t204 = true then ((vendmeterref_In.f a0_1 1 1048575).bind fun t205 => (if t205 = true then ((vendmeterref_In.f a0_3 0 65535).bind fun t206 => (vendmeterref_TokenFault.j0 k (!t206) a0_0 a0_1 a0_2 a0_3)) else (vendmeterref_TokenFault.j0 k true a0_0 a0_1 a0_2 a0_3))) else (some 9))
theorem vendmeterref_TokenFault.mono_l : ∀ k, (∀ y0 y1 y2 y3 y4, LeO (vendmeterref_TokenFault.j0 k y0 y1 y2 y3 y4) (vendmeterref_TokenFault.j0 (k + 1) y0 y1 y2 y3 y4)) ∧ (∀ y0 y1 y2 y3 y4, LeO (vendmeterref_TokenFault.j1 k y0 y1 y2 y3 y4) (vendmeterref_TokenFault.j1 (k + 1) y0 y1 y2 y3 y4)) ∧ (∀ y0 y1 y2 y3 y4, LeO (vendmeterref_TokenFault.j2 k y0 y1 y2 y3 y4) (vendmeterref_TokenFault.j2 (k + 1) y0 y1 y2 y3 y4))
 | 0 => ⟨fun _ _ _ _ _ r h => by simp [vendmeterref_TokenFault.j0] at h, fun _ _ _ _ _ r h => by simp [vendmeterref_TokenFault.j1] at h, fun _ _ _ _ _ r h => by simp [vendmeterref_TokenFault.j2] at h⟩
 | k + 1 => by
  obtain ⟨ih0, ih1, ih2⟩ := vendmeterref_TokenFault.mono_l k
  refine ⟨?_, ?_, ?_⟩
  ·
   intro y0 y1 y2 y3 y4
   unfold vendmeterref_TokenFault.j0
   repeat' first
   | (with_reducible exact ih0 _ _ _ _ _)
   | (with_reducible exact ih1 _ _ _ _ _)
   | (with_reducible exact ih2 _ _ _ _ _)
   | (with_reducible exact LeO.refl _)
   | (with_reducible exact LeO.none _)
   | (with_reducible refine LeO.ite ?_ ?_)
   | (with_reducible refine LeO.bind ?_ (fun _ => ?_))
  ·
   intro y0 y1 y2 y3 y4
   unfold vendmeterref_TokenFault.j1
   repeat' first
   | (with_reducible exact ih0 _ _ _ _ _)
   | (with_reducible exact ih1 _ _ _ _ _)
   | (with_reducible exact ih2 _ _ _ _ _)
   | (with_reducible exact LeO.refl _)
   | (with_reducible exact LeO.none _)
   | (with_reducible refine LeO.ite ?_ ?_)
   | (with_reducible refine LeO.bind ?_ (fun _ => ?_))
  ·
   intro y0 y1 y2 y3 y4
   unfold vendmeterref_TokenFault.j2
   repeat' first
   | (with_reducible exact ih0 _ _ _ _ _)
   | (with_reducible exact ih1 _ _ _ _ _)
   | (with_reducible exact ih2 _ _ _ _ _)
   | (with_reducible exact LeO.refl _)
   | (with_reducible exact LeO.none _)
   | (with_reducible refine LeO.ite ?_ ?_)
   | (with_reducible refine LeO.bind ?_ (fun _ => ?_))
theorem vendmeterref_TokenFault.mono : ∀ a0 a1 a2 a3 k, LeO (vendmeterref_TokenFault.f k a0 a1 a2 a3) (vendmeterref_TokenFault.f (k + 1) a0 a1 a2 a3) := by
 intro a0 a1 a2 a3 k
 obtain ⟨ih0, ih1, ih2⟩ := vendmeterref_TokenFault.mono_l k
 unfold vendmeterref_TokenFault.f
 repeat' first
   | (with_reducible exact ih0 _ _ _ _ _)
   | (with_reducible exact ih1 _ _ _ _ _)
   | (with_reducible exact ih2 _ _ _ _ _)
   | (with_reducible exact LeO.refl _)
   | (with_reducible exact LeO.none _)
   | (with_reducible refine LeO.ite ?_ ?_)
   | (with_reducible refine LeO.bind ?_ (fun _ => ?_))
theorem vendmeterref_TokenFault.calls (k : Nat) (a0_0 : Int) (a0_1 : Int) (a0_2 : Int) (a0_3 : Int) (r : Int) (w : World) (h : vendmeterref_TokenFault.f k a0_0 a0_1 a0_2 a0_3 = some r) :
  Calls Tryz.prog 72 #[.agg #[.int .i64 a0_0, .int .i64 a0_1, .int .i64 a0_2, .int .i64 a0_3]] w fun e w' => e = .returned (.int .i64 r) ∧ Below w.heap.size w w' := by
 have hu67 := Tryz.underlying67
 have HB := am (Below.refl w.heap.size w)
 have H : ((vendmeterref_In.f a0_0 0 3).bind fun t204 => (if t204 = true then ((vendmeterref_In.f a0_1 1 1048575).bind fun t205 => (if t205 = true then ((vendmeterref_In.f a0_3 0 65535).bind fun t206 => (vendmeterref_TokenFault.j0 k (!t206) a0_0 a0_1 a0_2 a0_3)) else (vendmeterref_TokenFault.j0 k true a0_0 a0_1 a0_2 a0_3))) else (some 9))) = some r := h
 clear h
 replace H := Option.bind_eq_some_iff.mp H
 obtain ⟨t204, A20, H⟩ := H
 (try dsimp only at H)
 have A2 := am A20
 clear A20
 by_cases c3 : t204 = true
 ·
  subst c3
  have H1 : ((vendmeterref_In.f a0_1 1 1048575).bind fun t205 => (if t205 = true then ((vendmeterref_In.f a0_3 0 65535).bind fun t206 => (vendmeterref_TokenFault.j0 k (!t206) a0_0 a0_1 a0_2 a0_3)) else (vendmeterref_TokenFault.j0 k true a0_0 a0_1 a0_2 a0_3))) = some r := by rw [if_pos rfl] at H; exact H
  clear H
  have H := H1
  clear H1
  have HC4 := am H
  clear H
  go_enter Tryz.func72, Tryz.ntmps72
  go_upto_region 3 with (first | ((with_reducible refine gate_dst (N := 1) rfl ?_); refine czbox 1 #[.int .i64 a0_0, .int .i64 a0_1, .int .i64 a0_2, .int .i64 a0_3] 67 ?_; intro gb203 hg w5 hbox hb; have BK203 := am (hbox); have GW203 := czsz hg (czbl HB); have GE203 := czsz hg (czbl HB); replace HB := am (below_step (czbl HB) hb); clear hb hbox hg; obtain ⟨hcz6_0, hcz6_1, hcz6_2, hcz6_3⟩ := czc4 BK203.1) | ((with_reducible refine gate_callee (f := 38) rfl ?_); refine czgo (some 5) Tryz.func38 #[.int .i64 a0_0, .int .i64 0, .int .i64 3] ?_; (with_reducible refine (vendmeterref_In.calls a0_0 0 3 true _ A2.out).mono ?_); rintro e w' ⟨rfl, ⟨nd, rfl⟩⟩; refine ⟨_, rfl, ?_⟩))
  (try simp only [Act.put, List.setIfInBounds_toArray, List.set_cons_zero, List.set_cons_succ])
  go_cut [16] (fun v16 wc => ∃ (kq : Nat) (x16_3 : Bool), v16 = .bool x16_3 ∧ Aside0 (vendmeterref_TokenFault.j0 kq x16_3 a0_0 a0_1 a0_2 a0_3 = some r) ∧ Aside0 (kq ≤ k) ∧ Aside0 (wc.heap[gb203]? = some (.cells #[.int .i64 a0_0, .int .i64 a0_1, .int .i64 a0_2, .int .i64 a0_3] 67 (0, 0))) ∧ Aside0 (Below w.heap.size w wc))
  case first =>
   have H := HC4.out
   clear HC4
   replace H := Option.bind_eq_some_iff.mp H
   obtain ⟨t205, A70, H⟩ := H
   (try dsimp only at H)
   have A7 := am A70
   clear A70
   by_cases c8 : t205 = true
   ·
    subst c8
    have H1 : ((vendmeterref_In.f a0_3 0 65535).bind fun t206 => (vendmeterref_TokenFault.j0 k (!t206) a0_0 a0_1 a0_2 a0_3)) = some r := by rw [if_pos rfl] at H; exact H
    clear H
    have H := H1
    clear H1
    replace H := Option.bind_eq_some_iff.mp H
    obtain ⟨t206, A90, H⟩ := H
    (try dsimp only at H)
    have A9 := am A90
    clear A90
    have H' := am H
    clear H
    obtain ⟨hcz10_0, hcz10_1, hcz10_2, hcz10_3⟩ := czc4 BK203.1
    go_wp2_with (first | ((with_reducible refine gate_callee (f := 38) rfl ?_); refine czgo (some 9) Tryz.func38 #[.int .i64 a0_1, .int .i64 1, .int .i64 1048575] ?_; (with_reducible refine (vendmeterref_In.calls a0_1 1 1048575 true _ A7.out).mono ?_); rintro e w' ⟨rfl, ⟨nd, rfl⟩⟩; refine ⟨_, rfl, ?_⟩) | (go_at_call 38; (with_reducible refine (vendmeterref_In.calls a0_3 0 65535 t206 _ A9.out).mono ?_); rintro e w' ⟨rfl, ⟨nd, rfl⟩⟩))
    go_meet
    case rel => exact ⟨_, (!t206), czr, H', ⟨by first | omega | exact Nat.le_refl _⟩, ⟨czbk BK203⟩, ⟨czbl1 HB GE203⟩⟩
   ·
    replace c8 := Bool.eq_false_iff.mpr c8
    subst c8
    have H1 : (vendmeterref_TokenFault.j0 k true a0_0 a0_1 a0_2 a0_3) = some r := by rw [if_neg (show ¬ (false = true) by decide)] at H; exact H
    clear H
    have H := H1
    clear H1
    have H' := am H
    clear H
    obtain ⟨hcz11_0, hcz11_1, hcz11_2, hcz11_3⟩ := czc4 BK203.1
    go_wp2_with (first | ((with_reducible refine gate_callee (f := 38) rfl ?_); refine czgo (some 9) Tryz.func38 #[.int .i64 a0_1, .int .i64 1, .int .i64 1048575] ?_; (with_reducible refine (vendmeterref_In.calls a0_1 1 1048575 false _ A7.out).mono ?_); rintro e w' ⟨rfl, ⟨nd, rfl⟩⟩; refine ⟨_, rfl, ?_⟩))
    go_meet
    case rel => exact ⟨_, (true), czr, H', ⟨by first | omega | exact Nat.le_refl _⟩, ⟨czbk BK203⟩, ⟨czbl1 HB GE203⟩⟩
  case rest =>
   clear HC4
   try clear p2
   try clear c3
   try clear c7
   try clear c8
   try clear hcz10_0
   try clear hcz10_1
   try clear hcz10_2
   try clear hcz10_3
   try clear hcz11_0
   try clear hcz11_1
   try clear hcz11_2
   try clear hcz11_3
   try clear hcz6_0
   try clear hcz6_1
   try clear hcz6_2
   try clear hcz6_3
   try clear hfz10_0
   try clear hfz10_1
   try clear hfz10_2
   try clear hfz10_3
   try clear hfz11_0
   try clear hfz11_1
   try clear hfz11_2
   try clear hfz11_3
   try clear hfz6_0
   try clear hfz6_1
   try clear hfz6_2
   try clear hfz6_3
   obtain ⟨kq, x16_3, rfl, HA, HJ3, BK203, HB⟩ := hcut
   cases kq with
   | zero => exact absurd HA.out (by simp [vendmeterref_TokenFault.j0])
   | succ kj3 =>
    have H := HA.out
    clear HA
    simp only [vendmeterref_TokenFault.j0] at H
    by_cases c12 : x16_3 = true
    ·
     subst c12
     have H1 : (some 2) = some r := by rw [if_pos rfl] at H; exact H
     clear H
     have H := H1
     clear H1
     obtain rfl := Option.some.inj H
     go_wp2
     go_ret
     exact ⟨czeq, czbl1 HB GE203⟩
    ·
     replace c12 := Bool.eq_false_iff.mpr c12
     subst c12
     have H1 : (if a0_0 = 0 then ((vendmeterref_In.f a0_2 1 2097151).bind fun t207 => (vendmeterref_TokenFault.j1 kj3 (!t207) a0_0 a0_1 a0_2 a0_3)) else (vendmeterref_TokenFault.j1 kj3 false a0_0 a0_1 a0_2 a0_3)) = some r := by rw [if_neg (show ¬ (false = true) by decide)] at H; exact H
     clear H
     have H := H1
     clear H1
     have HC13 := am H
     clear H
     go_upto_region 5 with (fail)
     go_cut [25] (fun v25 wc => ∃ (kq : Nat) (x25_12 : Bool), v25 = .bool x25_12 ∧ Aside0 (vendmeterref_TokenFault.j1 kq x25_12 a0_0 a0_1 a0_2 a0_3 = some r) ∧ Aside0 (kq ≤ kj3) ∧ Aside0 (wc.heap[gb203]? = some (.cells #[.int .i64 a0_0, .int .i64 a0_1, .int .i64 a0_2, .int .i64 a0_3] 67 (0, 0))) ∧ Aside0 (Below w.heap.size w wc))
     case first =>
      have H := HC13.out
      clear HC13
      revert H
      refine czei (fun c14b0 c14b1 H => ?_) (fun c14 c14b0 c14b1 H => ?_)
      ·
       (first | rw [c14b0] | (simp only [i64_w, i32_w]; rw [c14b0]) | skip)
       replace H := Option.bind_eq_some_iff.mp H
       obtain ⟨t207, A150, H⟩ := H
       (try dsimp only at H)
       have A15 := am A150
       clear A150
       have H' := am H
       clear H
       obtain ⟨hcz16_0, hcz16_1, hcz16_2, hcz16_3⟩ := czc4 BK203.1
       go_wp2_with (first | (go_at_call 38; (with_reducible refine (vendmeterref_In.calls a0_2 1 2097151 t207 _ A15.out).mono ?_); rintro e w' ⟨rfl, ⟨nd, rfl⟩⟩))
       go_meet
       case rel => exact ⟨_, (!t207), czr, H', ⟨by have := HJ3.out; first | omega | exact Nat.le_refl _⟩, ⟨czbk BK203⟩, ⟨czbl1 HB GE203⟩⟩
      ·
       (first | rw [c14b0] | (simp only [i64_w, i32_w]; rw [c14b0]) | skip)
       have H' := am H
       clear H
       obtain ⟨hcz17_0, hcz17_1, hcz17_2, hcz17_3⟩ := czc4 BK203.1
       go_wp2
       go_meet
       case rel => exact ⟨_, (false), czr, H', ⟨by have := HJ3.out; first | omega | exact Nat.le_refl _⟩, ⟨czbk BK203⟩, ⟨czbl1 HB GE203⟩⟩
     case rest =>
      clear HC13
      try clear c1
      try clear p2
      try clear c3
      try clear c7
      try clear c8
      try clear c12
      try clear c14
      try clear c14b0
      try clear c14b1
      try clear hcz10_0
      try clear hcz10_1
      try clear hcz10_2
      try clear hcz10_3
      try clear hcz11_0
      try clear hcz11_1
      try clear hcz11_2
      try clear hcz11_3
      try clear hcz16_0
      try clear hcz16_1
      try clear hcz16_2
      try clear hcz16_3
      try clear hcz17_0
      try clear hcz17_1
      try clear hcz17_2
      try clear hcz17_3
      try clear hcz6_0
      try clear hcz6_1
      try clear hcz6_2
      try clear hcz6_3
      try clear hfz10_0
      try clear hfz10_1
      try clear hfz10_2
      try clear hfz10_3
      try clear hfz11_0
      try clear hfz11_1
      try clear hfz11_2
      try clear hfz11_3
      try clear hfz16_0
      try clear hfz16_1
      try clear hfz16_2
      try clear hfz16_3
      try clear hfz17_0
      try clear hfz17_1
      try clear hfz17_2
      try clear hfz17_3
      try clear hfz6_0
      try clear hfz6_1
      try clear hfz6_2
      try clear hfz6_3
      try clear p2
      obtain ⟨kq, x25_12, rfl, HA, HJ12, BK203, HB⟩ := hcut
      cases kq with
      | zero => exact absurd HA.out (by simp [vendmeterref_TokenFault.j1])
      | succ kj12 =>
       have H := HA.out
       clear HA
       simp only [vendmeterref_TokenFault.j1] at H
       by_cases c18 : x25_12 = true
       ·
        subst c18
        have H1 : (some 2) = some r := by rw [if_pos rfl] at H; exact H
        clear H
        have H := H1
        clear H1
        obtain rfl := Option.some.inj H
        go_wp2
        go_ret
        exact ⟨czeq, czbl1 HB GE203⟩
       ·
        replace c18 := Bool.eq_false_iff.mpr c18
        subst c18
        have H1 : (if a0_0 = 2 then ((vendmeterref_In.f a0_2 1 15).bind fun t208 => (vendmeterref_TokenFault.j2 kj12 (!t208) a0_0 a0_1 a0_2 a0_3)) else (vendmeterref_TokenFault.j2 kj12 false a0_0 a0_1 a0_2 a0_3)) = some r := by rw [if_neg (show ¬ (false = true) by decide)] at H; exact H
        clear H
        have H := H1
        clear H1
        have HC19 := am H
        clear H
        go_upto_region 7 with (fail)
        go_cut [34] (fun v34 wc => ∃ (kq : Nat) (x34_18 : Bool), v34 = .bool x34_18 ∧ Aside0 (vendmeterref_TokenFault.j2 kq x34_18 a0_0 a0_1 a0_2 a0_3 = some r) ∧ Aside0 (kq ≤ kj12) ∧ Aside0 (wc.heap[gb203]? = some (.cells #[.int .i64 a0_0, .int .i64 a0_1, .int .i64 a0_2, .int .i64 a0_3] 67 (0, 0))) ∧ Aside0 (Below w.heap.size w wc))
        case first =>
         have H := HC19.out
         clear HC19
         revert H
         refine czei (fun c20b0 c20b1 H => ?_) (fun c20 c20b0 c20b1 H => ?_)
         ·
          (first | rw [c20b0] | (simp only [i64_w, i32_w]; rw [c20b0]) | skip)
          replace H := Option.bind_eq_some_iff.mp H
          obtain ⟨t208, A210, H⟩ := H
          (try dsimp only at H)
          have A21 := am A210
          clear A210
          have H' := am H
          clear H
          obtain ⟨hcz22_0, hcz22_1, hcz22_2, hcz22_3⟩ := czc4 BK203.1
          go_wp2_with (first | (go_at_call 38; (with_reducible refine (vendmeterref_In.calls a0_2 1 15 t208 _ A21.out).mono ?_); rintro e w' ⟨rfl, ⟨nd, rfl⟩⟩))
          go_meet
          case rel => exact ⟨_, (!t208), czr, H', ⟨by have := HJ3.out; have := HJ12.out; first | omega | exact Nat.le_refl _⟩, ⟨czbk BK203⟩, ⟨czbl1 HB GE203⟩⟩
         ·
          (first | rw [c20b0] | (simp only [i64_w, i32_w]; rw [c20b0]) | skip)
          have H' := am H
          clear H
          obtain ⟨hcz23_0, hcz23_1, hcz23_2, hcz23_3⟩ := czc4 BK203.1
          go_wp2
          go_meet
          case rel => exact ⟨_, (false), czr, H', ⟨by have := HJ3.out; have := HJ12.out; first | omega | exact Nat.le_refl _⟩, ⟨czbk BK203⟩, ⟨czbl1 HB GE203⟩⟩
        case rest =>
         clear HC19
         try clear c1
         try clear c2
         try clear p2
         try clear c3
         try clear c7
         try clear c8
         try clear c12
         try clear c14
         try clear c14b0
         try clear c14b1
         try clear c18
         try clear c20
         try clear c20b0
         try clear c20b1
         try clear hcz10_0
         try clear hcz10_1
         try clear hcz10_2
         try clear hcz10_3
         try clear hcz11_0
         try clear hcz11_1
         try clear hcz11_2
         try clear hcz11_3
         try clear hcz16_0
         try clear hcz16_1
         try clear hcz16_2
         try clear hcz16_3
         try clear hcz17_0
         try clear hcz17_1
         try clear hcz17_2
         try clear hcz17_3
         try clear hcz22_0
         try clear hcz22_1
         try clear hcz22_2
         try clear hcz22_3
         try clear hcz23_0
         try clear hcz23_1
         try clear hcz23_2
         try clear hcz23_3
         try clear hcz6_0
         try clear hcz6_1
         try clear hcz6_2
         try clear hcz6_3
         try clear hfz10_0
         try clear hfz10_1
         try clear hfz10_2
         try clear hfz10_3
         try clear hfz11_0
         try clear hfz11_1
         try clear hfz11_2
         try clear hfz11_3
         try clear hfz16_0
         try clear hfz16_1
         try clear hfz16_2
         try clear hfz16_3
         try clear hfz17_0
         try clear hfz17_1
         try clear hfz17_2
         try clear hfz17_3
         try clear hfz22_0
         try clear hfz22_1
         try clear hfz22_2
         try clear hfz22_3
         try clear hfz23_0
         try clear hfz23_1
         try clear hfz23_2
         try clear hfz23_3
         try clear hfz6_0
         try clear hfz6_1
         try clear hfz6_2
         try clear hfz6_3
         try clear p2
         obtain ⟨kq, x34_18, rfl, HA, HJ18, BK203, HB⟩ := hcut
         cases kq with
         | zero => exact absurd HA.out (by simp [vendmeterref_TokenFault.j2])
         | succ kj18 =>
          have H := HA.out
          clear HA
          simp only [vendmeterref_TokenFault.j2] at H
          by_cases c24 : x34_18 = true
          ·
           subst c24
           have H1 : (some 2) = some r := by rw [if_pos rfl] at H; exact H
           clear H
           have H := H1
           clear H1
           obtain rfl := Option.some.inj H
           go_wp2
           go_ret
           exact ⟨czeq, czbl1 HB GE203⟩
          ·
           replace c24 := Bool.eq_false_iff.mpr c24
           subst c24
           have H1 : (if a0_0 = 1 then (if a0_2 = 0 then (some 0) else (some 2)) else (if a0_0 = 3 then (if a0_2 = 0 then (some 0) else (some 2)) else (some 0))) = some r := by rw [if_neg (show ¬ (false = true) by decide)] at H; exact H
           clear H
           have H := H1
           clear H1
           revert H
           refine czei (fun c25b0 c25b1 H => ?_) (fun c25 c25b0 c25b1 H => ?_)
           ·
            revert H
            refine czei (fun c26b0 c26b1 H => ?_) (fun c26 c26b0 c26b1 H => ?_)
            ·
             obtain rfl := Option.some.inj H
             obtain ⟨hcz27_0, hcz27_1, hcz27_2, hcz27_3⟩ := czc4 BK203.1
             go_wp2
             go_ret
             exact ⟨czeq, czbl1 HB GE203⟩
            ·
             obtain rfl := Option.some.inj H
             obtain ⟨hcz28_0, hcz28_1, hcz28_2, hcz28_3⟩ := czc4 BK203.1
             go_wp2
             go_ret
             exact ⟨czeq, czbl1 HB GE203⟩
           ·
            revert H
            refine czei (fun c29b0 c29b1 H => ?_) (fun c29 c29b0 c29b1 H => ?_)
            ·
             revert H
             refine czei (fun c30b0 c30b1 H => ?_) (fun c30 c30b0 c30b1 H => ?_)
             ·
              obtain rfl := Option.some.inj H
              obtain ⟨hcz31_0, hcz31_1, hcz31_2, hcz31_3⟩ := czc4 BK203.1
              go_wp2
              go_ret
              exact ⟨czeq, czbl1 HB GE203⟩
             ·
              obtain rfl := Option.some.inj H
              obtain ⟨hcz32_0, hcz32_1, hcz32_2, hcz32_3⟩ := czc4 BK203.1
              go_wp2
              go_ret
              exact ⟨czeq, czbl1 HB GE203⟩
            ·
             obtain rfl := Option.some.inj H
             obtain ⟨hcz33_0, hcz33_1, hcz33_2, hcz33_3⟩ := czc4 BK203.1
             go_wp2
             go_ret
             exact ⟨czeq, czbl1 HB GE203⟩
 ·
  replace c3 := Bool.eq_false_iff.mpr c3
  subst c3
  have H1 : (some 9) = some r := by rw [if_neg (show ¬ (false = true) by decide)] at H; exact H
  clear H
  have H := H1
  clear H1
  obtain rfl := Option.some.inj H
  go_enter Tryz.func72, Tryz.ntmps72
  go_wp2_with (first | ((with_reducible refine gate_dst (N := 1) rfl ?_); refine czbox 1 #[.int .i64 a0_0, .int .i64 a0_1, .int .i64 a0_2, .int .i64 a0_3] 67 ?_; intro gb203 hg w34 hbox hb; have BK203 := am (hbox); have GW203 := czsz hg (czbl HB); have GE203 := czsz hg (czbl HB); replace HB := am (below_step (czbl HB) hb); clear hb hbox hg; obtain ⟨hcz35_0, hcz35_1, hcz35_2, hcz35_3⟩ := czc4 BK203.1) | ((with_reducible refine gate_callee (f := 38) rfl ?_); refine czgo (some 5) Tryz.func38 #[.int .i64 a0_0, .int .i64 0, .int .i64 3] ?_; (with_reducible refine (vendmeterref_In.calls a0_0 0 3 false _ A2.out).mono ?_); rintro e w' ⟨rfl, ⟨nd, rfl⟩⟩; refine ⟨_, rfl, ?_⟩))
  go_ret
  exact ⟨czeq, czbl1 HB GE203⟩

end Go.Proofs.YtocolmpfpbclbaaGreatDoor.PReceiptShows
