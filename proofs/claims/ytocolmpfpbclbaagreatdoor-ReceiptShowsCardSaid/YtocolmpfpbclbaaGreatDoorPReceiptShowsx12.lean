-- written by this session's program wip/xp/xprint.py (it drives the kit's print and adds to it)
import Derived.Test.YtocolmpfpbclbaaGreatDoorPReceiptShowsx0
import Derived.Test.YtocolmpfpbclbaaGreatDoorPReceiptShowsx1
import Derived.Test.YtocolmpfpbclbaaGreatDoorPReceiptShowsx6
import Derived.Test.YtocolmpfpbclbaaGreatDoorPReceiptShowsx10
import Derived.Test.YtocolmpfpbclbaaGreatDoorPReceiptShowsx11
namespace Go.Proofs.YtocolmpfpbclbaaGreatDoor.PReceiptShows
open Go.RowKit Go.Proofs.YtocolmpfpbclbaaGreatDoorW.PrintWords Go.Proofs.YtocolmpfpbclbaaGreatDoorW.PrintLast Go.Proofs.YtocolmpfpbclbaaGreatDoorW.PrintMore
attribute [local go_sem] max2_int min2_int max_two min_two max_three min_three max_four min_four
set_option linter.unusedVariables false
set_option linter.unusedSimpArgs false

/-! ### vendmeterref_folded: function 73 -/
def vendmeterref_folded.l0 : Nat → ByteArray → Int → Int → Int → Option (Int)
 | 0, _, _, _, _ => none
 | k + 1, x0, x1, x5, x6 => if x6 ≥ 0 then (if 0 ≤ x6 then (if x6 < (x0.size : Int) then ((vendmeterref_turned.f k (((bt x0 x6) - 48) % 256) x1).bind fun t243 => ((vendmeterref_Moved.f k x5 t243).bind fun bt244 => (vendmeterref_folded.l0 k x0 (wrap64 (x1 + 1)) bt244.1 (wrap64 (x6 - 1))))) else (none)) else (none)) else (some x5)
def vendmeterref_folded.f (k : Nat) (a0 : ByteArray) (a1 : Int) : Option (Int) := vendmeterref_folded.l0 k a0 a1 0 (wrap64 ((a0.size : Int) - 1))
theorem vendmeterref_folded.mono_l : ∀ k, (∀ y0 y1 y2 y3, LeO (vendmeterref_folded.l0 k y0 y1 y2 y3) (vendmeterref_folded.l0 (k + 1) y0 y1 y2 y3))
 | 0 => fun _ _ _ _ r h => by simp [vendmeterref_folded.l0] at h
 | k + 1 => by
  have ih0 := vendmeterref_folded.mono_l k
  ·
   intro y0 y1 y2 y3
   unfold vendmeterref_folded.l0
   repeat' first
   | (with_reducible exact ih0 _ _ _ _)
   | (with_reducible exact vendmeterref_Moved.mono _ _ _)
   | (with_reducible exact vendmeterref_turned.mono _ _ _)
   | (with_reducible exact LeO.refl _)
   | (with_reducible exact LeO.none _)
   | (with_reducible refine LeO.ite ?_ ?_)
   | (with_reducible refine LeO.bind ?_ (fun _ => ?_))
theorem vendmeterref_folded.mono : ∀ a0 a1 k, LeO (vendmeterref_folded.f k a0 a1) (vendmeterref_folded.f (k + 1) a0 a1) := by
 intro a0 a1 k
 have ih0 := vendmeterref_folded.mono_l k
 unfold vendmeterref_folded.f
 repeat' first
   | (with_reducible exact ih0 _ _ _ _)
   | (with_reducible exact vendmeterref_Moved.mono _ _ _)
   | (with_reducible exact vendmeterref_turned.mono _ _ _)
   | (with_reducible exact LeO.refl _)
   | (with_reducible exact LeO.none _)
   | (with_reducible refine LeO.ite ?_ ?_)
   | (with_reducible refine LeO.bind ?_ (fun _ => ?_))
set_option maxHeartbeats 8000000 in
set_option maxRecDepth 100000 in
theorem vendmeterref_folded.calls (k : Nat) (a0 : ByteArray) (a1 : Int) (r : Int) (w : World) (h : vendmeterref_folded.f k a0 a1 = some r) :
  Calls Tryz.prog 73 #[.string a0, .int .i64 a1] w fun e w' => e = .returned (.int .i64 r) ∧ Drawn0 w w' := by
 have H : (vendmeterref_folded.l0 k a0 a1 0 (wrap64 ((a0.size : Int) - 1))) = some r := h
 clear h
 have H' := am H
 clear H
 go_enter Tryz.func73, Tryz.ntmps73
 go_wp2
 go_loopg [1, 5, 6] k (fun kq v1 v5 v6 w' => ∃ (x1_1 : Int) (x5_1 : Int) (x6_1 : Int), v1 = .int .i64 x1_1 ∧ v5 = .int .i64 x5_1 ∧ v6 = .int .i64 x6_1 ∧ Aside0 (vendmeterref_folded.l0 kq a0 x1_1 x5_1 x6_1 = some r) ∧ Aside0 (kq ≤ k) ∧ Drawn0 w w')
 case atStart => exact ⟨(a1), (0), (wrap64 ((a0.size : Int) - 1)), czr, czr, czr, H', ⟨Nat.le_refl _⟩, by repeat (first | exact Drawn0.refl _ | apply Drawn0.step)⟩
 case round =>
  clear H'
  try clear p2
  obtain ⟨x1_1, x5_1, x6_1, rfl, rfl, rfl, HA, HK1, ⟨m1, rfl⟩⟩ := hrel
  cases gk with
  | zero => exact absurd HA.out (by simp [vendmeterref_folded.l0])
  | succ k1 =>
   have H := HA.out
   clear HA
   simp only [vendmeterref_folded.l0] at H
   by_cases c3 : x6_1 ≥ 0
   ·
    rw [if_pos c3] at H
    have c3b0 : decide (0 ≤ x6_1) = true := decide_eq_true c3
    clear c3
    by_cases c4 : 0 ≤ x6_1
    ·
     rw [if_pos c4] at H
     have c4b0 : decide (0 ≤ x6_1) = true := decide_eq_true c4
     clear c4
     by_cases c5 : x6_1 < (a0.size : Int)
     ·
      rw [if_pos c5] at H
      have c5b0 : decide (x6_1 < (a0.size : Int)) = true := decide_eq_true c5
      clear c5
      replace H := Option.bind_eq_some_iff.mp H
      obtain ⟨t243, A70, H⟩ := H
      (try dsimp only at H)
      have A7 := am A70
      clear A70
      replace H := Option.bind_eq_some_iff.mp H
      obtain ⟨⟨t244, t245⟩, A80, H⟩ := H
      (try dsimp only at H)
      have A8 := am A80
      clear A80
      have H' := am H
      clear H
      have p6 : 0 ≤ (x6_1 : Int) := czd
      have q6 : x6_1 < (a0.size : Int) := czd
      have hx6 := bt_at a0 x6_1
      replace p6 := eq_true p6
      replace q6 := eq_true q6
      go_wp2_with (first | ((with_reducible refine gate_callee (f := 109) rfl ?_); refine czgo (some 21) Tryz.func109 #[.int .i64 (((bt a0 x6_1) - 48) % 256), .int .i64 x1_1] ?_; (with_reducible refine (vendmeterref_turned.calls k1 (((bt a0 x6_1) - 48) % 256) x1_1 t243 _ A7.out).mono ?_); rintro e w' ⟨rfl, ⟨nd, rfl⟩⟩; refine ⟨_, rfl, ?_⟩) | ((with_reducible refine gate_callee (f := 110) rfl ?_); refine czgo (some 25) Tryz.func110 #[.int .i64 x5_1, .int .i64 t243] ?_; (with_reducible refine (vendmeterref_Moved.calls k1 x5_1 t243 t244 t245 _ A8.out).mono ?_); rintro e w' ⟨rfl, ⟨nd, rfl⟩⟩; refine ⟨_, rfl, ?_⟩))
      go_roundg k1
      case measure => have := HK1.out; omega
      case rel => exact ⟨(wrap64 (x1_1 + 1)), (t244), (wrap64 (x6_1 - 1)), czr, czr, czr, H', ⟨by have := HK1.out; omega⟩, by repeat (first | exact Drawn0.refl _ | apply Drawn0.step)⟩
     ·
      rw [if_neg c5] at H
      exact absurd H (by simp)
    ·
     rw [if_neg c4] at H
     exact absurd H (by simp)
   ·
    rw [if_neg c3] at H
    have c3b0 : decide (0 ≤ x6_1) = false := decide_eq_false c3
    clear c3
    obtain rfl := Option.some.inj H
    go_wp2
    go_ret
    exact ⟨by first | rfl | (simp; done) | (simp [*]; done), by repeat (first | exact Drawn0.refl _ | apply Drawn0.step)⟩

/-! ### vendmeterref_CheckDigit: function 41 -/
def vendmeterref_CheckDigit.l0 : Nat → ByteArray → Int → Option (Int × Int)
 | 0, _, _ => none
 | k + 1, x0, x5 => if x5 < 10 then ((vendmeterref_Dec.f k x5).bind fun t247 => (if x0.size + t247.size ≤ 9223372036854775807 then ((vendmeterref_folded.f k (x0 ++ t247) 0).bind fun t248 => (if t248 = 0 then (some (x5, 0)) else (vendmeterref_CheckDigit.l0 k x0 (wrap64 (x5 + 1))))) else (none))) else (some (0, 5))
def vendmeterref_CheckDigit.f (k : Nat) (a0 : ByteArray) : Option (Int × Int) := (vendmeterref_DigitsMay.f k a0).bind fun t246 => (if t246 = 0 then (vendmeterref_CheckDigit.l0 k a0 0) else (some (0, t246)))
theorem vendmeterref_CheckDigit.mono_l : ∀ k, (∀ y0 y1, LeO (vendmeterref_CheckDigit.l0 k y0 y1) (vendmeterref_CheckDigit.l0 (k + 1) y0 y1))
 | 0 => fun _ _ r h => by simp [vendmeterref_CheckDigit.l0] at h
 | k + 1 => by
  have ih0 := vendmeterref_CheckDigit.mono_l k
  ·
   intro y0 y1
   unfold vendmeterref_CheckDigit.l0
   repeat' first
   | (with_reducible exact ih0 _ _)
   | (with_reducible exact vendmeterref_Dec.mono _ _)
   | (with_reducible exact vendmeterref_DigitsMay.mono _ _)
   | (with_reducible exact vendmeterref_folded.mono _ _ _)
   | (with_reducible exact LeO.refl _)
   | (with_reducible exact LeO.none _)
   | (with_reducible refine LeO.ite ?_ ?_)
   | (with_reducible refine LeO.bind ?_ (fun _ => ?_))
theorem vendmeterref_CheckDigit.mono : ∀ a0 k, LeO (vendmeterref_CheckDigit.f k a0) (vendmeterref_CheckDigit.f (k + 1) a0) := by
 intro a0 k
 have ih0 := vendmeterref_CheckDigit.mono_l k
 unfold vendmeterref_CheckDigit.f
 repeat' first
   | (with_reducible exact ih0 _ _)
   | (with_reducible exact vendmeterref_Dec.mono _ _)
   | (with_reducible exact vendmeterref_DigitsMay.mono _ _)
   | (with_reducible exact vendmeterref_folded.mono _ _ _)
   | (with_reducible exact LeO.refl _)
   | (with_reducible exact LeO.none _)
   | (with_reducible refine LeO.ite ?_ ?_)
   | (with_reducible refine LeO.bind ?_ (fun _ => ?_))
set_option maxHeartbeats 8000000 in
set_option maxRecDepth 100000 in
theorem vendmeterref_CheckDigit.calls (k : Nat) (a0 : ByteArray) (r1 : Int) (r2 : Int) (w : World) (h : vendmeterref_CheckDigit.f k a0 = some (r1, r2)) :
  Calls Tryz.prog 41 #[.string a0] w fun e w' => e = .returned (.tuple #[.int .i64 r1, .int .i64 r2]) ∧ Below w.heap.size w w' := by
 have HB := am (Below.refl w.heap.size w)
 have H : ((vendmeterref_DigitsMay.f k a0).bind fun t246 => (if t246 = 0 then (vendmeterref_CheckDigit.l0 k a0 0) else (some (0, t246)))) = some (r1, r2) := h
 clear h
 replace H := Option.bind_eq_some_iff.mp H
 obtain ⟨t246, A20, H⟩ := H
 (try dsimp only at H)
 have A2 := am A20
 clear A20
 have HC3 := am H
 clear H
 go_enter Tryz.func41, Tryz.ntmps41
 go_upto_region 2 with (first | ((with_reducible refine gate_callee (f := 50) rfl ?_); refine czgo (some 7) Tryz.func50 #[.string a0] ?_; (with_reducible refine (vendmeterref_DigitsMay.calls k a0 t246 _ A2.out).mono ?_); rintro e w' ⟨rfl, ⟨nd, rfl⟩⟩; refine ⟨_, rfl, ?_⟩))
 have H := HC3.out
 clear HC3
 revert H
 refine czei (fun c4b0 c4b1 H => ?_) (fun c4 c4b0 c4b1 H => ?_)
 ·
  have H' := am H
  clear H
  go_wp2
  go_loopg [5] k (fun kq v5 w' => ∃ (x5_1 : Int), v5 = .int .i64 x5_1 ∧ Aside0 (vendmeterref_CheckDigit.l0 kq a0 x5_1 = some (r1, r2)) ∧ Aside0 (kq ≤ k) ∧ Aside0 (Below w.heap.size w w'))
  case atStart => exact ⟨(0), czr, H', ⟨Nat.le_refl _⟩, ⟨czbl HB⟩⟩
  case round =>
   clear H'
   try clear p2
   try clear c4
   try clear c4b0
   try clear c4b1
   obtain ⟨x5_1, rfl, HA, HK1, HB⟩ := hrel
   cases gk with
   | zero => exact absurd HA.out (by simp [vendmeterref_CheckDigit.l0])
   | succ k1 =>
    have H := HA.out
    clear HA
    simp only [vendmeterref_CheckDigit.l0] at H
    revert H
    refine czif (fun c5b0 H => ?_) (fun c5b0 H => ?_)
    ·
     replace H := Option.bind_eq_some_iff.mp H
     obtain ⟨t247, A60, H⟩ := H
     (try dsimp only at H)
     have A6 := am A60
     clear A60
     by_cases c7 : a0.size + t247.size ≤ 9223372036854775807
     ·
      rw [if_pos c7] at H
      have c7b0 := eq_true c7
      have c7b1 : decide (a0.size + t247.size ≤ 9223372036854775807) = true := decide_eq_true c7
      try have c7b2 : (9223372036854775807 < a0.size + t247.size) = False := eq_false (Nat.not_lt.2 c7)
      replace H := Option.bind_eq_some_iff.mp H
      obtain ⟨t248, A80, H⟩ := H
      (try dsimp only at H)
      have A8 := am A80
      clear A80
      revert H
      refine czei (fun c9b0 c9b1 H => ?_) (fun c9 c9b0 c9b1 H => ?_)
      ·
       simp only [Option.some.injEq, Prod.mk.injEq] at H
       obtain ⟨rfl, rfl⟩ := H
       go_wp2_with (first | ((with_reducible refine gate_callee (f := 20) rfl ?_); refine czgo (some 17) Tryz.func20 #[.int .i64 x5_1] ?_; (with_reducible refine (vendmeterref_Dec.calls k1 x5_1 t247 _ A6.out).mono ?_); rintro e w10 ⟨rfl, hb⟩; refine ⟨_, rfl, ?_⟩; replace HB := am (below_step (czbl HB) hb); (try clear hb hb2 hk hi)) | ((with_reducible refine gate_callee (f := 73) rfl ?_); refine czgo (some 19) Tryz.func73 #[.string (a0 ++ t247), .int .i64 0] ?_; (with_reducible refine (vendmeterref_folded.calls k1 (a0 ++ t247) 0 t248 _ A8.out).mono ?_); rintro e w' ⟨rfl, ⟨nd, rfl⟩⟩; refine ⟨_, rfl, ?_⟩))
       go_ret2
       exact ⟨czeq, czbl HB⟩
      ·
       have H' := am H
       clear H
       go_wp2_with (first | ((with_reducible refine gate_callee (f := 20) rfl ?_); refine czgo (some 17) Tryz.func20 #[.int .i64 x5_1] ?_; (with_reducible refine (vendmeterref_Dec.calls k1 x5_1 t247 _ A6.out).mono ?_); rintro e w11 ⟨rfl, hb⟩; refine ⟨_, rfl, ?_⟩; replace HB := am (below_step (czbl HB) hb); (try clear hb hb2 hk hi)) | ((with_reducible refine gate_callee (f := 73) rfl ?_); refine czgo (some 19) Tryz.func73 #[.string (a0 ++ t247), .int .i64 0] ?_; (with_reducible refine (vendmeterref_folded.calls k1 (a0 ++ t247) 0 t248 _ A8.out).mono ?_); rintro e w' ⟨rfl, ⟨nd, rfl⟩⟩; refine ⟨_, rfl, ?_⟩))
       go_roundg k1
       case measure => have := HK1.out; omega
       case rel => exact ⟨(wrap64 (x5_1 + 1)), czr, H', ⟨by have := HK1.out; omega⟩, ⟨czbl HB⟩⟩
     ·
      rw [if_neg c7] at H
      exact absurd H (by simp)
    ·
     simp only [Option.some.injEq, Prod.mk.injEq] at H
     obtain ⟨rfl, rfl⟩ := H
     go_wp2
     go_ret2
     exact ⟨czeq, czbl HB⟩
 ·
  simp only [Option.some.injEq, Prod.mk.injEq] at H
  obtain ⟨rfl, rfl⟩ := H
  go_wp2
  go_ret2
  exact ⟨czeq, czbl HB⟩

/-! ### vendmeterref_NumberOf: function 18 -/
def vendmeterref_NumberOf.f (k : Nat) (a0 : Int) : Option (ByteArray × Int) := (vendmeterref_In.f a0 0 49).bind fun t249 => (if t249 = true then ((vendmeterref_padded.f k a0 10).bind fun t250 => ((vendmeterref_CheckDigit.f k t250).bind fun bt251 => ((vendmeterref_Dec.f k bt251.1).bind fun t253 => (if t250.size + t253.size ≤ 9223372036854775807 then (some (t250 ++ t253, 0)) else (none))))) else (some ((⟨#[]⟩ : ByteArray), 18)))
theorem vendmeterref_NumberOf.mono : ∀ a0 k, LeO (vendmeterref_NumberOf.f k a0) (vendmeterref_NumberOf.f (k + 1) a0) := by
 intro a0 k
 unfold vendmeterref_NumberOf.f
 repeat' first
   | (with_reducible exact vendmeterref_CheckDigit.mono _ _)
   | (with_reducible exact vendmeterref_Dec.mono _ _)
   | (with_reducible exact vendmeterref_padded.mono _ _ _)
   | (with_reducible exact LeO.refl _)
   | (with_reducible exact LeO.none _)
   | (with_reducible refine LeO.ite ?_ ?_)
   | (with_reducible refine LeO.bind ?_ (fun _ => ?_))
set_option maxHeartbeats 8000000 in
set_option maxRecDepth 100000 in
theorem vendmeterref_NumberOf.calls (k : Nat) (a0 : Int) (r1 : ByteArray) (r2 : Int) (w : World) (h : vendmeterref_NumberOf.f k a0 = some (r1, r2)) :
  Calls Tryz.prog 18 #[.int .i64 a0] w fun e w' => e = .returned (.tuple #[.string r1, .int .i64 r2]) ∧ Below w.heap.size w w' := by
 have HB := am (Below.refl w.heap.size w)
 have H : ((vendmeterref_In.f a0 0 49).bind fun t249 => (if t249 = true then ((vendmeterref_padded.f k a0 10).bind fun t250 => ((vendmeterref_CheckDigit.f k t250).bind fun bt251 => ((vendmeterref_Dec.f k bt251.1).bind fun t253 => (if t250.size + t253.size ≤ 9223372036854775807 then (some (t250 ++ t253, 0)) else (none))))) else (some ((⟨#[]⟩ : ByteArray), 18)))) = some (r1, r2) := h
 clear h
 replace H := Option.bind_eq_some_iff.mp H
 obtain ⟨t249, A20, H⟩ := H
 (try dsimp only at H)
 have A2 := am A20
 clear A20
 by_cases c3 : t249 = true
 ·
  subst c3
  have H1 : ((vendmeterref_padded.f k a0 10).bind fun t250 => ((vendmeterref_CheckDigit.f k t250).bind fun bt251 => ((vendmeterref_Dec.f k bt251.1).bind fun t253 => (if t250.size + t253.size ≤ 9223372036854775807 then (some (t250 ++ t253, 0)) else (none))))) = some (r1, r2) := by rw [if_pos rfl] at H; exact H
  clear H
  have H := H1
  clear H1
  replace H := Option.bind_eq_some_iff.mp H
  obtain ⟨t250, A40, H⟩ := H
  (try dsimp only at H)
  have A4 := am A40
  clear A40
  replace H := Option.bind_eq_some_iff.mp H
  obtain ⟨⟨t251, t252⟩, A50, H⟩ := H
  (try dsimp only at H)
  have A5 := am A50
  clear A50
  replace H := Option.bind_eq_some_iff.mp H
  obtain ⟨t253, A60, H⟩ := H
  (try dsimp only at H)
  have A6 := am A60
  clear A60
  by_cases c7 : t250.size + t253.size ≤ 9223372036854775807
  ·
   rw [if_pos c7] at H
   have c7b0 := eq_true c7
   have c7b1 : decide (t250.size + t253.size ≤ 9223372036854775807) = true := decide_eq_true c7
   try have c7b2 : (9223372036854775807 < t250.size + t253.size) = False := eq_false (Nat.not_lt.2 c7)
   simp only [Option.some.injEq, Prod.mk.injEq] at H
   obtain ⟨rfl, rfl⟩ := H
   go_enter Tryz.func18, Tryz.ntmps18
   go_wp2_with (first | ((with_reducible refine gate_callee (f := 38) rfl ?_); refine czgo (some 8) Tryz.func38 #[.int .i64 a0, .int .i64 0, .int .i64 49] ?_; (with_reducible refine (vendmeterref_In.calls a0 0 49 true _ A2.out).mono ?_); rintro e w' ⟨rfl, ⟨nd, rfl⟩⟩; refine ⟨_, rfl, ?_⟩) | ((with_reducible refine gate_callee (f := 40) rfl ?_); refine czgo (some 11) Tryz.func40 #[.int .i64 a0, .int .i64 10] ?_; (with_reducible refine (vendmeterref_padded.calls k a0 10 t250 _ A4.out).mono ?_); rintro e w8 ⟨rfl, hb⟩; refine ⟨_, rfl, ?_⟩; replace HB := am (below_step (czbl HB) hb); (try clear hb hb2 hk hi)) | ((with_reducible refine gate_callee (f := 41) rfl ?_); refine czgo (some 14) Tryz.func41 #[.string t250] ?_; (with_reducible refine (vendmeterref_CheckDigit.calls k t250 t251 t252 _ A5.out).mono ?_); rintro e w9 ⟨rfl, hb⟩; refine ⟨_, rfl, ?_⟩; replace HB := am (below_step (czbl HB) hb); (try clear hb hb2 hk hi)) | ((with_reducible refine gate_callee (f := 20) rfl ?_); refine czgo (some 19) Tryz.func20 #[.int .i64 t251] ?_; (with_reducible refine (vendmeterref_Dec.calls k t251 t253 _ A6.out).mono ?_); rintro e w10 ⟨rfl, hb⟩; refine ⟨_, rfl, ?_⟩; replace HB := am (below_step (czbl HB) hb); (try clear hb hb2 hk hi)))
   go_ret2
   exact ⟨czeq, czbl HB⟩
  ·
   rw [if_neg c7] at H
   exact absurd H (by simp)
 ·
  replace c3 := Bool.eq_false_iff.mpr c3
  subst c3
  have H1 : (some ((⟨#[]⟩ : ByteArray), 18)) = some (r1, r2) := by rw [if_neg (show ¬ (false = true) by decide)] at H; exact H
  clear H
  have H := H1
  clear H1
  simp only [Option.some.injEq, Prod.mk.injEq] at H
  obtain ⟨rfl, rfl⟩ := H
  go_enter Tryz.func18, Tryz.ntmps18
  go_wp2_with (first | ((with_reducible refine gate_callee (f := 38) rfl ?_); refine czgo (some 8) Tryz.func38 #[.int .i64 a0, .int .i64 0, .int .i64 49] ?_; (with_reducible refine (vendmeterref_In.calls a0 0 49 false _ A2.out).mono ?_); rintro e w' ⟨rfl, ⟨nd, rfl⟩⟩; refine ⟨_, rfl, ?_⟩))
  go_ret2
  exact ⟨czeq, czbl HB⟩

/-! ### vendmeterref_Shown: function 19 -/
def vendmeterref_Shown.f : Nat → Int → Option (ByteArray × Int)
 | 0, _ => none
 | k + 1, a0 => (vendmeterref_In.f a0 (-1000000000000) 1000000000000).bind fun t254 => (if t254 = true then (if a0 < 0 then ((vendmeterref_Shown.f k (wrap64 (-a0))).bind fun bt255 => (if 1 + bt255.1.size ≤ 9223372036854775807 then (some ((⟨#[45]⟩ : ByteArray) ++ bt255.1, 0)) else (none))) else ((vendmeterref_Dec.f k (wrap64 (Int.tdiv a0 100))).bind fun t257 => (if t257.size + 1 ≤ 9223372036854775807 then ((vendmeterref_Dec.f k (Int.tmod (wrap64 (Int.tdiv a0 10)) 10)).bind fun t258 => (if (t257 ++ (⟨#[46]⟩ : ByteArray)).size + t258.size ≤ 9223372036854775807 then ((vendmeterref_Dec.f k (Int.tmod a0 10)).bind fun t259 => (if ((t257 ++ (⟨#[46]⟩ : ByteArray)) ++ t258).size + t259.size ≤ 9223372036854775807 then (some (((t257 ++ (⟨#[46]⟩ : ByteArray)) ++ t258) ++ t259, 0)) else (none))) else (none))) else (none)))) else (some ((⟨#[]⟩ : ByteArray), 2)))
theorem vendmeterref_Shown.mono_l : ∀ k, (∀ y0, LeO (vendmeterref_Shown.f k y0) (vendmeterref_Shown.f (k + 1) y0))
 | 0 => fun _ r h => by simp [vendmeterref_Shown.f] at h
 | k + 1 => by
  have ih0 := vendmeterref_Shown.mono_l k
  ·
   intro y0
   unfold vendmeterref_Shown.f
   repeat' first
   | (with_reducible exact ih0 _)
   | (with_reducible exact vendmeterref_Dec.mono _ _)
   | (with_reducible exact LeO.refl _)
   | (with_reducible exact LeO.none _)
   | (with_reducible refine LeO.ite ?_ ?_)
   | (with_reducible refine LeO.bind ?_ (fun _ => ?_))
theorem vendmeterref_Shown.mono : ∀ a0 k, LeO (vendmeterref_Shown.f k a0) (vendmeterref_Shown.f (k + 1) a0) := by
 intro a0 k
 have ih0 := vendmeterref_Shown.mono_l k
 exact ih0 a0
set_option maxHeartbeats 8000000 in
set_option maxRecDepth 100000 in
theorem vendmeterref_Shown.calls (k : Nat) : ∀ (a0 : Int) (r1 : ByteArray) (r2 : Int) (w : World) (h : vendmeterref_Shown.f k a0 = some (r1, r2)),
  Calls Tryz.prog 19 #[.int .i64 a0] w fun e w' => e = .returned (.tuple #[.string r1, .int .i64 r2]) ∧ Below w.heap.size w w' := by
 induction k using Nat.strongRecOn with
 | _ k ih =>
 intro a0 r1 r2 w h
 cases k with
 | zero => exact absurd h (by simp [vendmeterref_Shown.f])
 | succ k =>
 simp only [vendmeterref_Shown.f] at h
 have HB := am (Below.refl w.heap.size w)
 have H : ((vendmeterref_In.f a0 (-1000000000000) 1000000000000).bind fun t254 => (if t254 = true then (if a0 < 0 then ((vendmeterref_Shown.f k (wrap64 (-a0))).bind fun bt255 => (if 1 + bt255.1.size ≤ 9223372036854775807 then (some ((⟨#[45]⟩ : ByteArray) ++ bt255.1, 0)) else (none))) else ((vendmeterref_Dec.f k (wrap64 (Int.tdiv a0 100))).bind fun t257 => (if t257.size + 1 ≤ 9223372036854775807 then ((vendmeterref_Dec.f k (Int.tmod (wrap64 (Int.tdiv a0 10)) 10)).bind fun t258 => (if (t257 ++ (⟨#[46]⟩ : ByteArray)).size + t258.size ≤ 9223372036854775807 then ((vendmeterref_Dec.f k (Int.tmod a0 10)).bind fun t259 => (if ((t257 ++ (⟨#[46]⟩ : ByteArray)) ++ t258).size + t259.size ≤ 9223372036854775807 then (some (((t257 ++ (⟨#[46]⟩ : ByteArray)) ++ t258) ++ t259, 0)) else (none))) else (none))) else (none)))) else (some ((⟨#[]⟩ : ByteArray), 2)))) = some (r1, r2) := h
 clear h
 replace H := Option.bind_eq_some_iff.mp H
 obtain ⟨t254, A20, H⟩ := H
 (try dsimp only at H)
 have A2 := am A20
 clear A20
 by_cases c3 : t254 = true
 ·
  subst c3
  have H1 : (if a0 < 0 then ((vendmeterref_Shown.f k (wrap64 (-a0))).bind fun bt255 => (if 1 + bt255.1.size ≤ 9223372036854775807 then (some ((⟨#[45]⟩ : ByteArray) ++ bt255.1, 0)) else (none))) else ((vendmeterref_Dec.f k (wrap64 (Int.tdiv a0 100))).bind fun t257 => (if t257.size + 1 ≤ 9223372036854775807 then ((vendmeterref_Dec.f k (Int.tmod (wrap64 (Int.tdiv a0 10)) 10)).bind fun t258 => (if (t257 ++ (⟨#[46]⟩ : ByteArray)).size + t258.size ≤ 9223372036854775807 then ((vendmeterref_Dec.f k (Int.tmod a0 10)).bind fun t259 => (if ((t257 ++ (⟨#[46]⟩ : ByteArray)) ++ t258).size + t259.size ≤ 9223372036854775807 then (some (((t257 ++ (⟨#[46]⟩ : ByteArray)) ++ t258) ++ t259, 0)) else (none))) else (none))) else (none)))) = some (r1, r2) := by rw [if_pos rfl] at H; exact H
  clear H
  have H := H1
  clear H1
  have HC4 := am H
  clear H
  go_enter Tryz.func19, Tryz.ntmps19
  go_upto_region 3 with (first | ((with_reducible refine gate_callee (f := 38) rfl ?_); refine czgo (some 7) Tryz.func38 #[.int .i64 a0, .int .i64 (-1000000000000), .int .i64 1000000000000] ?_; (with_reducible refine (vendmeterref_In.calls a0 (-1000000000000) 1000000000000 true _ A2.out).mono ?_); rintro e w' ⟨rfl, ⟨nd, rfl⟩⟩; refine ⟨_, rfl, ?_⟩))
  have H := HC4.out
  clear HC4
  revert H
  refine czif (fun c5b0 H => ?_) (fun c5b0 H => ?_)
  ·
   replace H := Option.bind_eq_some_iff.mp H
   obtain ⟨⟨t255, t256⟩, A60, H⟩ := H
   (try dsimp only at H)
   have A6 := am A60
   clear A60
   by_cases c7 : 1 + t255.size ≤ 9223372036854775807
   ·
    rw [if_pos c7] at H
    have c7b0 := eq_true c7
    have c7b1 : decide (1 + t255.size ≤ 9223372036854775807) = true := decide_eq_true c7
    try have c7b2 : (9223372036854775807 < 1 + t255.size) = False := eq_false (Nat.not_lt.2 c7)
    simp only [Option.some.injEq, Prod.mk.injEq] at H
    obtain ⟨rfl, rfl⟩ := H
    go_wp2_with (first | ((with_reducible refine gate_callee (f := 19) rfl ?_); refine czgo (some 14) Tryz.func19 #[.int .i64 (wrap64 (-a0))] ?_; (with_reducible refine (ih k (by omega) (wrap64 (-a0)) t255 t256 _ A6.out).mono ?_); rintro e w8 ⟨rfl, hb⟩; refine ⟨_, rfl, ?_⟩; replace HB := am (below_step (czbl HB) hb); (try clear hb hb2 hk hi)))
    go_ret2
    exact ⟨czeq, czbl HB⟩
   ·
    rw [if_neg c7] at H
    exact absurd H (by simp)
  ·
   replace H := Option.bind_eq_some_iff.mp H
   obtain ⟨t257, A90, H⟩ := H
   (try dsimp only at H)
   have A9 := am A90
   clear A90
   by_cases c10 : t257.size + 1 ≤ 9223372036854775807
   ·
    rw [if_pos c10] at H
    have c10b0 := eq_true c10
    have c10b1 : decide (t257.size + 1 ≤ 9223372036854775807) = true := decide_eq_true c10
    try have c10b2 : (9223372036854775807 < t257.size + 1) = False := eq_false (Nat.not_lt.2 c10)
    replace H := Option.bind_eq_some_iff.mp H
    obtain ⟨t258, A110, H⟩ := H
    (try dsimp only at H)
    have A11 := am A110
    clear A110
    by_cases c12 : (t257 ++ (⟨#[46]⟩ : ByteArray)).size + t258.size ≤ 9223372036854775807
    ·
     rw [if_pos c12] at H
     have c12b0 := eq_true c12
     have c12b1 : decide ((t257 ++ (⟨#[46]⟩ : ByteArray)).size + t258.size ≤ 9223372036854775807) = true := decide_eq_true c12
     try have c12b2 : (9223372036854775807 < (t257 ++ (⟨#[46]⟩ : ByteArray)).size + t258.size) = False := eq_false (Nat.not_lt.2 c12)
     try have c12b3 : (9223372036854775807 < t257.size + 1 + t258.size) = False := eq_false (by have l0_ : (⟨#[46]⟩ : ByteArray).size = 1 := rfl; have z_ := c12; (try simp only [ByteArray.size_append, ByteArray.size_extract, Nat.min_self] at z_); omega)
     try have c12b4 : (t257.size + 1 + t258.size ≤ 9223372036854775807) = True := eq_true (by have l0_ : (⟨#[46]⟩ : ByteArray).size = 1 := rfl; have z_ := c12; (try simp only [ByteArray.size_append, ByteArray.size_extract, Nat.min_self] at z_); omega)
     replace H := Option.bind_eq_some_iff.mp H
     obtain ⟨t259, A130, H⟩ := H
     (try dsimp only at H)
     have A13 := am A130
     clear A130
     by_cases c14 : ((t257 ++ (⟨#[46]⟩ : ByteArray)) ++ t258).size + t259.size ≤ 9223372036854775807
     ·
      rw [if_pos c14] at H
      have c14b0 := eq_true c14
      have c14b1 : decide (((t257 ++ (⟨#[46]⟩ : ByteArray)) ++ t258).size + t259.size ≤ 9223372036854775807) = true := decide_eq_true c14
      try have c14b2 : (9223372036854775807 < ((t257 ++ (⟨#[46]⟩ : ByteArray)) ++ t258).size + t259.size) = False := eq_false (Nat.not_lt.2 c14)
      try have c14b3 : (9223372036854775807 < t257.size + 1 + t258.size + t259.size) = False := eq_false (by have l0_ : (⟨#[46]⟩ : ByteArray).size = 1 := rfl; have z_ := c14; (try simp only [ByteArray.size_append, ByteArray.size_extract, Nat.min_self] at z_); omega)
      try have c14b4 : (t257.size + 1 + t258.size + t259.size ≤ 9223372036854775807) = True := eq_true (by have l0_ : (⟨#[46]⟩ : ByteArray).size = 1 := rfl; have z_ := c14; (try simp only [ByteArray.size_append, ByteArray.size_extract, Nat.min_self] at z_); omega)
      simp only [Option.some.injEq, Prod.mk.injEq] at H
      obtain ⟨rfl, rfl⟩ := H
      go_wp2_with (first | ((with_reducible refine gate_callee (f := 20) rfl ?_); refine czgo (some 21) Tryz.func20 #[.int .i64 (wrap64 (Int.tdiv a0 100))] ?_; (with_reducible refine (vendmeterref_Dec.calls k (wrap64 (Int.tdiv a0 100)) t257 _ A9.out).mono ?_); rintro e w15 ⟨rfl, hb⟩; refine ⟨_, rfl, ?_⟩; replace HB := am (below_step (czbl HB) hb); (try clear hb hb2 hk hi)) | ((with_reducible refine gate_callee (f := 20) rfl ?_); refine czgo (some 26) Tryz.func20 #[.int .i64 (Int.tmod (wrap64 (Int.tdiv a0 10)) 10)] ?_; (with_reducible refine (vendmeterref_Dec.calls k (Int.tmod (wrap64 (Int.tdiv a0 10)) 10) t258 _ A11.out).mono ?_); rintro e w16 ⟨rfl, hb⟩; refine ⟨_, rfl, ?_⟩; replace HB := am (below_step (czbl HB) hb); (try clear hb hb2 hk hi)) | ((with_reducible refine gate_callee (f := 20) rfl ?_); refine czgo (some 30) Tryz.func20 #[.int .i64 (Int.tmod a0 10)] ?_; (with_reducible refine (vendmeterref_Dec.calls k (Int.tmod a0 10) t259 _ A13.out).mono ?_); rintro e w17 ⟨rfl, hb⟩; refine ⟨_, rfl, ?_⟩; replace HB := am (below_step (czbl HB) hb); (try clear hb hb2 hk hi)))
      go_ret2
      exact ⟨czeq, czbl HB⟩
     ·
      rw [if_neg c14] at H
      exact absurd H (by simp)
    ·
     rw [if_neg c12] at H
     exact absurd H (by simp)
   ·
    rw [if_neg c10] at H
    exact absurd H (by simp)
 ·
  replace c3 := Bool.eq_false_iff.mpr c3
  subst c3
  have H1 : (some ((⟨#[]⟩ : ByteArray), 2)) = some (r1, r2) := by rw [if_neg (show ¬ (false = true) by decide)] at H; exact H
  clear H
  have H := H1
  clear H1
  simp only [Option.some.injEq, Prod.mk.injEq] at H
  obtain ⟨rfl, rfl⟩ := H
  go_enter Tryz.func19, Tryz.ntmps19
  go_wp2_with (first | ((with_reducible refine gate_callee (f := 38) rfl ?_); refine czgo (some 7) Tryz.func38 #[.int .i64 a0, .int .i64 (-1000000000000), .int .i64 1000000000000] ?_; (with_reducible refine (vendmeterref_In.calls a0 (-1000000000000) 1000000000000 false _ A2.out).mono ?_); rintro e w' ⟨rfl, ⟨nd, rfl⟩⟩; refine ⟨_, rfl, ?_⟩))
  go_ret2
  exact ⟨czeq, czbl HB⟩

section
variable {P : Program} {ops : Array Oper} {Q : Exit → Act → World → Prop} {md : Region.Mode} {S : World → Prop} {ds : List Nat}
/-- One operation of a region that draws its order, taken first wherever it may come up: it yields in every world. -/
theorem pp {oi : Oper} {v : Value} {fuel : Nat} {l l' : Array Bool} {a a' : Act} {w : World} (i n : Nat) (h : wpAnyLast P md ops Q S ds fuel l' a' w) (hi : ops[i]? = some oi := by rfl) (hN : oi.dst = some n := by rfl) (hl : l.setIfInBounds i true = l' := by (conv => lhs; simp only [List.setIfInBounds_toArray, List.set_cons_zero, List.set_cons_succ])) (hc : anyB md ops l l' i = true := by kernel_rfl) (hQ : ∀ c a w, Q (.panic c) (a.put oi.dst v) w → Q (.panic c) a w := by exact fun _ _ _ h => h) (hw : Region.wanted oi (yielded ops a.tmps) = true := by rfl)
  (hy : ∀ w', (execOp a.eval oi).run P w' = .ok (.value v) w' := by intro w'; go_simp; with_reducible rfl) (ha : a.put (some n) v = a' := by (conv => lhs; simp only [Act.put, List.setIfInBounds_toArray, List.set_cons_zero, List.set_cons_succ, i64_w, i32_w])) : wpAnyLast P md ops Q S ds (fuel + 1) l a w :=
 pure_ l' hi hN hc hQ (.inl ⟨hw, hy⟩) ha h
/-- The same for a load that is held: it yields in every world that meets S. -/
theorem tk {oi : Oper} {v : Value} {fuel : Nat} {l l' : Array Bool} {a a' : Act} {w : World} (i n : Nat) (h : wpAnyLast P md ops Q S ds fuel l' a' w) (hS : S w := by assumption) (hi : ops[i]? = some oi := by rfl) (hN : oi.dst = some n := by rfl) (hl : l.setIfInBounds i true = l' := by (conv => lhs; simp only [List.setIfInBounds_toArray, List.set_cons_zero, List.set_cons_succ])) (hc : takeB md ops ds l l' i = true := by kernel_rfl) (hQ : ∀ c a w, Q (.panic c) (a.put oi.dst v) w → Q (.panic c) a w := by exact fun _ _ _ h => h) (hw : Region.wanted oi (yielded ops a.tmps) = true := by rfl)
  (hy : ∀ w', S w' → (execOp a.eval oi).run P w' = .ok (.value v) w' := by intro w' hS; (repeat obtain ⟨_, hS⟩ := hS); go_simp; with_reducible rfl) (ha : a.put (some n) v = a' := by (conv => lhs; simp only [Act.put, List.setIfInBounds_toArray, List.set_cons_zero, List.set_cons_succ, i64_w, i32_w])) : wpAnyLast P md ops Q S ds (fuel + 1) l a w :=
 take_ l' hi hN hc hQ (.inl ⟨hw, hy⟩) hS ha h
end
theorem below_drawn {w W : World} (h : Drawn0 w W) : Below w.heap.size w W := by
 obtain ⟨n, rfl⟩ := h
 exact pw_below_drewN (Below.refl _ _) n

def rsT (n i a c d f g u : ByteArray) : ByteArray := ((((((((((((((((⟨#[77, 69, 84, 69, 82, 32]⟩ : ByteArray) ++ n) ++ (⟨#[10, 78, 85, 77, 66, 69, 82, 32]⟩ : ByteArray)) ++ i) ++ (⟨#[10, 84, 69, 78, 68, 69, 82, 32]⟩ : ByteArray)) ++ a) ++ (⟨#[10, 68, 69, 66, 84, 32]⟩ : ByteArray)) ++ c) ++ (⟨#[10, 70, 69, 69, 32]⟩ : ByteArray)) ++ d) ++ (⟨#[10, 80, 82, 73, 67, 69, 32]⟩ : ByteArray)) ++ f) ++ (⟨#[10, 67, 72, 65, 78, 71, 69, 32]⟩ : ByteArray)) ++ g) ++ (⟨#[10, 85, 78, 73, 84, 83, 32]⟩ : ByteArray)) ++ u)
def rsE (s tok : ByteArray) : ByteArray := (((((((((((s ++ (⟨#[10, 84, 79, 75, 69, 78, 32]⟩ : ByteArray)) ++ tok.extract 0 4) ++ (⟨#[32]⟩ : ByteArray)) ++ tok.extract 4 8) ++ (⟨#[32]⟩ : ByteArray)) ++ tok.extract 8 12) ++ (⟨#[32]⟩ : ByteArray)) ++ tok.extract 12 16) ++ (⟨#[32]⟩ : ByteArray)) ++ tok.extract 16 20) ++ (⟨#[10]⟩ : ByteArray))
def vendmeterref_ReceiptShown.g (k : Nat) (me id te de fe pr ch un : Int) (tok : ByteArray) : Option (ByteArray × Int) :=
 (vendmeterref_NumberOf.f k me).bind fun n => (vendmeterref_Shown.f k te).bind fun a => (vendmeterref_Shown.f k de).bind fun c => (vendmeterref_Shown.f k fe).bind fun d => (vendmeterref_Shown.f k pr).bind fun f => (vendmeterref_Shown.f k ch).bind fun g => (vendmeterref_Dec.f k id).bind fun i => (vendmeterref_Dec.f k un).bind fun u =>
  if (rcSmall n.1 && rcSmall i && rcSmall a.1 && rcSmall c.1 && rcSmall d.1 && rcSmall f.1 && rcSmall g.1 && rcSmall u && decide (tok.size = 20)) = true then some (rsE (rsT n.1 i a.1 c.1 d.1 f.1 g.1 u) tok, 0) else none
theorem billc {W : World} {g : Nat} {a0 a1 a2 a3 a4 a5 a6 : Value} {t : TypeId} (H : W.heap[g]? = some (.cells #[a0, a1, a2, a3, a4, a5, a6] t (0, 0))) :
  W.cell? ⟨g, 0, none⟩ = some a0 ∧ W.cell? ⟨g, 1, none⟩ = some a1 ∧ W.cell? ⟨g, 2, none⟩ = some a2 ∧ W.cell? ⟨g, 3, none⟩ = some a3 ∧ W.cell? ⟨g, 4, none⟩ = some a4 ∧ W.cell? ⟨g, 5, none⟩ = some a5 ∧ W.cell? ⟨g, 6, none⟩ = some a6 :=
 ⟨(blk_cell H 0).trans rfl, (blk_cell H 1).trans rfl, (blk_cell H 2).trans rfl, (blk_cell H 3).trans rfl, (blk_cell H 4).trans rfl, (blk_cell H 5).trans rfl, (blk_cell H 6).trans rfl⟩
set_option maxHeartbeats 8000000 in
set_option maxRecDepth 100000 in
theorem vendmeterref_ReceiptShown.early (k : Nat) (me id te de fe pr ch un e0 : Int) (tok : ByteArray) (w : World) (hc : vendmeterref_ReceiptFault.f k me id te de fe pr ch un tok = some e0) (h0 : e0 ≠ 0) :
  Calls Tryz.prog 6 #[.agg #[.int .i64 me, .int .i64 id, .int .i64 te, .int .i64 de, .int .i64 fe, .int .i64 pr, .int .i64 ch, .int .i64 un, .string tok]] w fun e w' => e = .returned (.tuple #[.string ⟨#[]⟩, .int .i64 e0]) ∧ Below w.heap.size w w' := by
 have hu25 := Tryz.underlying25
 have hu23 := Tryz.underlying23
 have S1 := am (blk_new w (.cells #[.int .i64 me, .int .i64 id, .int .i64 te, .int .i64 de, .int .i64 fe, .int .i64 pr, .int .i64 ch, .int .i64 un, .string tok] 25))
 have SB := am (below_alloc (Below.refl w.heap.size w) (.cells #[.int .i64 me, .int .i64 id, .int .i64 te, .int .i64 de, .int .i64 fe, .int .i64 pr, .int .i64 ch, .int .i64 un, .string tok] 25))
 obtain ⟨x0, x1, x2, x3, x4, x5, x6, x7, x8⟩ := rcpc S1.out
 have HC := am hc
 have q0 : (e0 != 0) = true := bne_iff_ne.mpr h0
 clear hc h0
 go_enter Tryz.func6, Tryz.ntmps6
 go_wp2_with (go_at_call 17; refine (vendmeterref_ReceiptFault.calls k me id te de fe pr ch un tok e0 _ HC.out).mono ?_; rintro e w1 ⟨rfl, hb⟩; have SB1 := am (below_then SB.out SB.out.size hb); clear hb x0 x1 x2 x3 x4 x5 x6 x7 x8)
 go_ret2
 exact ⟨rfl, SB1.out⟩
set_option maxHeartbeats 16000000 in
set_option maxRecDepth 100000 in
theorem vendmeterref_ReceiptShown.main (k : Nat) (me id te de fe pr ch un : Int) (tok : ByteArray) (n i a c d f g u : ByteArray) (en ea ec ed ef eg : Int) (w : World) (hc : vendmeterref_ReceiptFault.f k me id te de fe pr ch un tok = some 0)
  (hn : vendmeterref_NumberOf.f k me = some (n, en)) (hi : vendmeterref_Dec.f k id = some i) (ha : vendmeterref_Shown.f k te = some (a, ea)) (hcc : vendmeterref_Shown.f k de = some (c, ec)) (hd : vendmeterref_Shown.f k fe = some (d, ed)) (hf : vendmeterref_Shown.f k pr = some (f, ef)) (hg : vendmeterref_Shown.f k ch = some (g, eg)) (hu : vendmeterref_Dec.f k un = some u) (htok : tok.size = 20) (hs : n.size ≤ 1000 ∧ i.size ≤ 1000 ∧ a.size ≤ 1000 ∧ c.size ≤ 1000 ∧ d.size ≤ 1000 ∧ f.size ≤ 1000 ∧ g.size ≤ 1000 ∧ u.size ≤ 1000) :
  Calls Tryz.prog 6 #[.agg #[.int .i64 me, .int .i64 id, .int .i64 te, .int .i64 de, .int .i64 fe, .int .i64 pr, .int .i64 ch, .int .i64 un, .string tok]] w fun e w' => e = .returned (.tuple #[.string (rsE (rsT n i a c d f g u) tok), .int .i64 0]) ∧ Below w.heap.size w w' := by
 have hu25 := Tryz.underlying25
 have hu23 := Tryz.underlying23
 have S1 := am (blk_new w (.cells #[.int .i64 me, .int .i64 id, .int .i64 te, .int .i64 de, .int .i64 fe, .int .i64 pr, .int .i64 ch, .int .i64 un, .string tok] 25))
 have SB := am (below_alloc (Below.refl w.heap.size w) (.cells #[.int .i64 me, .int .i64 id, .int .i64 te, .int .i64 de, .int .i64 fe, .int .i64 pr, .int .i64 ch, .int .i64 un, .string tok] 25))
 obtain ⟨x0, x1, x2, x3, x4, x5, x6, x7, x8⟩ := rcpc S1.out
 have HC := am hc
 have HN := am hn
 have HI := am hi
 have HA := am ha
 have HCC := am hcc
 have HD := am hd
 have HF := am hf
 have HG := am hg
 have HU := am hu
 have HS := am hs
 have HTK := am htok
 clear hc hn hi ha hcc hd hf hg hu hs htok
 go_enter Tryz.func6, Tryz.ntmps6
 go_upto_region 4 with (go_at_call 17; refine (vendmeterref_ReceiptFault.calls k me id te de fe pr ch un tok 0 _ HC.out).mono ?_; rintro e w1 ⟨rfl, hb⟩; replace S1 := am (blk_below S1.out hb); replace SB := am (below_then SB.out SB.out.size hb); clear hb x0 x1 x2 x3 x4 x5 x6 x7 x8; obtain ⟨x0, x1, x2, x3, x4, x5, x6, x7, x8⟩ := rcpc S1.out)
 go_upto_region 5 with (go_at_call 18; refine (vendmeterref_NumberOf.calls k me n en _ HN.out).mono ?_; rintro e w2 ⟨rfl, hb⟩; replace S1 := am (blk_below S1.out hb); replace SB := am (below_then SB.out SB.out.size hb); clear hb x0 x1 x2 x3 x4 x5 x6 x7 x8; obtain ⟨x0, x1, x2, x3, x4, x5, x6, x7, x8⟩ := rcpc S1.out)
 go_upto_region 6 with (first | ((with_reducible refine gate_dst (N := 7) rfl ?_); refine czbox 7 #[.int .i64 0, .int .i64 0, .int .i64 0, .int .i64 0, .int .i64 0, .int .i64 0, .int .i64 0] 23 ?_; intro g7 hg W7 hbox hb; have NE := am (show w.heap.size ≠ g7 by rw [hg]; exact Nat.ne_of_lt (blk_lt S1.out)); have GE := am (show w.heap.size ≤ g7 by rw [hg]; exact Nat.le_of_lt (blk_lt S1.out)); replace S1 := am (blk_below S1.out hb); replace SB := am (below_then SB.out SB.out.size hb); have S7 := am hbox; clear hb hg hbox x0 x1 x2 x3 x4 x5 x6 x7 x8) | ((with_reducible refine gate_store (t := 23) (p := 7) rfl ?_); refine seg.list rfl rfl 23 (.tmp 7) _ rfl 23 g7 0 #[.int .i64 0, .int .i64 0, .int .i64 0, .int .i64 0, .int .i64 0, .int .i64 0, .int .i64 0] #[.int .i64 id, .int .i64 te, .int .i64 de, .int .i64 fe, .int .i64 pr, .int .i64 ch, .int .i64 un] [.int .i64 id, .int .i64 te, .int .i64 de, .int .i64 fe, .int .i64 pr, .int .i64 ch, .int .i64 un] rfl rfl (by kernel_rfl) (by simp [Value.oneCell']) S7.1 (by simp) rfl ?_; intro W8 bx hgr; replace S1 := am (seg.far S1.1 hgr NE.1); replace SB := am (seg.below SB.1 hgr GE.1); replace S7 := am bx; clear bx hgr; obtain ⟨x0, x1, x2, x3, x4, x5, x6, x7, x8⟩ := rcpc S1.out; obtain ⟨y0, y1, y2, y3, y4, y5, y6⟩ := billc S7.out))
 go_upto_region 7 with (go_at_call 19; refine (vendmeterref_Shown.calls k te a ea _ HA.out).mono ?_; rintro e wi ⟨rfl, hb⟩; replace S1 := am (blk_below S1.out hb); replace S7 := am (blk_below S7.out hb); replace SB := am (below_then SB.out SB.out.size hb); clear hb x0 x1 x2 x3 x4 x5 x6 x7 x8 y0 y1 y2 y3 y4 y5 y6; obtain ⟨x0, x1, x2, x3, x4, x5, x6, x7, x8⟩ := rcpc S1.out; obtain ⟨y0, y1, y2, y3, y4, y5, y6⟩ := billc S7.out)
 go_upto_region 8 with (go_at_call 19; refine (vendmeterref_Shown.calls k de c ec _ HCC.out).mono ?_; rintro e wi ⟨rfl, hb⟩; replace S1 := am (blk_below S1.out hb); replace S7 := am (blk_below S7.out hb); replace SB := am (below_then SB.out SB.out.size hb); clear hb x0 x1 x2 x3 x4 x5 x6 x7 x8 y0 y1 y2 y3 y4 y5 y6; obtain ⟨x0, x1, x2, x3, x4, x5, x6, x7, x8⟩ := rcpc S1.out; obtain ⟨y0, y1, y2, y3, y4, y5, y6⟩ := billc S7.out)
 go_upto_region 9 with (go_at_call 19; refine (vendmeterref_Shown.calls k fe d ed _ HD.out).mono ?_; rintro e wi ⟨rfl, hb⟩; replace S1 := am (blk_below S1.out hb); replace S7 := am (blk_below S7.out hb); replace SB := am (below_then SB.out SB.out.size hb); clear hb x0 x1 x2 x3 x4 x5 x6 x7 x8 y0 y1 y2 y3 y4 y5 y6; obtain ⟨x0, x1, x2, x3, x4, x5, x6, x7, x8⟩ := rcpc S1.out; obtain ⟨y0, y1, y2, y3, y4, y5, y6⟩ := billc S7.out)
 go_upto_region 10 with (go_at_call 19; refine (vendmeterref_Shown.calls k pr f ef _ HF.out).mono ?_; rintro e wi ⟨rfl, hb⟩; replace S1 := am (blk_below S1.out hb); replace S7 := am (blk_below S7.out hb); replace SB := am (below_then SB.out SB.out.size hb); clear hb x0 x1 x2 x3 x4 x5 x6 x7 x8 y0 y1 y2 y3 y4 y5 y6; obtain ⟨x0, x1, x2, x3, x4, x5, x6, x7, x8⟩ := rcpc S1.out; obtain ⟨y0, y1, y2, y3, y4, y5, y6⟩ := billc S7.out)
 go_upto_region 11 with (go_at_call 19; refine (vendmeterref_Shown.calls k ch g eg _ HG.out).mono ?_; rintro e wi ⟨rfl, hb⟩; replace S1 := am (blk_below S1.out hb); replace S7 := am (blk_below S7.out hb); replace SB := am (below_then SB.out SB.out.size hb); clear hb x0 x1 x2 x3 x4 x5 x6 x7 x8 y0 y1 y2 y3 y4 y5 y6; obtain ⟨x0, x1, x2, x3, x4, x5, x6, x7, x8⟩ := rcpc S1.out; obtain ⟨y0, y1, y2, y3, y4, y5, y6⟩ := billc S7.out)
 go_upto_region 12 with (fail)
 obtain ⟨s0, s1, s2, s3, s4, s5, s6, s7⟩ := HS.out
 have z0 : (9223372036854775807 < 6 + n.size) = False := eq_false (by omega)
 have v0 : (6 + n.size ≤ 9223372036854775807) = True := eq_true (by omega)
 have z1 : (9223372036854775807 < 6 + n.size + 8) = False := eq_false (by omega)
 have v1 : (6 + n.size + 8 ≤ 9223372036854775807) = True := eq_true (by omega)
 have z2 : (9223372036854775807 < 6 + n.size + 8 + i.size) = False := eq_false (by omega)
 have v2 : (6 + n.size + 8 + i.size ≤ 9223372036854775807) = True := eq_true (by omega)
 have z3 : (9223372036854775807 < 6 + n.size + 8 + i.size + 8) = False := eq_false (by omega)
 have v3 : (6 + n.size + 8 + i.size + 8 ≤ 9223372036854775807) = True := eq_true (by omega)
 have z4 : (9223372036854775807 < 6 + n.size + 8 + i.size + 8 + a.size) = False := eq_false (by omega)
 have v4 : (6 + n.size + 8 + i.size + 8 + a.size ≤ 9223372036854775807) = True := eq_true (by omega)
 have z5 : (9223372036854775807 < 6 + n.size + 8 + i.size + 8 + a.size + 6) = False := eq_false (by omega)
 have v5 : (6 + n.size + 8 + i.size + 8 + a.size + 6 ≤ 9223372036854775807) = True := eq_true (by omega)
 have z6 : (9223372036854775807 < 6 + n.size + 8 + i.size + 8 + a.size + 6 + c.size) = False := eq_false (by omega)
 have v6 : (6 + n.size + 8 + i.size + 8 + a.size + 6 + c.size ≤ 9223372036854775807) = True := eq_true (by omega)
 have z7 : (9223372036854775807 < 6 + n.size + 8 + i.size + 8 + a.size + 6 + c.size + 5) = False := eq_false (by omega)
 have v7 : (6 + n.size + 8 + i.size + 8 + a.size + 6 + c.size + 5 ≤ 9223372036854775807) = True := eq_true (by omega)
 have z8 : (9223372036854775807 < 6 + n.size + 8 + i.size + 8 + a.size + 6 + c.size + 5 + d.size) = False := eq_false (by omega)
 have v8 : (6 + n.size + 8 + i.size + 8 + a.size + 6 + c.size + 5 + d.size ≤ 9223372036854775807) = True := eq_true (by omega)
 have z9 : (9223372036854775807 < 6 + n.size + 8 + i.size + 8 + a.size + 6 + c.size + 5 + d.size + 7) = False := eq_false (by omega)
 have v9 : (6 + n.size + 8 + i.size + 8 + a.size + 6 + c.size + 5 + d.size + 7 ≤ 9223372036854775807) = True := eq_true (by omega)
 have z10 : (9223372036854775807 < 6 + n.size + 8 + i.size + 8 + a.size + 6 + c.size + 5 + d.size + 7 + f.size) = False := eq_false (by omega)
 have v10 : (6 + n.size + 8 + i.size + 8 + a.size + 6 + c.size + 5 + d.size + 7 + f.size ≤ 9223372036854775807) = True := eq_true (by omega)
 have z11 : (9223372036854775807 < 6 + n.size + 8 + i.size + 8 + a.size + 6 + c.size + 5 + d.size + 7 + f.size + 8) = False := eq_false (by omega)
 have v11 : (6 + n.size + 8 + i.size + 8 + a.size + 6 + c.size + 5 + d.size + 7 + f.size + 8 ≤ 9223372036854775807) = True := eq_true (by omega)
 have z12 : (9223372036854775807 < 6 + n.size + 8 + i.size + 8 + a.size + 6 + c.size + 5 + d.size + 7 + f.size + 8 + g.size) = False := eq_false (by omega)
 have v12 : (6 + n.size + 8 + i.size + 8 + a.size + 6 + c.size + 5 + d.size + 7 + f.size + 8 + g.size ≤ 9223372036854775807) = True := eq_true (by omega)
 have z13 : (9223372036854775807 < 6 + n.size + 8 + i.size + 8 + a.size + 6 + c.size + 5 + d.size + 7 + f.size + 8 + g.size + 7) = False := eq_false (by omega)
 have v13 : (6 + n.size + 8 + i.size + 8 + a.size + 6 + c.size + 5 + d.size + 7 + f.size + 8 + g.size + 7 ≤ 9223372036854775807) = True := eq_true (by omega)
 have z14 : (9223372036854775807 < 6 + n.size + 8 + i.size + 8 + a.size + 6 + c.size + 5 + d.size + 7 + f.size + 8 + g.size + 7 + u.size) = False := eq_false (by omega)
 have v14 : (6 + n.size + 8 + i.size + 8 + a.size + 6 + c.size + 5 + d.size + 7 + f.size + 8 + g.size + 7 + u.size ≤ 9223372036854775807) = True := eq_true (by omega)
 have hlast : (rsT n i a c d f g u).size ≤ 8100 := by unfold rsT; simp only [ByteArray.size_append]; have l0 : (⟨#[77, 69, 84, 69, 82, 32]⟩ : ByteArray).size = 6 := rfl; have l1 : (⟨#[10, 78, 85, 77, 66, 69, 82, 32]⟩ : ByteArray).size = 8 := rfl; have l2 : (⟨#[10, 84, 69, 78, 68, 69, 82, 32]⟩ : ByteArray).size = 8 := rfl; have l3 : (⟨#[10, 68, 69, 66, 84, 32]⟩ : ByteArray).size = 6 := rfl; have l4 : (⟨#[10, 70, 69, 69, 32]⟩ : ByteArray).size = 5 := rfl; have l5 : (⟨#[10, 80, 82, 73, 67, 69, 32]⟩ : ByteArray).size = 7 := rfl; have l6 : (⟨#[10, 67, 72, 65, 78, 71, 69, 32]⟩ : ByteArray).size = 8 := rfl; have l7 : (⟨#[10, 85, 78, 73, 84, 83, 32]⟩ : ByteArray).size = 7 := rfl;  omega
 obtain ⟨s, hs⟩ : ∃ s, rsT n i a c d f g u = s := ⟨_, rfl⟩
 have HSS := am hs
 rw [hs] at hlast
 unfold rsT at hs
 have HL := am hlast
 clear hlast s0 s1 s2 s3 s4 s5 s6 s7
 refine start_ (n := 28) (S := fun w' => w'.cell? ⟨g7, 0, none⟩ = some (.int .i64 id) ∧ w'.cell? ⟨g7, 6, none⟩ = some (.int .i64 un)) (ds := []) #[false, false, false, false, false, false, false, false, false, false, false, false, false, false, false, false, false, false, false, false, false, false, false, false, false, false, false, false] (by kernel_rfl) rfl rfl ⟨y0, y6⟩ (fun hHeld => ?_)
 refine pp 0 65 ?_
 refine pp 1 66 ?_
 refine pp 2 67 ?_
 refine pp 3 68 ?_
 refine pp 8 73 ?_
 refine pp 11 76 ?_
 refine pp 14 79 ?_
 refine pp 17 82 ?_
 refine pp 20 85 ?_
 refine pp 23 88 ?_
 refine tk 4 69 ?_
 refine tk 24 89 ?_
 refine one_ (i := 5) (N := some 70) #[true, true, true, true, true, true, false, false, true, false, false, true, false, false, true, false, false, true, false, false, true, false, false, true, true, false, false, false] rfl rfl (by kernel_rfl) (by decide) (fun K hK => ?_)
 refine goes_ Tryz.func20 (by kernel_rfl) rfl #[.int .i64 id] (by rfl) rfl rfl (by (try simp only [List.map_toArray, List.map_cons, List.map_nil]); first | done | rfl) ?_
 with_reducible refine (vendmeterref_Dec.calls k id i _ HI.out).mono ?_
 rintro e' wd ⟨rfl, hb⟩
 refine ⟨_, rfl, ?_⟩
 replace S1 := am (blk_below (blk_drew S1.out) hb)
 replace S7 := am (blk_below (blk_drew S7.out) hb)
 replace SB := am (below_then (below_drew1 SB.out) SB.out.size hb)
 clear hb x0 x1 x2 x3 x4 x5 x6 x7 x8 y0 y1 y2 y3 y4 y5 y6
 obtain ⟨y0, y1, y2, y3, y4, y5, y6⟩ := billc S7.out
 refine hK.out _ _ ⟨y0, y6⟩ (fun hHeld => ?_)
 clear hK K
 refine norm_ (a' := ?_) ?_ ?_
 rotate_left
 ·
  show Act.put _ (some 70) _ = _
  simp only [Act.put, List.setIfInBounds_toArray, List.set_cons_zero, List.set_cons_succ, i64_w, i32_w]
  rfl
 refine pp 6 71 ?_
 refine pp 7 72 ?_
 refine pp 9 74 ?_
 refine pp 10 75 ?_
 refine pp 12 77 ?_
 refine pp 13 78 ?_
 refine pp 15 80 ?_
 refine pp 16 81 ?_
 refine pp 18 83 ?_
 refine pp 19 84 ?_
 refine pp 21 86 ?_
 refine pp 22 87 ?_
 refine one_ (i := 25) (N := some 90) #[true, true, true, true, true, true, true, true, true, true, true, true, true, true, true, true, true, true, true, true, true, true, true, true, true, true, false, false] rfl rfl (by kernel_rfl) (by decide) (fun K hK => ?_)
 refine goes_ Tryz.func20 (by kernel_rfl) rfl #[.int .i64 un] (by rfl) rfl rfl (by (try simp only [List.map_toArray, List.map_cons, List.map_nil]); first | done | rfl) ?_
 with_reducible refine (vendmeterref_Dec.calls k un u _ HU.out).mono ?_
 rintro e' wd ⟨rfl, hb⟩
 refine ⟨_, rfl, ?_⟩
 replace S1 := am (blk_below S1.out hb)
 replace S7 := am (blk_below S7.out hb)
 replace SB := am (below_then SB.out SB.out.size hb)
 clear hb y0 y1 y2 y3 y4 y5 y6
 obtain ⟨y0, y1, y2, y3, y4, y5, y6⟩ := billc S7.out
 refine hK.out _ _ ⟨y0, y6⟩ (fun hHeld => ?_)
 clear hK K
 refine norm_ (a' := ?_) ?_ ?_
 rotate_left
 ·
  show Act.put _ (some 90) _ = _
  simp only [Act.put, List.setIfInBounds_toArray, List.set_cons_zero, List.set_cons_succ, i64_w, i32_w]
  rfl
 refine pp 26 91 ?_
 refine pp 27 19 ?_
 refine done_ (by kernel_rfl) ?_
 try simp only [hs]
 clear hs z0 v0 z1 v1 z2 v2 z3 v3 z4 v4 z5 v5 z6 v6 z7 v7 z8 v8 z9 v9 z10 v10 z11 v11 z12 v12 z13 v13 z14 v14
 have htk := HTK.out
 have hl := HL.out
 have z0 : (9223372036854775807 < s.size + 7) = False := eq_false (by omega)
 have v0 : (s.size + 7 ≤ 9223372036854775807) = True := eq_true (by omega)
 have z1 : (9223372036854775807 < s.size + 7 + 4) = False := eq_false (by omega)
 have v1 : (s.size + 7 + 4 ≤ 9223372036854775807) = True := eq_true (by omega)
 have z2 : (9223372036854775807 < s.size + 11) = False := eq_false (by omega)
 have v2 : (s.size + 11 ≤ 9223372036854775807) = True := eq_true (by omega)
 have z3 : (9223372036854775807 < s.size + 7 + 4 + 1) = False := eq_false (by omega)
 have v3 : (s.size + 7 + 4 + 1 ≤ 9223372036854775807) = True := eq_true (by omega)
 have z4 : (9223372036854775807 < s.size + 12) = False := eq_false (by omega)
 have v4 : (s.size + 12 ≤ 9223372036854775807) = True := eq_true (by omega)
 have z5 : (9223372036854775807 < s.size + 7 + 4 + 1 + 4) = False := eq_false (by omega)
 have v5 : (s.size + 7 + 4 + 1 + 4 ≤ 9223372036854775807) = True := eq_true (by omega)
 have z6 : (9223372036854775807 < s.size + 16) = False := eq_false (by omega)
 have v6 : (s.size + 16 ≤ 9223372036854775807) = True := eq_true (by omega)
 have z7 : (9223372036854775807 < s.size + 7 + 4 + 1 + 4 + 1) = False := eq_false (by omega)
 have v7 : (s.size + 7 + 4 + 1 + 4 + 1 ≤ 9223372036854775807) = True := eq_true (by omega)
 have z8 : (9223372036854775807 < s.size + 17) = False := eq_false (by omega)
 have v8 : (s.size + 17 ≤ 9223372036854775807) = True := eq_true (by omega)
 have z9 : (9223372036854775807 < s.size + 7 + 4 + 1 + 4 + 1 + 4) = False := eq_false (by omega)
 have v9 : (s.size + 7 + 4 + 1 + 4 + 1 + 4 ≤ 9223372036854775807) = True := eq_true (by omega)
 have z10 : (9223372036854775807 < s.size + 21) = False := eq_false (by omega)
 have v10 : (s.size + 21 ≤ 9223372036854775807) = True := eq_true (by omega)
 have z11 : (9223372036854775807 < s.size + 7 + 4 + 1 + 4 + 1 + 4 + 1) = False := eq_false (by omega)
 have v11 : (s.size + 7 + 4 + 1 + 4 + 1 + 4 + 1 ≤ 9223372036854775807) = True := eq_true (by omega)
 have z12 : (9223372036854775807 < s.size + 22) = False := eq_false (by omega)
 have v12 : (s.size + 22 ≤ 9223372036854775807) = True := eq_true (by omega)
 have z13 : (9223372036854775807 < s.size + 7 + 4 + 1 + 4 + 1 + 4 + 1 + 4) = False := eq_false (by omega)
 have v13 : (s.size + 7 + 4 + 1 + 4 + 1 + 4 + 1 + 4 ≤ 9223372036854775807) = True := eq_true (by omega)
 have z14 : (9223372036854775807 < s.size + 26) = False := eq_false (by omega)
 have v14 : (s.size + 26 ≤ 9223372036854775807) = True := eq_true (by omega)
 have z15 : (9223372036854775807 < s.size + 7 + 4 + 1 + 4 + 1 + 4 + 1 + 4 + 1) = False := eq_false (by omega)
 have v15 : (s.size + 7 + 4 + 1 + 4 + 1 + 4 + 1 + 4 + 1 ≤ 9223372036854775807) = True := eq_true (by omega)
 have z16 : (9223372036854775807 < s.size + 27) = False := eq_false (by omega)
 have v16 : (s.size + 27 ≤ 9223372036854775807) = True := eq_true (by omega)
 have z17 : (9223372036854775807 < s.size + 7 + 4 + 1 + 4 + 1 + 4 + 1 + 4 + 1 + 4) = False := eq_false (by omega)
 have v17 : (s.size + 7 + 4 + 1 + 4 + 1 + 4 + 1 + 4 + 1 + 4 ≤ 9223372036854775807) = True := eq_true (by omega)
 have z18 : (9223372036854775807 < s.size + 31) = False := eq_false (by omega)
 have v18 : (s.size + 31 ≤ 9223372036854775807) = True := eq_true (by omega)
 have z19 : (9223372036854775807 < s.size + 7 + 4 + 1 + 4 + 1 + 4 + 1 + 4 + 1 + 4 + 1) = False := eq_false (by omega)
 have v19 : (s.size + 7 + 4 + 1 + 4 + 1 + 4 + 1 + 4 + 1 + 4 + 1 ≤ 9223372036854775807) = True := eq_true (by omega)
 have z20 : (9223372036854775807 < s.size + 32) = False := eq_false (by omega)
 have v20 : (s.size + 32 ≤ 9223372036854775807) = True := eq_true (by omega)
 clear hl y0 y1 y2 y3 y4 y5 y6
 go_upto_region 13 with (fail)
 refine start_ (n := 24) (S := fun w' => True) (ds := []) #[false, false, false, false, false, false, false, false, false, false, false, false, false, false, false, false, false, false, false, false, false, false, false, false] (by kernel_rfl) rfl rfl trivial (fun hHeld => ?_)
 refine pp 0 92 ?_
 refine pp 1 93 ?_
 refine pp 2 94 ?_
 refine pp 3 95 ?_
 refine pp 4 96 ?_
 refine pp 5 97 ?_
 refine pp 6 98 ?_
 refine pp 7 99 ?_
 refine pp 8 100 ?_
 refine pp 9 101 ?_
 refine pp 10 102 ?_
 refine pp 11 103 ?_
 refine pp 12 104 ?_
 refine pp 13 105 ?_
 refine pp 14 106 ?_
 refine pp 15 107 ?_
 refine pp 16 108 ?_
 refine pp 17 109 ?_
 refine pp 18 110 ?_
 refine pp 19 111 ?_
 refine pp 20 112 ?_
 refine pp 21 113 ?_
 refine pp 22 2 ?_
 refine pp 23 3 ?_
 refine done_ (by kernel_rfl) ?_
 go_wp2
 go_ret2
 exact ⟨by rw [HSS.out]; unfold rsE; rfl, below_drew1 SB.out⟩
theorem vendmeterref_ReceiptShown.g_mono (k : Nat) (me id te de fe pr ch un : Int) (tok : ByteArray) : LeO (vendmeterref_ReceiptShown.g k me id te de fe pr ch un tok) (vendmeterref_ReceiptShown.g (k + 1) me id te de fe pr ch un tok) := by
 unfold vendmeterref_ReceiptShown.g
 exact LeO.bind (vendmeterref_NumberOf.mono _ _) (fun _ => LeO.bind (vendmeterref_Shown.mono _ _) (fun _ => LeO.bind (vendmeterref_Shown.mono _ _) (fun _ => LeO.bind (vendmeterref_Shown.mono _ _) (fun _ => LeO.bind (vendmeterref_Shown.mono _ _) (fun _ => LeO.bind (vendmeterref_Shown.mono _ _) (fun _ => LeO.bind (vendmeterref_Dec.mono _ _) (fun _ => LeO.bind (vendmeterref_Dec.mono _ _) (fun _ => LeO.refl _))))))))
/-! ### vendmeterref_ReceiptShown: function 6 (by hand) -/
def vendmeterref_ReceiptShown.f (k : Nat) (me id te de fe pr ch un : Int) (tok : ByteArray) : Option (ByteArray × Int) := (vendmeterref_ReceiptFault.f k me id te de fe pr ch un tok).bind fun e => if e = 0 then vendmeterref_ReceiptShown.g k me id te de fe pr ch un tok else some (⟨#[]⟩, e)
theorem vendmeterref_ReceiptShown.mono : ∀ a0 a1 a2 a3 a4 a5 a6 a7 a8 k, LeO (vendmeterref_ReceiptShown.f k a0 a1 a2 a3 a4 a5 a6 a7 a8) (vendmeterref_ReceiptShown.f (k + 1) a0 a1 a2 a3 a4 a5 a6 a7 a8) := fun a0 a1 a2 a3 a4 a5 a6 a7 a8 k => LeO.bind (vendmeterref_ReceiptFault.mono _ _ _ _ _ _ _ _ _ _) (fun _ => LeO.ite (vendmeterref_ReceiptShown.g_mono k a0 a1 a2 a3 a4 a5 a6 a7 a8) (LeO.refl _))
theorem vendmeterref_ReceiptShown.calls (k : Nat) (me id te de fe pr ch un : Int) (tok : ByteArray) (r1 : ByteArray) (r2 : Int) (w : World) (h : vendmeterref_ReceiptShown.f k me id te de fe pr ch un tok = some (r1, r2)) :
  Calls Tryz.prog 6 #[.agg #[.int .i64 me, .int .i64 id, .int .i64 te, .int .i64 de, .int .i64 fe, .int .i64 pr, .int .i64 ch, .int .i64 un, .string tok]] w fun e w' => e = .returned (.tuple #[.string r1, .int .i64 r2]) ∧ Below w.heap.size w w' := by
 unfold vendmeterref_ReceiptShown.f at h
 obtain ⟨e0, hc, h⟩ := Option.bind_eq_some_iff.mp h
 by_cases h0 : e0 = 0
 ·
  rw [if_pos h0] at h
  subst h0
  unfold vendmeterref_ReceiptShown.g at h
  obtain ⟨⟨n, en⟩, hn, h⟩ := Option.bind_eq_some_iff.mp h
  obtain ⟨⟨a, ea⟩, ha, h⟩ := Option.bind_eq_some_iff.mp h
  obtain ⟨⟨c, ec⟩, hcc, h⟩ := Option.bind_eq_some_iff.mp h
  obtain ⟨⟨d, ed⟩, hd, h⟩ := Option.bind_eq_some_iff.mp h
  obtain ⟨⟨f, ef⟩, hf, h⟩ := Option.bind_eq_some_iff.mp h
  obtain ⟨⟨g, eg⟩, hg, h⟩ := Option.bind_eq_some_iff.mp h
  obtain ⟨i, hi, h⟩ := Option.bind_eq_some_iff.mp h
  obtain ⟨u, hu, h⟩ := Option.bind_eq_some_iff.mp h
  by_cases hs : (rcSmall n && rcSmall i && rcSmall a && rcSmall c && rcSmall d && rcSmall f && rcSmall g && rcSmall u && decide (tok.size = 20)) = true
  ·
   have h2 : some (rsE (rsT n i a c d f g u) tok, (0 : Int)) = some (r1, r2) := (if_pos hs).symm.trans h
   obtain ⟨rfl, rfl⟩ := Prod.mk.inj (Option.some.inj h2)
   simp only [Bool.and_eq_true, rcSmall, decide_eq_true_eq] at hs
   obtain ⟨⟨⟨⟨⟨⟨⟨⟨s0, s1⟩, s2⟩, s3⟩, s4⟩, s5⟩, s6⟩, s7⟩, s8⟩ := hs
   exact vendmeterref_ReceiptShown.main k me id te de fe pr ch un tok n i a c d f g u en ea ec ed ef eg w hc hn hi ha hcc hd hf hg hu s8 ⟨s0, s1, s2, s3, s4, s5, s6, s7⟩
  ·
   exact absurd ((if_neg hs).symm.trans h) (by simp)
 ·
  rw [if_neg h0] at h
  obtain ⟨rfl, rfl⟩ := Prod.mk.inj (Option.some.inj h)
  exact vendmeterref_ReceiptShown.early k me id te de fe pr ch un e0 tok w hc h0

/-! ### vendmeterlaw_ReceiptShows: function 3 -/
def vendmeterlaw_ReceiptShows.f (k : Nat) (a0_0 : Int) (a0_1 : Int) (a0_2 : Int) (a0_3 : Int) (a0_4 : Int) (a0_5 : Int) (a0_6 : Int) (a0_7 : Int) (a0_8 : ByteArray) : Option (Bool) := (receipt_Show.f k a0_0 a0_1 a0_2 a0_3 a0_4 a0_5 a0_6 a0_7 a0_8).bind fun bt261 => ((vendmeterref_ReceiptShown.f k a0_0 a0_1 a0_2 a0_3 a0_4 a0_5 a0_6 a0_7 a0_8).bind fun bt263 => (if bt261.1.toList = bt263.1.toList then (some (bt261.2 == bt263.2)) else (some false)))
theorem vendmeterlaw_ReceiptShows.mono : ∀ a0 a1 a2 a3 a4 a5 a6 a7 a8 k, LeO (vendmeterlaw_ReceiptShows.f k a0 a1 a2 a3 a4 a5 a6 a7 a8) (vendmeterlaw_ReceiptShows.f (k + 1) a0 a1 a2 a3 a4 a5 a6 a7 a8) := by
 intro a0 a1 a2 a3 a4 a5 a6 a7 a8 k
 unfold vendmeterlaw_ReceiptShows.f
 repeat' first
   | (with_reducible exact receipt_Show.mono _ _ _ _ _ _ _ _ _ _)
   | (with_reducible exact vendmeterref_ReceiptShown.mono _ _ _ _ _ _ _ _ _ _)
   | (with_reducible exact LeO.refl _)
   | (with_reducible exact LeO.none _)
   | (with_reducible refine LeO.ite ?_ ?_)
   | (with_reducible refine LeO.bind ?_ (fun _ => ?_))
set_option maxHeartbeats 8000000 in
set_option maxRecDepth 100000 in
theorem vendmeterlaw_ReceiptShows.calls (k : Nat) (a0_0 : Int) (a0_1 : Int) (a0_2 : Int) (a0_3 : Int) (a0_4 : Int) (a0_5 : Int) (a0_6 : Int) (a0_7 : Int) (a0_8 : ByteArray) (r : Bool) (w : World) (HTAB : LaidW w) (h : vendmeterlaw_ReceiptShows.f k a0_0 a0_1 a0_2 a0_3 a0_4 a0_5 a0_6 a0_7 a0_8 = some r) :
  Calls Tryz.prog 3 #[.agg #[.int .i64 a0_0, .int .i64 a0_1, .int .i64 a0_2, .int .i64 a0_3, .int .i64 a0_4, .int .i64 a0_5, .int .i64 a0_6, .int .i64 a0_7, .string a0_8]] w fun e w' => e = .returned (.bool r) ∧ Below w.heap.size w w' := by
 have hu25 := Tryz.underlying25
 have HB := am (Below.refl w.heap.size w)
 have H : ((receipt_Show.f k a0_0 a0_1 a0_2 a0_3 a0_4 a0_5 a0_6 a0_7 a0_8).bind fun bt261 => ((vendmeterref_ReceiptShown.f k a0_0 a0_1 a0_2 a0_3 a0_4 a0_5 a0_6 a0_7 a0_8).bind fun bt263 => (if bt261.1.toList = bt263.1.toList then (some (bt261.2 == bt263.2)) else (some false)))) = some r := h
 clear h
 replace H := Option.bind_eq_some_iff.mp H
 obtain ⟨⟨t261, t262⟩, A20, H⟩ := H
 (try dsimp only at H)
 have A2 := am A20
 clear A20
 replace H := Option.bind_eq_some_iff.mp H
 obtain ⟨⟨t263, t264⟩, A30, H⟩ := H
 (try dsimp only at H)
 have A3 := am A30
 clear A30
 have HC4 := am H
 clear H
 go_enter Tryz.func3, Tryz.ntmps3
 go_upto_region 3 with (first | ((with_reducible refine gate_dst (N := 1) rfl ?_); refine czbox 1 #[.int .i64 a0_0, .int .i64 a0_1, .int .i64 a0_2, .int .i64 a0_3, .int .i64 a0_4, .int .i64 a0_5, .int .i64 a0_6, .int .i64 a0_7, .string a0_8] 25 ?_; intro gb260 hg w5 hbox hb; have BK260 := am (hbox); have GW260 := czsz hg (czbl HB); have GE260 := czsz hg (czbl HB); replace HB := am (below_step (czbl HB) hb); clear hb hbox hg; obtain ⟨hcz6_0, hcz6_1, hcz6_2, hcz6_3, hcz6_4, hcz6_5, hcz6_6, hcz6_7, hcz6_8⟩ := czc9 BK260.1) | ((with_reducible refine gate_callee (f := 5) rfl ?_); refine czgo (some 9) Tryz.func5 #[.agg #[.int .i64 a0_0, .int .i64 a0_1, .int .i64 a0_2, .int .i64 a0_3, .int .i64 a0_4, .int .i64 a0_5, .int .i64 a0_6, .int .i64 a0_7, .string a0_8]] ?_; (with_reducible refine (receipt_Show.calls k a0_0 a0_1 a0_2 a0_3 a0_4 a0_5 a0_6 a0_7 a0_8 t261 t262 _ (HTAB.go (by repeat (first | (with_reducible first | exact HB.1 | exact Below.refl _ _ | apply below_alloc | apply pw_below_drewN | apply below_drew1 | refine below_set ?_ GE260.1) | exact HB.1))) A2.out).mono ?_); rintro e w7 ⟨rfl, hb⟩; refine ⟨_, rfl, ?_⟩; replace BK260 := czbb BK260 hb; replace HB := am (below_step (czbl1 HB GE260) hb); (try clear hb hb2 hk hi); obtain ⟨hcz8_0, hcz8_1, hcz8_2, hcz8_3, hcz8_4, hcz8_5, hcz8_6, hcz8_7, hcz8_8⟩ := czc9 BK260.1) | ((with_reducible refine gate_callee (f := 6) rfl ?_); refine czgo (some 14) Tryz.func6 #[.agg #[.int .i64 a0_0, .int .i64 a0_1, .int .i64 a0_2, .int .i64 a0_3, .int .i64 a0_4, .int .i64 a0_5, .int .i64 a0_6, .int .i64 a0_7, .string a0_8]] ?_; (with_reducible refine (vendmeterref_ReceiptShown.calls k a0_0 a0_1 a0_2 a0_3 a0_4 a0_5 a0_6 a0_7 a0_8 t263 t264 _ A3.out).mono ?_); rintro e w9 ⟨rfl, hb⟩; refine ⟨_, rfl, ?_⟩; replace BK260 := czbb BK260 hb; replace HB := am (below_step (czbl1 HB GE260) hb); (try clear hb hb2 hk hi)))
 have H := HC4.out
 clear HC4
 revert H
 refine czei (fun c10b0 c10b1 H => ?_) (fun c10 c10b0 c10b1 H => ?_)
 ·
  obtain rfl := Option.some.inj H
  go_wp2
  go_ret
  exact ⟨czeq, czbl1 HB GE260⟩
 ·
  obtain rfl := Option.some.inj H
  go_wp2
  go_ret
  exact ⟨czeq, czbl1 HB GE260⟩

end Go.Proofs.YtocolmpfpbclbaaGreatDoor.PReceiptShows
