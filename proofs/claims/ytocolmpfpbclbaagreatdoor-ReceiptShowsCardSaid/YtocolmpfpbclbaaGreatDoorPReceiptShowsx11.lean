-- written by this session's program wip/xp/xprint.py (it drives the kit's print and adds to it)
import Derived.Test.YtocolmpfpbclbaaGreatDoorPReceiptShowsx0
import Derived.Test.YtocolmpfpbclbaaGreatDoorPReceiptShowsx6
namespace Go.Proofs.YtocolmpfpbclbaaGreatDoor.PReceiptShows
open Go.RowKit Go.Proofs.YtocolmpfpbclbaaGreatDoorW.PrintWords Go.Proofs.YtocolmpfpbclbaaGreatDoorW.PrintLast Go.Proofs.YtocolmpfpbclbaaGreatDoorW.PrintMore
attribute [local go_sem] max2_int min2_int max_two min_two max_three min_three max_four min_four
set_option linter.unusedVariables false
set_option linter.unusedSimpArgs false
set_option maxHeartbeats 8000000
set_option maxRecDepth 100000

/-! ### vendmeterref_Dec: function 20 -/
mutual
def vendmeterref_Dec.j0 : Nat → Int → Bool → Option (ByteArray)
 | 0, _, _ => none
 | k + 1, x0, x8 => if x8 = true then (some (strOfNums (([(wrap64 (48 + x0)) % 256] : List Int)))) else (if x0 < 0 then (if x0 > (-10) then ((vendmeterref_Dec.f k (wrap64 (-x0))).bind fun t228 => (if 1 + t228.size ≤ 9223372036854775807 then (some ((⟨#[45]⟩ : ByteArray) ++ t228)) else (none))) else ((vendmeterref_Dec.f k (wrap64 (Int.tdiv x0 10))).bind fun t229 => ((vendmeterref_Dec.f k (wrap64 (-(Int.tmod x0 10)))).bind fun t230 => (if t229.size + t230.size ≤ 9223372036854775807 then (some (t229 ++ t230)) else (none))))) else ((vendmeterref_Dec.f k (wrap64 (Int.tdiv x0 10))).bind fun t231 => ((vendmeterref_Dec.f k (Int.tmod x0 10)).bind fun t232 => (if t231.size + t232.size ≤ 9223372036854775807 then (some (t231 ++ t232)) else (none)))))
def vendmeterref_Dec.f : Nat → Int → Option (ByteArray)
 | 0, _ => none
 | k + 1, a0 => if a0 ≥ 0 then (vendmeterref_Dec.j0 k a0 (decide (a0 < 10))) else (vendmeterref_Dec.j0 k a0 false)
end
theorem vendmeterref_Dec.mono_l : ∀ k, (∀ y0, LeO (vendmeterref_Dec.f k y0) (vendmeterref_Dec.f (k + 1) y0)) ∧ (∀ y0 y1, LeO (vendmeterref_Dec.j0 k y0 y1) (vendmeterref_Dec.j0 (k + 1) y0 y1))
 | 0 => ⟨fun _ r h => by simp [vendmeterref_Dec.f] at h, fun _ _ r h => by simp [vendmeterref_Dec.j0] at h⟩
 | k + 1 => by
  obtain ⟨ih0, ih1⟩ := vendmeterref_Dec.mono_l k
  refine ⟨?_, ?_⟩
  ·
   intro y0
   unfold vendmeterref_Dec.f
   repeat' first
   | (with_reducible exact ih0 _)
   | (with_reducible exact ih1 _ _)
   | (with_reducible exact LeO.refl _)
   | (with_reducible exact LeO.none _)
   | (with_reducible refine LeO.ite ?_ ?_)
   | (with_reducible refine LeO.bind ?_ (fun _ => ?_))
  ·
   intro y0 y1
   unfold vendmeterref_Dec.j0
   repeat' first
   | (with_reducible exact ih0 _)
   | (with_reducible exact ih1 _ _)
   | (with_reducible exact LeO.refl _)
   | (with_reducible exact LeO.none _)
   | (with_reducible refine LeO.ite ?_ ?_)
   | (with_reducible refine LeO.bind ?_ (fun _ => ?_))
theorem vendmeterref_Dec.mono : ∀ a0 k, LeO (vendmeterref_Dec.f k a0) (vendmeterref_Dec.f (k + 1) a0) := by
 intro a0 k
 obtain ⟨ih0, ih1⟩ := vendmeterref_Dec.mono_l k
 exact ih0 a0
theorem vendmeterref_Dec.calls (k : Nat) : ∀ (a0 : Int) (r : ByteArray) (w : World) (h : vendmeterref_Dec.f k a0 = some r),
  Calls Tryz.prog 20 #[.int .i64 a0] w fun e w' => e = .returned (.string r) ∧ Below w.heap.size w w' := by
 induction k using Nat.strongRecOn with
 | _ k ih =>
 intro a0 r w h
 cases k with
 | zero => exact absurd h (by simp [vendmeterref_Dec.f])
 | succ k =>
 simp only [vendmeterref_Dec.f] at h
 have HB := am (Below.refl w.heap.size w)
 have H : (if a0 ≥ 0 then (vendmeterref_Dec.j0 k a0 (decide (a0 < 10))) else (vendmeterref_Dec.j0 k a0 false)) = some r := h
 clear h
 have HC2 := am H
 clear H
 go_enter Tryz.func20, Tryz.ntmps20
 go_upto_region 1 with (fail)
 go_cut [8] (fun v8 wc => ∃ (kq : Nat) (x8_1 : Bool), v8 = .bool x8_1 ∧ Aside0 (vendmeterref_Dec.j0 kq a0 x8_1 = some r) ∧ Aside0 (kq ≤ k) ∧ Aside0 (Below w.heap.size w wc))
 case first =>
  have H := HC2.out
  clear HC2
  by_cases c3 : a0 ≥ 0
  ·
   rw [if_pos c3] at H
   have c3b0 : decide (0 ≤ a0) = true := decide_eq_true c3
   clear c3
   (first | rw [c3b0] | (simp only [i64_w, i32_w]; rw [c3b0]) | skip)
   have H' := am H
   clear H
   go_wp2
   go_meet
   case rel => exact ⟨_, (decide (a0 < 10)), czr, H', ⟨by first | omega | exact Nat.le_refl _⟩, ⟨czbl HB⟩⟩
  ·
   rw [if_neg c3] at H
   have c3b0 : decide (0 ≤ a0) = false := decide_eq_false c3
   clear c3
   (first | rw [c3b0] | (simp only [i64_w, i32_w]; rw [c3b0]) | skip)
   have H' := am H
   clear H
   go_wp2
   go_meet
   case rel => exact ⟨_, (false), czr, H', ⟨by first | omega | exact Nat.le_refl _⟩, ⟨czbl HB⟩⟩
 case rest =>
  clear HC2
  try clear c2
  try clear p2
  try clear c3
  try clear c3b0
  obtain ⟨kq, x8_1, rfl, HA, HJ1, HB⟩ := hcut
  cases kq with
  | zero => exact absurd HA.out (by simp [vendmeterref_Dec.j0])
  | succ kj1 =>
   have H := HA.out
   clear HA
   simp only [vendmeterref_Dec.j0] at H
   by_cases c4 : x8_1 = true
   ·
    subst c4
    have H1 : (some (strOfNums (([(wrap64 (48 + a0)) % 256] : List Int)))) = some r := by rw [if_pos rfl] at H; exact H
    clear H
    have H := H1
    clear H1
    obtain ⟨y225, hy225⟩ : ∃ y_ : List Int, y_ = (([(wrap64 (48 + a0)) % 256] : List Int)) := ⟨_, rfl⟩
    replace H : (some (strOfNums y225)) = some r := by first | (rw [hy225]; with_reducible exact H) | (have H2_ := (Option.bind_some _ _).symm.trans H; rw [hy225]; with_reducible exact H2_) | (have H2_ := (Option.bind_some _ _).symm.trans H; with_reducible exact H2_) | with_reducible exact H | (rw [hy225]; exact H) | exact H
    have Ny225 := am hy225
    clear hy225
    obtain rfl := Option.some.inj H
    go_wp2_with (first | ((with_reducible refine gate_dst (N := 12) rfl ?_); refine Kd.R_lit (Kd.int .u8) _ 5 ?hg (N := 12) ?hd (xs := ([(wrap64 (48 + a0)) % 256] : List Int)) (inner := [.int .u8 ((wrap64 (48 + a0)) % 256)]) (ok := fun _ => True) (okp := fun _ => True) ?hr ?hp (fun _ hk => hk) trivial (Below.refl _ _) (Nat.le_refl _) (by simp) ?_; (case hd => rfl); (case hg => rfl); (case hr => first | (go_simp; done) | (go_simp; rfl)); (case hp => exact (Reps.one (show Kd.M (Kd.int .u8) _ _ _ ((wrap64 (48 + a0)) % 256) [.int .u8 ((wrap64 (48 + a0)) % 256)] from rfl) (Reps.none _ _))); intro v226 w5 ho6 hb hg_ hnew_; clear hg_ hnew_; (first | rw [← Ny225.out] at ho6 | (simp only [Int.reduceToNat] at ho6; rw [← Ny225.out] at ho6)); have HO227 := am (Kd.R_lower ho6 (below_size (czbl HB))); replace HB := am (below_step (czbl HB) hb); clear hb ho6; have hcv7 := own_string (P := Tryz.prog) Tryz.underlying35 Tryz.underlying5 Tryz.underlying9 (Kd.own_of_R HO227.1)))
    go_ret
    exact ⟨czeq, czbl HB⟩
   ·
    replace c4 := Bool.eq_false_iff.mpr c4
    subst c4
    have H1 : (if a0 < 0 then (if a0 > (-10) then ((vendmeterref_Dec.f kj1 (wrap64 (-a0))).bind fun t228 => (if 1 + t228.size ≤ 9223372036854775807 then (some ((⟨#[45]⟩ : ByteArray) ++ t228)) else (none))) else ((vendmeterref_Dec.f kj1 (wrap64 (Int.tdiv a0 10))).bind fun t229 => ((vendmeterref_Dec.f kj1 (wrap64 (-(Int.tmod a0 10)))).bind fun t230 => (if t229.size + t230.size ≤ 9223372036854775807 then (some (t229 ++ t230)) else (none))))) else ((vendmeterref_Dec.f kj1 (wrap64 (Int.tdiv a0 10))).bind fun t231 => ((vendmeterref_Dec.f kj1 (Int.tmod a0 10)).bind fun t232 => (if t231.size + t232.size ≤ 9223372036854775807 then (some (t231 ++ t232)) else (none))))) = some r := by rw [if_neg (show ¬ (false = true) by decide)] at H; exact H
    clear H
    have H := H1
    clear H1
    revert H
    refine czif (fun c8b0 H => ?_) (fun c8b0 H => ?_)
    ·
     by_cases c9 : a0 > (-10)
     ·
      rw [if_pos c9] at H
      have c9b0 : decide ((-10) < a0) = true := decide_eq_true c9
      clear c9
      replace H := Option.bind_eq_some_iff.mp H
      obtain ⟨t228, A100, H⟩ := H
      (try dsimp only at H)
      have A10 := am A100
      clear A100
      by_cases c11 : 1 + t228.size ≤ 9223372036854775807
      ·
       rw [if_pos c11] at H
       have c11b0 := eq_true c11
       have c11b1 : decide (1 + t228.size ≤ 9223372036854775807) = true := decide_eq_true c11
       try have c11b2 : (9223372036854775807 < 1 + t228.size) = False := eq_false (Nat.not_lt.2 c11)
       obtain rfl := Option.some.inj H
       go_wp2_with (first | ((with_reducible refine gate_callee (f := 20) rfl ?_); refine czgo (some 20) Tryz.func20 #[.int .i64 (wrap64 (-a0))] ?_; (with_reducible refine (ih kj1 (by have := HJ1.out; omega) (wrap64 (-a0)) t228 _ A10.out).mono ?_); rintro e w12 ⟨rfl, hb⟩; refine ⟨_, rfl, ?_⟩; replace HB := am (below_step (czbl HB) hb); (try clear hb hb2 hk hi)))
       go_ret
       exact ⟨czeq, czbl HB⟩
      ·
       rw [if_neg c11] at H
       exact absurd H (by simp)
     ·
      rw [if_neg c9] at H
      have c9b0 : decide ((-10) < a0) = false := decide_eq_false c9
      clear c9
      replace H := Option.bind_eq_some_iff.mp H
      obtain ⟨t229, A130, H⟩ := H
      (try dsimp only at H)
      have A13 := am A130
      clear A130
      replace H := Option.bind_eq_some_iff.mp H
      obtain ⟨t230, A140, H⟩ := H
      (try dsimp only at H)
      have A14 := am A140
      clear A140
      by_cases c15 : t229.size + t230.size ≤ 9223372036854775807
      ·
       rw [if_pos c15] at H
       have c15b0 := eq_true c15
       have c15b1 : decide (t229.size + t230.size ≤ 9223372036854775807) = true := decide_eq_true c15
       try have c15b2 : (9223372036854775807 < t229.size + t230.size) = False := eq_false (Nat.not_lt.2 c15)
       obtain rfl := Option.some.inj H
       go_wp2_with (first | ((with_reducible refine gate_callee (f := 20) rfl ?_); refine czgo (some 24) Tryz.func20 #[.int .i64 (wrap64 (Int.tdiv a0 10))] ?_; (with_reducible refine (ih kj1 (by have := HJ1.out; omega) (wrap64 (Int.tdiv a0 10)) t229 _ A13.out).mono ?_); rintro e w16 ⟨rfl, hb⟩; refine ⟨_, rfl, ?_⟩; replace HB := am (below_step (czbl HB) hb); (try clear hb hb2 hk hi)) | ((with_reducible refine gate_callee (f := 20) rfl ?_); refine czgo (some 28) Tryz.func20 #[.int .i64 (wrap64 (-(Int.tmod a0 10)))] ?_; (with_reducible refine (ih kj1 (by have := HJ1.out; omega) (wrap64 (-(Int.tmod a0 10))) t230 _ A14.out).mono ?_); rintro e w17 ⟨rfl, hb⟩; refine ⟨_, rfl, ?_⟩; replace HB := am (below_step (czbl HB) hb); (try clear hb hb2 hk hi)))
       go_ret
       exact ⟨czeq, czbl HB⟩
      ·
       rw [if_neg c15] at H
       exact absurd H (by simp)
    ·
     replace H := Option.bind_eq_some_iff.mp H
     obtain ⟨t231, A180, H⟩ := H
     (try dsimp only at H)
     have A18 := am A180
     clear A180
     replace H := Option.bind_eq_some_iff.mp H
     obtain ⟨t232, A190, H⟩ := H
     (try dsimp only at H)
     have A19 := am A190
     clear A190
     by_cases c20 : t231.size + t232.size ≤ 9223372036854775807
     ·
      rw [if_pos c20] at H
      have c20b0 := eq_true c20
      have c20b1 : decide (t231.size + t232.size ≤ 9223372036854775807) = true := decide_eq_true c20
      try have c20b2 : (9223372036854775807 < t231.size + t232.size) = False := eq_false (Nat.not_lt.2 c20)
      obtain rfl := Option.some.inj H
      go_wp2_with (first | ((with_reducible refine gate_callee (f := 20) rfl ?_); refine czgo (some 32) Tryz.func20 #[.int .i64 (wrap64 (Int.tdiv a0 10))] ?_; (with_reducible refine (ih kj1 (by have := HJ1.out; omega) (wrap64 (Int.tdiv a0 10)) t231 _ A18.out).mono ?_); rintro e w21 ⟨rfl, hb⟩; refine ⟨_, rfl, ?_⟩; replace HB := am (below_step (czbl HB) hb); (try clear hb hb2 hk hi)) | ((with_reducible refine gate_callee (f := 20) rfl ?_); refine czgo (some 35) Tryz.func20 #[.int .i64 (Int.tmod a0 10)] ?_; (with_reducible refine (ih kj1 (by have := HJ1.out; omega) (Int.tmod a0 10) t232 _ A19.out).mono ?_); rintro e w22 ⟨rfl, hb⟩; refine ⟨_, rfl, ?_⟩; replace HB := am (below_step (czbl HB) hb); (try clear hb hb2 hk hi)))
      go_ret
      exact ⟨czeq, czbl HB⟩
     ·
      rw [if_neg c20] at H
      exact absurd H (by simp)

/-! ### vendmeterref_padded: function 40 -/
def vendmeterref_padded.l0 : Nat → Int → ByteArray → Option (ByteArray)
 | 0, _, _ => none
 | k + 1, x1, x5 => if (x5.size : Int) < x1 then (if 1 + x5.size ≤ 9223372036854775807 then (vendmeterref_padded.l0 k x1 ((⟨#[48]⟩ : ByteArray) ++ x5)) else (none)) else (some x5)
def vendmeterref_padded.f (k : Nat) (a0 : Int) (a1 : Int) : Option (ByteArray) := (vendmeterref_Dec.f k a0).bind fun t233 => (vendmeterref_padded.l0 k a1 t233)
theorem vendmeterref_padded.mono_l : ∀ k, (∀ y0 y1, LeO (vendmeterref_padded.l0 k y0 y1) (vendmeterref_padded.l0 (k + 1) y0 y1))
 | 0 => fun _ _ r h => by simp [vendmeterref_padded.l0] at h
 | k + 1 => by
  have ih0 := vendmeterref_padded.mono_l k
  ·
   intro y0 y1
   unfold vendmeterref_padded.l0
   repeat' first
   | (with_reducible exact ih0 _ _)
   | (with_reducible exact vendmeterref_Dec.mono _ _)
   | (with_reducible exact LeO.refl _)
   | (with_reducible exact LeO.none _)
   | (with_reducible refine LeO.ite ?_ ?_)
   | (with_reducible refine LeO.bind ?_ (fun _ => ?_))
theorem vendmeterref_padded.mono : ∀ a0 a1 k, LeO (vendmeterref_padded.f k a0 a1) (vendmeterref_padded.f (k + 1) a0 a1) := by
 intro a0 a1 k
 have ih0 := vendmeterref_padded.mono_l k
 unfold vendmeterref_padded.f
 repeat' first
   | (with_reducible exact ih0 _ _)
   | (with_reducible exact vendmeterref_Dec.mono _ _)
   | (with_reducible exact LeO.refl _)
   | (with_reducible exact LeO.none _)
   | (with_reducible refine LeO.ite ?_ ?_)
   | (with_reducible refine LeO.bind ?_ (fun _ => ?_))
theorem vendmeterref_padded.calls (k : Nat) (a0 : Int) (a1 : Int) (r : ByteArray) (w : World) (h : vendmeterref_padded.f k a0 a1 = some r) :
  Calls Tryz.prog 40 #[.int .i64 a0, .int .i64 a1] w fun e w' => e = .returned (.string r) ∧ Below w.heap.size w w' := by
 have HB := am (Below.refl w.heap.size w)
 have H : ((vendmeterref_Dec.f k a0).bind fun t233 => (vendmeterref_padded.l0 k a1 t233)) = some r := h
 clear h
 replace H := Option.bind_eq_some_iff.mp H
 obtain ⟨t233, A30, H⟩ := H
 (try dsimp only at H)
 have A3 := am A30
 clear A30
 have H' := am H
 clear H
 go_enter Tryz.func40, Tryz.ntmps40
 go_wp2_with (first | ((with_reducible refine gate_callee (f := 20) rfl ?_); refine czgo (some 7) Tryz.func20 #[.int .i64 a0] ?_; (with_reducible refine (vendmeterref_Dec.calls k a0 t233 _ A3.out).mono ?_); rintro e w4 ⟨rfl, hb⟩; refine ⟨_, rfl, ?_⟩; replace HB := am (below_step (czbl HB) hb); (try clear hb hb2 hk hi)))
 go_loopg [5] k (fun kq v5 w' => ∃ (x5_1 : ByteArray), v5 = .string x5_1 ∧ Aside0 (vendmeterref_padded.l0 kq a1 x5_1 = some r) ∧ Aside0 (kq ≤ k) ∧ Aside0 (Below w.heap.size w w'))
 case atStart => exact ⟨(t233), czr, H', ⟨Nat.le_refl _⟩, ⟨czbl HB⟩⟩
 case round =>
  clear H'
  try clear c2
  try clear p2
  try clear c4
  obtain ⟨x5_1, rfl, HA, HK1, HB⟩ := hrel
  cases gk with
  | zero => exact absurd HA.out (by simp [vendmeterref_padded.l0])
  | succ k1 =>
   have H := HA.out
   clear HA
   simp only [vendmeterref_padded.l0] at H
   revert H
   refine czif (fun c5b0 H => ?_) (fun c5b0 H => ?_)
   ·
    by_cases c6 : 1 + x5_1.size ≤ 9223372036854775807
    ·
     rw [if_pos c6] at H
     have c6b0 := eq_true c6
     have c6b1 : decide (1 + x5_1.size ≤ 9223372036854775807) = true := decide_eq_true c6
     try have c6b2 : (9223372036854775807 < 1 + x5_1.size) = False := eq_false (Nat.not_lt.2 c6)
     have H' := am H
     clear H
     go_wp2
     go_roundg k1
     case measure => have := HK1.out; omega
     case rel => exact ⟨((⟨#[48]⟩ : ByteArray) ++ x5_1), czr, H', ⟨by have := HK1.out; omega⟩, ⟨czbl HB⟩⟩
    ·
     rw [if_neg c6] at H
     exact absurd H (by simp)
   ·
    obtain rfl := Option.some.inj H
    go_wp2
    go_ret
    exact ⟨czeq, czbl HB⟩

/-! ### vendmeterref_DigitsMay: function 50 -/
mutual
def vendmeterref_DigitsMay.j0 : Nat → ByteArray → Bool → Option (Int)
 | 0, _, _ => none
 | k + 1, x0, x11 => if x11 = true then (some 1) else (vendmeterref_DigitsMay.l0 k x0 0)
def vendmeterref_DigitsMay.l0 : Nat → ByteArray → Int → Option (Int)
 | 0, _, _ => none
 | k + 1, x0, x3 => if x3 < (x0.size : Int) then (if 0 ≤ x3 then ((vendmeterref_Digit.f (bt x0 x3)).bind fun t234 => (if t234 = true then (vendmeterref_DigitsMay.l0 k x0 (wrap64 (x3 + 1))) else (some 7))) else (none)) else (some 0)
end
def vendmeterref_DigitsMay.f (k : Nat) (a0 : ByteArray) : Option (Int) := if (a0.size : Int) < 1 then (vendmeterref_DigitsMay.j0 k a0 true) else (vendmeterref_DigitsMay.j0 k a0 (decide ((a0.size : Int) > 200)))
theorem vendmeterref_DigitsMay.mono_l : ∀ k, (∀ y0 y1, LeO (vendmeterref_DigitsMay.j0 k y0 y1) (vendmeterref_DigitsMay.j0 (k + 1) y0 y1)) ∧ (∀ y0 y1, LeO (vendmeterref_DigitsMay.l0 k y0 y1) (vendmeterref_DigitsMay.l0 (k + 1) y0 y1))
 | 0 => ⟨fun _ _ r h => by simp [vendmeterref_DigitsMay.j0] at h, fun _ _ r h => by simp [vendmeterref_DigitsMay.l0] at h⟩
 | k + 1 => by
  obtain ⟨ih0, ih1⟩ := vendmeterref_DigitsMay.mono_l k
  refine ⟨?_, ?_⟩
  ·
   intro y0 y1
   unfold vendmeterref_DigitsMay.j0
   repeat' first
   | (with_reducible exact ih0 _ _)
   | (with_reducible exact ih1 _ _)
   | (with_reducible exact LeO.refl _)
   | (with_reducible exact LeO.none _)
   | (with_reducible refine LeO.ite ?_ ?_)
   | (with_reducible refine LeO.bind ?_ (fun _ => ?_))
  ·
   intro y0 y1
   unfold vendmeterref_DigitsMay.l0
   repeat' first
   | (with_reducible exact ih0 _ _)
   | (with_reducible exact ih1 _ _)
   | (with_reducible exact LeO.refl _)
   | (with_reducible exact LeO.none _)
   | (with_reducible refine LeO.ite ?_ ?_)
   | (with_reducible refine LeO.bind ?_ (fun _ => ?_))
theorem vendmeterref_DigitsMay.mono : ∀ a0 k, LeO (vendmeterref_DigitsMay.f k a0) (vendmeterref_DigitsMay.f (k + 1) a0) := by
 intro a0 k
 obtain ⟨ih0, ih1⟩ := vendmeterref_DigitsMay.mono_l k
 unfold vendmeterref_DigitsMay.f
 repeat' first
   | (with_reducible exact ih0 _ _)
   | (with_reducible exact ih1 _ _)
   | (with_reducible exact LeO.refl _)
   | (with_reducible exact LeO.none _)
   | (with_reducible refine LeO.ite ?_ ?_)
   | (with_reducible refine LeO.bind ?_ (fun _ => ?_))
theorem vendmeterref_DigitsMay.calls (k : Nat) (a0 : ByteArray) (r : Int) (w : World) (h : vendmeterref_DigitsMay.f k a0 = some r) :
  Calls Tryz.prog 50 #[.string a0] w fun e w' => e = .returned (.int .i64 r) ∧ Drawn0 w w' := by
 have H : (if (a0.size : Int) < 1 then (vendmeterref_DigitsMay.j0 k a0 true) else (vendmeterref_DigitsMay.j0 k a0 (decide ((a0.size : Int) > 200)))) = some r := h
 clear h
 have HC2 := am H
 clear H
 go_enter Tryz.func50, Tryz.ntmps50
 go_upto_region 1 with (fail)
 go_cut [11] (fun v11 wc => ∃ (kq : Nat) (x11_1 : Bool), v11 = .bool x11_1 ∧ Aside0 (vendmeterref_DigitsMay.j0 kq a0 x11_1 = some r) ∧ Aside0 (kq ≤ k) ∧ Drawn0 w wc)
 case first =>
  have H := HC2.out
  clear HC2
  by_cases c3 : (a0.size : Int) < 1
  ·
   rw [if_pos c3] at H
   have c3b0 : decide ((a0.size : Int) < 1) = true := decide_eq_true c3
   have c3b1 : decide (a0.size < 1) = true := decide_eq_true (by omega)
   clear c3
   (first | rw [c3b0] | (simp only [i64_w, i32_w]; rw [c3b0]) | skip)
   have H' := am H
   clear H
   go_wp2
   go_meet
   case rel => exact ⟨_, (true), czr, H', ⟨by first | omega | exact Nat.le_refl _⟩, by repeat (first | exact Drawn0.refl _ | apply Drawn0.step)⟩
  ·
   rw [if_neg c3] at H
   have c3b0 : decide ((a0.size : Int) < 1) = false := decide_eq_false c3
   have c3b1 : decide (a0.size < 1) = false := decide_eq_false (by omega)
   clear c3
   (first | rw [c3b0] | (simp only [i64_w, i32_w]; rw [c3b0]) | skip)
   have H' := am H
   clear H
   go_wp2
   go_meet
   case rel => exact ⟨_, (decide ((a0.size : Int) > 200)), czr, H', ⟨by first | omega | exact Nat.le_refl _⟩, by repeat (first | exact Drawn0.refl _ | apply Drawn0.step)⟩
 case rest =>
  clear HC2
  try clear p2
  try clear c3
  try clear c3b0
  try clear c3b1
  obtain ⟨kq, x11_1, rfl, HA, HJ1, ⟨mc1, rfl⟩⟩ := hcut
  cases kq with
  | zero => exact absurd HA.out (by simp [vendmeterref_DigitsMay.j0])
  | succ kj1 =>
   have H := HA.out
   clear HA
   simp only [vendmeterref_DigitsMay.j0] at H
   by_cases c4 : x11_1 = true
   ·
    subst c4
    have H1 : (some 1) = some r := by rw [if_pos rfl] at H; exact H
    clear H
    have H := H1
    clear H1
    obtain rfl := Option.some.inj H
    go_wp2
    go_ret
    exact ⟨by first | rfl | (simp; done) | (simp [*]; done), by repeat (first | exact Drawn0.refl _ | apply Drawn0.step)⟩
   ·
    replace c4 := Bool.eq_false_iff.mpr c4
    subst c4
    have H1 : (vendmeterref_DigitsMay.l0 kj1 a0 0) = some r := by rw [if_neg (show ¬ (false = true) by decide)] at H; exact H
    clear H
    have H := H1
    clear H1
    have H' := am H
    clear H
    go_wp2
    go_loopg [3] kj1 (fun kq v3 w' => ∃ (x3_2 : Int), v3 = .int .i64 x3_2 ∧ Aside0 (vendmeterref_DigitsMay.l0 kq a0 x3_2 = some r) ∧ Aside0 (kq ≤ kj1) ∧ Drawn0 w w')
    case atStart => exact ⟨(0), czr, H', ⟨Nat.le_refl _⟩, by repeat (first | exact Drawn0.refl _ | apply Drawn0.step)⟩
    case round =>
     clear H'
     try clear c1
     try clear p2
     try clear c3
     try clear c3b0
     try clear c3b1
     try clear c4
     try clear p2
     obtain ⟨x3_2, rfl, HA, HK2, ⟨m2, rfl⟩⟩ := hrel
     cases gk with
     | zero => exact absurd HA.out (by simp [vendmeterref_DigitsMay.l0])
     | succ k2 =>
      have H := HA.out
      clear HA
      simp only [vendmeterref_DigitsMay.l0] at H
      revert H
      refine czif (fun c5b0 H => ?_) (fun c5b0 H => ?_)
      ·
       by_cases c6 : 0 ≤ x3_2
       ·
        rw [if_pos c6] at H
        have c6b0 : decide (0 ≤ x3_2) = true := decide_eq_true c6
        clear c6
        replace H := Option.bind_eq_some_iff.mp H
        obtain ⟨t234, A80, H⟩ := H
        (try dsimp only at H)
        have A8 := am A80
        clear A80
        by_cases c9 : t234 = true
        ·
         subst c9
         have H1 : (vendmeterref_DigitsMay.l0 k2 a0 (wrap64 (x3_2 + 1))) = some r := by rw [if_pos rfl] at H; exact H
         clear H
         have H := H1
         clear H1
         have H' := am H
         clear H
         have p7 : 0 ≤ (x3_2 : Int) := czd
         have q7 : x3_2 < (a0.size : Int) := czd
         have hx7 := bt_at a0 x3_2
         replace p7 := eq_true p7
         replace q7 := eq_true q7
         go_wp2_with (first | ((with_reducible refine gate_callee (f := 52) rfl ?_); refine czgo (some 21) Tryz.func52 #[.int .u8 (bt a0 x3_2)] ?_; (with_reducible refine (vendmeterref_Digit.calls (bt a0 x3_2) true _ A8.out).mono ?_); rintro e w' ⟨rfl, ⟨nd, rfl⟩⟩; refine ⟨_, rfl, ?_⟩))
         go_roundg k2
         case measure => have := HJ1.out; have := HK2.out; omega
         case rel => exact ⟨(wrap64 (x3_2 + 1)), czr, H', ⟨by have := HJ1.out; have := HK2.out; omega⟩, by repeat (first | exact Drawn0.refl _ | apply Drawn0.step)⟩
        ·
         replace c9 := Bool.eq_false_iff.mpr c9
         subst c9
         have H1 : (some 7) = some r := by rw [if_neg (show ¬ (false = true) by decide)] at H; exact H
         clear H
         have H := H1
         clear H1
         obtain rfl := Option.some.inj H
         have p7 : 0 ≤ (x3_2 : Int) := czd
         have q7 : x3_2 < (a0.size : Int) := czd
         have hx7 := bt_at a0 x3_2
         replace p7 := eq_true p7
         replace q7 := eq_true q7
         go_wp2_with (first | ((with_reducible refine gate_callee (f := 52) rfl ?_); refine czgo (some 21) Tryz.func52 #[.int .u8 (bt a0 x3_2)] ?_; (with_reducible refine (vendmeterref_Digit.calls (bt a0 x3_2) false _ A8.out).mono ?_); rintro e w' ⟨rfl, ⟨nd, rfl⟩⟩; refine ⟨_, rfl, ?_⟩))
         go_ret
         exact ⟨by first | rfl | (simp; done) | (simp [*]; done), by repeat (first | exact Drawn0.refl _ | apply Drawn0.step)⟩
       ·
        rw [if_neg c6] at H
        exact absurd H (by simp)
      ·
       obtain rfl := Option.some.inj H
       go_wp2
       go_ret
       exact ⟨by first | rfl | (simp; done) | (simp [*]; done), by repeat (first | exact Drawn0.refl _ | apply Drawn0.step)⟩

/-! ### vendmeterref_turned: function 109 -/
def vendmeterref_turned.l0 : Nat → Int → Int → ByteArray → Int → Option (Int)
 | 0, _, _, _, _ => none
 | k + 1, x0, x1, x5, x6 => if x6 < (Int.tmod x1 8) then (if 0 ≤ x0 then (if x0 < (x5.size : Int) then (vendmeterref_turned.l0 k (((bt x5 x0) - 48) % 256) x1 x5 (wrap64 (x6 + 1))) else (none)) else (none)) else (some x0)
def vendmeterref_turned.f (k : Nat) (a0 : Int) (a1 : Int) : Option (Int) := vendmeterref_turned.l0 k a0 a1 (⟨#[49, 53, 55, 54, 50, 56, 51, 48, 57, 52]⟩ : ByteArray) 0
theorem vendmeterref_turned.mono_l : ∀ k, (∀ y0 y1 y2 y3, LeO (vendmeterref_turned.l0 k y0 y1 y2 y3) (vendmeterref_turned.l0 (k + 1) y0 y1 y2 y3))
 | 0 => fun _ _ _ _ r h => by simp [vendmeterref_turned.l0] at h
 | k + 1 => by
  have ih0 := vendmeterref_turned.mono_l k
  ·
   intro y0 y1 y2 y3
   unfold vendmeterref_turned.l0
   repeat' first
   | (with_reducible exact ih0 _ _ _ _)
   | (with_reducible exact LeO.refl _)
   | (with_reducible exact LeO.none _)
   | (with_reducible refine LeO.ite ?_ ?_)
   | (with_reducible refine LeO.bind ?_ (fun _ => ?_))
theorem vendmeterref_turned.mono : ∀ a0 a1 k, LeO (vendmeterref_turned.f k a0 a1) (vendmeterref_turned.f (k + 1) a0 a1) := by
 intro a0 a1 k
 have ih0 := vendmeterref_turned.mono_l k
 unfold vendmeterref_turned.f
 repeat' first
   | (with_reducible exact ih0 _ _ _ _)
   | (with_reducible exact LeO.refl _)
   | (with_reducible exact LeO.none _)
   | (with_reducible refine LeO.ite ?_ ?_)
   | (with_reducible refine LeO.bind ?_ (fun _ => ?_))
theorem vendmeterref_turned.calls (k : Nat) (a0 : Int) (a1 : Int) (r : Int) (w : World) (h : vendmeterref_turned.f k a0 a1 = some r) :
  Calls Tryz.prog 109 #[.int .i64 a0, .int .i64 a1] w fun e w' => e = .returned (.int .i64 r) ∧ Drawn0 w w' := by
 have H : (vendmeterref_turned.l0 k a0 a1 (⟨#[49, 53, 55, 54, 50, 56, 51, 48, 57, 52]⟩ : ByteArray) 0) = some r := h
 clear h
 have H' := am H
 clear H
 go_enter Tryz.func109, Tryz.ntmps109
 go_wp2
 go_loopg [0, 6] k (fun kq v0 v6 w' => ∃ (x0_1 : Int) (x6_1 : Int), v0 = .int .i64 x0_1 ∧ v6 = .int .i64 x6_1 ∧ Aside0 (vendmeterref_turned.l0 kq x0_1 a1 (⟨#[49, 53, 55, 54, 50, 56, 51, 48, 57, 52]⟩ : ByteArray) x6_1 = some r) ∧ Aside0 (kq ≤ k) ∧ Drawn0 w w')
 case atStart => exact ⟨(a0), (0), czr, czr, H', ⟨Nat.le_refl _⟩, by repeat (first | exact Drawn0.refl _ | apply Drawn0.step)⟩
 case round =>
  clear H'
  try clear c1
  try clear p2
  obtain ⟨x0_1, x6_1, rfl, rfl, HA, HK1, ⟨m1, rfl⟩⟩ := hrel
  cases gk with
  | zero => exact absurd HA.out (by simp [vendmeterref_turned.l0])
  | succ k1 =>
   have H := HA.out
   clear HA
   simp only [vendmeterref_turned.l0] at H
   revert H
   refine czif (fun c3b0 H => ?_) (fun c3b0 H => ?_)
   ·
    by_cases c4 : 0 ≤ x0_1
    ·
     rw [if_pos c4] at H
     have c4b0 : decide (0 ≤ x0_1) = true := decide_eq_true c4
     clear c4
     by_cases c5 : x0_1 < ((⟨#[49, 53, 55, 54, 50, 56, 51, 48, 57, 52]⟩ : ByteArray).size : Int)
     ·
      rw [if_pos c5] at H
      have c5b0 : decide (x0_1 < ((⟨#[49, 53, 55, 54, 50, 56, 51, 48, 57, 52]⟩ : ByteArray).size : Int)) = true := decide_eq_true c5
      clear c5
      have H' := am H
      clear H
      have p6 : 0 ≤ (x0_1 : Int) := czd
      have q6 : x0_1 < (10 : Int) := czd
      have hx6 := bt_at (⟨#[49, 53, 55, 54, 50, 56, 51, 48, 57, 52]⟩ : ByteArray) x0_1
      replace p6 := eq_true p6
      replace q6 := eq_true q6
      go_wp2
      go_roundg k1
      case measure => have := HK1.out; omega
      case rel => exact ⟨(((bt (⟨#[49, 53, 55, 54, 50, 56, 51, 48, 57, 52]⟩ : ByteArray) x0_1) - 48) % 256), (wrap64 (x6_1 + 1)), czr, czr, H', ⟨by have := HK1.out; omega⟩, by repeat (first | exact Drawn0.refl _ | apply Drawn0.step)⟩
     ·
      rw [if_neg c5] at H
      exact absurd H (by simp)
    ·
     rw [if_neg c4] at H
     exact absurd H (by simp)
   ·
    obtain rfl := Option.some.inj H
    go_wp2
    go_ret
    exact ⟨by first | rfl | (simp; done) | (simp [*]; done), by repeat (first | exact Drawn0.refl _ | apply Drawn0.step)⟩

/-! ### vendmeterref_corner: function 145 -/
def vendmeterref_corner.f (a0 : Int) (a1 : Int) : Option (Int) := if a0 < 5 then (some (Int.tmod (wrap64 (a1 + a0)) 5)) else (some (Int.tmod (wrap64 (a0 - a1)) 5))
theorem vendmeterref_corner.calls (a0 : Int) (a1 : Int) (r : Int) (w : World) (h : vendmeterref_corner.f a0 a1 = some r) :
  Calls Tryz.prog 145 #[.int .i64 a0, .int .i64 a1] w fun e w' => e = .returned (.int .i64 r) ∧ Drawn0 w w' := by
 have H : (if a0 < 5 then (some (Int.tmod (wrap64 (a1 + a0)) 5)) else (some (Int.tmod (wrap64 (a0 - a1)) 5))) = some r := h
 clear h
 revert H
 refine czif (fun c3b0 H => ?_) (fun c3b0 H => ?_)
 ·
  obtain rfl := Option.some.inj H
  go_enter Tryz.func145, Tryz.ntmps145
  go_wp2
  go_ret
  exact ⟨by first | rfl | (simp; done) | (simp [*]; done), by repeat (first | exact Drawn0.refl _ | apply Drawn0.step)⟩
 ·
  obtain rfl := Option.some.inj H
  go_enter Tryz.func145, Tryz.ntmps145
  go_wp2
  go_ret
  exact ⟨by first | rfl | (simp; done) | (simp [*]; done), by repeat (first | exact Drawn0.refl _ | apply Drawn0.step)⟩

/-! ### vendmeterref_Moved: function 110 -/
mutual
def vendmeterref_Moved.j0 : Nat → Int → Int → Bool → Option (Int × Int)
 | 0, _, _, _ => none
 | k + 1, x0, x1, x14 => if x14 = true then (some (0, 2)) else (vendmeterref_Moved.l0 k x0 x1 0)
def vendmeterref_Moved.l0 : Nat → Int → Int → Int → Option (Int × Int)
 | 0, _, _, _ => none
 | k + 1, x0, x1, x6 => if x6 < 10 then ((vendmeterref_corner.f x6 0).bind fun t237 => ((vendmeterref_corner.f x1 0).bind fun t238 => ((vendmeterref_corner.f x0 t238).bind fun t239 => (if t237 = t239 then ((vendmeterref_corner.f x6 1).bind fun t240 => ((vendmeterref_corner.f x1 1).bind fun t241 => ((vendmeterref_corner.f x0 t241).bind fun t242 => (if t240 = t242 then (some (x6, 0)) else (vendmeterref_Moved.l0 k x0 x1 (wrap64 (x6 + 1))))))) else (vendmeterref_Moved.l0 k x0 x1 (wrap64 (x6 + 1))))))) else (some (0, 5))
end
def vendmeterref_Moved.f (k : Nat) (a0 : Int) (a1 : Int) : Option (Int × Int) := (vendmeterref_In.f a0 0 9).bind fun t235 => (if t235 = true then ((vendmeterref_In.f a1 0 9).bind fun t236 => (vendmeterref_Moved.j0 k a0 a1 (!t236))) else (vendmeterref_Moved.j0 k a0 a1 true))
theorem vendmeterref_Moved.mono_l : ∀ k, (∀ y0 y1 y2, LeO (vendmeterref_Moved.j0 k y0 y1 y2) (vendmeterref_Moved.j0 (k + 1) y0 y1 y2)) ∧ (∀ y0 y1 y2, LeO (vendmeterref_Moved.l0 k y0 y1 y2) (vendmeterref_Moved.l0 (k + 1) y0 y1 y2))
 | 0 => ⟨fun _ _ _ r h => by simp [vendmeterref_Moved.j0] at h, fun _ _ _ r h => by simp [vendmeterref_Moved.l0] at h⟩
 | k + 1 => by
  obtain ⟨ih0, ih1⟩ := vendmeterref_Moved.mono_l k
  refine ⟨?_, ?_⟩
  ·
   intro y0 y1 y2
   unfold vendmeterref_Moved.j0
   repeat' first
   | (with_reducible exact ih0 _ _ _)
   | (with_reducible exact ih1 _ _ _)
   | (with_reducible exact LeO.refl _)
   | (with_reducible exact LeO.none _)
   | (with_reducible refine LeO.ite ?_ ?_)
   | (with_reducible refine LeO.bind ?_ (fun _ => ?_))
  ·
   intro y0 y1 y2
   unfold vendmeterref_Moved.l0
   repeat' first
   | (with_reducible exact ih0 _ _ _)
   | (with_reducible exact ih1 _ _ _)
   | (with_reducible exact LeO.refl _)
   | (with_reducible exact LeO.none _)
   | (with_reducible refine LeO.ite ?_ ?_)
   | (with_reducible refine LeO.bind ?_ (fun _ => ?_))
theorem vendmeterref_Moved.mono : ∀ a0 a1 k, LeO (vendmeterref_Moved.f k a0 a1) (vendmeterref_Moved.f (k + 1) a0 a1) := by
 intro a0 a1 k
 obtain ⟨ih0, ih1⟩ := vendmeterref_Moved.mono_l k
 unfold vendmeterref_Moved.f
 repeat' first
   | (with_reducible exact ih0 _ _ _)
   | (with_reducible exact ih1 _ _ _)
   | (with_reducible exact LeO.refl _)
   | (with_reducible exact LeO.none _)
   | (with_reducible refine LeO.ite ?_ ?_)
   | (with_reducible refine LeO.bind ?_ (fun _ => ?_))
theorem vendmeterref_Moved.calls (k : Nat) (a0 : Int) (a1 : Int) (r1 : Int) (r2 : Int) (w : World) (h : vendmeterref_Moved.f k a0 a1 = some (r1, r2)) :
  Calls Tryz.prog 110 #[.int .i64 a0, .int .i64 a1] w fun e w' => e = .returned (.tuple #[.int .i64 r1, .int .i64 r2]) ∧ Drawn0 w w' := by
 have H : ((vendmeterref_In.f a0 0 9).bind fun t235 => (if t235 = true then ((vendmeterref_In.f a1 0 9).bind fun t236 => (vendmeterref_Moved.j0 k a0 a1 (!t236))) else (vendmeterref_Moved.j0 k a0 a1 true))) = some (r1, r2) := h
 clear h
 have HC3 := am H
 clear H
 go_enter Tryz.func110, Tryz.ntmps110
 go_upto_region 1 with (fail)
 go_cut [14] (fun v14 wc => ∃ (kq : Nat) (x14_2 : Bool), v14 = .bool x14_2 ∧ Aside0 (vendmeterref_Moved.j0 kq a0 a1 x14_2 = some (r1, r2)) ∧ Aside0 (kq ≤ k) ∧ Drawn0 w wc)
 case first =>
  have H := HC3.out
  clear HC3
  replace H := Option.bind_eq_some_iff.mp H
  obtain ⟨t235, A40, H⟩ := H
  (try dsimp only at H)
  have A4 := am A40
  clear A40
  by_cases c5 : t235 = true
  ·
   subst c5
   have H1 : ((vendmeterref_In.f a1 0 9).bind fun t236 => (vendmeterref_Moved.j0 k a0 a1 (!t236))) = some (r1, r2) := by rw [if_pos rfl] at H; exact H
   clear H
   have H := H1
   clear H1
   replace H := Option.bind_eq_some_iff.mp H
   obtain ⟨t236, A60, H⟩ := H
   (try dsimp only at H)
   have A6 := am A60
   clear A60
   have H' := am H
   clear H
   go_wp2_with (first | ((with_reducible refine gate_callee (f := 38) rfl ?_); refine czgo (some 8) Tryz.func38 #[.int .i64 a0, .int .i64 0, .int .i64 9] ?_; (with_reducible refine (vendmeterref_In.calls a0 0 9 true _ A4.out).mono ?_); rintro e w' ⟨rfl, ⟨nd, rfl⟩⟩; refine ⟨_, rfl, ?_⟩) | (go_at_call 38; (with_reducible refine (vendmeterref_In.calls a1 0 9 t236 _ A6.out).mono ?_); rintro e w' ⟨rfl, ⟨nd, rfl⟩⟩))
   go_meet
   case rel => exact ⟨_, (!t236), czr, H', ⟨by first | omega | exact Nat.le_refl _⟩, by repeat (first | exact Drawn0.refl _ | apply Drawn0.step)⟩
  ·
   replace c5 := Bool.eq_false_iff.mpr c5
   subst c5
   have H1 : (vendmeterref_Moved.j0 k a0 a1 true) = some (r1, r2) := by rw [if_neg (show ¬ (false = true) by decide)] at H; exact H
   clear H
   have H := H1
   clear H1
   have H' := am H
   clear H
   go_wp2_with (first | ((with_reducible refine gate_callee (f := 38) rfl ?_); refine czgo (some 8) Tryz.func38 #[.int .i64 a0, .int .i64 0, .int .i64 9] ?_; (with_reducible refine (vendmeterref_In.calls a0 0 9 false _ A4.out).mono ?_); rintro e w' ⟨rfl, ⟨nd, rfl⟩⟩; refine ⟨_, rfl, ?_⟩))
   go_meet
   case rel => exact ⟨_, (true), czr, H', ⟨by first | omega | exact Nat.le_refl _⟩, by repeat (first | exact Drawn0.refl _ | apply Drawn0.step)⟩
 case rest =>
  clear HC3
  try clear c1
  try clear p2
  try clear c3
  try clear c5
  obtain ⟨kq, x14_2, rfl, HA, HJ2, ⟨mc2, rfl⟩⟩ := hcut
  cases kq with
  | zero => exact absurd HA.out (by simp [vendmeterref_Moved.j0])
  | succ kj2 =>
   have H := HA.out
   clear HA
   simp only [vendmeterref_Moved.j0] at H
   by_cases c7 : x14_2 = true
   ·
    subst c7
    have H1 : (some (0, 2)) = some (r1, r2) := by rw [if_pos rfl] at H; exact H
    clear H
    have H := H1
    clear H1
    simp only [Option.some.injEq, Prod.mk.injEq] at H
    obtain ⟨rfl, rfl⟩ := H
    go_wp2
    go_ret2
    exact ⟨by first | rfl | (simp; done) | (simp [*]; done), by repeat (first | exact Drawn0.refl _ | apply Drawn0.step)⟩
   ·
    replace c7 := Bool.eq_false_iff.mpr c7
    subst c7
    have H1 : (vendmeterref_Moved.l0 kj2 a0 a1 0) = some (r1, r2) := by rw [if_neg (show ¬ (false = true) by decide)] at H; exact H
    clear H
    have H := H1
    clear H1
    have H' := am H
    clear H
    go_wp2
    go_loopg [6] kj2 (fun kq v6 w' => ∃ (x6_2 : Int), v6 = .int .i64 x6_2 ∧ Aside0 (vendmeterref_Moved.l0 kq a0 a1 x6_2 = some (r1, r2)) ∧ Aside0 (kq ≤ kj2) ∧ Drawn0 w w')
    case atStart => exact ⟨(0), czr, H', ⟨Nat.le_refl _⟩, by repeat (first | exact Drawn0.refl _ | apply Drawn0.step)⟩
    case round =>
     clear H'
     try clear c1
     try clear c2
     try clear p2
     try clear c3
     try clear c5
     try clear c7
     try clear p2
     obtain ⟨x6_2, rfl, HA, HK2, ⟨m2, rfl⟩⟩ := hrel
     cases gk with
     | zero => exact absurd HA.out (by simp [vendmeterref_Moved.l0])
     | succ k2 =>
      have H := HA.out
      clear HA
      simp only [vendmeterref_Moved.l0] at H
      revert H
      refine czif (fun c8b0 H => ?_) (fun c8b0 H => ?_)
      ·
       replace H := Option.bind_eq_some_iff.mp H
       obtain ⟨t237, A90, H⟩ := H
       (try dsimp only at H)
       have A9 := am A90
       clear A90
       replace H := Option.bind_eq_some_iff.mp H
       obtain ⟨t238, A100, H⟩ := H
       (try dsimp only at H)
       have A10 := am A100
       clear A100
       replace H := Option.bind_eq_some_iff.mp H
       obtain ⟨t239, A110, H⟩ := H
       (try dsimp only at H)
       have A11 := am A110
       clear A110
       revert H
       refine czei (fun c12b0 c12b1 H => ?_) (fun c12 c12b0 c12b1 H => ?_)
       ·
        replace H := Option.bind_eq_some_iff.mp H
        obtain ⟨t240, A130, H⟩ := H
        (try dsimp only at H)
        have A13 := am A130
        clear A130
        replace H := Option.bind_eq_some_iff.mp H
        obtain ⟨t241, A140, H⟩ := H
        (try dsimp only at H)
        have A14 := am A140
        clear A140
        replace H := Option.bind_eq_some_iff.mp H
        obtain ⟨t242, A150, H⟩ := H
        (try dsimp only at H)
        have A15 := am A150
        clear A150
        revert H
        refine czei (fun c16b0 c16b1 H => ?_) (fun c16 c16b0 c16b1 H => ?_)
        ·
         simp only [Option.some.injEq, Prod.mk.injEq] at H
         obtain ⟨rfl, rfl⟩ := H
         go_wp2_with (first | ((with_reducible refine gate_callee (f := 145) rfl ?_); refine czgo (some 20) Tryz.func145 #[.int .i64 x6_2, .int .i64 0] ?_; (with_reducible refine (vendmeterref_corner.calls x6_2 0 t237 _ A9.out).mono ?_); rintro e w' ⟨rfl, ⟨nd, rfl⟩⟩; refine ⟨_, rfl, ?_⟩) | ((with_reducible refine gate_callee (f := 145) rfl ?_); refine czgo (some 23) Tryz.func145 #[.int .i64 a1, .int .i64 0] ?_; (with_reducible refine (vendmeterref_corner.calls a1 0 t238 _ A10.out).mono ?_); rintro e w' ⟨rfl, ⟨nd, rfl⟩⟩; refine ⟨_, rfl, ?_⟩) | ((with_reducible refine gate_callee (f := 145) rfl ?_); refine czgo (some 24) Tryz.func145 #[.int .i64 a0, .int .i64 t238] ?_; (with_reducible refine (vendmeterref_corner.calls a0 t238 t239 _ A11.out).mono ?_); rintro e w' ⟨rfl, ⟨nd, rfl⟩⟩; refine ⟨_, rfl, ?_⟩) | (go_at_call 145; (with_reducible refine (vendmeterref_corner.calls x6_2 1 t240 _ A13.out).mono ?_); rintro e w' ⟨rfl, ⟨nd, rfl⟩⟩) | (go_at_call 145; (with_reducible refine (vendmeterref_corner.calls a1 1 t241 _ A14.out).mono ?_); rintro e w' ⟨rfl, ⟨nd, rfl⟩⟩) | (go_at_call 145; (with_reducible refine (vendmeterref_corner.calls a0 t241 t242 _ A15.out).mono ?_); rintro e w' ⟨rfl, ⟨nd, rfl⟩⟩))
         go_ret2
         exact ⟨by first | rfl | (simp; done) | (simp [*]; done), by repeat (first | exact Drawn0.refl _ | apply Drawn0.step)⟩
        ·
         have H' := am H
         clear H
         go_wp2_with (first | ((with_reducible refine gate_callee (f := 145) rfl ?_); refine czgo (some 20) Tryz.func145 #[.int .i64 x6_2, .int .i64 0] ?_; (with_reducible refine (vendmeterref_corner.calls x6_2 0 t237 _ A9.out).mono ?_); rintro e w' ⟨rfl, ⟨nd, rfl⟩⟩; refine ⟨_, rfl, ?_⟩) | ((with_reducible refine gate_callee (f := 145) rfl ?_); refine czgo (some 23) Tryz.func145 #[.int .i64 a1, .int .i64 0] ?_; (with_reducible refine (vendmeterref_corner.calls a1 0 t238 _ A10.out).mono ?_); rintro e w' ⟨rfl, ⟨nd, rfl⟩⟩; refine ⟨_, rfl, ?_⟩) | ((with_reducible refine gate_callee (f := 145) rfl ?_); refine czgo (some 24) Tryz.func145 #[.int .i64 a0, .int .i64 t238] ?_; (with_reducible refine (vendmeterref_corner.calls a0 t238 t239 _ A11.out).mono ?_); rintro e w' ⟨rfl, ⟨nd, rfl⟩⟩; refine ⟨_, rfl, ?_⟩) | (go_at_call 145; (with_reducible refine (vendmeterref_corner.calls x6_2 1 t240 _ A13.out).mono ?_); rintro e w' ⟨rfl, ⟨nd, rfl⟩⟩) | (go_at_call 145; (with_reducible refine (vendmeterref_corner.calls a1 1 t241 _ A14.out).mono ?_); rintro e w' ⟨rfl, ⟨nd, rfl⟩⟩) | (go_at_call 145; (with_reducible refine (vendmeterref_corner.calls a0 t241 t242 _ A15.out).mono ?_); rintro e w' ⟨rfl, ⟨nd, rfl⟩⟩))
         go_roundg k2
         case measure => have := HJ2.out; have := HK2.out; omega
         case rel => exact ⟨(wrap64 (x6_2 + 1)), czr, H', ⟨by have := HJ2.out; have := HK2.out; omega⟩, by repeat (first | exact Drawn0.refl _ | apply Drawn0.step)⟩
       ·
        have H' := am H
        clear H
        go_wp2_with (first | ((with_reducible refine gate_callee (f := 145) rfl ?_); refine czgo (some 20) Tryz.func145 #[.int .i64 x6_2, .int .i64 0] ?_; (with_reducible refine (vendmeterref_corner.calls x6_2 0 t237 _ A9.out).mono ?_); rintro e w' ⟨rfl, ⟨nd, rfl⟩⟩; refine ⟨_, rfl, ?_⟩) | ((with_reducible refine gate_callee (f := 145) rfl ?_); refine czgo (some 23) Tryz.func145 #[.int .i64 a1, .int .i64 0] ?_; (with_reducible refine (vendmeterref_corner.calls a1 0 t238 _ A10.out).mono ?_); rintro e w' ⟨rfl, ⟨nd, rfl⟩⟩; refine ⟨_, rfl, ?_⟩) | ((with_reducible refine gate_callee (f := 145) rfl ?_); refine czgo (some 24) Tryz.func145 #[.int .i64 a0, .int .i64 t238] ?_; (with_reducible refine (vendmeterref_corner.calls a0 t238 t239 _ A11.out).mono ?_); rintro e w' ⟨rfl, ⟨nd, rfl⟩⟩; refine ⟨_, rfl, ?_⟩))
        go_roundg k2
        case measure => have := HJ2.out; have := HK2.out; omega
        case rel => exact ⟨(wrap64 (x6_2 + 1)), czr, H', ⟨by have := HJ2.out; have := HK2.out; omega⟩, by repeat (first | exact Drawn0.refl _ | apply Drawn0.step)⟩
      ·
       simp only [Option.some.injEq, Prod.mk.injEq] at H
       obtain ⟨rfl, rfl⟩ := H
       go_wp2
       go_ret2
       exact ⟨by first | rfl | (simp; done) | (simp [*]; done), by repeat (first | exact Drawn0.refl _ | apply Drawn0.step)⟩

end Go.Proofs.YtocolmpfpbclbaaGreatDoor.PReceiptShows
