-- written by this session's program wip/xp/xprint.py (it drives the kit's print and adds to it)
import Derived.Test.YtocolmpfpbclbaaGreatDoorPReceiptShowsx0
import Derived.Test.YtocolmpfpbclbaaGreatDoorPReceiptShowsx4
namespace Go.Proofs.YtocolmpfpbclbaaGreatDoor.PReceiptShows
open Go.RowKit Go.Proofs.YtocolmpfpbclbaaGreatDoorW.PrintWords Go.Proofs.YtocolmpfpbclbaaGreatDoorW.PrintLast Go.Proofs.YtocolmpfpbclbaaGreatDoorW.PrintMore
attribute [local go_sem] max2_int min2_int max_two min_two max_three min_three max_four min_four
set_option linter.unusedVariables false
set_option linter.unusedSimpArgs false
set_option maxHeartbeats 8000000
set_option maxRecDepth 100000

/-! ### receipt_Number: function 10 -/
def receipt_Number.j0 : Nat → Int → Bool → Option (ByteArray × Int)
 | 0, _, _ => none
 | k + 1, x0, x12 => if x12 = true then (some ((⟨#[]⟩ : ByteArray), 18)) else ((strconv_Itoa_12.f (wrap64 (10000000000 + x0))).bind fun t112 => (if 1 ≤ (t112.size : Int) then ((check_Digit.f k (t112.extract 1 t112.size)).bind fun bt113 => ((strconv_Itoa_12.f bt113.1).bind fun t115 => (if (t112.extract 1 t112.size).size + t115.size ≤ 9223372036854775807 then (some ((t112.extract 1 t112.size) ++ t115, 0)) else (none)))) else (none)))
def receipt_Number.f (k : Nat) (a0 : Int) : Option (ByteArray × Int) := if a0 < 0 then (receipt_Number.j0 k a0 true) else (receipt_Number.j0 k a0 (decide (a0 ≥ 50)))
theorem receipt_Number.mono_l : ∀ k, (∀ y0 y1, LeO (receipt_Number.j0 k y0 y1) (receipt_Number.j0 (k + 1) y0 y1))
 | 0 => fun _ _ r h => by simp [receipt_Number.j0] at h
 | k + 1 => by
  have ih0 := receipt_Number.mono_l k
  ·
   intro y0 y1
   unfold receipt_Number.j0
   repeat' first
   | (with_reducible exact ih0 _ _)
   | (with_reducible exact check_Digit.mono _ _)
   | (with_reducible exact LeO.refl _)
   | (with_reducible exact LeO.none _)
   | (with_reducible refine LeO.ite ?_ ?_)
   | (with_reducible refine LeO.bind ?_ (fun _ => ?_))
theorem receipt_Number.mono : ∀ a0 k, LeO (receipt_Number.f k a0) (receipt_Number.f (k + 1) a0) := by
 intro a0 k
 have ih0 := receipt_Number.mono_l k
 unfold receipt_Number.f
 repeat' first
   | (with_reducible exact ih0 _ _)
   | (with_reducible exact check_Digit.mono _ _)
   | (with_reducible exact LeO.refl _)
   | (with_reducible exact LeO.none _)
   | (with_reducible refine LeO.ite ?_ ?_)
   | (with_reducible refine LeO.bind ?_ (fun _ => ?_))
theorem receipt_Number.calls (k : Nat) (a0 : Int) (r1 : ByteArray) (r2 : Int) (w : World) (HTAB : LaidW w) (h : receipt_Number.f k a0 = some (r1, r2)) :
  Calls Tryz.prog 10 #[.int .i64 a0] w fun e w' => e = .returned (.tuple #[.string r1, .int .i64 r2]) ∧ Below w.heap.size w w' := by
 have HB := am (Below.refl w.heap.size w)
 have H : (if a0 < 0 then (receipt_Number.j0 k a0 true) else (receipt_Number.j0 k a0 (decide (a0 ≥ 50)))) = some (r1, r2) := h
 clear h
 have HC2 := am H
 clear H
 go_enter Tryz.func10, Tryz.ntmps10
 go_upto_region 1 with (fail)
 go_cut [12] (fun v12 wc => ∃ (kq : Nat) (x12_1 : Bool), v12 = .bool x12_1 ∧ Aside0 (receipt_Number.j0 kq a0 x12_1 = some (r1, r2)) ∧ Aside0 (kq ≤ k) ∧ Aside0 (Below w.heap.size w wc))
 case first =>
  have H := HC2.out
  clear HC2
  revert H
  refine czif (fun c3b0 H => ?_) (fun c3b0 H => ?_)
  ·
   (first | rw [c3b0] | (simp only [i64_w, i32_w]; rw [c3b0]) | skip)
   have H' := am H
   clear H
   go_wp2
   go_meet
   case rel => exact ⟨_, (true), czr, H', ⟨by first | omega | exact Nat.le_refl _⟩, ⟨czbl HB⟩⟩
  ·
   (first | rw [c3b0] | (simp only [i64_w, i32_w]; rw [c3b0]) | skip)
   have H' := am H
   clear H
   go_wp2
   go_meet
   case rel => exact ⟨_, (decide (a0 ≥ 50)), czr, H', ⟨by first | omega | exact Nat.le_refl _⟩, ⟨czbl HB⟩⟩
 case rest =>
  clear HC2
  try clear c1
  try clear p2
  try clear c3
  try clear c3b0
  obtain ⟨kq, x12_1, rfl, HA, HJ1, HB⟩ := hcut
  cases kq with
  | zero => exact absurd HA.out (by simp [receipt_Number.j0])
  | succ kj1 =>
   have H := HA.out
   clear HA
   simp only [receipt_Number.j0] at H
   by_cases c4 : x12_1 = true
   ·
    subst c4
    have H1 : (some ((⟨#[]⟩ : ByteArray), 18)) = some (r1, r2) := by rw [if_pos rfl] at H; exact H
    clear H
    have H := H1
    clear H1
    simp only [Option.some.injEq, Prod.mk.injEq] at H
    obtain ⟨rfl, rfl⟩ := H
    go_wp2
    go_ret2
    exact ⟨czeq, czbl HB⟩
   ·
    replace c4 := Bool.eq_false_iff.mpr c4
    subst c4
    have H1 : ((strconv_Itoa_12.f (wrap64 (10000000000 + a0))).bind fun t112 => (if 1 ≤ (t112.size : Int) then ((check_Digit.f kj1 (t112.extract 1 t112.size)).bind fun bt113 => ((strconv_Itoa_12.f bt113.1).bind fun t115 => (if (t112.extract 1 t112.size).size + t115.size ≤ 9223372036854775807 then (some ((t112.extract 1 t112.size) ++ t115, 0)) else (none)))) else (none))) = some (r1, r2) := by rw [if_neg (show ¬ (false = true) by decide)] at H; exact H
    clear H
    have H := H1
    clear H1
    replace H := Option.bind_eq_some_iff.mp H
    obtain ⟨t112, A50, H⟩ := H
    (try dsimp only at H)
    have A5 := am A50
    clear A50
    by_cases c6 : 1 ≤ (t112.size : Int)
    ·
     rw [if_pos c6] at H
     have c6b0 := eq_true c6
     have c6b1 : decide (1 ≤ (t112.size : Int)) = true := decide_eq_true c6
     clear c6
     replace H := Option.bind_eq_some_iff.mp H
     obtain ⟨⟨t113, t114⟩, A70, H⟩ := H
     (try dsimp only at H)
     have A7 := am A70
     clear A70
     replace H := Option.bind_eq_some_iff.mp H
     obtain ⟨t115, A80, H⟩ := H
     (try dsimp only at H)
     have A8 := am A80
     clear A80
     by_cases c9 : (t112.extract 1 t112.size).size + t115.size ≤ 9223372036854775807
     ·
      rw [if_pos c9] at H
      have c9b0 := eq_true c9
      have c9b1 : decide ((t112.extract 1 t112.size).size + t115.size ≤ 9223372036854775807) = true := decide_eq_true c9
      try have c9b2 : (9223372036854775807 < (t112.extract 1 t112.size).size + t115.size) = False := eq_false (Nat.not_lt.2 c9)
      try have c9b3 : (9223372036854775807 < (t112.size - 1) + t115.size) = False := eq_false (by have z_ := c9; (try simp only [ByteArray.size_append, ByteArray.size_extract, Nat.min_self] at z_); omega)
      try have c9b4 : ((t112.size - 1) + t115.size ≤ 9223372036854775807) = True := eq_true (by have z_ := c9; (try simp only [ByteArray.size_append, ByteArray.size_extract, Nat.min_self] at z_); omega)
      simp only [Option.some.injEq, Prod.mk.injEq] at H
      obtain ⟨rfl, rfl⟩ := H
      go_wp2_with (first | ((with_reducible refine gate_callee (f := 12) rfl ?_); refine czgo (some 15) Tryz.func12 #[.int .i64 (wrap64 (10000000000 + a0))] ?_; (with_reducible refine (strconv_Itoa_12.calls (wrap64 (10000000000 + a0)) t112 _ (HTAB.go (by repeat (first | (with_reducible first | exact HB.1 | exact Below.refl _ _ | apply below_alloc | apply pw_below_drewN | apply below_drew1) | exact HB.1))) A5.out).mono ?_); rintro e w10 ⟨rfl, hb⟩; refine ⟨_, rfl, ?_⟩; replace HB := am (below_step (czbl HB) hb); (try clear hb hb2 hk hi)) | ((with_reducible refine gate_callee (f := 32) rfl ?_); refine czgo (some 19) Tryz.func32 #[.string (t112.extract 1 t112.size)] ?_; (with_reducible refine (check_Digit.calls kj1 (t112.extract 1 t112.size) t113 t114 _ A7.out).mono ?_); rintro e w11 ⟨rfl, hb⟩; refine ⟨_, rfl, ?_⟩; replace HB := am (below_step (czbl HB) hb); (try clear hb hb2 hk hi)) | ((with_reducible refine gate_callee (f := 12) rfl ?_); refine czgo (some 24) Tryz.func12 #[.int .i64 t113] ?_; (with_reducible refine (strconv_Itoa_12.calls t113 t115 _ (HTAB.go (by repeat (first | (with_reducible first | exact HB.1 | exact Below.refl _ _ | apply below_alloc | apply pw_below_drewN | apply below_drew1) | exact HB.1))) A8.out).mono ?_); rintro e w12 ⟨rfl, hb⟩; refine ⟨_, rfl, ?_⟩; replace HB := am (below_step (czbl HB) hb); (try clear hb hb2 hk hi)))
      go_ret2
      exact ⟨czeq, czbl HB⟩
     ·
      rw [if_neg c9] at H
      exact absurd H (by simp)
    ·
     rw [if_neg c6] at H
     exact absurd H (by simp)

-- NOT PRINTED: function 11 (receipt_paper_line)

/-! ### cents_within: function 36 -/
def cents_within.f (a0 : Int) (a1 : Int) (a2 : Int) : Option (Bool) := if a1 ≤ a0 then (some (decide (a0 ≤ a2))) else (some false)
theorem cents_within.calls (a0 : Int) (a1 : Int) (a2 : Int) (r : Bool) (w : World) (h : cents_within.f a0 a1 a2 = some r) :
  Calls Tryz.prog 36 #[.int .i64 a0, .int .i64 a1, .int .i64 a2] w fun e w' => e = .returned (.bool r) ∧ Drawn0 w w' := by
 have H : (if a1 ≤ a0 then (some (decide (a0 ≤ a2))) else (some false)) = some r := h
 clear h
 revert H
 refine czif (fun c4b0 H => ?_) (fun c4b0 H => ?_)
 ·
  obtain rfl := Option.some.inj H
  go_enter Tryz.func36, Tryz.ntmps36
  go_wp2
  go_ret
  exact ⟨by first | rfl | (simp; done) | (simp [*]; done), by repeat (first | exact Drawn0.refl _ | apply Drawn0.step)⟩
 ·
  obtain rfl := Option.some.inj H
  go_enter Tryz.func36, Tryz.ntmps36
  go_wp2
  go_ret
  exact ⟨by first | rfl | (simp; done) | (simp [*]; done), by repeat (first | exact Drawn0.refl _ | apply Drawn0.step)⟩

/-! ### cents_Show: function 14 -/
def cents_Show.f (a0 : Int) : Option (ByteArray × Int) := (cents_within.f a0 (-1000000000000) 1000000000000).bind fun t116 => (if t116 = true then (if a0 < 0 then ((strconv_Itoa_12.f (wrap64 (100 + (Int.tmod (wrap64 (-a0)) 100)))).bind fun t117 => ((strconv_Itoa_12.f (wrap64 (Int.tdiv (wrap64 (-a0)) 100))).bind fun t118 => (if 1 + t118.size ≤ 9223372036854775807 then (if ((⟨#[45]⟩ : ByteArray) ++ t118).size + 1 ≤ 9223372036854775807 then (if 1 ≤ (t117.size : Int) then (if (((⟨#[45]⟩ : ByteArray) ++ t118) ++ (⟨#[46]⟩ : ByteArray)).size + (t117.extract 1 t117.size).size ≤ 9223372036854775807 then (some ((((⟨#[45]⟩ : ByteArray) ++ t118) ++ (⟨#[46]⟩ : ByteArray)) ++ (t117.extract 1 t117.size), 0)) else (none)) else (none)) else (none)) else (none)))) else ((strconv_Itoa_12.f (wrap64 (100 + (Int.tmod a0 100)))).bind fun t119 => ((strconv_Itoa_12.f (wrap64 (Int.tdiv a0 100))).bind fun t120 => (if 0 + t120.size ≤ 9223372036854775807 then (if ((⟨#[]⟩ : ByteArray) ++ t120).size + 1 ≤ 9223372036854775807 then (if 1 ≤ (t119.size : Int) then (if (((⟨#[]⟩ : ByteArray) ++ t120) ++ (⟨#[46]⟩ : ByteArray)).size + (t119.extract 1 t119.size).size ≤ 9223372036854775807 then (some ((((⟨#[]⟩ : ByteArray) ++ t120) ++ (⟨#[46]⟩ : ByteArray)) ++ (t119.extract 1 t119.size), 0)) else (none)) else (none)) else (none)) else (none))))) else (some ((⟨#[]⟩ : ByteArray), 2)))
def cents_Show.T7 : Bool × List (List Nat × List Nat) := (true, [([], []), ([], []), ([1], [1]), ([2], [2]), ([0, 3], [0, 3]), ([4], [4]), ([], []), ([6], [6]), ([5, 7], [5, 7]), ([8, 3, 0, 1, 2, 3, 4, 5, 6, 7, 8], [8]), ([9, 0, 1, 2, 3, 4, 5, 6, 7, 8, 9], [])])
def cents_Show.B7 : List Nat := [0, 0, 2, 6, 15, 31, 0, 64, 255, 511, 1023]
theorem cents_Show.tab7 : rtab .any (opsOf Tryz.f14 7) = cents_Show.T7 := by kernel_rfl
theorem cents_Show.bits7 : waitsOk cents_Show.T7.2 cents_Show.B7 = true := by kernel_rfl
theorem cents_Show.calls (a0 : Int) (r1 : ByteArray) (r2 : Int) (w : World) (HTAB : LaidW w) (h : cents_Show.f a0 = some (r1, r2)) :
  Calls Tryz.prog 14 #[.int .i64 a0] w fun e w' => e = .returned (.tuple #[.string r1, .int .i64 r2]) ∧ Below w.heap.size w w' := by
 have HB := am (Below.refl w.heap.size w)
 have H : ((cents_within.f a0 (-1000000000000) 1000000000000).bind fun t116 => (if t116 = true then (if a0 < 0 then ((strconv_Itoa_12.f (wrap64 (100 + (Int.tmod (wrap64 (-a0)) 100)))).bind fun t117 => ((strconv_Itoa_12.f (wrap64 (Int.tdiv (wrap64 (-a0)) 100))).bind fun t118 => (if 1 + t118.size ≤ 9223372036854775807 then (if ((⟨#[45]⟩ : ByteArray) ++ t118).size + 1 ≤ 9223372036854775807 then (if 1 ≤ (t117.size : Int) then (if (((⟨#[45]⟩ : ByteArray) ++ t118) ++ (⟨#[46]⟩ : ByteArray)).size + (t117.extract 1 t117.size).size ≤ 9223372036854775807 then (some ((((⟨#[45]⟩ : ByteArray) ++ t118) ++ (⟨#[46]⟩ : ByteArray)) ++ (t117.extract 1 t117.size), 0)) else (none)) else (none)) else (none)) else (none)))) else ((strconv_Itoa_12.f (wrap64 (100 + (Int.tmod a0 100)))).bind fun t119 => ((strconv_Itoa_12.f (wrap64 (Int.tdiv a0 100))).bind fun t120 => (if 0 + t120.size ≤ 9223372036854775807 then (if ((⟨#[]⟩ : ByteArray) ++ t120).size + 1 ≤ 9223372036854775807 then (if 1 ≤ (t119.size : Int) then (if (((⟨#[]⟩ : ByteArray) ++ t120) ++ (⟨#[46]⟩ : ByteArray)).size + (t119.extract 1 t119.size).size ≤ 9223372036854775807 then (some ((((⟨#[]⟩ : ByteArray) ++ t120) ++ (⟨#[46]⟩ : ByteArray)) ++ (t119.extract 1 t119.size), 0)) else (none)) else (none)) else (none)) else (none))))) else (some ((⟨#[]⟩ : ByteArray), 2)))) = some (r1, r2) := h
 clear h
 replace H := Option.bind_eq_some_iff.mp H
 obtain ⟨t116, A20, H⟩ := H
 (try dsimp only at H)
 have A2 := am A20
 clear A20
 by_cases c3 : t116 = true
 ·
  subst c3
  have H1 : (if a0 < 0 then ((strconv_Itoa_12.f (wrap64 (100 + (Int.tmod (wrap64 (-a0)) 100)))).bind fun t117 => ((strconv_Itoa_12.f (wrap64 (Int.tdiv (wrap64 (-a0)) 100))).bind fun t118 => (if 1 + t118.size ≤ 9223372036854775807 then (if ((⟨#[45]⟩ : ByteArray) ++ t118).size + 1 ≤ 9223372036854775807 then (if 1 ≤ (t117.size : Int) then (if (((⟨#[45]⟩ : ByteArray) ++ t118) ++ (⟨#[46]⟩ : ByteArray)).size + (t117.extract 1 t117.size).size ≤ 9223372036854775807 then (some ((((⟨#[45]⟩ : ByteArray) ++ t118) ++ (⟨#[46]⟩ : ByteArray)) ++ (t117.extract 1 t117.size), 0)) else (none)) else (none)) else (none)) else (none)))) else ((strconv_Itoa_12.f (wrap64 (100 + (Int.tmod a0 100)))).bind fun t119 => ((strconv_Itoa_12.f (wrap64 (Int.tdiv a0 100))).bind fun t120 => (if 0 + t120.size ≤ 9223372036854775807 then (if ((⟨#[]⟩ : ByteArray) ++ t120).size + 1 ≤ 9223372036854775807 then (if 1 ≤ (t119.size : Int) then (if (((⟨#[]⟩ : ByteArray) ++ t120) ++ (⟨#[46]⟩ : ByteArray)).size + (t119.extract 1 t119.size).size ≤ 9223372036854775807 then (some ((((⟨#[]⟩ : ByteArray) ++ t120) ++ (⟨#[46]⟩ : ByteArray)) ++ (t119.extract 1 t119.size), 0)) else (none)) else (none)) else (none)) else (none))))) = some (r1, r2) := by rw [if_pos rfl] at H; exact H
  clear H
  have H := H1
  clear H1
  revert H
  refine czif (fun c4b0 H => ?_) (fun c4b0 H => ?_)
  ·
   replace H := Option.bind_eq_some_iff.mp H
   obtain ⟨t117, A50, H⟩ := H
   (try dsimp only at H)
   have A5 := am A50
   clear A50
   replace H := Option.bind_eq_some_iff.mp H
   obtain ⟨t118, A60, H⟩ := H
   (try dsimp only at H)
   have A6 := am A60
   clear A60
   by_cases c7 : 1 + t118.size ≤ 9223372036854775807
   ·
    rw [if_pos c7] at H
    have c7b0 := eq_true c7
    have c7b1 : decide (1 + t118.size ≤ 9223372036854775807) = true := decide_eq_true c7
    try have c7b2 : (9223372036854775807 < 1 + t118.size) = False := eq_false (Nat.not_lt.2 c7)
    by_cases c8 : ((⟨#[45]⟩ : ByteArray) ++ t118).size + 1 ≤ 9223372036854775807
    ·
     rw [if_pos c8] at H
     have c8b0 := eq_true c8
     have c8b1 : decide (((⟨#[45]⟩ : ByteArray) ++ t118).size + 1 ≤ 9223372036854775807) = true := decide_eq_true c8
     try have c8b2 : (9223372036854775807 < ((⟨#[45]⟩ : ByteArray) ++ t118).size + 1) = False := eq_false (Nat.not_lt.2 c8)
     try have c8b3 : (9223372036854775807 < 1 + t118.size + 1) = False := eq_false (by have l0_ : (⟨#[45]⟩ : ByteArray).size = 1 := rfl; have z_ := c8; (try simp only [ByteArray.size_append, ByteArray.size_extract, Nat.min_self] at z_); omega)
     try have c8b4 : (1 + t118.size + 1 ≤ 9223372036854775807) = True := eq_true (by have l0_ : (⟨#[45]⟩ : ByteArray).size = 1 := rfl; have z_ := c8; (try simp only [ByteArray.size_append, ByteArray.size_extract, Nat.min_self] at z_); omega)
     by_cases c9 : 1 ≤ (t117.size : Int)
     ·
      rw [if_pos c9] at H
      have c9b0 := eq_true c9
      have c9b1 : decide (1 ≤ (t117.size : Int)) = true := decide_eq_true c9
      clear c9
      by_cases c10 : (((⟨#[45]⟩ : ByteArray) ++ t118) ++ (⟨#[46]⟩ : ByteArray)).size + (t117.extract 1 t117.size).size ≤ 9223372036854775807
      ·
       rw [if_pos c10] at H
       have c10b0 := eq_true c10
       have c10b1 : decide ((((⟨#[45]⟩ : ByteArray) ++ t118) ++ (⟨#[46]⟩ : ByteArray)).size + (t117.extract 1 t117.size).size ≤ 9223372036854775807) = true := decide_eq_true c10
       try have c10b2 : (9223372036854775807 < (((⟨#[45]⟩ : ByteArray) ++ t118) ++ (⟨#[46]⟩ : ByteArray)).size + (t117.extract 1 t117.size).size) = False := eq_false (Nat.not_lt.2 c10)
       try have c10b3 : (9223372036854775807 < 1 + t118.size + 1 + (t117.size - 1)) = False := eq_false (by have l0_ : (⟨#[45]⟩ : ByteArray).size = 1 := rfl; have l1_ : (⟨#[46]⟩ : ByteArray).size = 1 := rfl; have z_ := c10; (try simp only [ByteArray.size_append, ByteArray.size_extract, Nat.min_self] at z_); omega)
       try have c10b4 : (1 + t118.size + 1 + (t117.size - 1) ≤ 9223372036854775807) = True := eq_true (by have l0_ : (⟨#[45]⟩ : ByteArray).size = 1 := rfl; have l1_ : (⟨#[46]⟩ : ByteArray).size = 1 := rfl; have z_ := c10; (try simp only [ByteArray.size_append, ByteArray.size_extract, Nat.min_self] at z_); omega)
       simp only [Option.some.injEq, Prod.mk.injEq] at H
       obtain ⟨rfl, rfl⟩ := H
       go_enter Tryz.func14, Tryz.ntmps14
       try go_wp2_with (first | ((with_reducible refine gate_callee (f := 36) rfl ?_); refine czgo (some 7) Tryz.func36 #[.int .i64 a0, .int .i64 (-1000000000000), .int .i64 1000000000000] ?_; (with_reducible refine (cents_within.calls a0 (-1000000000000) 1000000000000 true _ A2.out).mono ?_); rintro e w' ⟨rfl, ⟨nd, rfl⟩⟩; refine ⟨_, rfl, ?_⟩) | ((with_reducible refine gate_callee (f := 12) rfl ?_); refine czgo (some 16) Tryz.func12 #[.int .i64 (wrap64 (100 + (Int.tmod (wrap64 (-a0)) 100)))] ?_; (with_reducible refine (strconv_Itoa_12.calls (wrap64 (100 + (Int.tmod (wrap64 (-a0)) 100))) t117 _ (HTAB.go (by repeat (first | (with_reducible first | exact HB.1 | exact Below.refl _ _ | apply below_alloc | apply pw_below_drewN | apply below_drew1) | exact HB.1))) A5.out).mono ?_); rintro e w11 ⟨rfl, hb⟩; refine ⟨_, rfl, ?_⟩; replace HB := am (below_step (czbl HB) hb); (try clear hb hb2 hk hi)))
       have n0_ := am (below_drew1 HB.1)
       clear HB
       have HB := n0_
       clear n0_
       refine start_ (n := 11) (S := fun w' => True) (ds := []) #[false, false, false, false, false, false, false, false, false, false, false] (by kernel_rfl) rfl rfl trivial (fun hHeld => ?_); refine with_tabW cents_Show.tab7 cents_Show.bits7 (fun HT_ HW_ => ?_)
       generalize w11.drew = w12 at HB hHeld ⊢
       refine pure_ (i := 0) (N := some 17) (v := ?_) (a' := ?_) #[true, false, false, false, false, false, false, false, false, false, false] rfl rfl (any_of HT_.out (by kernel_rfl)) (fun _ _ _ h => h) (Or.inl ⟨by rfl, ?_⟩) ?_ ?_
       rotate_left
       ·
        intro w'
        go_simp
        with_reducible rfl
       rotate_left
       ·
        simp only [Act.put, List.setIfInBounds_toArray, List.set_cons_zero, List.set_cons_succ, i64_w, i32_w]
        rfl
       refine pure_ (i := 1) (N := some 18) (v := ?_) (a' := ?_) #[true, true, false, false, false, false, false, false, false, false, false] rfl rfl (any_of HT_.out (by kernel_rfl)) (fun _ _ _ h => h) (Or.inl ⟨by rfl, ?_⟩) ?_ ?_
       rotate_left
       ·
        intro w'
        go_simp
        with_reducible rfl
       rotate_left
       ·
        simp only [Act.put, List.setIfInBounds_toArray, List.set_cons_zero, List.set_cons_succ, i64_w, i32_w]
        rfl
       refine pure_ (i := 2) (N := some 19) (v := ?_) (a' := ?_) #[true, true, true, false, false, false, false, false, false, false, false] rfl rfl (any_of HT_.out (by kernel_rfl)) (fun _ _ _ h => h) (Or.inl ⟨by rfl, ?_⟩) ?_ ?_
       rotate_left
       ·
        intro w'
        go_simp
        with_reducible rfl
       rotate_left
       ·
        simp only [Act.put, List.setIfInBounds_toArray, List.set_cons_zero, List.set_cons_succ, i64_w, i32_w]
        rfl
       refine pure_ (i := 6) (N := some 23) (v := ?_) (a' := ?_) #[true, true, true, false, false, false, true, false, false, false, false] rfl rfl (any_of HT_.out (by kernel_rfl)) (fun _ _ _ h => h) (Or.inl ⟨by rfl, ?_⟩) ?_ ?_
       rotate_left
       ·
        intro w'
        go_simp
        with_reducible rfl
       rotate_left
       ·
        simp only [Act.put, List.setIfInBounds_toArray, List.set_cons_zero, List.set_cons_succ, i64_w, i32_w]
        rfl
       refine pure_ (i := 7) (N := some 24) (v := ?_) (a' := ?_) #[true, true, true, false, false, false, true, true, false, false, false] rfl rfl (any_of HT_.out (by kernel_rfl)) (fun _ _ _ h => h) (Or.inl ⟨by rfl, ?_⟩) ?_ ?_
       rotate_left
       ·
        intro w'
        go_simp
        with_reducible rfl
       rotate_left
       ·
        simp only [Act.put, List.setIfInBounds_toArray, List.set_cons_zero, List.set_cons_succ, i64_w, i32_w]
        rfl
       refine one_ (i := 3) (N := some 20) #[true, true, true, true, false, false, true, true, false, false, false] rfl rfl (one_of HT_.out (by kernel_rfl)) (by decide) (fun K hK => ?_)
       refine goes_ Tryz.func12 (by kernel_rfl) rfl #[.int .i64 (wrap64 (Int.tdiv (wrap64 (-a0)) 100))] (by rfl) rfl rfl (by (try simp only [List.map_toArray, List.map_cons, List.map_nil]); first | done | rfl | (simp only [List.length_drop, List.length_take]; rfl)) ?_
       with_reducible refine (strconv_Itoa_12.calls (wrap64 (Int.tdiv (wrap64 (-a0)) 100)) t118 _ (HTAB.go (by repeat (first | (with_reducible first | exact HB.1 | exact Below.refl _ _ | apply below_alloc | apply pw_below_drewN | apply below_drew1) | exact HB.1))) A6.out).mono ?_
       rintro e w13 ⟨rfl, hb⟩
       refine ⟨_, rfl, ?_⟩
       have n0_ := am (below_step (czbl HB) hb)
       clear HB
       have HB := n0_
       clear n0_
       (try clear hb)
       (try clear hb2)
       (try clear hk)
       (try clear hi)
       refine hK.out _ _ trivial (fun hHeld => ?_)
       clear hK K
       refine norm_ (a' := ?_) ?_ ?_
       rotate_left
       ·
        show Act.put _ (some 20) _ = _
        simp only [Act.put, List.setIfInBounds_toArray, List.set_cons_zero, List.set_cons_succ, i64_w, i32_w]
        rfl
       refine pure_ (i := 4) (N := some 21) (v := ?_) (a' := ?_) #[true, true, true, true, true, false, true, true, false, false, false] rfl rfl (any_of HT_.out (by kernel_rfl)) (fun _ _ _ h => h) (Or.inl ⟨by rfl, ?_⟩) ?_ ?_
       rotate_left
       ·
        intro w'
        go_simp
        with_reducible rfl
       rotate_left
       ·
        simp only [Act.put, List.setIfInBounds_toArray, List.set_cons_zero, List.set_cons_succ, i64_w, i32_w]
        rfl
       refine pure_ (i := 5) (N := some 22) (v := ?_) (a' := ?_) #[true, true, true, true, true, true, true, true, false, false, false] rfl rfl (any_of HT_.out (by kernel_rfl)) (fun _ _ _ h => h) (Or.inl ⟨by rfl, ?_⟩) ?_ ?_
       rotate_left
       ·
        intro w'
        go_simp
        with_reducible rfl
       rotate_left
       ·
        simp only [Act.put, List.setIfInBounds_toArray, List.set_cons_zero, List.set_cons_succ, i64_w, i32_w]
        rfl
       refine pure_ (i := 8) (N := some 25) (v := ?_) (a' := ?_) #[true, true, true, true, true, true, true, true, true, false, false] rfl rfl (any_of HT_.out (by kernel_rfl)) (fun _ _ _ h => h) (Or.inl ⟨by rfl, ?_⟩) ?_ ?_
       rotate_left
       ·
        intro w'
        go_simp
        with_reducible rfl
       rotate_left
       ·
        simp only [Act.put, List.setIfInBounds_toArray, List.set_cons_zero, List.set_cons_succ, i64_w, i32_w]
        rfl
       refine pure_ (i := 9) (N := some 2) (v := ?_) (a' := ?_) #[true, true, true, true, true, true, true, true, true, true, false] rfl rfl (any_of HT_.out (by kernel_rfl)) (fun _ _ _ h => h) (Or.inl ⟨by rfl, ?_⟩) ?_ ?_
       rotate_left
       ·
        intro w'
        go_simp
        with_reducible rfl
       rotate_left
       ·
        simp only [Act.put, List.setIfInBounds_toArray, List.set_cons_zero, List.set_cons_succ, i64_w, i32_w]
        rfl
       refine pure_ (i := 10) (N := some 3) (v := ?_) (a' := ?_) #[true, true, true, true, true, true, true, true, true, true, true] rfl rfl (any_of HT_.out (by kernel_rfl)) (fun _ _ _ h => h) (Or.inl ⟨by rfl, ?_⟩) ?_ ?_
       rotate_left
       ·
        intro w'
        go_simp
        with_reducible rfl
       rotate_left
       ·
        simp only [Act.put, List.setIfInBounds_toArray, List.set_cons_zero, List.set_cons_succ, i64_w, i32_w]
        rfl
       refine done_ (done_of HT_.out (by kernel_rfl)) ?_
       try go_wp2
       go_ret2
       exact ⟨czeq, czbl HB⟩
      ·
       rw [if_neg c10] at H
       exact absurd H (by simp)
     ·
      rw [if_neg c9] at H
      exact absurd H (by simp)
    ·
     rw [if_neg c8] at H
     exact absurd H (by simp)
   ·
    rw [if_neg c7] at H
    exact absurd H (by simp)
  ·
   replace H := Option.bind_eq_some_iff.mp H
   obtain ⟨t119, A140, H⟩ := H
   (try dsimp only at H)
   have A14 := am A140
   clear A140
   replace H := Option.bind_eq_some_iff.mp H
   obtain ⟨t120, A150, H⟩ := H
   (try dsimp only at H)
   have A15 := am A150
   clear A150
   by_cases c16 : 0 + t120.size ≤ 9223372036854775807
   ·
    rw [if_pos c16] at H
    have c16b0 := eq_true c16
    have c16b1 : decide (0 + t120.size ≤ 9223372036854775807) = true := decide_eq_true c16
    try have c16b2 : (9223372036854775807 < 0 + t120.size) = False := eq_false (Nat.not_lt.2 c16)
    try have c16b3 : (9223372036854775807 < t120.size) = False := eq_false (by have z_ := c16; (try simp only [ByteArray.size_append, ByteArray.size_extract, Nat.min_self] at z_); omega)
    try have c16b4 : (t120.size ≤ 9223372036854775807) = True := eq_true (by have z_ := c16; (try simp only [ByteArray.size_append, ByteArray.size_extract, Nat.min_self] at z_); omega)
    by_cases c17 : ((⟨#[]⟩ : ByteArray) ++ t120).size + 1 ≤ 9223372036854775807
    ·
     rw [if_pos c17] at H
     have c17b0 := eq_true c17
     have c17b1 : decide (((⟨#[]⟩ : ByteArray) ++ t120).size + 1 ≤ 9223372036854775807) = true := decide_eq_true c17
     try have c17b2 : (9223372036854775807 < ((⟨#[]⟩ : ByteArray) ++ t120).size + 1) = False := eq_false (Nat.not_lt.2 c17)
     try have c17b3 : (9223372036854775807 < t120.size + 1) = False := eq_false (by have l0_ : (⟨#[]⟩ : ByteArray).size = 0 := rfl; have z_ := c17; (try simp only [ByteArray.size_append, ByteArray.size_extract, Nat.min_self] at z_); omega)
     try have c17b4 : (t120.size + 1 ≤ 9223372036854775807) = True := eq_true (by have l0_ : (⟨#[]⟩ : ByteArray).size = 0 := rfl; have z_ := c17; (try simp only [ByteArray.size_append, ByteArray.size_extract, Nat.min_self] at z_); omega)
     by_cases c18 : 1 ≤ (t119.size : Int)
     ·
      rw [if_pos c18] at H
      have c18b0 := eq_true c18
      have c18b1 : decide (1 ≤ (t119.size : Int)) = true := decide_eq_true c18
      clear c18
      by_cases c19 : (((⟨#[]⟩ : ByteArray) ++ t120) ++ (⟨#[46]⟩ : ByteArray)).size + (t119.extract 1 t119.size).size ≤ 9223372036854775807
      ·
       rw [if_pos c19] at H
       have c19b0 := eq_true c19
       have c19b1 : decide ((((⟨#[]⟩ : ByteArray) ++ t120) ++ (⟨#[46]⟩ : ByteArray)).size + (t119.extract 1 t119.size).size ≤ 9223372036854775807) = true := decide_eq_true c19
       try have c19b2 : (9223372036854775807 < (((⟨#[]⟩ : ByteArray) ++ t120) ++ (⟨#[46]⟩ : ByteArray)).size + (t119.extract 1 t119.size).size) = False := eq_false (Nat.not_lt.2 c19)
       try have c19b3 : (9223372036854775807 < t120.size + 1 + (t119.size - 1)) = False := eq_false (by have l0_ : (⟨#[46]⟩ : ByteArray).size = 1 := rfl; have l1_ : (⟨#[]⟩ : ByteArray).size = 0 := rfl; have z_ := c19; (try simp only [ByteArray.size_append, ByteArray.size_extract, Nat.min_self] at z_); omega)
       try have c19b4 : (t120.size + 1 + (t119.size - 1) ≤ 9223372036854775807) = True := eq_true (by have l0_ : (⟨#[46]⟩ : ByteArray).size = 1 := rfl; have l1_ : (⟨#[]⟩ : ByteArray).size = 0 := rfl; have z_ := c19; (try simp only [ByteArray.size_append, ByteArray.size_extract, Nat.min_self] at z_); omega)
       simp only [Option.some.injEq, Prod.mk.injEq] at H
       obtain ⟨rfl, rfl⟩ := H
       go_enter Tryz.func14, Tryz.ntmps14
       try go_wp2_with (first | ((with_reducible refine gate_callee (f := 36) rfl ?_); refine czgo (some 7) Tryz.func36 #[.int .i64 a0, .int .i64 (-1000000000000), .int .i64 1000000000000] ?_; (with_reducible refine (cents_within.calls a0 (-1000000000000) 1000000000000 true _ A2.out).mono ?_); rintro e w' ⟨rfl, ⟨nd, rfl⟩⟩; refine ⟨_, rfl, ?_⟩) | ((with_reducible refine gate_callee (f := 12) rfl ?_); refine czgo (some 16) Tryz.func12 #[.int .i64 (wrap64 (100 + (Int.tmod a0 100)))] ?_; (with_reducible refine (strconv_Itoa_12.calls (wrap64 (100 + (Int.tmod a0 100))) t119 _ (HTAB.go (by repeat (first | (with_reducible first | exact HB.1 | exact Below.refl _ _ | apply below_alloc | apply pw_below_drewN | apply below_drew1) | exact HB.1))) A14.out).mono ?_); rintro e w20 ⟨rfl, hb⟩; refine ⟨_, rfl, ?_⟩; replace HB := am (below_step (czbl HB) hb); (try clear hb hb2 hk hi)))
       have n0_ := am (below_drew1 HB.1)
       clear HB
       have HB := n0_
       clear n0_
       refine start_ (n := 11) (S := fun w' => True) (ds := []) #[false, false, false, false, false, false, false, false, false, false, false] (by kernel_rfl) rfl rfl trivial (fun hHeld => ?_); refine with_tabW cents_Show.tab7 cents_Show.bits7 (fun HT_ HW_ => ?_)
       generalize w20.drew = w21 at HB hHeld ⊢
       refine pure_ (i := 0) (N := some 17) (v := ?_) (a' := ?_) #[true, false, false, false, false, false, false, false, false, false, false] rfl rfl (any_of HT_.out (by kernel_rfl)) (fun _ _ _ h => h) (Or.inl ⟨by rfl, ?_⟩) ?_ ?_
       rotate_left
       ·
        intro w'
        go_simp
        with_reducible rfl
       rotate_left
       ·
        simp only [Act.put, List.setIfInBounds_toArray, List.set_cons_zero, List.set_cons_succ, i64_w, i32_w]
        rfl
       refine pure_ (i := 1) (N := some 18) (v := ?_) (a' := ?_) #[true, true, false, false, false, false, false, false, false, false, false] rfl rfl (any_of HT_.out (by kernel_rfl)) (fun _ _ _ h => h) (Or.inl ⟨by rfl, ?_⟩) ?_ ?_
       rotate_left
       ·
        intro w'
        go_simp
        with_reducible rfl
       rotate_left
       ·
        simp only [Act.put, List.setIfInBounds_toArray, List.set_cons_zero, List.set_cons_succ, i64_w, i32_w]
        rfl
       refine pure_ (i := 2) (N := some 19) (v := ?_) (a' := ?_) #[true, true, true, false, false, false, false, false, false, false, false] rfl rfl (any_of HT_.out (by kernel_rfl)) (fun _ _ _ h => h) (Or.inl ⟨by rfl, ?_⟩) ?_ ?_
       rotate_left
       ·
        intro w'
        go_simp
        with_reducible rfl
       rotate_left
       ·
        simp only [Act.put, List.setIfInBounds_toArray, List.set_cons_zero, List.set_cons_succ, i64_w, i32_w]
        rfl
       refine pure_ (i := 6) (N := some 23) (v := ?_) (a' := ?_) #[true, true, true, false, false, false, true, false, false, false, false] rfl rfl (any_of HT_.out (by kernel_rfl)) (fun _ _ _ h => h) (Or.inl ⟨by rfl, ?_⟩) ?_ ?_
       rotate_left
       ·
        intro w'
        go_simp
        with_reducible rfl
       rotate_left
       ·
        simp only [Act.put, List.setIfInBounds_toArray, List.set_cons_zero, List.set_cons_succ, i64_w, i32_w]
        rfl
       refine pure_ (i := 7) (N := some 24) (v := ?_) (a' := ?_) #[true, true, true, false, false, false, true, true, false, false, false] rfl rfl (any_of HT_.out (by kernel_rfl)) (fun _ _ _ h => h) (Or.inl ⟨by rfl, ?_⟩) ?_ ?_
       rotate_left
       ·
        intro w'
        go_simp
        with_reducible rfl
       rotate_left
       ·
        simp only [Act.put, List.setIfInBounds_toArray, List.set_cons_zero, List.set_cons_succ, i64_w, i32_w]
        rfl
       refine one_ (i := 3) (N := some 20) #[true, true, true, true, false, false, true, true, false, false, false] rfl rfl (one_of HT_.out (by kernel_rfl)) (by decide) (fun K hK => ?_)
       refine goes_ Tryz.func12 (by kernel_rfl) rfl #[.int .i64 (wrap64 (Int.tdiv a0 100))] (by rfl) rfl rfl (by (try simp only [List.map_toArray, List.map_cons, List.map_nil]); first | done | rfl | (simp only [List.length_drop, List.length_take]; rfl)) ?_
       with_reducible refine (strconv_Itoa_12.calls (wrap64 (Int.tdiv a0 100)) t120 _ (HTAB.go (by repeat (first | (with_reducible first | exact HB.1 | exact Below.refl _ _ | apply below_alloc | apply pw_below_drewN | apply below_drew1) | exact HB.1))) A15.out).mono ?_
       rintro e w22 ⟨rfl, hb⟩
       refine ⟨_, rfl, ?_⟩
       have n0_ := am (below_step (czbl HB) hb)
       clear HB
       have HB := n0_
       clear n0_
       (try clear hb)
       (try clear hb2)
       (try clear hk)
       (try clear hi)
       refine hK.out _ _ trivial (fun hHeld => ?_)
       clear hK K
       refine norm_ (a' := ?_) ?_ ?_
       rotate_left
       ·
        show Act.put _ (some 20) _ = _
        simp only [Act.put, List.setIfInBounds_toArray, List.set_cons_zero, List.set_cons_succ, i64_w, i32_w]
        rfl
       refine pure_ (i := 4) (N := some 21) (v := ?_) (a' := ?_) #[true, true, true, true, true, false, true, true, false, false, false] rfl rfl (any_of HT_.out (by kernel_rfl)) (fun _ _ _ h => h) (Or.inl ⟨by rfl, ?_⟩) ?_ ?_
       rotate_left
       ·
        intro w'
        go_simp
        with_reducible rfl
       rotate_left
       ·
        simp only [Act.put, List.setIfInBounds_toArray, List.set_cons_zero, List.set_cons_succ, i64_w, i32_w]
        rfl
       refine pure_ (i := 5) (N := some 22) (v := ?_) (a' := ?_) #[true, true, true, true, true, true, true, true, false, false, false] rfl rfl (any_of HT_.out (by kernel_rfl)) (fun _ _ _ h => h) (Or.inl ⟨by rfl, ?_⟩) ?_ ?_
       rotate_left
       ·
        intro w'
        go_simp
        with_reducible rfl
       rotate_left
       ·
        simp only [Act.put, List.setIfInBounds_toArray, List.set_cons_zero, List.set_cons_succ, i64_w, i32_w]
        rfl
       refine pure_ (i := 8) (N := some 25) (v := ?_) (a' := ?_) #[true, true, true, true, true, true, true, true, true, false, false] rfl rfl (any_of HT_.out (by kernel_rfl)) (fun _ _ _ h => h) (Or.inl ⟨by rfl, ?_⟩) ?_ ?_
       rotate_left
       ·
        intro w'
        go_simp
        with_reducible rfl
       rotate_left
       ·
        simp only [Act.put, List.setIfInBounds_toArray, List.set_cons_zero, List.set_cons_succ, i64_w, i32_w]
        rfl
       refine pure_ (i := 9) (N := some 2) (v := ?_) (a' := ?_) #[true, true, true, true, true, true, true, true, true, true, false] rfl rfl (any_of HT_.out (by kernel_rfl)) (fun _ _ _ h => h) (Or.inl ⟨by rfl, ?_⟩) ?_ ?_
       rotate_left
       ·
        intro w'
        go_simp
        with_reducible rfl
       rotate_left
       ·
        simp only [Act.put, List.setIfInBounds_toArray, List.set_cons_zero, List.set_cons_succ, i64_w, i32_w]
        rfl
       refine pure_ (i := 10) (N := some 3) (v := ?_) (a' := ?_) #[true, true, true, true, true, true, true, true, true, true, true] rfl rfl (any_of HT_.out (by kernel_rfl)) (fun _ _ _ h => h) (Or.inl ⟨by rfl, ?_⟩) ?_ ?_
       rotate_left
       ·
        intro w'
        go_simp
        with_reducible rfl
       rotate_left
       ·
        simp only [Act.put, List.setIfInBounds_toArray, List.set_cons_zero, List.set_cons_succ, i64_w, i32_w]
        rfl
       refine done_ (done_of HT_.out (by kernel_rfl)) ?_
       try go_wp2
       go_ret2
       exact ⟨czeq, czbl HB⟩
      ·
       rw [if_neg c19] at H
       exact absurd H (by simp)
     ·
      rw [if_neg c18] at H
      exact absurd H (by simp)
    ·
     rw [if_neg c17] at H
     exact absurd H (by simp)
   ·
    rw [if_neg c16] at H
    exact absurd H (by simp)
 ·
  replace c3 := Bool.eq_false_iff.mpr c3
  subst c3
  have H1 : (some ((⟨#[]⟩ : ByteArray), 2)) = some (r1, r2) := by rw [if_neg (show ¬ (false = true) by decide)] at H; exact H
  clear H
  have H := H1
  clear H1
  simp only [Option.some.injEq, Prod.mk.injEq] at H
  obtain ⟨rfl, rfl⟩ := H
  go_enter Tryz.func14, Tryz.ntmps14
  go_wp2_with (first | ((with_reducible refine gate_callee (f := 36) rfl ?_); refine czgo (some 7) Tryz.func36 #[.int .i64 a0, .int .i64 (-1000000000000), .int .i64 1000000000000] ?_; (with_reducible refine (cents_within.calls a0 (-1000000000000) 1000000000000 false _ A2.out).mono ?_); rintro e w' ⟨rfl, ⟨nd, rfl⟩⟩; refine ⟨_, rfl, ?_⟩))
  go_ret2
  exact ⟨czeq, czbl HB⟩

-- NOT PRINTED: function 13 (receipt_Show_1)

-- NOT PRINTED: function 16 (strings_Builder_String)

-- NOT PRINTED: function 96 (abi_NoEscape)

-- NOT PRINTED: function 62 (strings_Builder_copyCheck)

-- NOT PRINTED: function 33 (strings_Builder_WriteString)

-- NOT PRINTED: function 134 (bytealg_MakeNoZero)

-- NOT PRINTED: function 101 (strings_Builder_grow)

-- NOT PRINTED: function 64 (strings_Builder_Grow)

theorem str_spot {w : World} {a : Addr} {v : Value} (h : w.cell? a = some v) : a.spot = none ∧ a.block < w.heap.size := by
 unfold World.cell? at h
 split at h
 ·
  rename_i c _ _ hh
  refine ⟨?_, (Array.getElem?_eq_some_iff.1 hh).1⟩
  cases hs : a.spot with
  | none => rfl
  | some x => rw [hs] at h; simp at h
 ·
  cases h
theorem strC {w : World} {A : Option Addr} {l : List ByteArray} (h : Kd.C Kd.string w A l.length l) (h0 : 0 < l.length) : ∃ b o, A = some ⟨b, o, none⟩ ∧ b < w.heap.size ∧ ∀ (j : Nat) x, l[j]? = some x → w.cell? ⟨b, o + j, none⟩ = some (.string x) := by
 obtain ⟨ad, hA, hc⟩ := Kd.at_string h 0 (by omega) (by omega)
 have hc0 : w.cell? ad = some (.string (rdOf ByteArray.empty l 0)) := hc
 obtain ⟨hs, hb⟩ := str_spot hc0
 obtain ⟨b, o, s⟩ := ad
 obtain rfl : s = none := hs
 refine ⟨b, o, hA, hb, fun j x hx => ?_⟩
 have hj : j < l.length := (List.getElem?_eq_some_iff.1 hx).1
 obtain ⟨ad2, hA2, hc2⟩ := Kd.at_string h (j : Int) (by omega) (by omega)
 rw [hA] at hA2
 obtain rfl := Option.some.inj hA2
 have e1 : rdOf ByteArray.empty l (j : Int) = x := by
  unfold rdOf
  rw [Int.toNat_natCast, List.getD_eq_getElem?_getD, hx]
  rfl
 rw [e1] at hc2
 cases j with
 | zero => exact hc2
 | succ n => exact hc2

/-! ### strings_Join: function 37 (the kit's contract, in the print's shape) -/
def strings_Join.f (l0 : List ByteArray) (a1 : ByteArray) : Option ByteArray := if l0.length ≤ 140737488355328 ∧ (Lib.join (l0.map (·.data.toList)) a1.data.toList).length ≤ 140737488355328 then some ⟨(Lib.join (l0.map (·.data.toList)) a1.data.toList).toArray⟩ else none
theorem strings_Join.calls (A0 : Option Addr) (c0 : Nat) (l0 : List ByteArray) (a1 : ByteArray) (r : ByteArray) (w : World) (hr0 : Kd.C Kd.string w A0 l0.length l0) (hc0 : l0.length ≤ c0) (h : strings_Join.f l0 a1 = some r) :
  Calls Tryz.prog 37 #[.slice A0 l0.length c0, .string a1] w fun e w' => e = .returned (.string r) ∧ Below w.heap.size w w' := by
 unfold strings_Join.f at h
 split at h
 ·
  rename_i hc
  obtain rfl := Option.some.inj h
  cases hl : l0 with
  | nil =>
   refine (Tryz.strings_Join_none A0 c0 a1 w).mono ?_
   rintro e w' ⟨rfl, rfl⟩
   exact ⟨rfl, Below.refl _ _⟩
  | cons x t =>
   rw [← hl]
   obtain ⟨b, o, rfl, hb, hcells⟩ := strC hr0 (by rw [hl]; exact Nat.succ_pos _)
   exact Tryz.strings_Join b o c0 l0 a1 w hcells hb hc.1 hc0 hc.2
 ·
  cases h

/-! ### receipt_grouped: function 15 -/
def receipt_grouped.l0 : Nat → ByteArray → List ByteArray → Int → Option (ByteArray)
 | 0, _, _, _ => none
 | k + 1, x0, x3, x4 => if (wrap64 (x4 + 4)) ≤ (x0.size : Int) then (if 0 ≤ x4 then (if x4 ≤ (wrap64 (x4 + 4)) then (if x3.length < 8796093022208 then (receipt_grouped.l0 k x0 (x3 ++ [x0.extract (x4 : Int).toNat ((wrap64 (x4 + 4)) : Int).toNat]) (wrap64 (x4 + 4))) else (none)) else (none)) else (none)) else ((strings_Join.f x3 (⟨#[32]⟩ : ByteArray)).bind fun t124 => (some t124))
def receipt_grouped.f (k : Nat) (a0 : ByteArray) : Option (ByteArray) := receipt_grouped.l0 k a0 ([] : List ByteArray) 0
theorem receipt_grouped.mono_l : ∀ k, (∀ y0 y1 y2, LeO (receipt_grouped.l0 k y0 y1 y2) (receipt_grouped.l0 (k + 1) y0 y1 y2))
 | 0 => fun _ _ _ r h => by simp [receipt_grouped.l0] at h
 | k + 1 => by
  have ih0 := receipt_grouped.mono_l k
  ·
   intro y0 y1 y2
   unfold receipt_grouped.l0
   repeat' first
   | (with_reducible exact ih0 _ _ _)
   | (with_reducible exact LeO.refl _)
   | (with_reducible exact LeO.none _)
   | (with_reducible refine LeO.ite ?_ ?_)
   | (with_reducible refine LeO.bind ?_ (fun _ => ?_))
theorem receipt_grouped.mono : ∀ a0 k, LeO (receipt_grouped.f k a0) (receipt_grouped.f (k + 1) a0) := by
 intro a0 k
 have ih0 := receipt_grouped.mono_l k
 unfold receipt_grouped.f
 repeat' first
   | (with_reducible exact ih0 _ _ _)
   | (with_reducible exact LeO.refl _)
   | (with_reducible exact LeO.none _)
   | (with_reducible refine LeO.ite ?_ ?_)
   | (with_reducible refine LeO.bind ?_ (fun _ => ?_))
theorem receipt_grouped.calls (k : Nat) (a0 : ByteArray) (r : ByteArray) (w : World) (h : receipt_grouped.f k a0 = some r) :
  Calls Tryz.prog 15 #[.string a0] w fun e w' => e = .returned (.string r) ∧ Below w.heap.size w w' := by
 have HB := am (Below.refl w.heap.size w)
 have H : (receipt_grouped.l0 k a0 ([] : List ByteArray) 0) = some r := h
 clear h
 have H' := am H
 clear H
 go_enter Tryz.func15, Tryz.ntmps15
 go_wp2
 go_loopg [3, 4] k (fun kq v3 v4 w' => ∃ (x3_1 : List ByteArray) (x4_1 : Int), v4 = .int .i64 x4_1 ∧ Aside0 (receipt_grouped.l0 kq a0 x3_1 x4_1 = some r) ∧ Aside0 (kq ≤ k) ∧ Aside0 (Kd.R Kd.string 9 w' w.heap.size (fun _ => True) v3 x3_1) ∧ Aside0 (Below w.heap.size w w'))
 case atStart => exact ⟨(([] : List ByteArray)), (0), czr, H', ⟨Nat.le_refl _⟩, ⟨by first | exact Kd.R_nil _ _ _ _ _ | exact Kd.N_nil _ _ _ _ _ | exact Kd.V_nil _ _ _ _ _ | exact Kd.Q_nil _ _ _ _ _ | exact Kd.S_nil _ _ _ _ _⟩, ⟨czbl HB⟩⟩
 case round =>
  clear H'
  try clear c1
  obtain ⟨x3_1, x4_1, rfl, HA, HK1, HO_3, HB⟩ := hrel
  cases gk with
  | zero => exact absurd HA.out (by simp [receipt_grouped.l0])
  | succ k1 =>
   have H := HA.out
   clear HA
   simp only [receipt_grouped.l0] at H
   revert H
   refine czif (fun c2b0 H => ?_) (fun c2b0 H => ?_)
   ·
    by_cases c3 : 0 ≤ x4_1
    ·
     rw [if_pos c3] at H
     have c3b0 := eq_true c3
     have c3b1 : decide (0 ≤ x4_1) = true := decide_eq_true c3
     clear c3
     by_cases c4 : x4_1 ≤ (wrap64 (x4_1 + 4))
     ·
      rw [if_pos c4] at H
      have c4b0 := eq_true c4
      have c4b1 : decide (x4_1 ≤ (wrap64 (x4_1 + 4))) = true := decide_eq_true c4
      have c5b0 := eq_true (czd : (wrap64 (x4_1 + 4)) ≤ (a0.size : Int))
      by_cases c6 : x3_1.length < 8796093022208
      ·
       rw [if_pos c6] at H
       have LMc6 := am c6
       clear c6
       obtain ⟨y121, hy121⟩ : ∃ y_ : List ByteArray, y_ = (x3_1 ++ [a0.extract (x4_1 : Int).toNat ((wrap64 (x4_1 + 4)) : Int).toNat]) := ⟨_, rfl⟩
       replace H : (receipt_grouped.l0 k1 a0 y121 (wrap64 (x4_1 + 4))) = some r := by first | (rw [hy121]; with_reducible exact H) | (have H2_ := (Option.bind_some _ _).symm.trans H; rw [hy121]; with_reducible exact H2_) | (have H2_ := (Option.bind_some _ _).symm.trans H; with_reducible exact H2_) | with_reducible exact H | (rw [hy121]; exact H) | exact H
       have Ny121 := am hy121
       clear hy121
       have H' := am H
       clear H
       go_wp2_with (first | ((with_reducible refine gate_builtin (b := .append) (xs := #[.tmp 12, .tmp 18]) rfl ?_); at_builtin; refine Kd.R_append Kd.string (w0 := w) w.heap.size rfl (.tmp 12) (.tmp 18) 47 9 (.string ⟨#[]⟩) 16 rfl Tryz.underlying47 info9 rfl (by decide) (by omega) u3 x3_1 (a0.extract (x4_1 : Int).toNat ((wrap64 (x4_1 + 4)) : Int).toNat) [.string (a0.extract (x4_1 : Int).toNat ((wrap64 (x4_1 + 4)) : Int).toNat)] (fun _ => True) (fun _ => False) rfl rfl ?aP (fun _ hk => hk.elim) ?aF ?aO ?aB ?aS ?aL ?_; (case aP => exact rfl); (case aB => exact (czbl HB)); (case aF => exact (fun _ _ => trivial)); (case aO => exact (czR HO_3)); (case aS => exact (below_size (czbl HB))); (case aL => have := LMc6.out; omega); intro v122 w7 ho hb hg hat; rw [← Ny121.out] at ho; have HO123 := am (ho); replace HB := am (hb); clear HO_3; clear ho hb hg hat))
       go_roundg k1
       case measure => have := HK1.out; omega
       case rel => exact ⟨(y121), (wrap64 (x4_1 + 4)), czr, H', ⟨by have := HK1.out; omega⟩, ⟨czR HO123⟩, ⟨czbl HB⟩⟩
      ·
       rw [if_neg c6] at H
       exact absurd H (by simp)
     ·
      rw [if_neg c4] at H
      exact absurd H (by simp)
    ·
     rw [if_neg c3] at H
     exact absurd H (by simp)
   ·
    replace H := Option.bind_eq_some_iff.mp H
    obtain ⟨t124, A80, H⟩ := H
    (try dsimp only at H)
    have A8 := am A80
    clear A80
    obtain rfl := Option.some.inj H
    obtain ⟨Ao9, co9, eo9⟩ := Kd.R_slice HO_3.out
    subst eo9
    go_wp2_with (first | ((with_reducible refine gate_callee (f := 37) rfl ?_); refine czgo (some 21) Tryz.func37 #[.slice Ao9 x3_1.length co9, .string (⟨#[32]⟩ : ByteArray)] ?_; (with_reducible refine (strings_Join.calls _ _ x3_1 (⟨#[32]⟩ : ByteArray) t124 _ (czC HO_3) ?side2 A8.out).mono ?_); (case side2 => exact (Kd.R_reads' HO_3.out).2.1); rintro e w10 ⟨rfl, hb⟩; refine ⟨_, rfl, ?_⟩; replace HO_3 := am (Kd.R_below (czR HO_3) hb); replace HB := am (below_step (czbl HB) hb); (try clear hb hb2 hk hi)))
    go_ret
    exact ⟨czeq, czbl HB⟩

end Go.Proofs.YtocolmpfpbclbaaGreatDoor.PReceiptShows
