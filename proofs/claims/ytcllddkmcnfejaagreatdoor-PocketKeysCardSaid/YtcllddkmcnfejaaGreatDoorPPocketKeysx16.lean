-- written by this session's program wip/xp/xprint.py (it drives the kit's print and adds to it)
import Derived.Test.YtcllddkmcnfejaaGreatDoorPPocketKeysx0
import Derived.Test.YtcllddkmcnfejaaGreatDoorPPocketKeysx15
namespace Go.Proofs.YtcllddkmcnfejaaGreatDoor.PPocketKeys
open Go.RowKit Go.Proofs.YtcllddkmcnfejaaGreatDoorW.PrintWords Go.Proofs.YtcllddkmcnfejaaGreatDoorW.PrintLast Go.Proofs.YtcllddkmcnfejaaGreatDoorW.PrintMore
attribute [local go_sem] max2_int min2_int max_two min_two max_three min_three max_four min_four
set_option linter.unusedVariables false
set_option linter.unusedSimpArgs false
set_option maxHeartbeats 8000000
set_option maxRecDepth 100000

/-! ### vendmeterbig_cmp: function 106 -/
def vendmeterbig_cmp.l0 : Nat → List Int → List Int → Int → Option (Int)
 | 0, _, _, _ => none
 | k + 1, x0, x1, x5 => if x5 ≥ 0 then (if 0 ≤ x5 then (if x5 < (x0.length : Int) then (if x5 < (x1.length : Int) then (if (rd x0 x5) = (rd x1 x5) then (vendmeterbig_cmp.l0 k x0 x1 (wrap64 (x5 - 1))) else (if (rd x0 x5) < (rd x1 x5) then (some (-1)) else (some 1))) else (none)) else (none)) else (none)) else (some 0)
def vendmeterbig_cmp.f (k : Nat) (l0 : List Int) (l1 : List Int) : Option (Int) := if (l0.length : Int) = (l1.length : Int) then (vendmeterbig_cmp.l0 k l0 l1 (wrap64 ((l0.length : Int) - 1))) else (if (l0.length : Int) < (l1.length : Int) then (some (-1)) else (some 1))
theorem vendmeterbig_cmp.mono_l : ∀ k, (∀ y0 y1 y2, LeO (vendmeterbig_cmp.l0 k y0 y1 y2) (vendmeterbig_cmp.l0 (k + 1) y0 y1 y2))
 | 0 => fun _ _ _ r h => by simp [vendmeterbig_cmp.l0] at h
 | k + 1 => by
  have ih0 := vendmeterbig_cmp.mono_l k
  ·
   intro y0 y1 y2
   unfold vendmeterbig_cmp.l0
   repeat' first
   | (with_reducible exact ih0 _ _ _)
   | (with_reducible exact LeO.refl _)
   | (with_reducible exact LeO.none _)
   | (with_reducible refine LeO.ite ?_ ?_)
   | (with_reducible refine LeO.bind ?_ (fun _ => ?_))
theorem vendmeterbig_cmp.mono : ∀ a0 a1 k, LeO (vendmeterbig_cmp.f k a0 a1) (vendmeterbig_cmp.f (k + 1) a0 a1) := by
 intro a0 a1 k
 have ih0 := vendmeterbig_cmp.mono_l k
 unfold vendmeterbig_cmp.f
 repeat' first
   | (with_reducible exact ih0 _ _ _)
   | (with_reducible exact LeO.refl _)
   | (with_reducible exact LeO.none _)
   | (with_reducible refine LeO.ite ?_ ?_)
   | (with_reducible refine LeO.bind ?_ (fun _ => ?_))
theorem vendmeterbig_cmp.calls (k : Nat) (A0 : Option Addr) (c0 : Nat) (l0 : List Int) (A1 : Option Addr) (c1 : Nat) (l1 : List Int) (r : Int) (w : World) (hr0 : Kd.C (Kd.int .u32) w A0 l0.length l0) (hc0 : l0.length ≤ c0) (hr1 : Kd.C (Kd.int .u32) w A1 l1.length l1) (hc1 : l1.length ≤ c1) (h : vendmeterbig_cmp.f k l0 l1 = some r) :
  Calls Tryz.prog 106 #[.slice A0 l0.length c0, .slice A1 l1.length c1] w fun e w' => e = .returned (.int .i64 r) ∧ Drawn0 w w' := by
 have HR0 := am hr0
 have HC0 := am hc0
 clear hr0 hc0
 have HR1 := am hr1
 have HC1 := am hc1
 clear hr1 hc1
 have H : (if (l0.length : Int) = (l1.length : Int) then (vendmeterbig_cmp.l0 k l0 l1 (wrap64 ((l0.length : Int) - 1))) else (if (l0.length : Int) < (l1.length : Int) then (some (-1)) else (some 1))) = some r := h
 clear h
 by_cases c3 : (l0.length : Int) = (l1.length : Int)
 ·
  rw [if_pos c3] at H
  have c3b0 : ((l0.length : Int) == (l1.length : Int)) = true := beq_iff_eq.mpr c3
  have c3b1 : ((l0.length : Int) != (l1.length : Int)) = false := bne_eq_false_iff_eq.mpr c3
  have c3b2 : (l0.length == l1.length) = true := by first | simpa using c3 | (simp at c3 ⊢; omega)
  clear c3
  have H' := am H
  clear H
  go_enter Tryz.func106, Tryz.ntmps106
  go_wp2
  repeat (go_quiet (fail); try go_wp2)
  go_loopg [5] k (fun kq v5 w' => ∃ (x5_1 : Int), v5 = .int .i64 x5_1 ∧ Aside0 (vendmeterbig_cmp.l0 kq l0 l1 x5_1 = some r) ∧ Aside0 (kq ≤ k) ∧ Drawn0 w w')
  case atStart => exact ⟨(wrap64 ((l0.length : Int) - 1)), czr, H', ⟨Nat.le_refl _⟩, by repeat (first | exact Drawn0.refl _ | apply Drawn0.step)⟩
  case round =>
   clear H'
   try clear c1
   try clear p2
   try clear c3
   try clear c3b0
   try clear c3b1
   try clear c3b2
   obtain ⟨x5_1, rfl, HA, HK1, ⟨m1, rfl⟩⟩ := hrel
   cases gk with
   | zero => exact absurd HA.out (by simp [vendmeterbig_cmp.l0])
   | succ k1 =>
    have H := HA.out
    clear HA
    simp only [vendmeterbig_cmp.l0] at H
    by_cases c4 : x5_1 ≥ 0
    ·
     rw [if_pos c4] at H
     have c4b0 : decide (0 ≤ x5_1) = true := decide_eq_true c4
     clear c4
     by_cases c5 : 0 ≤ x5_1
     ·
      rw [if_pos c5] at H
      have c5b0 : decide (0 ≤ x5_1) = true := decide_eq_true c5
      clear c5
      by_cases c6 : x5_1 < (l0.length : Int)
      ·
       rw [if_pos c6] at H
       have c6b0 : decide (x5_1 < (l0.length : Int)) = true := decide_eq_true c6
       clear c6
       by_cases c7 : x5_1 < (l1.length : Int)
       ·
        rw [if_pos c7] at H
        have c7b0 : decide (x5_1 < (l1.length : Int)) = true := decide_eq_true c7
        clear c7
        revert H
        refine czei (fun c8b0 c8b1 H => ?_) (fun c8 c8b0 c8b1 H => ?_)
        ·
         have H' := am H
         clear H
         have p292 : 0 ≤ (x5_1 : Int) := czd
         have q292 : x5_1 < (l0.length : Int) := czd
         obtain ⟨ad292, e292, hx292_0⟩ := Kd.at_int HR0.out x5_1 p292 q292
         cases e292
         replace p292 := eq_true p292
         replace q292 := eq_true q292
         have p293 : 0 ≤ (x5_1 : Int) := czd
         have q293 : x5_1 < (l1.length : Int) := czd
         obtain ⟨ad293, e293, hx293_0⟩ := Kd.at_int HR1.out x5_1 p293 q293
         cases e293
         replace p293 := eq_true p293
         replace q293 := eq_true q293
         go_wp2
         repeat (go_quiet (fail); try go_wp2)
         go_roundg k1
         case measure => have := HK1.out; omega
         case rel => exact ⟨(wrap64 (x5_1 - 1)), czr, H', ⟨by have := HK1.out; omega⟩, by repeat (first | exact Drawn0.refl _ | apply Drawn0.step)⟩
        ·
         revert H
         refine czif (fun c9b0 H => ?_) (fun c9b0 H => ?_)
         ·
          obtain rfl := Option.some.inj H
          have p292 : 0 ≤ (x5_1 : Int) := czd
          have q292 : x5_1 < (l0.length : Int) := czd
          obtain ⟨ad292, e292, hx292_0⟩ := Kd.at_int HR0.out x5_1 p292 q292
          cases e292
          replace p292 := eq_true p292
          replace q292 := eq_true q292
          have p293 : 0 ≤ (x5_1 : Int) := czd
          have q293 : x5_1 < (l1.length : Int) := czd
          obtain ⟨ad293, e293, hx293_0⟩ := Kd.at_int HR1.out x5_1 p293 q293
          cases e293
          replace p293 := eq_true p293
          replace q293 := eq_true q293
          have p294 : 0 ≤ (x5_1 : Int) := czd
          have q294 : x5_1 < (l0.length : Int) := czd
          obtain ⟨ad294, e294, hx294_0⟩ := Kd.at_int HR0.out x5_1 p294 q294
          obtain rfl : ad292 = ad294 := (by injection e294)
          replace p294 := eq_true p294
          replace q294 := eq_true q294
          have p295 : 0 ≤ (x5_1 : Int) := czd
          have q295 : x5_1 < (l1.length : Int) := czd
          obtain ⟨ad295, e295, hx295_0⟩ := Kd.at_int HR1.out x5_1 p295 q295
          obtain rfl : ad293 = ad295 := (by injection e295)
          replace p295 := eq_true p295
          replace q295 := eq_true q295
          go_wp2
          repeat (go_quiet (fail); try go_wp2)
          go_ret
          exact ⟨by first | rfl | (simp; done) | (simp [*]; done), by repeat (first | exact Drawn0.refl _ | apply Drawn0.step)⟩
         ·
          obtain rfl := Option.some.inj H
          have p292 : 0 ≤ (x5_1 : Int) := czd
          have q292 : x5_1 < (l0.length : Int) := czd
          obtain ⟨ad292, e292, hx292_0⟩ := Kd.at_int HR0.out x5_1 p292 q292
          cases e292
          replace p292 := eq_true p292
          replace q292 := eq_true q292
          have p293 : 0 ≤ (x5_1 : Int) := czd
          have q293 : x5_1 < (l1.length : Int) := czd
          obtain ⟨ad293, e293, hx293_0⟩ := Kd.at_int HR1.out x5_1 p293 q293
          cases e293
          replace p293 := eq_true p293
          replace q293 := eq_true q293
          have p294 : 0 ≤ (x5_1 : Int) := czd
          have q294 : x5_1 < (l0.length : Int) := czd
          obtain ⟨ad294, e294, hx294_0⟩ := Kd.at_int HR0.out x5_1 p294 q294
          obtain rfl : ad292 = ad294 := (by injection e294)
          replace p294 := eq_true p294
          replace q294 := eq_true q294
          have p295 : 0 ≤ (x5_1 : Int) := czd
          have q295 : x5_1 < (l1.length : Int) := czd
          obtain ⟨ad295, e295, hx295_0⟩ := Kd.at_int HR1.out x5_1 p295 q295
          obtain rfl : ad293 = ad295 := (by injection e295)
          replace p295 := eq_true p295
          replace q295 := eq_true q295
          go_wp2
          repeat (go_quiet (fail); try go_wp2)
          go_ret
          exact ⟨by first | rfl | (simp; done) | (simp [*]; done), by repeat (first | exact Drawn0.refl _ | apply Drawn0.step)⟩
       ·
        rw [if_neg c7] at H
        exact absurd H (by simp)
      ·
       rw [if_neg c6] at H
       exact absurd H (by simp)
     ·
      rw [if_neg c5] at H
      exact absurd H (by simp)
    ·
     rw [if_neg c4] at H
     have c4b0 : decide (0 ≤ x5_1) = false := decide_eq_false c4
     clear c4
     obtain rfl := Option.some.inj H
     go_wp2
     repeat (go_quiet (fail); try go_wp2)
     go_ret
     exact ⟨by first | rfl | (simp; done) | (simp [*]; done), by repeat (first | exact Drawn0.refl _ | apply Drawn0.step)⟩
 ·
  rw [if_neg c3] at H
  have c3b0 : ((l0.length : Int) == (l1.length : Int)) = false := beq_eq_false_iff_ne.mpr c3
  have c3b1 : ((l0.length : Int) != (l1.length : Int)) = true := bne_iff_ne.mpr c3
  have c3b2 : (l0.length == l1.length) = false := by first | simpa using c3 | (simp at c3 ⊢; omega)
  by_cases c10 : (l0.length : Int) < (l1.length : Int)
  ·
   rw [if_pos c10] at H
   have c10b0 : decide ((l0.length : Int) < (l1.length : Int)) = true := decide_eq_true c10
   have c10b1 : decide (l0.length < l1.length) = true := decide_eq_true (Int.ofNat_lt.mp c10)
   clear c10
   obtain rfl := Option.some.inj H
   go_enter Tryz.func106, Tryz.ntmps106
   go_wp2
   repeat (go_quiet (fail); try go_wp2)
   go_ret
   exact ⟨by first | rfl | (simp; done) | (simp [*]; done), by repeat (first | exact Drawn0.refl _ | apply Drawn0.step)⟩
  ·
   rw [if_neg c10] at H
   have c10b0 : decide ((l0.length : Int) < (l1.length : Int)) = false := decide_eq_false c10
   have c10b1 : decide (l0.length < l1.length) = false := decide_eq_false (fun h => c10 (Int.ofNat_lt.mpr h))
   clear c10
   obtain rfl := Option.some.inj H
   go_enter Tryz.func106, Tryz.ntmps106
   go_wp2
   repeat (go_quiet (fail); try go_wp2)
   go_ret
   exact ⟨by first | rfl | (simp; done) | (simp [*]; done), by repeat (first | exact Drawn0.refl _ | apply Drawn0.step)⟩

/-! ### vendmeterbig_sub: function 107 -/
def vendmeterbig_sub.l0 : Nat → List Int → List Int → List Int → Int → Int → Option (List Int)
 | 0, _, _, _, _, _ => none
 | k + 1, x0, x1, x5, x6, x7 => if x7 < (x0.length : Int) then (if 0 ≤ x7 then (if x7 < (x1.length : Int) then (if x7 < (x5.length : Int) then (vendmeterbig_sub.l0 k x0 x1 (x5.set (x7 : Int).toNat ((IntKind.u64.wrap ((IntKind.u64.wrap ((IntKind.u64.wrap (rd x0 x7)) - x6)) - (IntKind.u64.wrap (rd x1 x7)))) % 4294967296)) ((IntKind.u64.wrap ((IntKind.u64.wrap ((IntKind.u64.wrap (rd x0 x7)) - x6)) - (IntKind.u64.wrap (rd x1 x7)))) / 9223372036854775808) (wrap64 (x7 + 1))) else (none)) else (if x7 < (x5.length : Int) then (vendmeterbig_sub.l0 k x0 x1 (x5.set (x7 : Int).toNat ((IntKind.u64.wrap ((IntKind.u64.wrap (rd x0 x7)) - x6)) % 4294967296)) ((IntKind.u64.wrap ((IntKind.u64.wrap (rd x0 x7)) - x6)) / 9223372036854775808) (wrap64 (x7 + 1))) else (none))) else (none)) else ((vendmeterbig_trim.f k x5).bind fun t303 => (some t303))
def vendmeterbig_sub.f (k : Nat) (l0 : List Int) (l1 : List Int) : Option (List Int) := if 0 ≤ (l0.length : Int) then (if ((l0.length : Int) : Int).toNat ≤ 70368744177664 then (vendmeterbig_sub.l0 k l0 l1 (List.replicate ((l0.length : Int) : Int).toNat 0) 0 0) else (none)) else (none)
theorem vendmeterbig_sub.mono_l : ∀ k, (∀ y0 y1 y2 y3 y4, LeO (vendmeterbig_sub.l0 k y0 y1 y2 y3 y4) (vendmeterbig_sub.l0 (k + 1) y0 y1 y2 y3 y4))
 | 0 => fun _ _ _ _ _ r h => by simp [vendmeterbig_sub.l0] at h
 | k + 1 => by
  have ih0 := vendmeterbig_sub.mono_l k
  ·
   intro y0 y1 y2 y3 y4
   unfold vendmeterbig_sub.l0
   repeat' first
   | (with_reducible exact ih0 _ _ _ _ _)
   | (with_reducible exact vendmeterbig_trim.mono _ _)
   | (with_reducible exact LeO.refl _)
   | (with_reducible exact LeO.none _)
   | (with_reducible refine LeO.ite ?_ ?_)
   | (with_reducible refine LeO.bind ?_ (fun _ => ?_))
theorem vendmeterbig_sub.mono : ∀ a0 a1 k, LeO (vendmeterbig_sub.f k a0 a1) (vendmeterbig_sub.f (k + 1) a0 a1) := by
 intro a0 a1 k
 have ih0 := vendmeterbig_sub.mono_l k
 unfold vendmeterbig_sub.f
 repeat' first
   | (with_reducible exact ih0 _ _ _ _ _)
   | (with_reducible exact vendmeterbig_trim.mono _ _)
   | (with_reducible exact LeO.refl _)
   | (with_reducible exact LeO.none _)
   | (with_reducible refine LeO.ite ?_ ?_)
   | (with_reducible refine LeO.bind ?_ (fun _ => ?_))
theorem vendmeterbig_sub.calls (k : Nat) (A0 : Option Addr) (c0 : Nat) (l0 : List Int) (A1 : Option Addr) (c1 : Nat) (l1 : List Int) (r : List Int) (w : World) (hr0 : Kd.C (Kd.int .u32) w A0 l0.length l0) (hc0 : l0.length ≤ c0) (hr1 : Kd.C (Kd.int .u32) w A1 l1.length l1) (hc1 : l1.length ≤ c1) (h : vendmeterbig_sub.f k l0 l1 = some r) :
  Calls Tryz.prog 107 #[.slice A0 l0.length c0, .slice A1 l1.length c1] w fun e w' => ∃ v0_ : Value, e = .returned (v0_) ∧ Kd.R (Kd.int .u32) 51 w' w.heap.size (fun _ => True) v0_ r ∧ Below w.heap.size w w' := by
 have HR0 := am hr0
 have HC0 := am hc0
 clear hr0 hc0
 have HR1 := am hr1
 have HC1 := am hc1
 clear hr1 hc1
 have HB := am (Below.refl w.heap.size w)
 have H : (if 0 ≤ (l0.length : Int) then (if ((l0.length : Int) : Int).toNat ≤ 70368744177664 then (vendmeterbig_sub.l0 k l0 l1 (List.replicate ((l0.length : Int) : Int).toNat 0) 0 0) else (none)) else (none)) = some r := h
 clear h
 by_cases c3 : 0 ≤ (l0.length : Int)
 ·
  rw [if_pos c3] at H
  have c3b0 := eq_true c3
  have c3b1 : decide (0 ≤ (l0.length : Int)) = true := decide_eq_true c3
  clear c3
  by_cases c4 : ((l0.length : Int) : Int).toNat ≤ 70368744177664
  ·
   rw [if_pos c4] at H
   have c4b0 := eq_true c4
   have c4b1 : decide (((l0.length : Int) : Int).toNat ≤ 70368744177664) = true := decide_eq_true c4
   clear c4
   obtain ⟨y296, hy296⟩ : ∃ y_ : List Int, y_ = (List.replicate ((l0.length : Int) : Int).toNat 0) := ⟨_, rfl⟩
   replace H : (vendmeterbig_sub.l0 k l0 l1 y296 0 0) = some r := by first | (rw [hy296]; with_reducible exact H) | (have H2_ := (Option.bind_some _ _).symm.trans H; rw [hy296]; with_reducible exact H2_) | (have H2_ := (Option.bind_some _ _).symm.trans H; with_reducible exact H2_) | with_reducible exact H | (rw [hy296]; exact H) | exact H
   have Ny296 := am hy296
   clear hy296
   have H' := am H
   clear H
   go_enter Tryz.func107, Tryz.ntmps107
   go_wp2_with (first | ((with_reducible refine gate_dst (N := 11) rfl ?_); refine Kd.R_make (Kd.int .u32) _ 51 rfl (N := 11) rfl 22 _ _ rfl (l0.length : Int) rfl rfl Tryz.underlying22 (.int .u32 0) 4 info51 rfl (by decide) (by omega) 0 (ok := fun _ => True) (okp := fun _ => True) rfl (fun _ hk => hk) trivial (czd) (Nat.le_trans (Nat.mul_le_mul_right _ (czd : (l0.length : Int).toNat ≤ 70368744177664)) (by omega)) (Below.refl _ _) (Nat.le_refl _) ?_; intro v297 w5 ho6 hb hg_ hnew_; clear hg_ hnew_; (first | rw [← Ny296.out] at ho6 | (simp only [Int.reduceToNat] at ho6; rw [← Ny296.out] at ho6)); have HO298 := am (Kd.R_lower ho6 (below_size (czbl HB))); replace HB := am (below_step (czbl HB) hb); clear hb ho6))
   go_loopg [6, 7] k (fun kq v6 v7 w' => ∃ (x5_1 : List Int) (x6_1 : Int) (x7_1 : Int), v6 = .int .u64 x6_1 ∧ v7 = .int .i64 x7_1 ∧ Aside0 (vendmeterbig_sub.l0 kq l0 l1 x5_1 x6_1 x7_1 = some r) ∧ Aside0 (kq ≤ k) ∧ Aside0 (Kd.R (Kd.int .u32) 51 w' w.heap.size (fun _ => True) v297 x5_1) ∧ Aside0 (Below w.heap.size w w'))
   case atStart => exact ⟨(y296), (0), (0), czr, czr, H', ⟨Nat.le_refl _⟩, ⟨czR HO298⟩, ⟨czbl HB⟩⟩
   case round =>
    clear H'
    try clear c1
    try clear p2
    try clear c3
    try clear c3b0
    try clear c3b1
    try clear c4
    try clear c4b0
    try clear c4b1
    obtain ⟨x5_1, x6_1, x7_1, rfl, rfl, HA, HK1, HO_5, HB⟩ := hrel
    cases gk with
    | zero => exact absurd HA.out (by simp [vendmeterbig_sub.l0])
    | succ k1 =>
     have H := HA.out
     clear HA
     simp only [vendmeterbig_sub.l0] at H
     revert H
     refine czif (fun c7b0 H => ?_) (fun c7b0 H => ?_)
     ·
      by_cases c8 : 0 ≤ x7_1
      ·
       rw [if_pos c8] at H
       have c8b0 : decide (0 ≤ x7_1) = true := decide_eq_true c8
       clear c8
       revert H
       refine czif (fun c9b0 H => ?_) (fun c9b0 H => ?_)
       ·
        by_cases c10 : x7_1 < (x5_1.length : Int)
        ·
         rw [if_pos c10] at H
         have c10b0 : decide (x7_1 < (x5_1.length : Int)) = true := decide_eq_true c10
         clear c10
         obtain ⟨y301, hy301⟩ : ∃ y_ : List Int, y_ = (x5_1.set (x7_1 : Int).toNat ((IntKind.u64.wrap ((IntKind.u64.wrap ((IntKind.u64.wrap (rd l0 x7_1)) - x6_1)) - (IntKind.u64.wrap (rd l1 x7_1)))) % 4294967296)) := ⟨_, rfl⟩
         replace H : (vendmeterbig_sub.l0 k1 l0 l1 y301 ((IntKind.u64.wrap ((IntKind.u64.wrap ((IntKind.u64.wrap (rd l0 x7_1)) - x6_1)) - (IntKind.u64.wrap (rd l1 x7_1)))) / 9223372036854775808) (wrap64 (x7_1 + 1))) = some r := by first | (rw [hy301]; with_reducible exact H) | (have H2_ := (Option.bind_some _ _).symm.trans H; rw [hy301]; with_reducible exact H2_) | (have H2_ := (Option.bind_some _ _).symm.trans H; with_reducible exact H2_) | with_reducible exact H | (rw [hy301]; exact H) | exact H
         have Ny301 := am hy301
         clear hy301
         have H' := am H
         clear H
         have p299 : 0 ≤ (x7_1 : Int) := czd
         have q299 : x7_1 < (l0.length : Int) := czd
         obtain ⟨ad299, e299, hx299_0⟩ := Kd.at_int HR0.out x7_1 p299 q299
         cases e299
         replace hx299_0 := (HB.1.cell (World.block_lt_of_cell? w _ hx299_0)).trans hx299_0
         replace p299 := eq_true p299
         replace q299 := eq_true q299
         have p300 : 0 ≤ (x7_1 : Int) := czd
         have q300 : x7_1 < (l1.length : Int) := czd
         obtain ⟨ad300, e300, hx300_0⟩ := Kd.at_int HR1.out x7_1 p300 q300
         cases e300
         replace hx300_0 := (HB.1.cell (World.block_lt_of_cell? w _ hx300_0)).trans hx300_0
         replace p300 := eq_true p300
         replace q300 := eq_true q300
         have p11 : 0 ≤ (x7_1 : Int) := czd
         have q11 : (x7_1 : Int) < ((x5_1.length : Int) : Int) := czd
         obtain ⟨go11, co11, eo11, gb11, gl11, cl11, HG11⟩ := Kd.R_form HO_5.out (by omega)
         (first | cases eo11 | (injection eo11 with ea_ en_ ec_; (first | subst ea_ | (injection ea_ with ea_; subst ea_)); subst ec_; clear en_))
         have GB11 := am gb11
         have GG11 := am HG11
         clear gb11 gl11 HG11
         obtain ⟨hx11_0, hf11_0⟩ := Kd.R_celln 0 HO_5.out (x7_1 : Int) p11 q11
         replace p11 := eq_true p11
         replace q11 := eq_true q11
         have HP12 := Kd.R_putg HO_5.out (x7_1 : Int) ((IntKind.u64.wrap ((IntKind.u64.wrap ((IntKind.u64.wrap (rd l0 x7_1)) - x6_1)) - (IntKind.u64.wrap (rd l1 x7_1)))) % 4294967296)
         go_wp2_with (first | ((with_reducible refine gate_store (t := 51) (p := 40) rfl ?_); refine store_event (t := 51) (p := 40) (v := ?vo_w13) (w1 := (wr.setCell ⟨go11, (x7_1 : Int).toNat, none⟩ (.int .u32 ((IntKind.u64.wrap ((IntKind.u64.wrap ((IntKind.u64.wrap (rd l0 x7_1)) - x6_1)) - (IntKind.u64.wrap (rd l1 x7_1)))) % 4294967296)))) ?hg ?ho ?hn ?hr ?_; (case ho => rfl); (case hg => rfl); (case hn => rfl); (case hr => first | (go_simp; done) | (go_simp; rfl)); intro w13 hw; have hg : wr.grownBy w13 (some go11) := (by rw [hw]; exact HP12.2); have hp_ : Kd.R (Kd.int .u32) 51 w13 w.heap.size (fun _ => True) (.slice (some ⟨go11, 0, none⟩) x5_1.length co11) y301 := (by rw [hw, Ny301.out]; exact HP12.1); clear HP12; replace HO_5 := am (hp_); replace HB := am ((by rw [hw]; exact below_set (HB.1) GB11.out : Below w.heap.size w w13)); clear hg hw hp_))
         go_roundg k1
         case measure => have := HK1.out; omega
         case rel => exact ⟨(y301), ((IntKind.u64.wrap ((IntKind.u64.wrap ((IntKind.u64.wrap (rd l0 x7_1)) - x6_1)) - (IntKind.u64.wrap (rd l1 x7_1)))) / 9223372036854775808), (wrap64 (x7_1 + 1)), czr, czr, H', ⟨by have := HK1.out; omega⟩, ⟨czR HO_5⟩, ⟨czbl HB⟩⟩
        ·
         rw [if_neg c10] at H
         exact absurd H (by simp)
       ·
        by_cases c14 : x7_1 < (x5_1.length : Int)
        ·
         rw [if_pos c14] at H
         have c14b0 : decide (x7_1 < (x5_1.length : Int)) = true := decide_eq_true c14
         clear c14
         obtain ⟨y302, hy302⟩ : ∃ y_ : List Int, y_ = (x5_1.set (x7_1 : Int).toNat ((IntKind.u64.wrap ((IntKind.u64.wrap (rd l0 x7_1)) - x6_1)) % 4294967296)) := ⟨_, rfl⟩
         replace H : (vendmeterbig_sub.l0 k1 l0 l1 y302 ((IntKind.u64.wrap ((IntKind.u64.wrap (rd l0 x7_1)) - x6_1)) / 9223372036854775808) (wrap64 (x7_1 + 1))) = some r := by first | (rw [hy302]; with_reducible exact H) | (have H2_ := (Option.bind_some _ _).symm.trans H; rw [hy302]; with_reducible exact H2_) | (have H2_ := (Option.bind_some _ _).symm.trans H; with_reducible exact H2_) | with_reducible exact H | (rw [hy302]; exact H) | exact H
         have Ny302 := am hy302
         clear hy302
         have H' := am H
         clear H
         have p299 : 0 ≤ (x7_1 : Int) := czd
         have q299 : x7_1 < (l0.length : Int) := czd
         obtain ⟨ad299, e299, hx299_0⟩ := Kd.at_int HR0.out x7_1 p299 q299
         cases e299
         replace hx299_0 := (HB.1.cell (World.block_lt_of_cell? w _ hx299_0)).trans hx299_0
         replace p299 := eq_true p299
         replace q299 := eq_true q299
         have p15 : 0 ≤ (x7_1 : Int) := czd
         have q15 : (x7_1 : Int) < ((x5_1.length : Int) : Int) := czd
         obtain ⟨go15, co15, eo15, gb15, gl15, cl15, HG15⟩ := Kd.R_form HO_5.out (by omega)
         (first | cases eo15 | (injection eo15 with ea_ en_ ec_; (first | subst ea_ | (injection ea_ with ea_; subst ea_)); subst ec_; clear en_))
         have GB15 := am gb15
         have GG15 := am HG15
         clear gb15 gl15 HG15
         obtain ⟨hx15_0, hf15_0⟩ := Kd.R_celln 0 HO_5.out (x7_1 : Int) p15 q15
         replace p15 := eq_true p15
         replace q15 := eq_true q15
         have HP16 := Kd.R_putg HO_5.out (x7_1 : Int) ((IntKind.u64.wrap ((IntKind.u64.wrap (rd l0 x7_1)) - x6_1)) % 4294967296)
         go_wp2_with (first | ((with_reducible refine gate_store (t := 51) (p := 40) rfl ?_); refine store_event (t := 51) (p := 40) (v := ?vo_w17) (w1 := (wr.setCell ⟨go15, (x7_1 : Int).toNat, none⟩ (.int .u32 ((IntKind.u64.wrap ((IntKind.u64.wrap (rd l0 x7_1)) - x6_1)) % 4294967296)))) ?hg ?ho ?hn ?hr ?_; (case ho => rfl); (case hg => rfl); (case hn => rfl); (case hr => first | (go_simp; done) | (go_simp; rfl)); intro w17 hw; have hg : wr.grownBy w17 (some go15) := (by rw [hw]; exact HP16.2); have hp_ : Kd.R (Kd.int .u32) 51 w17 w.heap.size (fun _ => True) (.slice (some ⟨go15, 0, none⟩) x5_1.length co15) y302 := (by rw [hw, Ny302.out]; exact HP16.1); clear HP16; replace HO_5 := am (hp_); replace HB := am ((by rw [hw]; exact below_set (HB.1) GB15.out : Below w.heap.size w w17)); clear hg hw hp_))
         go_roundg k1
         case measure => have := HK1.out; omega
         case rel => exact ⟨(y302), ((IntKind.u64.wrap ((IntKind.u64.wrap (rd l0 x7_1)) - x6_1)) / 9223372036854775808), (wrap64 (x7_1 + 1)), czr, czr, H', ⟨by have := HK1.out; omega⟩, ⟨czR HO_5⟩, ⟨czbl HB⟩⟩
        ·
         rw [if_neg c14] at H
         exact absurd H (by simp)
      ·
       rw [if_neg c8] at H
       exact absurd H (by simp)
     ·
      replace H := Option.bind_eq_some_iff.mp H
      obtain ⟨t303, A180, H⟩ := H
      (try dsimp only at H)
      have A18 := am A180
      clear A180
      obtain rfl := Option.some.inj H
      obtain ⟨Ao19, co19, eo19⟩ := Kd.R_slice HO_5.out
      subst eo19
      go_wp2_with (first | ((with_reducible refine gate_callee (f := 103) rfl ?_); refine czgo (some 44) Tryz.func103 #[.slice Ao19 x5_1.length co19] ?_; (with_reducible refine (vendmeterbig_trim.calls k1 (fun k_ => some k_ = (.slice Ao19 x5_1.length co19 : Value).ownBlock) (.slice Ao19 x5_1.length co19) x5_1 t303 w _ ?side1 ?side2 A18.out).mono ?_); (case side1 => repeat (first | (with_reducible first | exact HB.1 | apply below_alloc | apply pw_below_drewN | apply below_drew1) | exact HB.1)); (case side2 => exact Kd.R_tight rfl HO_5.out); rintro e w20 ⟨v304, rfl, ho0, hb, hkp⟩; refine ⟨_, rfl, ?_⟩; have HO305 := am (Kd.R_mono (ok' := fun k_ => True) ho0 (fun k_ hk_ => trivial)); replace HB := am (hb); clear HO_5; (try clear hb hkp ho0)))
      go_ret
      exact ⟨_, czeq, czR HO305, czbl HB⟩
  ·
   rw [if_neg c4] at H
   exact absurd H (by simp)
 ·
  rw [if_neg c3] at H
  exact absurd H (by simp)

-- NOT PRINTED: function 80 (vendmeterbig_sum)

-- NOT PRINTED: function 40 (vendmeterbig_Int_Add)

/-! ### vendmeterbig_length: function 81 -/
def vendmeterbig_length.l0 : Nat → List Int → Int → Int → Option (Int)
 | 0, _, _, _ => none
 | k + 1, x0, x3, x4 => if x4 = 0 then (some (wrap64 ((wrap64 ((wrap64 ((x0.length : Int) - 1)) * 32)) + x3))) else (vendmeterbig_length.l0 k x0 (wrap64 (x3 + 1)) (x4 / 2))
def vendmeterbig_length.f (k : Nat) (l0 : List Int) : Option (Int) := if (l0.length : Int) = 0 then (some 0) else (if 0 ≤ (wrap64 ((l0.length : Int) - 1)) then (if (wrap64 ((l0.length : Int) - 1)) < (l0.length : Int) then (vendmeterbig_length.l0 k l0 0 (rd l0 (wrap64 ((l0.length : Int) - 1)))) else (none)) else (none))
theorem vendmeterbig_length.mono_l : ∀ k, (∀ y0 y1 y2, LeO (vendmeterbig_length.l0 k y0 y1 y2) (vendmeterbig_length.l0 (k + 1) y0 y1 y2))
 | 0 => fun _ _ _ r h => by simp [vendmeterbig_length.l0] at h
 | k + 1 => by
  have ih0 := vendmeterbig_length.mono_l k
  ·
   intro y0 y1 y2
   unfold vendmeterbig_length.l0
   repeat' first
   | (with_reducible exact ih0 _ _ _)
   | (with_reducible exact LeO.refl _)
   | (with_reducible exact LeO.none _)
   | (with_reducible refine LeO.ite ?_ ?_)
   | (with_reducible refine LeO.bind ?_ (fun _ => ?_))
theorem vendmeterbig_length.mono : ∀ a0 k, LeO (vendmeterbig_length.f k a0) (vendmeterbig_length.f (k + 1) a0) := by
 intro a0 k
 have ih0 := vendmeterbig_length.mono_l k
 unfold vendmeterbig_length.f
 repeat' first
   | (with_reducible exact ih0 _ _ _)
   | (with_reducible exact LeO.refl _)
   | (with_reducible exact LeO.none _)
   | (with_reducible refine LeO.ite ?_ ?_)
   | (with_reducible refine LeO.bind ?_ (fun _ => ?_))
theorem vendmeterbig_length.calls (k : Nat) (A0 : Option Addr) (c0 : Nat) (l0 : List Int) (r : Int) (w : World) (hr0 : Kd.C (Kd.int .u32) w A0 l0.length l0) (hc0 : l0.length ≤ c0) (h : vendmeterbig_length.f k l0 = some r) :
  Calls Tryz.prog 81 #[.slice A0 l0.length c0] w fun e w' => e = .returned (.int .i64 r) ∧ Drawn0 w w' := by
 have HR0 := am hr0
 have HC0 := am hc0
 clear hr0 hc0
 have H : (if (l0.length : Int) = 0 then (some 0) else (if 0 ≤ (wrap64 ((l0.length : Int) - 1)) then (if (wrap64 ((l0.length : Int) - 1)) < (l0.length : Int) then (vendmeterbig_length.l0 k l0 0 (rd l0 (wrap64 ((l0.length : Int) - 1)))) else (none)) else (none))) = some r := h
 clear h
 revert H
 refine czei (fun c2b0 c2b1 H => ?_) (fun c2 c2b0 c2b1 H => ?_)
 ·
  obtain rfl := Option.some.inj H
  go_enter Tryz.func81, Tryz.ntmps81
  go_wp2
  go_ret
  exact ⟨by first | rfl | (simp; done) | (simp [*]; done), by repeat (first | exact Drawn0.refl _ | apply Drawn0.step)⟩
 ·
  have c2b2 : ¬ (l0 = []) := fun h_ => c2 (by rw [h_]; rfl)
  obtain ⟨ji3, hji3⟩ : ∃ j_ : Int, (wrap64 ((l0.length : Int) - 1)) = j_ := ⟨_, rfl⟩
  replace H : (if 0 ≤ (ji3) then (if (ji3) < (l0.length : Int) then (vendmeterbig_length.l0 k l0 0 (rd l0 (ji3))) else (none)) else (none)) = some r := by first | (rw [hji3] at H; exact H) | (simp only [hji3] at H ⊢; exact H)
  have hji3w : (IntKind.i64.wrap ((l0.length : Int) - 1)) = ji3 := (i64_w _).trans hji3
  by_cases c4 : 0 ≤ (ji3)
  ·
   rw [if_pos c4] at H
   have c4b0 : decide (0 ≤ (ji3)) = true := decide_eq_true c4
   clear c4
   by_cases c5 : (ji3) < (l0.length : Int)
   ·
    rw [if_pos c5] at H
    have c5b0 : decide ((ji3) < (l0.length : Int)) = true := decide_eq_true c5
    clear c5
    have H' := am H
    clear H
    have p306 : 0 ≤ ((ji3) : Int) := czd
    have q306 : (ji3) < (l0.length : Int) := czd
    obtain ⟨ad306, e306, hx306_0⟩ := Kd.at_int HR0.out (ji3) p306 q306
    cases e306
    replace p306 := eq_true p306
    replace q306 := eq_true q306
    go_enter Tryz.func81, Tryz.ntmps81
    go_wp2
    go_loopg [3, 4] k (fun kq v3 v4 w' => ∃ (x3_1 : Int) (x4_1 : Int), v3 = .int .i64 x3_1 ∧ v4 = .int .u32 x4_1 ∧ Aside0 (vendmeterbig_length.l0 kq l0 x3_1 x4_1 = some r) ∧ Aside0 (kq ≤ k) ∧ Drawn0 w w')
    case atStart => exact ⟨(0), (rd l0 (ji3)), czr, (by first | rfl | (simp; done) | (simp only [← hji3] <;> (first | rfl | simp)) | (simp [*]; done)), H', ⟨Nat.le_refl _⟩, by repeat (first | exact Drawn0.refl _ | apply Drawn0.step)⟩
    case round =>
     clear H'
     try clear c2
     try clear c2b0
     try clear c2b1
     try clear c2b2
     try clear p2
     try clear p3
     try clear q3
     try clear hx3
     try clear c4
     try clear c4b0
     try clear c5
     try clear c5b0
     try clear hx306_0
     try clear p306
     try clear q306
     obtain ⟨x3_1, x4_1, rfl, rfl, HA, HK1, ⟨m1, rfl⟩⟩ := hrel
     cases gk with
     | zero => exact absurd HA.out (by simp [vendmeterbig_length.l0])
     | succ k1 =>
      have H := HA.out
      clear HA
      simp only [vendmeterbig_length.l0] at H
      revert H
      refine czei (fun c6b0 c6b1 H => ?_) (fun c6 c6b0 c6b1 H => ?_)
      ·
       obtain rfl := Option.some.inj H
       go_wp2
       go_ret
       exact ⟨by first | rfl | (simp; done) | (simp only [← hji3] <;> (first | rfl | simp)) | (simp [*]; done), by repeat (first | exact Drawn0.refl _ | apply Drawn0.step)⟩
      ·
       have H' := am H
       clear H
       go_wp2
       go_roundg k1
       case measure => have := HK1.out; omega
       case rel => exact ⟨(wrap64 (x3_1 + 1)), (x4_1 / 2), czr, czr, H', ⟨by have := HK1.out; omega⟩, by repeat (first | exact Drawn0.refl _ | apply Drawn0.step)⟩
   ·
    rw [if_neg c5] at H
    exact absurd H (by simp)
  ·
   rw [if_neg c4] at H
   exact absurd H (by simp)

/-! ### BitLen stands in bw.B, bw.L -/

/-! ### vendmeterbig_twin: function 108 -/
def vendmeterbig_twin.f (l0 : List Int) : Option (List Int) := if ([] : List Int).length + l0.length < 35184372088832 then (some (([] : List Int) ++ l0)) else (none)
theorem vendmeterbig_twin.calls (A0 : Option Addr) (c0 : Nat) (l0 : List Int) (r : List Int) (w : World) (hr0 : Kd.C (Kd.int .u32) w A0 l0.length l0) (hc0 : l0.length ≤ c0) (h : vendmeterbig_twin.f l0 = some r) :
  Calls Tryz.prog 108 #[.slice A0 l0.length c0] w fun e w' => ∃ v0_ : Value, e = .returned (v0_) ∧ Kd.R (Kd.int .u32) 51 w' w.heap.size (fun _ => True) v0_ r ∧ Below w.heap.size w w' := by
 have HR0 := am hr0
 have HC0 := am hc0
 clear hr0 hc0
 have HB := am (Below.refl w.heap.size w)
 have H : (if ([] : List Int).length + l0.length < 35184372088832 then (some (([] : List Int) ++ l0)) else (none)) = some r := h
 clear h
 by_cases c2 : ([] : List Int).length + l0.length < 35184372088832
 ·
  rw [if_pos c2] at H
  have LMc2 := am c2
  clear c2
  obtain ⟨y307, hy307⟩ : ∃ y_ : List Int, y_ = (([] : List Int) ++ l0) := ⟨_, rfl⟩
  replace H : (some y307) = some r := by first | (rw [hy307]; with_reducible exact H) | (have H2_ := (Option.bind_some _ _).symm.trans H; rw [hy307]; with_reducible exact H2_) | (have H2_ := (Option.bind_some _ _).symm.trans H; with_reducible exact H2_) | with_reducible exact H | (rw [hy307]; exact H) | exact H
  have Ny307 := am hy307
  clear hy307
  obtain rfl := Option.some.inj H
  go_enter Tryz.func108, Tryz.ntmps108
  go_wp2_with (first | ((with_reducible refine gate_builtin (b := .append) (xs := #[.const (.slice none 0 0), .tmp 3]) rfl ?_); at_builtin; refine Kd.R_append_rows (Kd.int .u32) (w0 := w) w.heap.size rfl (.const (.slice none 0 0)) (.tmp 3) 22 51 (.int .u32 0) 4 rfl Tryz.underlying22 info51 rfl (by decide) (by omega) (.slice none 0 0) ([] : List Int) l0 _ _ _ (fun _ => True) (fun _ => False) rfl rfl ?aO ?aR (fun _ _ h => h) (fun _ h => h.elim) ?aF ?aB ?aS ?aL ?_; (case aR => repeat (first | exact HR0.out | (with_reducible refine Kd.C_alloc ?_ _) | (with_reducible refine Kd.C_drewN ?_ _) | (with_reducible refine Kd.C_drew ?_))); (case aB => exact (czbl HB)); (case aF => exact (fun _ _ => trivial)); (case aO => exact ((Kd.R_nil _ _ _ _ (fun _ => True)))); (case aS => exact (below_size (czbl HB))); (case aL => have := LMc2.out; omega); intro v308 w3 ho hb hg hat; rw [← Ny307.out] at ho; have HO309 := am (ho); replace HB := am (hb); clear ho hb hg hat))
  go_ret
  exact ⟨_, czeq, czR HO309, czbl HB⟩
 ·
  rw [if_neg c2] at H
  exact absurd H (by simp)

/-! ### vendmeterbig_plain: function 109 -/
def vendmeterbig_plain.f (l0 : List Int) : Option (Int) := if (l0.length : Int) > 0 then (if 0 < (l0.length : Int) then (if (l0.length : Int) > 1 then (if 1 < (l0.length : Int) then (some (Go.bits .or .u64 (IntKind.u64.wrap (rd l0 0)) (IntKind.u64.wrap ((IntKind.u64.wrap (rd l0 1)) * 4294967296)))) else (none)) else (some (IntKind.u64.wrap (rd l0 0)))) else (none)) else (if (l0.length : Int) > 1 then (if 1 < (l0.length : Int) then (some (Go.bits .or .u64 0 (IntKind.u64.wrap ((IntKind.u64.wrap (rd l0 1)) * 4294967296)))) else (none)) else (some 0))
theorem vendmeterbig_plain.calls (A0 : Option Addr) (c0 : Nat) (l0 : List Int) (r : Int) (w : World) (hr0 : Kd.C (Kd.int .u32) w A0 l0.length l0) (hc0 : l0.length ≤ c0) (h : vendmeterbig_plain.f l0 = some r) :
  Calls Tryz.prog 109 #[.slice A0 l0.length c0] w fun e w' => e = .returned (.int .u64 r) ∧ Drawn0 w w' := by
 have HR0 := am hr0
 have HC0 := am hc0
 clear hr0 hc0
 have H : (if (l0.length : Int) > 0 then (if 0 < (l0.length : Int) then (if (l0.length : Int) > 1 then (if 1 < (l0.length : Int) then (some (Go.bits .or .u64 (IntKind.u64.wrap (rd l0 0)) (IntKind.u64.wrap ((IntKind.u64.wrap (rd l0 1)) * 4294967296)))) else (none)) else (some (IntKind.u64.wrap (rd l0 0)))) else (none)) else (if (l0.length : Int) > 1 then (if 1 < (l0.length : Int) then (some (Go.bits .or .u64 0 (IntKind.u64.wrap ((IntKind.u64.wrap (rd l0 1)) * 4294967296)))) else (none)) else (some 0))) = some r := h
 clear h
 by_cases c2 : (l0.length : Int) > 0
 ·
  rw [if_pos c2] at H
  have c2b0 : decide (0 < (l0.length : Int)) = true := decide_eq_true c2
  have c2b1 : decide (0 < l0.length) = true := decide_eq_true (by omega)
  clear c2
  by_cases c3 : 0 < (l0.length : Int)
  ·
   rw [if_pos c3] at H
   have c3b0 : decide (0 < (l0.length : Int)) = true := decide_eq_true c3
   have c3b1 : decide (0 < l0.length) = true := decide_eq_true (by omega)
   clear c3
   by_cases c4 : (l0.length : Int) > 1
   ·
    rw [if_pos c4] at H
    have c4b0 : decide (1 < (l0.length : Int)) = true := decide_eq_true c4
    have c4b1 : decide (1 < l0.length) = true := decide_eq_true (by omega)
    clear c4
    by_cases c5 : 1 < (l0.length : Int)
    ·
     rw [if_pos c5] at H
     have c5b0 : decide (1 < (l0.length : Int)) = true := decide_eq_true c5
     have c5b1 : decide (1 < l0.length) = true := decide_eq_true (by omega)
     clear c5
     obtain rfl := Option.some.inj H
     have p310 : 0 ≤ (0 : Int) := (by omega)
     have q310 : 0 < (l0.length : Int) := czd
     obtain ⟨ad310, e310, hx310_0⟩ := Kd.at_int HR0.out 0 p310 q310
     cases e310
     have qi310 : (0 < l0.length) = True := eq_true (by omega)
     (try rw [show ((0 : Int)).toNat = 0 from rfl] at hx310_0)
     (try rw [Addr.add_zero'] at hx310_0)
     replace p310 := eq_true p310
     replace q310 := eq_true q310
     have p311 : 0 ≤ (1 : Int) := (by omega)
     have q311 : 1 < (l0.length : Int) := czd
     obtain ⟨ad311, e311, hx311_0⟩ := Kd.at_int HR0.out 1 p311 q311
     obtain rfl : ad310 = ad311 := (by injection e311)
     (try simp only [show (1 : Int).toNat = 1 from rfl, Nat.reduceMul, Nat.reduceEqDiff, Go.Addr.add, ↓reduceIte] at hx311_0)
     have qi311 : (1 < l0.length) = True := eq_true (by omega)
     (try rw [show ((1 : Int)).toNat = 1 from rfl] at hx311_0)
     replace p311 := eq_true p311
     replace q311 := eq_true q311
     go_enter Tryz.func109, Tryz.ntmps109
     go_wp2
     go_ret
     exact ⟨by first | rfl | (simp; done) | (simp [*]; done), by repeat (first | exact Drawn0.refl _ | apply Drawn0.step)⟩
    ·
     rw [if_neg c5] at H
     exact absurd H (by simp)
   ·
    rw [if_neg c4] at H
    have c4b0 : decide (1 < (l0.length : Int)) = false := decide_eq_false c4
    have c4b1 : decide (1 < l0.length) = false := decide_eq_false (by omega)
    clear c4
    obtain rfl := Option.some.inj H
    have p310 : 0 ≤ (0 : Int) := (by omega)
    have q310 : 0 < (l0.length : Int) := czd
    obtain ⟨ad310, e310, hx310_0⟩ := Kd.at_int HR0.out 0 p310 q310
    cases e310
    have qi310 : (0 < l0.length) = True := eq_true (by omega)
    (try rw [show ((0 : Int)).toNat = 0 from rfl] at hx310_0)
    (try rw [Addr.add_zero'] at hx310_0)
    replace p310 := eq_true p310
    replace q310 := eq_true q310
    go_enter Tryz.func109, Tryz.ntmps109
    go_wp2
    go_ret
    exact ⟨by first | rfl | (simp; done) | (simp [*]; done), by repeat (first | exact Drawn0.refl _ | apply Drawn0.step)⟩
  ·
   rw [if_neg c3] at H
   exact absurd H (by simp)
 ·
  rw [if_neg c2] at H
  have c2b0 : decide (0 < (l0.length : Int)) = false := decide_eq_false c2
  have c2b1 : decide (0 < l0.length) = false := decide_eq_false (by omega)
  clear c2
  by_cases c6 : (l0.length : Int) > 1
  ·
   rw [if_pos c6] at H
   have c6b0 : decide (1 < (l0.length : Int)) = true := decide_eq_true c6
   have c6b1 : decide (1 < l0.length) = true := decide_eq_true (by omega)
   clear c6
   by_cases c7 : 1 < (l0.length : Int)
   ·
    rw [if_pos c7] at H
    have c7b0 : decide (1 < (l0.length : Int)) = true := decide_eq_true c7
    have c7b1 : decide (1 < l0.length) = true := decide_eq_true (by omega)
    clear c7
    obtain rfl := Option.some.inj H
    have p312 : 0 ≤ (1 : Int) := (by omega)
    have q312 : 1 < (l0.length : Int) := czd
    obtain ⟨ad312, e312, hx312_0⟩ := Kd.at_int HR0.out 1 p312 q312
    cases e312
    (try simp only [show (1 : Int).toNat = 1 from rfl, Nat.reduceMul, Nat.reduceEqDiff, Go.Addr.add, ↓reduceIte] at hx312_0)
    have qi312 : (1 < l0.length) = True := eq_true (by omega)
    (try rw [show ((1 : Int)).toNat = 1 from rfl] at hx312_0)
    replace p312 := eq_true p312
    replace q312 := eq_true q312
    go_enter Tryz.func109, Tryz.ntmps109
    go_wp2
    go_ret
    exact ⟨by first | rfl | (simp; done) | (simp [*]; done), by repeat (first | exact Drawn0.refl _ | apply Drawn0.step)⟩
   ·
    rw [if_neg c7] at H
    exact absurd H (by simp)
  ·
   rw [if_neg c6] at H
   have c6b0 : decide (1 < (l0.length : Int)) = false := decide_eq_false c6
   have c6b1 : decide (1 < l0.length) = false := decide_eq_false (by omega)
   clear c6
   obtain rfl := Option.some.inj H
   go_enter Tryz.func109, Tryz.ntmps109
   go_wp2
   go_ret
   exact ⟨by first | rfl | (simp; done) | (simp [*]; done), by repeat (first | exact Drawn0.refl _ | apply Drawn0.step)⟩

/-! ### vendmeterbig_small: function 110 -/
def vendmeterbig_small.l0 : Nat → List Int → Int → List Int → Int → Int → Option (List Int × Int)
 | 0, _, _, _, _, _ => none
 | k + 1, x0, x1, x6, x7, x8 => if x8 ≥ 0 then (if 0 ≤ x8 then (if x8 < (x0.length : Int) then (if (IntKind.u64.wrap (x1)) = 0 then (none) else (if x8 < (x6.length : Int) then (vendmeterbig_small.l0 k x0 x1 (x6.set (x8 : Int).toNat ((IntKind.u64.wrap (Int.tdiv (Go.bits .or .u64 (IntKind.u64.wrap (x7 * 4294967296)) (IntKind.u64.wrap (rd x0 x8))) (IntKind.u64.wrap (x1)))) % 4294967296)) (Int.tmod (Go.bits .or .u64 (IntKind.u64.wrap (x7 * 4294967296)) (IntKind.u64.wrap (rd x0 x8))) (IntKind.u64.wrap (x1))) (wrap64 (x8 - 1))) else (none))) else (none)) else (none)) else ((vendmeterbig_trim.f k x6).bind fun t318 => (some (t318, (x7) % 4294967296)))
def vendmeterbig_small.f (k : Nat) (l0 : List Int) (a1 : Int) : Option (List Int × Int) := if 0 ≤ (l0.length : Int) then (if ((l0.length : Int) : Int).toNat ≤ 70368744177664 then (vendmeterbig_small.l0 k l0 a1 (List.replicate ((l0.length : Int) : Int).toNat 0) 0 (wrap64 ((l0.length : Int) - 1))) else (none)) else (none)
theorem vendmeterbig_small.mono_l : ∀ k, (∀ y0 y1 y2 y3 y4, LeO (vendmeterbig_small.l0 k y0 y1 y2 y3 y4) (vendmeterbig_small.l0 (k + 1) y0 y1 y2 y3 y4))
 | 0 => fun _ _ _ _ _ r h => by simp [vendmeterbig_small.l0] at h
 | k + 1 => by
  have ih0 := vendmeterbig_small.mono_l k
  ·
   intro y0 y1 y2 y3 y4
   unfold vendmeterbig_small.l0
   repeat' first
   | (with_reducible exact ih0 _ _ _ _ _)
   | (with_reducible exact vendmeterbig_trim.mono _ _)
   | (with_reducible exact LeO.refl _)
   | (with_reducible exact LeO.none _)
   | (with_reducible refine LeO.ite ?_ ?_)
   | (with_reducible refine LeO.bind ?_ (fun _ => ?_))
theorem vendmeterbig_small.mono : ∀ a0 a1 k, LeO (vendmeterbig_small.f k a0 a1) (vendmeterbig_small.f (k + 1) a0 a1) := by
 intro a0 a1 k
 have ih0 := vendmeterbig_small.mono_l k
 unfold vendmeterbig_small.f
 repeat' first
   | (with_reducible exact ih0 _ _ _ _ _)
   | (with_reducible exact vendmeterbig_trim.mono _ _)
   | (with_reducible exact LeO.refl _)
   | (with_reducible exact LeO.none _)
   | (with_reducible refine LeO.ite ?_ ?_)
   | (with_reducible refine LeO.bind ?_ (fun _ => ?_))
theorem vendmeterbig_small.calls (k : Nat) (A0 : Option Addr) (c0 : Nat) (l0 : List Int) (a1 : Int) (r1 : List Int) (r2 : Int) (w : World) (hr0 : Kd.C (Kd.int .u32) w A0 l0.length l0) (hc0 : l0.length ≤ c0) (h : vendmeterbig_small.f k l0 a1 = some (r1, r2)) :
  Calls Tryz.prog 110 #[.slice A0 l0.length c0, .int .u32 a1] w fun e w' => ∃ v0_ : Value, e = .returned (.tuple #[v0_, .int .u32 r2]) ∧ Kd.R (Kd.int .u32) 51 w' w.heap.size (fun _ => True) v0_ r1 ∧ Below w.heap.size w w' := by
 have HR0 := am hr0
 have HC0 := am hc0
 clear hr0 hc0
 have HB := am (Below.refl w.heap.size w)
 have H : (if 0 ≤ (l0.length : Int) then (if ((l0.length : Int) : Int).toNat ≤ 70368744177664 then (vendmeterbig_small.l0 k l0 a1 (List.replicate ((l0.length : Int) : Int).toNat 0) 0 (wrap64 ((l0.length : Int) - 1))) else (none)) else (none)) = some (r1, r2) := h
 clear h
 by_cases c3 : 0 ≤ (l0.length : Int)
 ·
  rw [if_pos c3] at H
  have c3b0 := eq_true c3
  have c3b1 : decide (0 ≤ (l0.length : Int)) = true := decide_eq_true c3
  clear c3
  by_cases c4 : ((l0.length : Int) : Int).toNat ≤ 70368744177664
  ·
   rw [if_pos c4] at H
   have c4b0 := eq_true c4
   have c4b1 : decide (((l0.length : Int) : Int).toNat ≤ 70368744177664) = true := decide_eq_true c4
   clear c4
   obtain ⟨y313, hy313⟩ : ∃ y_ : List Int, y_ = (List.replicate ((l0.length : Int) : Int).toNat 0) := ⟨_, rfl⟩
   replace H : (vendmeterbig_small.l0 k l0 a1 y313 0 (wrap64 ((l0.length : Int) - 1))) = some (r1, r2) := by first | (rw [hy313]; with_reducible exact H) | (have H2_ := (Option.bind_some _ _).symm.trans H; rw [hy313]; with_reducible exact H2_) | (have H2_ := (Option.bind_some _ _).symm.trans H; with_reducible exact H2_) | with_reducible exact H | (rw [hy313]; exact H) | exact H
   have Ny313 := am hy313
   clear hy313
   have H' := am H
   clear H
   go_enter Tryz.func110, Tryz.ntmps110
   go_wp2_with (first | ((with_reducible refine gate_dst (N := 11) rfl ?_); refine Kd.R_make (Kd.int .u32) _ 51 rfl (N := 11) rfl 22 _ _ rfl (l0.length : Int) rfl rfl Tryz.underlying22 (.int .u32 0) 4 info51 rfl (by decide) (by omega) 0 (ok := fun _ => True) (okp := fun _ => True) rfl (fun _ hk => hk) trivial (czd) (Nat.le_trans (Nat.mul_le_mul_right _ (czd : (l0.length : Int).toNat ≤ 70368744177664)) (by omega)) (Below.refl _ _) (Nat.le_refl _) ?_; intro v314 w5 ho6 hb hg_ hnew_; clear hg_ hnew_; (first | rw [← Ny313.out] at ho6 | (simp only [Int.reduceToNat] at ho6; rw [← Ny313.out] at ho6)); have HO315 := am (Kd.R_lower ho6 (below_size (czbl HB))); replace HB := am (below_step (czbl HB) hb); clear hb ho6))
   go_loopg [7, 8] k (fun kq v7 v8 w' => ∃ (x6_1 : List Int) (x7_1 : Int) (x8_1 : Int), v7 = .int .u64 x7_1 ∧ v8 = .int .i64 x8_1 ∧ Aside0 (vendmeterbig_small.l0 kq l0 a1 x6_1 x7_1 x8_1 = some (r1, r2)) ∧ Aside0 (kq ≤ k) ∧ Aside0 (Kd.R (Kd.int .u32) 51 w' w.heap.size (fun _ => True) v314 x6_1) ∧ Aside0 (Below w.heap.size w w'))
   case atStart => exact ⟨(y313), (0), (wrap64 ((l0.length : Int) - 1)), czr, czr, H', ⟨Nat.le_refl _⟩, ⟨czR HO315⟩, ⟨czbl HB⟩⟩
   case round =>
    clear H'
    try clear c1
    try clear p2
    try clear c3
    try clear c3b0
    try clear c3b1
    try clear c4
    try clear c4b0
    try clear c4b1
    try clear p6
    obtain ⟨x6_1, x7_1, x8_1, rfl, rfl, HA, HK1, HO_6, HB⟩ := hrel
    cases gk with
    | zero => exact absurd HA.out (by simp [vendmeterbig_small.l0])
    | succ k1 =>
     have H := HA.out
     clear HA
     simp only [vendmeterbig_small.l0] at H
     by_cases c7 : x8_1 ≥ 0
     ·
      rw [if_pos c7] at H
      have c7b0 : decide (0 ≤ x8_1) = true := decide_eq_true c7
      clear c7
      by_cases c8 : 0 ≤ x8_1
      ·
       rw [if_pos c8] at H
       have c8b0 : decide (0 ≤ x8_1) = true := decide_eq_true c8
       clear c8
       by_cases c9 : x8_1 < (l0.length : Int)
       ·
        rw [if_pos c9] at H
        have c9b0 : decide (x8_1 < (l0.length : Int)) = true := decide_eq_true c9
        clear c9
        by_cases c10 : (IntKind.u64.wrap (a1)) = 0
        ·
         rw [if_pos c10] at H
         exact absurd H (by simp)
        ·
         rw [if_neg c10] at H
         have c10b0 : ((IntKind.u64.wrap (a1)) == 0) = false := beq_eq_false_iff_ne.mpr c10
         have c10b1 : ((IntKind.u64.wrap (a1)) != 0) = true := bne_iff_ne.mpr c10
         by_cases c11 : x8_1 < (x6_1.length : Int)
         ·
          rw [if_pos c11] at H
          have c11b0 : decide (x8_1 < (x6_1.length : Int)) = true := decide_eq_true c11
          clear c11
          obtain ⟨y317, hy317⟩ : ∃ y_ : List Int, y_ = (x6_1.set (x8_1 : Int).toNat ((IntKind.u64.wrap (Int.tdiv (Go.bits .or .u64 (IntKind.u64.wrap (x7_1 * 4294967296)) (IntKind.u64.wrap (rd l0 x8_1))) (IntKind.u64.wrap (a1)))) % 4294967296)) := ⟨_, rfl⟩
          replace H : (vendmeterbig_small.l0 k1 l0 a1 y317 (Int.tmod (Go.bits .or .u64 (IntKind.u64.wrap (x7_1 * 4294967296)) (IntKind.u64.wrap (rd l0 x8_1))) (IntKind.u64.wrap (a1))) (wrap64 (x8_1 - 1))) = some (r1, r2) := by first | (rw [hy317]; with_reducible exact H) | (have H2_ := (Option.bind_some _ _).symm.trans H; rw [hy317]; with_reducible exact H2_) | (have H2_ := (Option.bind_some _ _).symm.trans H; with_reducible exact H2_) | with_reducible exact H | (rw [hy317]; exact H) | exact H
          have Ny317 := am hy317
          clear hy317
          have H' := am H
          clear H
          have p316 : 0 ≤ (x8_1 : Int) := czd
          have q316 : x8_1 < (l0.length : Int) := czd
          obtain ⟨ad316, e316, hx316_0⟩ := Kd.at_int HR0.out x8_1 p316 q316
          cases e316
          replace hx316_0 := (HB.1.cell (World.block_lt_of_cell? w _ hx316_0)).trans hx316_0
          replace p316 := eq_true p316
          replace q316 := eq_true q316
          have p12 : 0 ≤ (x8_1 : Int) := czd
          have q12 : (x8_1 : Int) < ((x6_1.length : Int) : Int) := czd
          obtain ⟨go12, co12, eo12, gb12, gl12, cl12, HG12⟩ := Kd.R_form HO_6.out (by omega)
          (first | cases eo12 | (injection eo12 with ea_ en_ ec_; (first | subst ea_ | (injection ea_ with ea_; subst ea_)); subst ec_; clear en_))
          have GB12 := am gb12
          have GG12 := am HG12
          clear gb12 gl12 HG12
          obtain ⟨hx12_0, hf12_0⟩ := Kd.R_celln 0 HO_6.out (x8_1 : Int) p12 q12
          replace p12 := eq_true p12
          replace q12 := eq_true q12
          have HP13 := Kd.R_putg HO_6.out (x8_1 : Int) ((IntKind.u64.wrap (Int.tdiv (Go.bits .or .u64 (IntKind.u64.wrap (x7_1 * 4294967296)) (IntKind.u64.wrap (rd l0 x8_1))) (IntKind.u64.wrap (a1)))) % 4294967296)
          go_wp2_with (first | ((with_reducible refine gate_store (t := 51) (p := 34) rfl ?_); refine store_event (t := 51) (p := 34) (v := ?vo_w14) (w1 := (wr.setCell ⟨go12, (x8_1 : Int).toNat, none⟩ (.int .u32 ((IntKind.u64.wrap (Int.tdiv (Go.bits .or .u64 (IntKind.u64.wrap (x7_1 * 4294967296)) (IntKind.u64.wrap (rd l0 x8_1))) (IntKind.u64.wrap (a1)))) % 4294967296)))) ?hg ?ho ?hn ?hr ?_; (case ho => rfl); (case hg => rfl); (case hn => rfl); (case hr => first | (go_simp; done) | (go_simp; rfl)); intro w14 hw; have hg : wr.grownBy w14 (some go12) := (by rw [hw]; exact HP13.2); have hp_ : Kd.R (Kd.int .u32) 51 w14 w.heap.size (fun _ => True) (.slice (some ⟨go12, 0, none⟩) x6_1.length co12) y317 := (by rw [hw, Ny317.out]; exact HP13.1); clear HP13; replace HO_6 := am (hp_); replace HB := am ((by rw [hw]; exact below_set (HB.1) GB12.out : Below w.heap.size w w14)); clear hg hw hp_))
          go_roundg k1
          case measure => have := HK1.out; omega
          case rel => exact ⟨(y317), (Int.tmod (Go.bits .or .u64 (IntKind.u64.wrap (x7_1 * 4294967296)) (IntKind.u64.wrap (rd l0 x8_1))) (IntKind.u64.wrap (a1))), (wrap64 (x8_1 - 1)), czr, czr, H', ⟨by have := HK1.out; omega⟩, ⟨czR HO_6⟩, ⟨czbl HB⟩⟩
         ·
          rw [if_neg c11] at H
          exact absurd H (by simp)
       ·
        rw [if_neg c9] at H
        exact absurd H (by simp)
      ·
       rw [if_neg c8] at H
       exact absurd H (by simp)
     ·
      rw [if_neg c7] at H
      have c7b0 : decide (0 ≤ x8_1) = false := decide_eq_false c7
      clear c7
      replace H := Option.bind_eq_some_iff.mp H
      obtain ⟨t318, A150, H⟩ := H
      (try dsimp only at H)
      have A15 := am A150
      clear A150
      simp only [Option.some.injEq, Prod.mk.injEq] at H
      obtain ⟨rfl, rfl⟩ := H
      obtain ⟨Ao16, co16, eo16⟩ := Kd.R_slice HO_6.out
      subst eo16
      go_wp2_with (first | ((with_reducible refine gate_callee (f := 103) rfl ?_); refine czgo (some 40) Tryz.func103 #[.slice Ao16 x6_1.length co16] ?_; (with_reducible refine (vendmeterbig_trim.calls k1 (fun k_ => some k_ = (.slice Ao16 x6_1.length co16 : Value).ownBlock) (.slice Ao16 x6_1.length co16) x6_1 t318 w _ ?side1 ?side2 A15.out).mono ?_); (case side1 => repeat (first | (with_reducible first | exact HB.1 | apply below_alloc | apply pw_below_drewN | apply below_drew1) | exact HB.1)); (case side2 => exact Kd.R_tight rfl HO_6.out); rintro e w17 ⟨v319, rfl, ho0, hb, hkp⟩; refine ⟨_, rfl, ?_⟩; have HO320 := am (Kd.R_mono (ok' := fun k_ => True) ho0 (fun k_ hk_ => trivial)); replace HB := am (hb); clear HO_6; (try clear hb hkp ho0)))
      go_ret2
      exact ⟨_, czeq, czR HO320, czbl HB⟩
  ·
   rw [if_neg c4] at H
   exact absurd H (by simp)
 ·
  rw [if_neg c3] at H
  exact absurd H (by simp)

/-! ### vendmeterbig_left stands in bw.A, bw.B -/

/-! ### vendmeterbig_right stands in bw.A, bw.B -/

-- NOT PRINTED: function 82 (vendmeterbig_div)

-- NOT PRINTED: function 42 (vendmeterbig_Int_QuoRem)

-- NOT PRINTED: function 43 (vendmeterbig_Int_Sign)

/-! ### Uint64 stands in bw.B, bw.L -/

-- NOT PRINTED: function 44 (vendmeterbig_Int_Int64)

end Go.Proofs.YtcllddkmcnfejaaGreatDoor.PPocketKeys
