-- written by this session's program wip/xp/xprint.py (it drives the kit's print and adds to it)
import Derived.Test.YtcllddkmcnfejaaGreatDoorPPocketKeysx0
import Derived.Test.YtcllddkmcnfejaaGreatDoorPPocketKeysx4
import Derived.Test.YtcllddkmcnfejaaGreatDoorPPocketKeysx5
import Derived.Test.YtcllddkmcnfejaaGreatDoorPPocketKeysx12
import Derived.Test.YtcllddkmcnfejaaGreatDoorPPocketKeysx22
namespace Go.Proofs.YtcllddkmcnfejaaGreatDoor.PPocketKeys
open Go.RowKit Go.Proofs.YtcllddkmcnfejaaGreatDoorW.PrintWords Go.Proofs.YtcllddkmcnfejaaGreatDoorW.PrintLast Go.Proofs.YtcllddkmcnfejaaGreatDoorW.PrintMore
attribute [local go_sem] max2_int min2_int max_two min_two max_three min_three max_four min_four
set_option linter.unusedVariables false
set_option linter.unusedSimpArgs false
set_option maxHeartbeats 8000000
set_option maxRecDepth 100000

attribute [local go_sem high] eqA55
/-! ### vendmeterlaw_sameWords: function 9 -/
def vendmeterlaw_sameWords.l0 : Nat → List Int → List Int → Int → Option (Bool)
 | 0, _, _, _ => none
 | k + 1, x0, x1, x5 => if x5 < (x0.length : Int) then (if 0 ≤ x5 then (if x5 < (x1.length : Int) then (if (rd x0 x5) = (rd x1 x5) then (vendmeterlaw_sameWords.l0 k x0 x1 (wrap64 (x5 + 1))) else (some false)) else (none)) else (none)) else (some true)
def vendmeterlaw_sameWords.f (k : Nat) (l0 : List Int) (l1 : List Int) : Option (Bool) := if (l0.length : Int) = (l1.length : Int) then (vendmeterlaw_sameWords.l0 k l0 l1 0) else (some false)
theorem vendmeterlaw_sameWords.mono_l : ∀ k, (∀ y0 y1 y2, LeO (vendmeterlaw_sameWords.l0 k y0 y1 y2) (vendmeterlaw_sameWords.l0 (k + 1) y0 y1 y2))
 | 0 => fun _ _ _ r h => by simp [vendmeterlaw_sameWords.l0] at h
 | k + 1 => by
  have ih0 := vendmeterlaw_sameWords.mono_l k
  ·
   intro y0 y1 y2
   unfold vendmeterlaw_sameWords.l0
   repeat' first
   | (with_reducible exact ih0 _ _ _)
   | (with_reducible exact LeO.refl _)
   | (with_reducible exact LeO.none _)
   | (with_reducible refine LeO.ite ?_ ?_)
   | (with_reducible refine LeO.bind ?_ (fun _ => ?_))
theorem vendmeterlaw_sameWords.mono : ∀ a0 a1 k, LeO (vendmeterlaw_sameWords.f k a0 a1) (vendmeterlaw_sameWords.f (k + 1) a0 a1) := by
 intro a0 a1 k
 have ih0 := vendmeterlaw_sameWords.mono_l k
 unfold vendmeterlaw_sameWords.f
 repeat' first
   | (with_reducible exact ih0 _ _ _)
   | (with_reducible exact LeO.refl _)
   | (with_reducible exact LeO.none _)
   | (with_reducible refine LeO.ite ?_ ?_)
   | (with_reducible refine LeO.bind ?_ (fun _ => ?_))
theorem vendmeterlaw_sameWords.calls (k : Nat) (A0 : Option Addr) (c0 : Nat) (l0 : List Int) (A1 : Option Addr) (c1 : Nat) (l1 : List Int) (r : Bool) (w : World) (hr0 : Kd.C (Kd.int .u32) w A0 l0.length l0) (hc0 : l0.length ≤ c0) (hr1 : Kd.C (Kd.int .u32) w A1 l1.length l1) (hc1 : l1.length ≤ c1) (h : vendmeterlaw_sameWords.f k l0 l1 = some r) :
  Calls Tryz.prog 9 #[.slice A0 l0.length c0, .slice A1 l1.length c1] w fun e w' => e = .returned (.bool r) ∧ Drawn0 w w' := by
 have HR0 := am hr0
 have HC0 := am hc0
 clear hr0 hc0
 have HR1 := am hr1
 have HC1 := am hc1
 clear hr1 hc1
 have H : (if (l0.length : Int) = (l1.length : Int) then (vendmeterlaw_sameWords.l0 k l0 l1 0) else (some false)) = some r := h
 clear h
 by_cases c3 : (l0.length : Int) = (l1.length : Int)
 ·
  rw [if_pos c3] at H
  have c3b0 : ((l0.length : Int) == (l1.length : Int)) = true := beq_iff_eq.mpr c3
  have c3b1 : ((l0.length : Int) != (l1.length : Int)) = false := bne_eq_false_iff_eq.mpr c3
  have c3b2 : (l0.length == l1.length) = true := by first | simpa using c3 | (simp at c3 ⊢; omega)
  clear c3
  have H' := am H
  clear H
  go_enter Tryz.func9, Tryz.ntmps9
  go_wp2
  repeat (go_quiet (fail); try go_wp2)
  go_loopg [5] k (fun kq v5 w' => ∃ (x5_1 : Int), v5 = .int .i64 x5_1 ∧ Aside0 (vendmeterlaw_sameWords.l0 kq l0 l1 x5_1 = some r) ∧ Aside0 (kq ≤ k) ∧ Drawn0 w w')
  case atStart => exact ⟨(0), czr, H', ⟨Nat.le_refl _⟩, by repeat (first | exact Drawn0.refl _ | apply Drawn0.step)⟩
  case round =>
   clear H'
   try clear c1
   try clear p2
   try clear c3
   try clear c3b0
   try clear c3b1
   try clear c3b2
   obtain ⟨x5_1, rfl, HA, HK1, ⟨m1, rfl⟩⟩ := hrel
   cases gk with
   | zero => exact absurd HA.out (by simp [vendmeterlaw_sameWords.l0])
   | succ k1 =>
    have H := HA.out
    clear HA
    simp only [vendmeterlaw_sameWords.l0] at H
    revert H
    refine czif (fun c4b0 H => ?_) (fun c4b0 H => ?_)
    ·
     by_cases c5 : 0 ≤ x5_1
     ·
      rw [if_pos c5] at H
      have c5b0 : decide (0 ≤ x5_1) = true := decide_eq_true c5
      clear c5
      by_cases c6 : x5_1 < (l1.length : Int)
      ·
       rw [if_pos c6] at H
       have c6b0 : decide (x5_1 < (l1.length : Int)) = true := decide_eq_true c6
       clear c6
       revert H
       refine czei (fun c7b0 c7b1 H => ?_) (fun c7 c7b0 c7b1 H => ?_)
       ·
        have H' := am H
        clear H
        have p485 : 0 ≤ (x5_1 : Int) := czd
        have q485 : x5_1 < (l0.length : Int) := czd
        obtain ⟨ad485, e485, hx485_0⟩ := Kd.at_int HR0.out x5_1 p485 q485
        cases e485
        replace p485 := eq_true p485
        replace q485 := eq_true q485
        have p486 : 0 ≤ (x5_1 : Int) := czd
        have q486 : x5_1 < (l1.length : Int) := czd
        obtain ⟨ad486, e486, hx486_0⟩ := Kd.at_int HR1.out x5_1 p486 q486
        cases e486
        replace p486 := eq_true p486
        replace q486 := eq_true q486
        go_wp2
        repeat (go_quiet (fail); try go_wp2)
        go_roundg k1
        case measure => have := HK1.out; omega
        case rel => exact ⟨(wrap64 (x5_1 + 1)), czr, H', ⟨by have := HK1.out; omega⟩, by repeat (first | exact Drawn0.refl _ | apply Drawn0.step)⟩
       ·
        obtain rfl := Option.some.inj H
        have p485 : 0 ≤ (x5_1 : Int) := czd
        have q485 : x5_1 < (l0.length : Int) := czd
        obtain ⟨ad485, e485, hx485_0⟩ := Kd.at_int HR0.out x5_1 p485 q485
        cases e485
        replace p485 := eq_true p485
        replace q485 := eq_true q485
        have p486 : 0 ≤ (x5_1 : Int) := czd
        have q486 : x5_1 < (l1.length : Int) := czd
        obtain ⟨ad486, e486, hx486_0⟩ := Kd.at_int HR1.out x5_1 p486 q486
        cases e486
        replace p486 := eq_true p486
        replace q486 := eq_true q486
        go_wp2
        repeat (go_quiet (fail); try go_wp2)
        go_ret
        exact ⟨by first | rfl | (simp; done) | (simp [*]; done), by repeat (first | exact Drawn0.refl _ | apply Drawn0.step)⟩
      ·
       rw [if_neg c6] at H
       exact absurd H (by simp)
     ·
      rw [if_neg c5] at H
      exact absurd H (by simp)
    ·
     obtain rfl := Option.some.inj H
     go_wp2
     repeat (go_quiet (fail); try go_wp2)
     go_ret
     exact ⟨by first | rfl | (simp; done) | (simp [*]; done), by repeat (first | exact Drawn0.refl _ | apply Drawn0.step)⟩
 ·
  rw [if_neg c3] at H
  have c3b0 : ((l0.length : Int) == (l1.length : Int)) = false := beq_eq_false_iff_ne.mpr c3
  have c3b1 : ((l0.length : Int) != (l1.length : Int)) = true := bne_iff_ne.mpr c3
  have c3b2 : (l0.length == l1.length) = false := by first | simpa using c3 | (simp at c3 ⊢; omega)
  obtain rfl := Option.some.inj H
  go_enter Tryz.func9, Tryz.ntmps9
  go_wp2
  repeat (go_quiet (fail); try go_wp2)
  go_ret
  exact ⟨by first | rfl | (simp; done) | (simp [*]; done), by repeat (first | exact Drawn0.refl _ | apply Drawn0.step)⟩

/-! ### vendmeterlaw_sameOracle: function 10 -/
def vendmeterlaw_sameOracle.l0 : Nat → Int → List (S55) → List (S55) → Option (Bool)
 | 0, _, _, _ => none
 | k + 1, x5, x488000, x489000 => if x5 < (x488000.length : Int) then (if 0 ≤ x5 then (if x5 < (x489000.length : Int) then (if (!(((rd_T55 x488000 x5).f0) == ((rd_T55 x489000 x5).f0)) || (!(((rd_T55 x488000 x5).f1) == ((rd_T55 x489000 x5).f1)) || (!(((rd_T55 x488000 x5).f2) == ((rd_T55 x489000 x5).f2)) || (!(((rd_T55 x488000 x5).f3) == ((rd_T55 x489000 x5).f3)))))) = true then (some false) else (vendmeterlaw_sameOracle.l0 k (wrap64 (x5 + 1)) x488000 x489000)) else (none)) else (none)) else (some true)
def vendmeterlaw_sameOracle.f (k : Nat) (l0_0 : List (S55)) (l1_0 : List (S55)) : Option (Bool) := if (l0_0.length : Int) = (l1_0.length : Int) then (vendmeterlaw_sameOracle.l0 k 0 l0_0 l1_0) else (some false)
theorem vendmeterlaw_sameOracle.mono_l : ∀ k, (∀ y0 y1 y2, LeO (vendmeterlaw_sameOracle.l0 k y0 y1 y2) (vendmeterlaw_sameOracle.l0 (k + 1) y0 y1 y2))
 | 0 => fun _ _ _ r h => by simp [vendmeterlaw_sameOracle.l0] at h
 | k + 1 => by
  have ih0 := vendmeterlaw_sameOracle.mono_l k
  ·
   intro y0 y1 y2
   unfold vendmeterlaw_sameOracle.l0
   repeat' first
   | (with_reducible exact ih0 _ _ _)
   | (with_reducible exact LeO.refl _)
   | (with_reducible exact LeO.none _)
   | (with_reducible refine LeO.ite ?_ ?_)
   | (with_reducible refine LeO.bind ?_ (fun _ => ?_))
theorem vendmeterlaw_sameOracle.mono : ∀ a0 a1 k, LeO (vendmeterlaw_sameOracle.f k a0 a1) (vendmeterlaw_sameOracle.f (k + 1) a0 a1) := by
 intro a0 a1 k
 have ih0 := vendmeterlaw_sameOracle.mono_l k
 unfold vendmeterlaw_sameOracle.f
 repeat' first
   | (with_reducible exact ih0 _ _ _)
   | (with_reducible exact LeO.refl _)
   | (with_reducible exact LeO.none _)
   | (with_reducible refine LeO.ite ?_ ?_)
   | (with_reducible refine LeO.bind ?_ (fun _ => ?_))
theorem vendmeterlaw_sameOracle.calls (k : Nat) (A0_0 : Option Addr) (c0_0 : Nat) (l0_0 : List (S55)) (A1_0 : Option Addr) (c1_0 : Nat) (l1_0 : List (S55)) (r : Bool) (w : World) (hr0_0 : Kd.C k55 w A0_0 l0_0.length l0_0) (hc0_0 : l0_0.length ≤ c0_0) (hr1_0 : Kd.C k55 w A1_0 l1_0.length l1_0) (hc1_0 : l1_0.length ≤ c1_0) (h : vendmeterlaw_sameOracle.f k l0_0 l1_0 = some r) :
  Calls Tryz.prog 10 #[.agg #[.slice A0_0 l0_0.length c0_0], .agg #[.slice A1_0 l1_0.length c1_0]] w fun e w' => e = .returned (.bool r) ∧ Below w.heap.size w w' := by
 have hu25 := Tryz.underlying25
 have hu55 := Tryz.underlying55
 have HR0_0 := am hr0_0
 have HC0_0 := am hc0_0
 clear hr0_0 hc0_0
 have HR1_0 := am hr1_0
 have HC1_0 := am hc1_0
 clear hr1_0 hc1_0
 have HB := am (Below.refl w.heap.size w)
 have H : (if (l0_0.length : Int) = (l1_0.length : Int) then (vendmeterlaw_sameOracle.l0 k 0 l0_0 l1_0) else (some false)) = some r := h
 clear h
 have HC3 := am H
 clear H
 go_enter Tryz.func10, Tryz.ntmps10
 go_upto_region 1 with (first | ((with_reducible refine gate_dst (N := 2) rfl ?_); refine czbox 2 #[.slice A0_0 l0_0.length c0_0] 25 ?_; intro gb487 hg w4 hbox hb; have BK487 := am (hbox); have GW487 := czsz hg (czbl HB); have GE487 := czsz hg (czbl HB); replace HB := am (below_step (czbl HB) hb); clear hb hbox hg) | ((with_reducible refine gate_dst (N := 3) rfl ?_); refine czbox 3 #[.slice A1_0 l1_0.length c1_0] 25 ?_; intro gb488 hg w5 hbox hb; have BK488 := am (hbox); have GW488 := czsz hg (czbl1 HB GE487); have GE488 := czsz hg (czbl1 HB GE487); have NB487_488 := czne BK487 hg; have NB488_487 := czen BK487 hg; replace BK487 := czbb BK487 hb; replace HB := am (below_step (czbl1 HB GE487) hb); clear hb hbox hg))
 repeat (go_quiet (first | ((with_reducible refine gate_dst (N := 2) rfl ?_); refine czbox 2 #[.slice A0_0 l0_0.length c0_0] 25 ?_; intro gb487 hg w4 hbox hb; have BK487 := am (hbox); have GW487 := czsz hg (czbl HB); have GE487 := czsz hg (czbl HB); replace HB := am (below_step (czbl HB) hb); clear hb hbox hg) | ((with_reducible refine gate_dst (N := 3) rfl ?_); refine czbox 3 #[.slice A1_0 l1_0.length c1_0] 25 ?_; intro gb488 hg w5 hbox hb; have BK488 := am (hbox); have GW488 := czsz hg (czbl1 HB GE487); have GE488 := czsz hg (czbl1 HB GE487); have NB487_488 := czne BK487 hg; have NB488_487 := czen BK487 hg; replace BK487 := czbb BK487 hb; replace HB := am (below_step (czbl1 HB GE487) hb); clear hb hbox hg)); go_upto_region 1 with (first | ((with_reducible refine gate_dst (N := 2) rfl ?_); refine czbox 2 #[.slice A0_0 l0_0.length c0_0] 25 ?_; intro gb487 hg w4 hbox hb; have BK487 := am (hbox); have GW487 := czsz hg (czbl HB); have GE487 := czsz hg (czbl HB); replace HB := am (below_step (czbl HB) hb); clear hb hbox hg) | ((with_reducible refine gate_dst (N := 3) rfl ?_); refine czbox 3 #[.slice A1_0 l1_0.length c1_0] 25 ?_; intro gb488 hg w5 hbox hb; have BK488 := am (hbox); have GW488 := czsz hg (czbl1 HB GE487); have GE488 := czsz hg (czbl1 HB GE487); have NB487_488 := czne BK487 hg; have NB488_487 := czen BK487 hg; replace BK487 := czbb BK487 hb; replace HB := am (below_step (czbl1 HB GE487) hb); clear hb hbox hg)))
 have H := HC3.out
 clear HC3
 by_cases c6 : (l0_0.length : Int) = (l1_0.length : Int)
 ·
  rw [if_pos c6] at H
  have c6b0 : ((l0_0.length : Int) == (l1_0.length : Int)) = true := beq_iff_eq.mpr c6
  have c6b1 : ((l0_0.length : Int) != (l1_0.length : Int)) = false := bne_eq_false_iff_eq.mpr c6
  have c6b2 : (l0_0.length == l1_0.length) = true := by first | simpa using c6 | (simp at c6 ⊢; omega)
  clear c6
  have H' := am H
  clear H
  have hnb7 := NB487_488.1
  have hnc7 := NB488_487.1
  have hcz8_0 : w5.cell? ⟨gb487, 0, none⟩ = some (.slice A0_0 l0_0.length c0_0) := (blk_cell BK487.1 0).trans rfl
  have hfz8_0 := blk_frozen BK487.1 0
  have hcz9_0 : w5.cell? ⟨gb488, 0, none⟩ = some (.slice A1_0 l1_0.length c1_0) := (blk_cell BK488.1 0).trans rfl
  have hfz9_0 := blk_frozen BK488.1 0
  go_wp2
  repeat (go_quiet (fail); try go_wp2)
  go_loopg [5] k (fun kq v5 w' => ∃ (x5_1 : Int), v5 = .int .i64 x5_1 ∧ Aside0 (vendmeterlaw_sameOracle.l0 kq x5_1 l0_0 l1_0 = some r) ∧ Aside0 (kq ≤ k) ∧ Aside0 (w'.heap[gb487]? = some (.cells #[(.slice A0_0 l0_0.length c0_0)] 25 (0, 0))) ∧ Aside0 (w'.heap[gb488]? = some (.cells #[(.slice A1_0 l1_0.length c1_0)] 25 (0, 0))) ∧ Aside0 (Below w.heap.size w w'))
  case atStart => exact ⟨(0), czr, H', ⟨Nat.le_refl _⟩, ⟨czbk BK487⟩, ⟨czbk BK488⟩, ⟨czbl2 HB GE487 GE488⟩⟩
  case round =>
   clear H'
   try clear c1
   try clear p2
   try clear c6
   try clear c6b0
   try clear c6b1
   try clear c6b2
   try clear c7
   try clear hcz8_0
   try clear hcz9_0
   try clear hfz8_0
   try clear hfz9_0
   obtain ⟨x5_1, rfl, HA, HK1, BK487, BK488, HB⟩ := hrel
   cases gk with
   | zero => exact absurd HA.out (by simp [vendmeterlaw_sameOracle.l0])
   | succ k1 =>
    have H := HA.out
    clear HA
    simp only [vendmeterlaw_sameOracle.l0] at H
    revert H
    refine czif (fun c10b0 H => ?_) (fun c10b0 H => ?_)
    ·
     by_cases c11 : 0 ≤ x5_1
     ·
      rw [if_pos c11] at H
      have c11b0 : decide (0 ≤ x5_1) = true := decide_eq_true c11
      clear c11
      by_cases c12 : x5_1 < (l1_0.length : Int)
      ·
       rw [if_pos c12] at H
       have c12b0 : decide (x5_1 < (l1_0.length : Int)) = true := decide_eq_true c12
       clear c12
       by_cases c13 : (!(((rd_T55 l0_0 x5_1).f0) == ((rd_T55 l1_0 x5_1).f0)) || (!(((rd_T55 l0_0 x5_1).f1) == ((rd_T55 l1_0 x5_1).f1)) || (!(((rd_T55 l0_0 x5_1).f2) == ((rd_T55 l1_0 x5_1).f2)) || (!(((rd_T55 l0_0 x5_1).f3) == ((rd_T55 l1_0 x5_1).f3)))))) = true
       ·
        rw [if_pos c13] at H
        have c13b0 : (!(((rd_T55 l0_0 x5_1).f0) == ((rd_T55 l1_0 x5_1).f0)) || (!(((rd_T55 l0_0 x5_1).f1) == ((rd_T55 l1_0 x5_1).f1)) || (!(((rd_T55 l0_0 x5_1).f2) == ((rd_T55 l1_0 x5_1).f2)) || (!(((rd_T55 l0_0 x5_1).f3) == ((rd_T55 l1_0 x5_1).f3)))))) = true := c13
        clear c13
        obtain rfl := Option.some.inj H
        have hnb14 := NB487_488.1
        have hnc14 := NB488_487.1
        have hcz15_0 : wr.cell? ⟨gb487, 0, none⟩ = some (.slice A0_0 l0_0.length c0_0) := (blk_cell BK487.1 0).trans rfl
        have hfz15_0 := blk_frozen BK487.1 0
        have p489 : 0 ≤ (x5_1 : Int) := czd
        have q489 : x5_1 < (l0_0.length : Int) := czd
        obtain ⟨ad489, e489, hx489_0, hx489_1, hx489_2, hx489_3⟩ := at_T55 HR0_0.out x5_1 p489 q489
        cases e489
        replace hx489_0 := (HB.1.cell (World.block_lt_of_cell? w _ hx489_0)).trans hx489_0
        replace hx489_1 := (HB.1.cell (World.block_lt_of_cell? w _ hx489_1)).trans hx489_1
        replace hx489_2 := (HB.1.cell (World.block_lt_of_cell? w _ hx489_2)).trans hx489_2
        replace hx489_3 := (HB.1.cell (World.block_lt_of_cell? w _ hx489_3)).trans hx489_3
        replace p489 := eq_true p489
        replace q489 := eq_true q489
        have hcz16_0 : wr.cell? ⟨gb488, 0, none⟩ = some (.slice A1_0 l1_0.length c1_0) := (blk_cell BK488.1 0).trans rfl
        have hfz16_0 := blk_frozen BK488.1 0
        have p490 : 0 ≤ (x5_1 : Int) := czd
        have q490 : x5_1 < (l1_0.length : Int) := czd
        obtain ⟨ad490, e490, hx490_0, hx490_1, hx490_2, hx490_3⟩ := at_T55 HR1_0.out x5_1 p490 q490
        cases e490
        replace hx490_0 := (HB.1.cell (World.block_lt_of_cell? w _ hx490_0)).trans hx490_0
        replace hx490_1 := (HB.1.cell (World.block_lt_of_cell? w _ hx490_1)).trans hx490_1
        replace hx490_2 := (HB.1.cell (World.block_lt_of_cell? w _ hx490_2)).trans hx490_2
        replace hx490_3 := (HB.1.cell (World.block_lt_of_cell? w _ hx490_3)).trans hx490_3
        replace p490 := eq_true p490
        replace q490 := eq_true q490
        go_wp2
        repeat (go_quiet (fail); try go_wp2)
        go_ret
        exact ⟨czeq, czbl2 HB GE487 GE488⟩
       ·
        rw [if_neg c13] at H
        have c13b0 : (!(((rd_T55 l0_0 x5_1).f0) == ((rd_T55 l1_0 x5_1).f0)) || (!(((rd_T55 l0_0 x5_1).f1) == ((rd_T55 l1_0 x5_1).f1)) || (!(((rd_T55 l0_0 x5_1).f2) == ((rd_T55 l1_0 x5_1).f2)) || (!(((rd_T55 l0_0 x5_1).f3) == ((rd_T55 l1_0 x5_1).f3)))))) = false := by simpa using c13
        clear c13
        have H' := am H
        clear H
        have hnb17 := NB487_488.1
        have hnc17 := NB488_487.1
        have hcz18_0 : wr.cell? ⟨gb487, 0, none⟩ = some (.slice A0_0 l0_0.length c0_0) := (blk_cell BK487.1 0).trans rfl
        have hfz18_0 := blk_frozen BK487.1 0
        have p489 : 0 ≤ (x5_1 : Int) := czd
        have q489 : x5_1 < (l0_0.length : Int) := czd
        obtain ⟨ad489, e489, hx489_0, hx489_1, hx489_2, hx489_3⟩ := at_T55 HR0_0.out x5_1 p489 q489
        cases e489
        replace hx489_0 := (HB.1.cell (World.block_lt_of_cell? w _ hx489_0)).trans hx489_0
        replace hx489_1 := (HB.1.cell (World.block_lt_of_cell? w _ hx489_1)).trans hx489_1
        replace hx489_2 := (HB.1.cell (World.block_lt_of_cell? w _ hx489_2)).trans hx489_2
        replace hx489_3 := (HB.1.cell (World.block_lt_of_cell? w _ hx489_3)).trans hx489_3
        replace p489 := eq_true p489
        replace q489 := eq_true q489
        have hcz19_0 : wr.cell? ⟨gb488, 0, none⟩ = some (.slice A1_0 l1_0.length c1_0) := (blk_cell BK488.1 0).trans rfl
        have hfz19_0 := blk_frozen BK488.1 0
        have p490 : 0 ≤ (x5_1 : Int) := czd
        have q490 : x5_1 < (l1_0.length : Int) := czd
        obtain ⟨ad490, e490, hx490_0, hx490_1, hx490_2, hx490_3⟩ := at_T55 HR1_0.out x5_1 p490 q490
        cases e490
        replace hx490_0 := (HB.1.cell (World.block_lt_of_cell? w _ hx490_0)).trans hx490_0
        replace hx490_1 := (HB.1.cell (World.block_lt_of_cell? w _ hx490_1)).trans hx490_1
        replace hx490_2 := (HB.1.cell (World.block_lt_of_cell? w _ hx490_2)).trans hx490_2
        replace hx490_3 := (HB.1.cell (World.block_lt_of_cell? w _ hx490_3)).trans hx490_3
        replace p490 := eq_true p490
        replace q490 := eq_true q490
        go_wp2
        repeat (go_quiet (fail); try go_wp2)
        go_roundg k1
        case measure => have := HK1.out; omega
        case rel => exact ⟨(wrap64 (x5_1 + 1)), czr, H', ⟨by have := HK1.out; omega⟩, ⟨czbk BK487⟩, ⟨czbk BK488⟩, ⟨czbl2 HB GE487 GE488⟩⟩
      ·
       rw [if_neg c12] at H
       exact absurd H (by simp)
     ·
      rw [if_neg c11] at H
      exact absurd H (by simp)
    ·
     obtain rfl := Option.some.inj H
     have hnb20 := NB487_488.1
     have hnc20 := NB488_487.1
     have hcz21_0 : wr.cell? ⟨gb487, 0, none⟩ = some (.slice A0_0 l0_0.length c0_0) := (blk_cell BK487.1 0).trans rfl
     have hfz21_0 := blk_frozen BK487.1 0
     go_wp2
     repeat (go_quiet (fail); try go_wp2)
     go_ret
     exact ⟨czeq, czbl2 HB GE487 GE488⟩
 ·
  rw [if_neg c6] at H
  have c6b0 : ((l0_0.length : Int) == (l1_0.length : Int)) = false := beq_eq_false_iff_ne.mpr c6
  have c6b1 : ((l0_0.length : Int) != (l1_0.length : Int)) = true := bne_iff_ne.mpr c6
  have c6b2 : (l0_0.length == l1_0.length) = false := by first | simpa using c6 | (simp at c6 ⊢; omega)
  obtain rfl := Option.some.inj H
  have hnb22 := NB487_488.1
  have hnc22 := NB488_487.1
  have hcz23_0 : w5.cell? ⟨gb487, 0, none⟩ = some (.slice A0_0 l0_0.length c0_0) := (blk_cell BK487.1 0).trans rfl
  have hfz23_0 := blk_frozen BK487.1 0
  have hcz24_0 : w5.cell? ⟨gb488, 0, none⟩ = some (.slice A1_0 l1_0.length c1_0) := (blk_cell BK488.1 0).trans rfl
  have hfz24_0 := blk_frozen BK488.1 0
  go_wp2
  repeat (go_quiet (fail); try go_wp2)
  go_ret
  exact ⟨czeq, czbl2 HB GE487 GE488⟩

/-! ### vendmeterlaw_PocketKeys: function 3 -/
def vendmeterlaw_PocketKeys.f (k : Nat) (l0 : List Int) (l1_0 : List (S55)) (a2 : ByteArray) : Option (Bool) := (vendmeterlaw_words.f l0).bind fun t492 => ((vendmeterlaw_oracles.f l1_0).bind fun t495 => ((pocket_Keyed.f k t492 t495 a2).bind fun bt499 => ((vendmeterref_PocketKeyed.f k l0 l1_0 a2).bind fun bt504 => (if bt499.2.1 = bt504.2.1 then (if bt499.2.2 = bt504.2.2 then ((vendmeterlaw_sameWrites.f k bt499.1 bt504.1).bind fun t509 => (if t509 = true then ((vendmeterlaw_sameWords.f k l0 t492).bind fun t510 => (if t510 = true then ((vendmeterlaw_sameOracle.f k l1_0 t495).bind fun t511 => (some t511)) else (some false))) else (some false))) else (some false)) else (some false)))))
theorem vendmeterlaw_PocketKeys.mono : ∀ a0 a1 a2 k, LeO (vendmeterlaw_PocketKeys.f k a0 a1 a2) (vendmeterlaw_PocketKeys.f (k + 1) a0 a1 a2) := by
 intro a0 a1 a2 k
 unfold vendmeterlaw_PocketKeys.f
 repeat' first
   | (with_reducible exact pocket_Keyed.mono _ _ _ _)
   | (with_reducible exact vendmeterlaw_sameOracle.mono _ _ _)
   | (with_reducible exact vendmeterlaw_sameWords.mono _ _ _)
   | (with_reducible exact vendmeterlaw_sameWrites.mono _ _ _)
   | (with_reducible exact vendmeterref_PocketKeyed.mono _ _ _ _)
   | (with_reducible exact LeO.refl _)
   | (with_reducible exact LeO.none _)
   | (with_reducible refine LeO.ite ?_ ?_)
   | (with_reducible refine LeO.bind ?_ (fun _ => ?_))
theorem vendmeterlaw_PocketKeys.calls (k : Nat) (A0 : Option Addr) (c0 : Nat) (l0 : List Int) (A1_0 : Option Addr) (c1_0 : Nat) (l1_0 : List (S55)) (a2 : ByteArray) (r : Bool) (w : World) (hr0 : Kd.C (Kd.int .u32) w A0 l0.length l0) (hc0 : l0.length ≤ c0) (hr1_0 : Kd.C k55 w A1_0 l1_0.length l1_0) (hc1_0 : l1_0.length ≤ c1_0) (h : vendmeterlaw_PocketKeys.f k l0 l1_0 a2 = some r) :
  Calls Tryz.prog 3 #[.slice A0 l0.length c0, .agg #[.slice A1_0 l1_0.length c1_0], .string a2] w fun e w' => e = .returned (.bool r) ∧ Below w.heap.size w w' := by
 have hu25 := Tryz.underlying25
 have HR0 := am hr0
 have HC0 := am hc0
 clear hr0 hc0
 have HR1_0 := am hr1_0
 have HC1_0 := am hc1_0
 clear hr1_0 hc1_0
 have HB := am (Below.refl w.heap.size w)
 have H : ((vendmeterlaw_words.f l0).bind fun t492 => ((vendmeterlaw_oracles.f l1_0).bind fun t495 => ((pocket_Keyed.f k t492 t495 a2).bind fun bt499 => ((vendmeterref_PocketKeyed.f k l0 l1_0 a2).bind fun bt504 => (if bt499.2.1 = bt504.2.1 then (if bt499.2.2 = bt504.2.2 then ((vendmeterlaw_sameWrites.f k bt499.1 bt504.1).bind fun t509 => (if t509 = true then ((vendmeterlaw_sameWords.f k l0 t492).bind fun t510 => (if t510 = true then ((vendmeterlaw_sameOracle.f k l1_0 t495).bind fun t511 => (some t511)) else (some false))) else (some false))) else (some false)) else (some false)))))) = some r := h
 clear h
 replace H := Option.bind_eq_some_iff.mp H
 obtain ⟨t492, A40, H⟩ := H
 (try dsimp only at H)
 have A4 := am A40
 clear A40
 replace H := Option.bind_eq_some_iff.mp H
 obtain ⟨t495, A50, H⟩ := H
 (try dsimp only at H)
 have A5 := am A50
 clear A50
 replace H := Option.bind_eq_some_iff.mp H
 obtain ⟨⟨t499, t502, t503⟩, A60, H⟩ := H
 (try dsimp only at H)
 have A6 := am A60
 clear A60
 replace H := Option.bind_eq_some_iff.mp H
 obtain ⟨⟨t504, t507, t508⟩, A70, H⟩ := H
 (try dsimp only at H)
 have A7 := am A70
 clear A70
 have HC8 := am H
 clear H
 go_enter Tryz.func3, Tryz.ntmps3
 go_upto_region 5 with (first | ((with_reducible refine gate_dst (N := 4) rfl ?_); refine czbox 4 #[.slice A1_0 l1_0.length c1_0] 25 ?_; intro gb491 hg w9 hbox hb; have BK491 := am (hbox); have GW491 := czsz hg (czbl HB); have GE491 := czsz hg (czbl HB); replace HB := am (below_step (czbl HB) hb); clear hb hbox hg) | ((with_reducible refine gate_callee (f := 4) rfl ?_); refine czgo (some 16) Tryz.func4 #[.slice A0 l0.length c0] ?_; (with_reducible refine (vendmeterlaw_words.calls _ _ l0 t492 _ ?side1 ?side2 A4.out).mono ?_); (case side1 => repeat (first | exact (Kd.C_below HR0.out HB.1) | (with_reducible refine Kd.C_alloc ?_ _) | (with_reducible refine Kd.C_drewN ?_ _) | (with_reducible refine Kd.C_drew ?_))); (case side2 => exact HC0.out); rintro e w10 ⟨v493, rfl, ho0, hb⟩; refine ⟨_, rfl, ?_⟩; have HO494 := am (Kd.R_lower ho0 (below_size (czbl1 HB GE491))); replace BK491 := czbb BK491 hb; replace HB := am (below_step (czbl1 HB GE491) hb); (try clear hb hb2 hk hi ho0); have hcz11_0 : w10.cell? ⟨gb491, 0, none⟩ = some (.slice A1_0 l1_0.length c1_0) := (blk_cell BK491.1 0).trans rfl; have hfz11_0 := blk_frozen BK491.1 0) | ((with_reducible refine gate_callee (f := 5) rfl ?_); refine czgo (some 18) Tryz.func5 #[.agg #[.slice A1_0 l1_0.length c1_0]] ?_; (with_reducible refine (vendmeterlaw_oracles.calls _ _ l1_0 t495 _ ?side1 ?side2 A5.out).mono ?_); (case side1 => repeat (first | exact (Kd.C_below HR1_0.out HB.1) | (with_reducible refine Kd.C_alloc ?_ _) | (with_reducible refine Kd.C_drewN ?_ _) | (with_reducible refine Kd.C_drew ?_))); (case side2 => exact HC1_0.out); rintro e w12 ⟨v496, rfl, ho0, hb⟩; refine ⟨_, rfl, ?_⟩; have HO497 := am (Kd.R_lower ho0 (below_size (czbl1 HB GE491))); replace HO494 := am (Kd.R_below (czR HO494) hb); replace BK491 := czbb BK491 hb; replace HB := am (below_step (czbl1 HB GE491) hb); (try clear hb hb2 hk hi ho0)) | ((with_reducible refine gate_dst (N := 8) rfl ?_); refine czbox 8 #[.slice none 0 0] 25 ?_; intro gb498 hg w13 hbox hb; have BK498 := am (hbox); have GW498 := czsz hg (czbl1 HB GE491); have GE498 := czsz hg (czbl1 HB GE491); have NB491_498 := czne BK491 hg; have NB498_491 := czen BK491 hg; replace HO494 := am (Kd.R_below (czR HO494) hb); replace HO497 := am (Kd.R_below (czR HO497) hb); replace BK491 := czbb BK491 hb; replace HB := am (below_step (czbl1 HB GE491) hb); clear hb hbox hg; obtain ⟨Ao14, co14, eo14⟩ := Kd.R_slice HO497.1; subst eo14; have hnb15 := NB498_491.1; have hnc15 := NB491_498.1; have hcz16_0 : w13.cell? ⟨gb498, 0, none⟩ = some (.slice none 0 0) := (blk_cell BK498.1 0).trans rfl; have hfz16_0 := blk_frozen BK498.1 0; obtain ⟨Ao17, co17, eo17⟩ := Kd.R_slice HO494.1; subst eo17) | ((with_reducible refine gate_callee (f := 6) rfl ?_); refine czgo (some 23) Tryz.func6 #[.slice Ao17 t492.length co17, .agg #[.slice Ao14 t495.length co14], .string a2] ?_; (with_reducible refine (pocket_Keyed.calls k _ _ t492 _ _ t495 a2 t499 t502 t503 _ ?side1 ?side2 ?side3 ?side4 A6.out).mono ?_); (case side1 => refine (Kd.R_reads' (e := 51) (base := w.heap.size) (ok := fun k_ => True) (n := t492.length) (c := co17) ?_).2.2; exact (by (with_reducible repeat (first | apply Kd.R_alloc | apply Kd.R_drewN | apply Kd.R_drew)); exact (Kd.R_mono (Kd.R_far (p := ⟨gb498, 0, none⟩) (Kd.R_types HO494.1 BK498.1 (by decide)) (fun _ hk => hk.2) (.slice Ao14 t495.length co14)) (fun _ h_ => h_.1)))); (case side2 => exact (Kd.R_reads' HO494.1).2.1); (case side3 => refine (Kd.R_reads' (e := 55) (base := w.heap.size) (ok := fun k_ => True) (n := t495.length) (c := co14) ?_).2.2; exact (by (with_reducible repeat (first | apply Kd.R_alloc | apply Kd.R_drewN | apply Kd.R_drew)); exact (Kd.R_mono (Kd.R_far (p := ⟨gb498, 0, none⟩) (Kd.R_types HO497.1 BK498.1 (by decide)) (fun _ hk => hk.2) (.slice Ao14 t495.length co14)) (fun _ h_ => h_.1)))); (case side4 => exact (Kd.R_reads' HO497.1).2.1); rintro e w18 ⟨v500, rfl, ho0, hb⟩; refine ⟨_, rfl, ?_⟩; have HO501 := am (Kd.R_lower ho0 (below_size (czbl2 HB GE491 GE498))); replace HO494 := am (Kd.R_below (by (with_reducible repeat (first | apply Kd.R_alloc | apply Kd.R_drewN | apply Kd.R_drew)); exact (Kd.R_mono (Kd.R_far (p := ⟨gb498, 0, none⟩) (Kd.R_types HO494.1 BK498.1 (by decide)) (fun _ hk => hk.2) (.slice Ao14 t495.length co14)) (fun _ h_ => h_.1))) hb); replace HO497 := am (Kd.R_below (by (with_reducible repeat (first | apply Kd.R_alloc | apply Kd.R_drewN | apply Kd.R_drew)); exact (Kd.R_mono (Kd.R_far (p := ⟨gb498, 0, none⟩) (Kd.R_types HO497.1 BK498.1 (by decide)) (fun _ hk => hk.2) (.slice Ao14 t495.length co14)) (fun _ h_ => h_.1))) hb); replace BK491 := am (blk_below (g := gb491) (o := .cells #[.slice A1_0 l1_0.length c1_0] 25 (0, 0)) (by (with_reducible repeat (first | apply czxn | apply czxd | apply czxa)); refine blk_far ?_ NB491_498.1 _; (with_reducible repeat (first | apply czxn | apply czxd | apply czxa)); exact BK491.1) hb); replace BK498 := am (blk_below (g := gb498) (o := .cells #[.slice Ao14 t495.length co14] 25 (0, 0)) (by (with_reducible repeat (first | apply czxn | apply czxd | apply czxa)); refine blk_put (cs := #[.slice none 0 0]) ?_ 0 _ rfl; (with_reducible repeat (first | apply czxn | apply czxd | apply czxa)); exact BK498.1) hb); replace HB := am (below_step (czbl2 HB GE491 GE498) hb); (try clear hb hb2 hk hi ho0); have hcz19_0 : w18.cell? ⟨gb491, 0, none⟩ = some (.slice A1_0 l1_0.length c1_0) := (blk_cell BK491.1 0).trans rfl; have hfz19_0 := blk_frozen BK491.1 0) | ((with_reducible refine gate_callee (f := 7) rfl ?_); refine czgo (some 31) Tryz.func7 #[.slice A0 l0.length c0, .agg #[.slice A1_0 l1_0.length c1_0], .string a2] ?_; (with_reducible refine (vendmeterref_PocketKeyed.calls k _ _ l0 _ _ l1_0 a2 t504 t507 t508 _ ?side1 ?side2 ?side3 ?side4 A7.out).mono ?_); (case side1 => repeat (first | exact (Kd.C_below HR0.out HB.1) | (with_reducible refine Kd.C_alloc ?_ _) | (with_reducible refine Kd.C_drewN ?_ _) | (with_reducible refine Kd.C_drew ?_))); (case side2 => exact HC0.out); (case side3 => repeat (first | exact (Kd.C_below HR1_0.out HB.1) | (with_reducible refine Kd.C_alloc ?_ _) | (with_reducible refine Kd.C_drewN ?_ _) | (with_reducible refine Kd.C_drew ?_))); (case side4 => exact HC1_0.out); rintro e w20 ⟨v505, rfl, ho0, hb⟩; refine ⟨_, rfl, ?_⟩; have HO506 := am (Kd.R_lower (Kd.R_new' ho0 (Kd.R_lt (czR HO501))) (below_size (czbl2 HB GE491 GE498))); replace HO494 := am (Kd.R_below (czR HO494) hb); replace HO497 := am (Kd.R_below (czR HO497) hb); replace HO501 := am (Kd.R_elder' (czR HO501) (Kd.R_base ho0) hb); replace BK491 := czbb BK491 hb; replace BK498 := czbb BK498 hb; replace HB := am (below_step (czbl2 HB GE491 GE498) hb); (try clear hb hb2 hk hi ho0)))
 have H := HC8.out
 clear HC8
 revert H
 refine czei (fun c21b0 c21b1 H => ?_) (fun c21 c21b0 c21b1 H => ?_)
 ·
  revert H
  refine czei (fun c22b0 c22b1 H => ?_) (fun c22 c22b0 c22b1 H => ?_)
  ·
   replace H := Option.bind_eq_some_iff.mp H
   obtain ⟨t509, A230, H⟩ := H
   (try dsimp only at H)
   have A23 := am A230
   clear A230
   by_cases c24 : t509 = true
   ·
    subst c24
    have H1 : ((vendmeterlaw_sameWords.f k l0 t492).bind fun t510 => (if t510 = true then ((vendmeterlaw_sameOracle.f k l1_0 t495).bind fun t511 => (some t511)) else (some false))) = some r := by rw [if_pos rfl] at H; exact H
    clear H
    have H := H1
    clear H1
    replace H := Option.bind_eq_some_iff.mp H
    obtain ⟨t510, A250, H⟩ := H
    (try dsimp only at H)
    have A25 := am A250
    clear A250
    by_cases c26 : t510 = true
    ·
     subst c26
     have H1 : ((vendmeterlaw_sameOracle.f k l1_0 t495).bind fun t511 => (some t511)) = some r := by rw [if_pos rfl] at H; exact H
     clear H
     have H := H1
     clear H1
     replace H := Option.bind_eq_some_iff.mp H
     obtain ⟨t511, A270, H⟩ := H
     (try dsimp only at H)
     have A27 := am A270
     clear A270
     obtain rfl := Option.some.inj H
     obtain ⟨Ao28, co28, eo28⟩ := Kd.R_slice HO501.1
     subst eo28
     obtain ⟨Ao29, co29, eo29⟩ := Kd.R_slice HO506.1
     subst eo29
     go_wp2_with (first | (go_at_call 8; (with_reducible refine (vendmeterlaw_sameWrites.calls k _ _ t499 _ _ t504 true _ (czC HO501) ?side2 (czC HO506) ?side4 A23.out).mono ?_); (case side2 => exact (Kd.R_reads' HO501.1).2.1); (case side4 => exact (Kd.R_reads' HO506.1).2.1); rintro e w' ⟨rfl, ⟨nd, rfl⟩⟩) | (go_at_call 9; (with_reducible refine (vendmeterlaw_sameWords.calls k _ _ l0 _ _ t492 true _ ?side1 ?side2 (czC HO494) ?side4 A25.out).mono ?_); (case side1 => repeat (first | exact (Kd.C_below HR0.out (czbl2 HB GE491 GE498)) | (with_reducible refine Kd.C_alloc ?_ _) | (with_reducible refine Kd.C_drewN ?_ _) | (with_reducible refine Kd.C_drew ?_))); (case side2 => exact HC0.out); (case side4 => exact (Kd.R_reads' HO494.1).2.1); rintro e w' ⟨rfl, ⟨nd, rfl⟩⟩; have hnb30 := NB491_498.1; have hnc30 := NB498_491.1; have hcz31_0 : w20.cell? ⟨gb491, 0, none⟩ = some (.slice A1_0 l1_0.length c1_0) := (blk_cell BK491.1 0).trans rfl; have hfz31_0 := blk_frozen BK491.1 0; have hcz32_0 : w20.cell? ⟨gb498, 0, none⟩ = some (.slice Ao14 t495.length co14) := (blk_cell BK498.1 0).trans rfl; have hfz32_0 := blk_frozen BK498.1 0) | (go_at_call 10; (with_reducible refine (vendmeterlaw_sameOracle.calls k _ _ l1_0 _ _ t495 t511 _ ?side1 ?side2 (czC HO497) ?side4 A27.out).mono ?_); (case side1 => repeat (first | exact (Kd.C_below HR1_0.out (czbl2 HB GE491 GE498)) | (with_reducible refine Kd.C_alloc ?_ _) | (with_reducible refine Kd.C_drewN ?_ _) | (with_reducible refine Kd.C_drew ?_))); (case side2 => exact HC1_0.out); (case side4 => exact (Kd.R_reads' HO497.1).2.1); rintro e w33 ⟨rfl, hb⟩; replace HO494 := am (Kd.R_below (czR HO494) hb); replace HO497 := am (Kd.R_below (czR HO497) hb); replace HO501 := am (Kd.R_below (czR HO501) hb); replace HO506 := am (Kd.R_below (czR HO506) hb); replace BK491 := czbb BK491 hb; replace BK498 := czbb BK498 hb; replace HB := am (below_step (czbl2 HB GE491 GE498) hb); (try clear hb hb2 hk hi)))
     go_ret
     exact ⟨czeq, czbl2 HB GE491 GE498⟩
    ·
     replace c26 := Bool.eq_false_iff.mpr c26
     subst c26
     have H1 : (some false) = some r := by rw [if_neg (show ¬ (false = true) by decide)] at H; exact H
     clear H
     have H := H1
     clear H1
     obtain rfl := Option.some.inj H
     obtain ⟨Ao34, co34, eo34⟩ := Kd.R_slice HO501.1
     subst eo34
     obtain ⟨Ao35, co35, eo35⟩ := Kd.R_slice HO506.1
     subst eo35
     go_wp2_with (first | (go_at_call 8; (with_reducible refine (vendmeterlaw_sameWrites.calls k _ _ t499 _ _ t504 true _ (czC HO501) ?side2 (czC HO506) ?side4 A23.out).mono ?_); (case side2 => exact (Kd.R_reads' HO501.1).2.1); (case side4 => exact (Kd.R_reads' HO506.1).2.1); rintro e w' ⟨rfl, ⟨nd, rfl⟩⟩) | (go_at_call 9; (with_reducible refine (vendmeterlaw_sameWords.calls k _ _ l0 _ _ t492 false _ ?side1 ?side2 (czC HO494) ?side4 A25.out).mono ?_); (case side1 => repeat (first | exact (Kd.C_below HR0.out (czbl2 HB GE491 GE498)) | (with_reducible refine Kd.C_alloc ?_ _) | (with_reducible refine Kd.C_drewN ?_ _) | (with_reducible refine Kd.C_drew ?_))); (case side2 => exact HC0.out); (case side4 => exact (Kd.R_reads' HO494.1).2.1); rintro e w' ⟨rfl, ⟨nd, rfl⟩⟩))
     go_ret
     exact ⟨czeq, czbl2 HB GE491 GE498⟩
   ·
    replace c24 := Bool.eq_false_iff.mpr c24
    subst c24
    have H1 : (some false) = some r := by rw [if_neg (show ¬ (false = true) by decide)] at H; exact H
    clear H
    have H := H1
    clear H1
    obtain rfl := Option.some.inj H
    obtain ⟨Ao36, co36, eo36⟩ := Kd.R_slice HO501.1
    subst eo36
    obtain ⟨Ao37, co37, eo37⟩ := Kd.R_slice HO506.1
    subst eo37
    go_wp2_with (first | (go_at_call 8; (with_reducible refine (vendmeterlaw_sameWrites.calls k _ _ t499 _ _ t504 false _ (czC HO501) ?side2 (czC HO506) ?side4 A23.out).mono ?_); (case side2 => exact (Kd.R_reads' HO501.1).2.1); (case side4 => exact (Kd.R_reads' HO506.1).2.1); rintro e w' ⟨rfl, ⟨nd, rfl⟩⟩))
    go_ret
    exact ⟨czeq, czbl2 HB GE491 GE498⟩
  ·
   obtain rfl := Option.some.inj H
   go_wp2
   go_ret
   exact ⟨czeq, czbl2 HB GE491 GE498⟩
 ·
  obtain rfl := Option.some.inj H
  go_wp2
  go_ret
  exact ⟨czeq, czbl2 HB GE491 GE498⟩

end Go.Proofs.YtcllddkmcnfejaaGreatDoor.PPocketKeys
