-- written by this session's program wip/xp/xprint.py (it drives the kit's print and adds to it)
import Derived.Test.YtcllddkmcnfejaaGreatDoorPPocketKeysx0
import Derived.Test.YtcllddkmcnfejaaGreatDoorPPocketKeysx3
import Derived.Test.YtcllddkmcnfejaaGreatDoorPPocketKeysx12
import Derived.Test.YtcllddkmcnfejaaGreatDoorPPocketKeysx13
import Derived.Test.YtcllddkmcnfejaaGreatDoorPPocketKeysx15
import Derived.Test.YtcllddkmcnfejaaGreatDoorPPocketKeysx18
import Derived.Test.YtcllddkmcnfejaaGreatDoorPPocketKeysx19
import Derived.Test.YtcllddkmcnfejaaGreatDoorPPocketKeysx21
namespace Go.Proofs.YtcllddkmcnfejaaGreatDoor.PPocketKeys
open Go.RowKit Go.Proofs.YtcllddkmcnfejaaGreatDoorW.PrintWords Go.Proofs.YtcllddkmcnfejaaGreatDoorW.PrintLast Go.Proofs.YtcllddkmcnfejaaGreatDoorW.PrintMore
attribute [local go_sem] max2_int min2_int max_two min_two max_three min_three max_four min_four
set_option linter.unusedVariables false
set_option linter.unusedSimpArgs false
set_option maxHeartbeats 8000000
set_option maxRecDepth 100000

attribute [local go_sem high] eqA53
/-! ### vendmeterref_SlotStored: function 54 -/
mutual
def vendmeterref_SlotStored.j0 : Nat → List Int → List Int → Int → Int → Int → Option ((List (S53)) × Int)
 | 0, _, _, _, _, _ => none
 | k + 1, x0, x1, x6, x7, x8 => if 0 ≤ (wrap64 (x7 * (wrap64 (x6 + 1)))) then (if (wrap64 (x7 * (wrap64 (x6 + 1)))) < (x0.length : Int) then (if (((rd x0 (wrap64 (x7 * (wrap64 (x6 + 1))))) + 1) % 4294967296) = 4 then (vendmeterref_SlotStored.j1 k x1 x6 x8 1) else (vendmeterref_SlotStored.j1 k x1 x6 x8 (((rd x0 (wrap64 (x7 * (wrap64 (x6 + 1))))) + 1) % 4294967296))) else (none)) else (none)
def vendmeterref_SlotStored.j1 : Nat → List Int → Int → Int → Int → Option ((List (S53)) × Int)
 | 0, _, _, _, _ => none
 | k + 1, x1, x6, x8, x9 => vendmeterref_SlotStored.l0 k x1 x6 x8 x9 (([(⟨x8, 0⟩ : S53)] : List (S53))) 0
def vendmeterref_SlotStored.l0 : Nat → List Int → Int → Int → Int → List (S53) → Int → Option ((List (S53)) × Int)
 | 0, _, _, _, _, _, _ => none
 | k + 1, x1, x6, x8, x9, x10, x11 => if x11 < x6 then (if 0 ≤ x11 then (if x11 < (x1.length : Int) then (if x10.length < 8796093022208 then (vendmeterref_SlotStored.l0 k x1 x6 x8 x9 (x10 ++ [(⟨wrap64 ((wrap64 (x8 + 1)) + x11), rd x1 x11⟩ : S53)]) (wrap64 (x11 + 1))) else (none)) else (none)) else (none)) else (if x10.length < 8796093022208 then (some ((x10 ++ [(⟨x8, x9⟩ : S53)]), 0)) else (none))
end
def vendmeterref_SlotStored.f (k : Nat) (l0 : List Int) (l1 : List Int) : Option ((List (S53)) × Int) := (vendmeterref_SlotFits.f (l0.length : Int) (l1.length : Int)).bind fun t422 => (if t422 = true then ((vendmeterref_counts.f k l0 (l1.length : Int)).bind fun t423 => (if t423 = 2 then (some (([] : List (S53)), 17)) else (if t423 = 0 then (vendmeterref_SlotStored.j0 k l0 l1 (l1.length : Int) t423 (wrap64 ((l1.length : Int) + 1))) else (vendmeterref_SlotStored.j0 k l0 l1 (l1.length : Int) t423 0)))) else (some (([] : List (S53)), 1)))
theorem vendmeterref_SlotStored.mono_l : ∀ k, (∀ y0 y1 y2 y3 y4, LeO (vendmeterref_SlotStored.j0 k y0 y1 y2 y3 y4) (vendmeterref_SlotStored.j0 (k + 1) y0 y1 y2 y3 y4)) ∧ (∀ y0 y1 y2 y3, LeO (vendmeterref_SlotStored.j1 k y0 y1 y2 y3) (vendmeterref_SlotStored.j1 (k + 1) y0 y1 y2 y3)) ∧ (∀ y0 y1 y2 y3 y4 y5, LeO (vendmeterref_SlotStored.l0 k y0 y1 y2 y3 y4 y5) (vendmeterref_SlotStored.l0 (k + 1) y0 y1 y2 y3 y4 y5))
 | 0 => ⟨fun _ _ _ _ _ r h => by simp [vendmeterref_SlotStored.j0] at h, fun _ _ _ _ r h => by simp [vendmeterref_SlotStored.j1] at h, fun _ _ _ _ _ _ r h => by simp [vendmeterref_SlotStored.l0] at h⟩
 | k + 1 => by
  obtain ⟨ih0, ih1, ih2⟩ := vendmeterref_SlotStored.mono_l k
  refine ⟨?_, ?_, ?_⟩
  ·
   intro y0 y1 y2 y3 y4
   unfold vendmeterref_SlotStored.j0
   repeat' first
   | (with_reducible exact ih0 _ _ _ _ _)
   | (with_reducible exact ih1 _ _ _ _)
   | (with_reducible exact ih2 _ _ _ _ _ _)
   | (with_reducible exact vendmeterref_counts.mono _ _ _)
   | (with_reducible exact LeO.refl _)
   | (with_reducible exact LeO.none _)
   | (with_reducible refine LeO.ite ?_ ?_)
   | (with_reducible refine LeO.bind ?_ (fun _ => ?_))
  ·
   intro y0 y1 y2 y3
   unfold vendmeterref_SlotStored.j1
   repeat' first
   | (with_reducible exact ih0 _ _ _ _ _)
   | (with_reducible exact ih1 _ _ _ _)
   | (with_reducible exact ih2 _ _ _ _ _ _)
   | (with_reducible exact vendmeterref_counts.mono _ _ _)
   | (with_reducible exact LeO.refl _)
   | (with_reducible exact LeO.none _)
   | (with_reducible refine LeO.ite ?_ ?_)
   | (with_reducible refine LeO.bind ?_ (fun _ => ?_))
  ·
   intro y0 y1 y2 y3 y4 y5
   unfold vendmeterref_SlotStored.l0
   repeat' first
   | (with_reducible exact ih0 _ _ _ _ _)
   | (with_reducible exact ih1 _ _ _ _)
   | (with_reducible exact ih2 _ _ _ _ _ _)
   | (with_reducible exact vendmeterref_counts.mono _ _ _)
   | (with_reducible exact LeO.refl _)
   | (with_reducible exact LeO.none _)
   | (with_reducible refine LeO.ite ?_ ?_)
   | (with_reducible refine LeO.bind ?_ (fun _ => ?_))
theorem vendmeterref_SlotStored.mono : ∀ a0 a1 k, LeO (vendmeterref_SlotStored.f k a0 a1) (vendmeterref_SlotStored.f (k + 1) a0 a1) := by
 intro a0 a1 k
 obtain ⟨ih0, ih1, ih2⟩ := vendmeterref_SlotStored.mono_l k
 unfold vendmeterref_SlotStored.f
 repeat' first
   | (with_reducible exact ih0 _ _ _ _ _)
   | (with_reducible exact ih1 _ _ _ _)
   | (with_reducible exact ih2 _ _ _ _ _ _)
   | (with_reducible exact vendmeterref_counts.mono _ _ _)
   | (with_reducible exact LeO.refl _)
   | (with_reducible exact LeO.none _)
   | (with_reducible refine LeO.ite ?_ ?_)
   | (with_reducible refine LeO.bind ?_ (fun _ => ?_))
theorem vendmeterref_SlotStored.calls (k : Nat) (A0 : Option Addr) (c0 : Nat) (l0 : List Int) (A1 : Option Addr) (c1 : Nat) (l1 : List Int) (r1 : List (S53)) (r2 : Int) (w : World) (hr0 : Kd.C (Kd.int .u32) w A0 l0.length l0) (hc0 : l0.length ≤ c0) (hr1 : Kd.C (Kd.int .u32) w A1 l1.length l1) (hc1 : l1.length ≤ c1) (h : vendmeterref_SlotStored.f k l0 l1 = some (r1, r2)) :
  Calls Tryz.prog 54 #[.slice A0 l0.length c0, .slice A1 l1.length c1] w fun e w' => ∃ v0_ : Value, e = .returned (.tuple #[v0_, .int .i64 r2]) ∧ Kd.R k53 53 w' w.heap.size (fun _ => True) v0_ r1 ∧ Below w.heap.size w w' := by
 have hu53 := Tryz.underlying53
 have HR0 := am hr0
 have HC0 := am hc0
 clear hr0 hc0
 have HR1 := am hr1
 have HC1 := am hc1
 clear hr1 hc1
 have HB := am (Below.refl w.heap.size w)
 have H : ((vendmeterref_SlotFits.f (l0.length : Int) (l1.length : Int)).bind fun t422 => (if t422 = true then ((vendmeterref_counts.f k l0 (l1.length : Int)).bind fun t423 => (if t423 = 2 then (some (([] : List (S53)), 17)) else (if t423 = 0 then (vendmeterref_SlotStored.j0 k l0 l1 (l1.length : Int) t423 (wrap64 ((l1.length : Int) + 1))) else (vendmeterref_SlotStored.j0 k l0 l1 (l1.length : Int) t423 0)))) else (some (([] : List (S53)), 1)))) = some (r1, r2) := h
 clear h
 replace H := Option.bind_eq_some_iff.mp H
 obtain ⟨t422, A30, H⟩ := H
 (try dsimp only at H)
 have A3 := am A30
 clear A30
 by_cases c4 : t422 = true
 ·
  subst c4
  have H1 : ((vendmeterref_counts.f k l0 (l1.length : Int)).bind fun t423 => (if t423 = 2 then (some (([] : List (S53)), 17)) else (if t423 = 0 then (vendmeterref_SlotStored.j0 k l0 l1 (l1.length : Int) t423 (wrap64 ((l1.length : Int) + 1))) else (vendmeterref_SlotStored.j0 k l0 l1 (l1.length : Int) t423 0)))) = some (r1, r2) := by rw [if_pos rfl] at H; exact H
  clear H
  have H := H1
  clear H1
  replace H := Option.bind_eq_some_iff.mp H
  obtain ⟨t423, A50, H⟩ := H
  (try dsimp only at H)
  have A5 := am A50
  clear A50
  have HC6 := am H
  clear H
  go_enter Tryz.func54, Tryz.ntmps54
  go_upto_region 5 with (first | ((with_reducible refine gate_callee (f := 75) rfl ?_); refine czgo (some 17) Tryz.func75 #[.int .i64 (l0.length : Int), .int .i64 (l1.length : Int)] ?_; (with_reducible refine (vendmeterref_SlotFits.calls (l0.length : Int) (l1.length : Int) true _ A3.out).mono ?_); rintro e w' ⟨rfl, ⟨nd, rfl⟩⟩; refine ⟨_, rfl, ?_⟩) | ((with_reducible refine gate_callee (f := 76) rfl ?_); refine czgo (some 21) Tryz.func76 #[.slice A0 l0.length c0, .int .i64 (l1.length : Int)] ?_; (with_reducible refine (vendmeterref_counts.calls k _ _ l0 (l1.length : Int) t423 _ ?side1 ?side2 A5.out).mono ?_); (case side1 => repeat (first | exact HR0.out | (with_reducible refine Kd.C_alloc ?_ _) | (with_reducible refine Kd.C_drewN ?_ _) | (with_reducible refine Kd.C_drew ?_))); (case side2 => exact HC0.out); rintro e w' ⟨rfl, ⟨nd, rfl⟩⟩; refine ⟨_, rfl, ?_⟩))
  have H := HC6.out
  clear HC6
  revert H
  refine czei (fun c7b0 c7b1 H => ?_) (fun c7 c7b0 c7b1 H => ?_)
  ·
   simp only [Option.some.injEq, Prod.mk.injEq] at H
   obtain ⟨rfl, rfl⟩ := H
   go_wp2
   go_ret2
   exact ⟨_, czeq, by first | exact Kd.R_nil _ _ _ _ _ | exact Kd.N_nil _ _ _ _ _ | exact Kd.V_nil _ _ _ _ _ | exact Kd.Q_nil _ _ _ _ _ | exact Kd.S_nil _ _ _ _ _, czbl HB⟩
  ·
   have HC8 := am H
   clear H
   go_upto_if 25 with (fail)
   go_cut [8] (fun v8 wc => ∃ (kq : Nat) (x8_7 : Int), v8 = .int .i64 x8_7 ∧ Aside0 (vendmeterref_SlotStored.j0 kq l0 l1 (l1.length : Int) t423 x8_7 = some (r1, r2)) ∧ Aside0 (kq ≤ k) ∧ Aside0 (Below w.heap.size w wc))
   case first =>
    have H := HC8.out
    clear HC8
    revert H
    refine czei (fun c9b0 c9b1 H => ?_) (fun c9 c9b0 c9b1 H => ?_)
    ·
     (first | rw [c9b0] | (simp only [i64_w, i32_w]; rw [c9b0]) | skip)
     have H' := am H
     clear H
     go_wp2
     go_meet
     case rel => exact ⟨_, (wrap64 ((l1.length : Int) + 1)), czr, H', ⟨by first | omega | exact Nat.le_refl _⟩, ⟨czbl HB⟩⟩
    ·
     (first | rw [c9b0] | (simp only [i64_w, i32_w]; rw [c9b0]) | skip)
     have H' := am H
     clear H
     go_wp2
     go_meet
     case rel => exact ⟨_, (0), czr, H', ⟨by first | omega | exact Nat.le_refl _⟩, ⟨czbl HB⟩⟩
   case rest =>
    clear HC8
    try clear c1
    try clear p2
    try clear c4
    try clear c5
    try clear p6
    try clear c7
    try clear c7b0
    try clear c7b1
    try clear c9
    try clear c9b0
    try clear c9b1
    obtain ⟨kq, x8_7, rfl, HA, HJ7, HB⟩ := hcut
    cases kq with
    | zero => exact absurd HA.out (by simp [vendmeterref_SlotStored.j0])
    | succ kj7 =>
     have H := HA.out
     clear HA
     simp only [vendmeterref_SlotStored.j0] at H
     obtain ⟨ji10, hji10⟩ : ∃ j_ : Int, (wrap64 (t423 * (wrap64 ((l1.length : Int) + 1)))) = j_ := ⟨_, rfl⟩
     replace H : (if 0 ≤ (ji10) then (if (ji10) < (l0.length : Int) then (if (((rd l0 (ji10)) + 1) % 4294967296) = 4 then (vendmeterref_SlotStored.j1 kj7 l1 (l1.length : Int) x8_7 1) else (vendmeterref_SlotStored.j1 kj7 l1 (l1.length : Int) x8_7 (((rd l0 (ji10)) + 1) % 4294967296))) else (none)) else (none)) = some (r1, r2) := by first | (rw [hji10] at H; exact H) | (simp only [hji10] at H ⊢; exact H)
     have hji10w : (IntKind.i64.wrap (t423 * (wrap64 ((l1.length : Int) + 1)))) = ji10 := (i64_w _).trans hji10
     by_cases c11 : 0 ≤ (ji10)
     ·
      rw [if_pos c11] at H
      have c11b0 : decide (0 ≤ (ji10)) = true := decide_eq_true c11
      clear c11
      by_cases c12 : (ji10) < (l0.length : Int)
      ·
       rw [if_pos c12] at H
       have c12b0 : decide ((ji10) < (l0.length : Int)) = true := decide_eq_true c12
       clear c12
       have HC13 := am H
       clear H
       have p424 : 0 ≤ ((ji10) : Int) := czd
       have q424 : (ji10) < (l0.length : Int) := czd
       obtain ⟨ad424, e424, hx424_0⟩ := Kd.at_int HR0.out (ji10) p424 q424
       cases e424
       replace hx424_0 := (HB.1.cell (World.block_lt_of_cell? w _ hx424_0)).trans hx424_0
       replace p424 := eq_true p424
       replace q424 := eq_true q424
       go_upto_if 37 with (fail)
       go_cut [9] (fun v9 wc => ∃ (kq : Nat) (x9_12 : Int), v9 = .int .u32 x9_12 ∧ Aside0 (vendmeterref_SlotStored.j1 kq l1 (l1.length : Int) x8_7 x9_12 = some (r1, r2)) ∧ Aside0 (kq ≤ kj7) ∧ Aside0 (Below w.heap.size w wc))
       case first =>
        have H := HC13.out
        clear HC13
        revert H
        refine czei (fun c14b0 c14b1 H => ?_) (fun c14 c14b0 c14b1 H => ?_)
        ·
         (first | rw [c14b0] | (simp only [i64_w, i32_w]; rw [c14b0]) | skip)
         have H' := am H
         clear H
         go_wp2
         go_meet
         case rel => exact ⟨_, (1), czr, H', ⟨by have := HJ7.out; first | omega | exact Nat.le_refl _⟩, ⟨czbl HB⟩⟩
        ·
         (first | rw [c14b0] | (simp only [i64_w, i32_w]; rw [c14b0]) | skip)
         have H' := am H
         clear H
         go_wp2
         go_meet
         case rel => exact ⟨_, (((rd l0 (ji10)) + 1) % 4294967296), (by first | rfl | (simp; done) | (simp only [← hji10] <;> (first | rfl | simp)) | (simp [*]; done)), H', ⟨by have := HJ7.out; first | omega | exact Nat.le_refl _⟩, ⟨czbl HB⟩⟩
       case rest =>
        clear HC13
        try clear c1
        try clear p2
        try clear c4
        try clear p4
        try clear q4
        try clear hx4
        try clear c5
        try clear p6
        try clear c7
        try clear c7b0
        try clear c7b1
        try clear c9
        try clear c9b0
        try clear c9b1
        try clear c11
        try clear c11b0
        try clear c12
        try clear c12b0
        try clear c14
        try clear c14b0
        try clear c14b1
        try clear hx424_0
        try clear p2
        try clear p424
        try clear p6
        try clear q424
        obtain ⟨kq, x9_12, rfl, HA, HJ12, HB⟩ := hcut
        cases kq with
        | zero => exact absurd HA.out (by simp [vendmeterref_SlotStored.j1])
        | succ kj12 =>
         have H := HA.out
         clear HA
         simp only [vendmeterref_SlotStored.j1] at H
         obtain ⟨y425, hy425⟩ : ∃ y_ : List (S53), y_ = (([(⟨x8_7, 0⟩ : S53)] : List (S53))) := ⟨_, rfl⟩
         replace H : (vendmeterref_SlotStored.l0 kj12 l1 (l1.length : Int) x8_7 x9_12 y425 0) = some (r1, r2) := by first | (rw [hy425]; with_reducible exact H) | (have H2_ := (Option.bind_some _ _).symm.trans H; rw [hy425]; with_reducible exact H2_) | (have H2_ := (Option.bind_some _ _).symm.trans H; with_reducible exact H2_) | with_reducible exact H | (rw [hy425]; exact H) | exact H
         have Ny425 := am hy425
         clear hy425
         have H' := am H
         clear H
         go_wp2_with (first | ((with_reducible refine gate_dst (N := 40) rfl ?_); refine Kd.R_lit k53 _ 53 ?hg (N := 40) ?hd (xs := ([(⟨x8_7, 0⟩ : S53)] : List (S53))) (inner := [.int .i64 x8_7, .int .u32 0]) (ok := fun _ => True) (okp := fun _ => True) ?hr ?hp (fun _ hk => hk) trivial (Below.refl _ _) (Nat.le_refl _) (by simp) ?_; (case hd => rfl); (case hg => rfl); (case hr => first | (go_simp; done) | (go_simp; rfl)); (case hp => exact (Reps.c2 (show Kd.M k53 _ _ _ (⟨x8_7, 0⟩ : S53) [.int .i64 x8_7, .int .u32 0] from (k53_mkM _ _ _ (⟨x8_7, 0⟩ : S53) )) (Reps.none _ _))); intro v426 w15 ho16 hb hg_ hnew_; clear hg_ hnew_; (first | rw [← Ny425.out] at ho16 | (simp only [Int.reduceToNat] at ho16; rw [← Ny425.out] at ho16)); have HO427 := am (Kd.R_lower ho16 (below_size (czbl HB))); replace HB := am (below_step (czbl HB) hb); clear hb ho16))
         go_loopg [10, 11] kj12 (fun kq v10 v11 w' => ∃ (x10_3 : List (S53)) (x11_3 : Int), v11 = .int .i64 x11_3 ∧ Aside0 (vendmeterref_SlotStored.l0 kq l1 (l1.length : Int) x8_7 x9_12 x10_3 x11_3 = some (r1, r2)) ∧ Aside0 (kq ≤ kj12) ∧ Aside0 (Kd.R k53 53 w' w.heap.size (fun _ => True) v10 x10_3) ∧ Aside0 (Below w.heap.size w w'))
         case atStart => exact ⟨(y425), (0), czr, H', ⟨Nat.le_refl _⟩, ⟨czR HO427⟩, ⟨czbl HB⟩⟩
         case round =>
          clear H'
          try clear c1
          try clear c2
          try clear p2
          try clear c4
          try clear p4
          try clear q4
          try clear hx4
          try clear c5
          try clear p6
          try clear c7
          try clear c7b0
          try clear c7b1
          try clear c9
          try clear c9b0
          try clear c9b1
          try clear c11
          try clear c11b0
          try clear c12
          try clear c12b0
          try clear c14
          try clear c14b0
          try clear c14b1
          try clear hx424_0
          try clear p2
          try clear p4
          try clear p424
          try clear p6
          try clear q4
          try clear q424
          obtain ⟨x10_3, x11_3, rfl, HA, HK3, HO_10, HB⟩ := hrel
          cases gk with
          | zero => exact absurd HA.out (by simp [vendmeterref_SlotStored.l0])
          | succ k3 =>
           have H := HA.out
           clear HA
           simp only [vendmeterref_SlotStored.l0] at H
           revert H
           refine czif (fun c17b0 H => ?_) (fun c17b0 H => ?_)
           ·
            by_cases c18 : 0 ≤ x11_3
            ·
             rw [if_pos c18] at H
             have c18b0 : decide (0 ≤ x11_3) = true := decide_eq_true c18
             clear c18
             by_cases c19 : x11_3 < (l1.length : Int)
             ·
              rw [if_pos c19] at H
              have c19b0 : decide (x11_3 < (l1.length : Int)) = true := decide_eq_true c19
              clear c19
              by_cases c20 : x10_3.length < 8796093022208
              ·
               rw [if_pos c20] at H
               have LMc20 := am c20
               clear c20
               obtain ⟨y429, hy429⟩ : ∃ y_ : List (S53), y_ = (x10_3 ++ [(⟨wrap64 ((wrap64 (x8_7 + 1)) + x11_3), rd l1 x11_3⟩ : S53)]) := ⟨_, rfl⟩
               replace H : (vendmeterref_SlotStored.l0 k3 l1 (l1.length : Int) x8_7 x9_12 y429 (wrap64 (x11_3 + 1))) = some (r1, r2) := by first | (rw [hy429]; with_reducible exact H) | (have H2_ := (Option.bind_some _ _).symm.trans H; rw [hy429]; with_reducible exact H2_) | (have H2_ := (Option.bind_some _ _).symm.trans H; with_reducible exact H2_) | with_reducible exact H | (rw [hy429]; exact H) | exact H
               have Ny429 := am hy429
               clear hy429
               have H' := am H
               clear H
               have p428 : 0 ≤ (x11_3 : Int) := czd
               have q428 : x11_3 < (l1.length : Int) := czd
               obtain ⟨ad428, e428, hx428_0⟩ := Kd.at_int HR1.out x11_3 p428 q428
               cases e428
               replace hx428_0 := (HB.1.cell (World.block_lt_of_cell? w _ hx428_0)).trans hx428_0
               replace p428 := eq_true p428
               replace q428 := eq_true q428
               go_wp2_with (first | ((with_reducible refine gate_builtin (b := .append) (xs := #[.tmp 46, .tmp 56]) rfl ?_); at_builtin; refine Kd.R_append k53 (w0 := w) w.heap.size rfl (.tmp 46) (.tmp 56) 28 53 (.agg #[(.int .i64 0), (.int .u32 0)]) 16 rfl Tryz.underlying28 info53 rfl (by decide) (by omega) u10 x10_3 (⟨wrap64 ((wrap64 (x8_7 + 1)) + x11_3), rd l1 x11_3⟩ : S53) [.int .i64 (wrap64 ((wrap64 (x8_7 + 1)) + x11_3)), .int .u32 (rd l1 x11_3)] (fun _ => True) (fun _ => False) rfl rfl ?aP (fun _ hk => hk.elim) ?aF ?aO ?aB ?aS ?aL ?_; (case aP => exact k53_mkM _ _ _ (⟨wrap64 ((wrap64 (x8_7 + 1)) + x11_3), rd l1 x11_3⟩ : S53)); (case aB => exact (czbl HB)); (case aF => exact (fun _ _ => trivial)); (case aO => exact (czR HO_10)); (case aS => exact (below_size (czbl HB))); (case aL => have := LMc20.out; omega); intro v430 w21 ho hb hg hat; rw [← Ny429.out] at ho; have HO431 := am (ho); replace HB := am (hb); clear HO_10; clear ho hb hg hat))
               go_roundg k3
               case measure => have := HJ7.out; have := HJ12.out; have := HK3.out; omega
               case rel => exact ⟨(y429), (wrap64 (x11_3 + 1)), czr, H', ⟨by have := HJ7.out; have := HJ12.out; have := HK3.out; omega⟩, ⟨czR HO431⟩, ⟨czbl HB⟩⟩
              ·
               rw [if_neg c20] at H
               exact absurd H (by simp)
             ·
              rw [if_neg c19] at H
              exact absurd H (by simp)
            ·
             rw [if_neg c18] at H
             exact absurd H (by simp)
           ·
            by_cases c22 : x10_3.length < 8796093022208
            ·
             rw [if_pos c22] at H
             have LMc22 := am c22
             clear c22
             obtain ⟨y432, hy432⟩ : ∃ y_ : List (S53), y_ = (x10_3 ++ [(⟨x8_7, x9_12⟩ : S53)]) := ⟨_, rfl⟩
             replace H : (some (y432, 0)) = some (r1, r2) := by first | (rw [hy432]; with_reducible exact H) | (have H2_ := (Option.bind_some _ _).symm.trans H; rw [hy432]; with_reducible exact H2_) | (have H2_ := (Option.bind_some _ _).symm.trans H; with_reducible exact H2_) | with_reducible exact H | (rw [hy432]; exact H) | exact H
             have Ny432 := am hy432
             clear hy432
             simp only [Option.some.injEq, Prod.mk.injEq] at H
             obtain ⟨rfl, rfl⟩ := H
             go_wp2_with (first | ((with_reducible refine gate_builtin (b := .append) (xs := #[.tmp 58, .tmp 62]) rfl ?_); at_builtin; refine Kd.R_append k53 (w0 := w) w.heap.size rfl (.tmp 58) (.tmp 62) 28 53 (.agg #[(.int .i64 0), (.int .u32 0)]) 16 rfl Tryz.underlying28 info53 rfl (by decide) (by omega) u10 x10_3 (⟨x8_7, x9_12⟩ : S53) [.int .i64 x8_7, .int .u32 x9_12] (fun _ => True) (fun _ => False) rfl rfl ?aP (fun _ hk => hk.elim) ?aF ?aO ?aB ?aS ?aL ?_; (case aP => exact k53_mkM _ _ _ (⟨x8_7, x9_12⟩ : S53)); (case aB => exact (czbl HB)); (case aF => exact (fun _ _ => trivial)); (case aO => exact (czR HO_10)); (case aS => exact (below_size (czbl HB))); (case aL => have := LMc22.out; omega); intro v433 w23 ho hb hg hat; rw [← Ny432.out] at ho; have HO434 := am (ho); replace HB := am (hb); clear HO_10; clear ho hb hg hat))
             go_ret2
             exact ⟨_, by first | rfl | (simp [errW_none, errW_some] <;> rfl) | (simp only [← hji10]; first | rfl | (simp [errW_none, errW_some] <;> rfl)) | (simp [*, errW_none, errW_some] <;> rfl), czR HO434, czbl HB⟩
            ·
             rw [if_neg c22] at H
             exact absurd H (by simp)
      ·
       rw [if_neg c12] at H
       exact absurd H (by simp)
     ·
      rw [if_neg c11] at H
      exact absurd H (by simp)
 ·
  replace c4 := Bool.eq_false_iff.mpr c4
  subst c4
  have H1 : (some (([] : List (S53)), 1)) = some (r1, r2) := by rw [if_neg (show ¬ (false = true) by decide)] at H; exact H
  clear H
  have H := H1
  clear H1
  simp only [Option.some.injEq, Prod.mk.injEq] at H
  obtain ⟨rfl, rfl⟩ := H
  go_enter Tryz.func54, Tryz.ntmps54
  go_wp2_with (first | ((with_reducible refine gate_callee (f := 75) rfl ?_); refine czgo (some 17) Tryz.func75 #[.int .i64 (l0.length : Int), .int .i64 (l1.length : Int)] ?_; (with_reducible refine (vendmeterref_SlotFits.calls (l0.length : Int) (l1.length : Int) false _ A3.out).mono ?_); rintro e w' ⟨rfl, ⟨nd, rfl⟩⟩; refine ⟨_, rfl, ?_⟩))
  go_ret2
  exact ⟨_, czeq, by first | exact Kd.R_nil _ _ _ _ _ | exact Kd.N_nil _ _ _ _ _ | exact Kd.V_nil _ _ _ _ _ | exact Kd.Q_nil _ _ _ _ _ | exact Kd.S_nil _ _ _ _ _, czbl HB⟩

/-! ### vendmeterref_stored: function 19 -/
def vendmeterref_stored.f (k : Nat) (l0 : List Int) (a1_0 : Int) (a1_1 : Int) (a1_2 : Int) (a1_3 : Int) (a1_4 : Int) (a1_5 : Int) (a1_6 : Int) (a2_0 : Int) (a2_1 : Int) (a2_2 : Int) (a2_3 : Int) (a2_4 : Int) (a2_5 : Int) (a2_6 : Int) : Option ((List (S53))) := (vendmeterref_MeterWorded.f k a1_0 a1_1 a1_2 a1_3 a1_4 a1_5 a1_6).bind fun bt437 => ((vendmeterref_MeterWorded.f k a2_0 a2_1 a2_2 a2_3 a2_4 a2_5 a2_6).bind fun bt441 => ((vendmeterref_Differs.f k bt437.1 bt441.1).bind fun bt445 => (if (bt445.1.length : Int) = 0 then (some ([] : List (S53))) else ((vendmeterref_SlotStored.f k l0 bt441.1).bind fun bt449 => (some bt449.1)))))
theorem vendmeterref_stored.mono : ∀ a0 a1 a2 a3 a4 a5 a6 a7 a8 a9 a10 a11 a12 a13 a14 k, LeO (vendmeterref_stored.f k a0 a1 a2 a3 a4 a5 a6 a7 a8 a9 a10 a11 a12 a13 a14) (vendmeterref_stored.f (k + 1) a0 a1 a2 a3 a4 a5 a6 a7 a8 a9 a10 a11 a12 a13 a14) := by
 intro a0 a1 a2 a3 a4 a5 a6 a7 a8 a9 a10 a11 a12 a13 a14 k
 unfold vendmeterref_stored.f
 repeat' first
   | (with_reducible exact vendmeterref_Differs.mono _ _ _)
   | (with_reducible exact vendmeterref_MeterWorded.mono _ _ _ _ _ _ _ _)
   | (with_reducible exact vendmeterref_SlotStored.mono _ _ _)
   | (with_reducible exact LeO.refl _)
   | (with_reducible exact LeO.none _)
   | (with_reducible refine LeO.ite ?_ ?_)
   | (with_reducible refine LeO.bind ?_ (fun _ => ?_))
theorem vendmeterref_stored.calls (k : Nat) (A0 : Option Addr) (c0 : Nat) (l0 : List Int) (a1_0 : Int) (a1_1 : Int) (a1_2 : Int) (a1_3 : Int) (a1_4 : Int) (a1_5 : Int) (a1_6 : Int) (a2_0 : Int) (a2_1 : Int) (a2_2 : Int) (a2_3 : Int) (a2_4 : Int) (a2_5 : Int) (a2_6 : Int) (r : List (S53)) (w : World) (hr0 : Kd.C (Kd.int .u32) w A0 l0.length l0) (hc0 : l0.length ≤ c0) (h : vendmeterref_stored.f k l0 a1_0 a1_1 a1_2 a1_3 a1_4 a1_5 a1_6 a2_0 a2_1 a2_2 a2_3 a2_4 a2_5 a2_6 = some r) :
  Calls Tryz.prog 19 #[.slice A0 l0.length c0, .agg #[.int .i64 a1_0, .int .i64 a1_1, .int .i64 a1_2, .int .i64 a1_3, .int .u64 a1_4, .int .i64 a1_5, .int .i64 a1_6], .agg #[.int .i64 a2_0, .int .i64 a2_1, .int .i64 a2_2, .int .i64 a2_3, .int .u64 a2_4, .int .i64 a2_5, .int .i64 a2_6]] w fun e w' => ∃ v0_ : Value, e = .returned (v0_) ∧ Kd.R k53 53 w' w.heap.size (fun _ => True) v0_ r ∧ Below w.heap.size w w' := by
 have hu40 := Tryz.underlying40
 have HR0 := am hr0
 have HC0 := am hc0
 clear hr0 hc0
 have HB := am (Below.refl w.heap.size w)
 have H : ((vendmeterref_MeterWorded.f k a1_0 a1_1 a1_2 a1_3 a1_4 a1_5 a1_6).bind fun bt437 => ((vendmeterref_MeterWorded.f k a2_0 a2_1 a2_2 a2_3 a2_4 a2_5 a2_6).bind fun bt441 => ((vendmeterref_Differs.f k bt437.1 bt441.1).bind fun bt445 => (if (bt445.1.length : Int) = 0 then (some ([] : List (S53))) else ((vendmeterref_SlotStored.f k l0 bt441.1).bind fun bt449 => (some bt449.1)))))) = some r := h
 clear h
 replace H := Option.bind_eq_some_iff.mp H
 obtain ⟨⟨t437, t440⟩, A40, H⟩ := H
 (try dsimp only at H)
 have A4 := am A40
 clear A40
 replace H := Option.bind_eq_some_iff.mp H
 obtain ⟨⟨t441, t444⟩, A50, H⟩ := H
 (try dsimp only at H)
 have A5 := am A50
 clear A50
 replace H := Option.bind_eq_some_iff.mp H
 obtain ⟨⟨t445, t446⟩, A60, H⟩ := H
 (try dsimp only at H)
 have A6 := am A60
 clear A60
 have HC7 := am H
 clear H
 go_enter Tryz.func19, Tryz.ntmps19
 go_upto_region 4 with (first | ((with_reducible refine gate_dst (N := 4) rfl ?_); refine czbox 4 #[.int .i64 a1_0, .int .i64 a1_1, .int .i64 a1_2, .int .i64 a1_3, .int .u64 a1_4, .int .i64 a1_5, .int .i64 a1_6] 40 ?_; intro gb435 hg w8 hbox hb; have BK435 := am (hbox); have GW435 := czsz hg (czbl HB); have GE435 := czsz hg (czbl HB); replace HB := am (below_step (czbl HB) hb); clear hb hbox hg) | ((with_reducible refine gate_dst (N := 5) rfl ?_); refine czbox 5 #[.int .i64 a2_0, .int .i64 a2_1, .int .i64 a2_2, .int .i64 a2_3, .int .u64 a2_4, .int .i64 a2_5, .int .i64 a2_6] 40 ?_; intro gb436 hg w9 hbox hb; have BK436 := am (hbox); have GW436 := czsz hg (czbl1 HB GE435); have GE436 := czsz hg (czbl1 HB GE435); have NB435_436 := czne BK435 hg; have NB436_435 := czen BK435 hg; replace BK435 := czbb BK435 hb; replace HB := am (below_step (czbl1 HB GE435) hb); clear hb hbox hg; have hnb10 := NB435_436.1; have hnc10 := NB436_435.1; obtain ⟨hcz11_0, hcz11_1, hcz11_2, hcz11_3, hcz11_4, hcz11_5, hcz11_6⟩ := czc7 BK435.1; obtain ⟨hfz11_0, hfz11_1, hfz11_2, hfz11_3, hfz11_4, hfz11_5, hfz11_6⟩ := czf7 BK435.1) | ((with_reducible refine gate_callee (f := 52) rfl ?_); refine czgo (some 17) Tryz.func52 #[.agg #[.int .i64 a1_0, .int .i64 a1_1, .int .i64 a1_2, .int .i64 a1_3, .int .u64 a1_4, .int .i64 a1_5, .int .i64 a1_6]] ?_; (with_reducible refine (vendmeterref_MeterWorded.calls k a1_0 a1_1 a1_2 a1_3 a1_4 a1_5 a1_6 t437 t440 _ A4.out).mono ?_); rintro e w12 ⟨v438, rfl, ho0, hb⟩; refine ⟨_, rfl, ?_⟩; have HO439 := am (Kd.R_lower ho0 (below_size (czbl2 HB GE435 GE436))); replace BK435 := czbb BK435 hb; replace BK436 := czbb BK436 hb; replace HB := am (below_step (czbl2 HB GE435 GE436) hb); (try clear hb hb2 hk hi ho0); obtain ⟨hcz13_0, hcz13_1, hcz13_2, hcz13_3, hcz13_4, hcz13_5, hcz13_6⟩ := czc7 BK436.1; obtain ⟨hfz13_0, hfz13_1, hfz13_2, hfz13_3, hfz13_4, hfz13_5, hfz13_6⟩ := czf7 BK436.1) | ((with_reducible refine gate_callee (f := 52) rfl ?_); refine czgo (some 22) Tryz.func52 #[.agg #[.int .i64 a2_0, .int .i64 a2_1, .int .i64 a2_2, .int .i64 a2_3, .int .u64 a2_4, .int .i64 a2_5, .int .i64 a2_6]] ?_; (with_reducible refine (vendmeterref_MeterWorded.calls k a2_0 a2_1 a2_2 a2_3 a2_4 a2_5 a2_6 t441 t444 _ A5.out).mono ?_); rintro e w14 ⟨v442, rfl, ho0, hb⟩; refine ⟨_, rfl, ?_⟩; have HO443 := am (Kd.R_lower (Kd.R_new' ho0 (Kd.R_lt (czR HO439))) (below_size (czbl2 HB GE435 GE436))); replace HO439 := am (Kd.R_elder' (czR HO439) (Kd.R_base ho0) hb); replace BK435 := czbb BK435 hb; replace BK436 := czbb BK436 hb; replace HB := am (below_step (czbl2 HB GE435 GE436) hb); (try clear hb hb2 hk hi ho0); obtain ⟨Ao15, co15, eo15⟩ := Kd.R_slice HO439.1; subst eo15; obtain ⟨Ao16, co16, eo16⟩ := Kd.R_slice HO443.1; subst eo16) | ((with_reducible refine gate_callee (f := 53) rfl ?_); refine czgo (some 28) Tryz.func53 #[.slice Ao15 t437.length co15, .slice Ao16 t441.length co16] ?_; (with_reducible refine (vendmeterref_Differs.calls k _ _ t437 _ _ t441 t445 t446 _ (czC HO439) ?side2 (czC HO443) ?side4 A6.out).mono ?_); (case side2 => exact (Kd.R_reads' HO439.1).2.1); (case side4 => exact (Kd.R_reads' HO443.1).2.1); rintro e w17 ⟨v447, rfl, ho0, hb⟩; refine ⟨_, rfl, ?_⟩; have HO448 := am (Kd.R_lower ho0 (below_size (czbl2 HB GE435 GE436))); replace HO439 := am (Kd.R_below (czR HO439) hb); replace HO443 := am (Kd.R_below (czR HO443) hb); replace BK435 := czbb BK435 hb; replace BK436 := czbb BK436 hb; replace HB := am (below_step (czbl2 HB GE435 GE436) hb); (try clear hb hb2 hk hi ho0)))
 have H := HC7.out
 clear HC7
 revert H
 refine czei (fun c18b0 c18b1 H => ?_) (fun c18 c18b0 c18b1 H => ?_)
 ·
  obtain rfl := Option.some.inj H
  obtain ⟨Ao19, co19, eo19⟩ := Kd.R_slice HO448.1
  subst eo19
  go_wp2
  go_ret
  exact ⟨_, czeq, by first | exact Kd.R_nil _ _ _ _ _ | exact Kd.N_nil _ _ _ _ _ | exact Kd.V_nil _ _ _ _ _ | exact Kd.Q_nil _ _ _ _ _ | exact Kd.S_nil _ _ _ _ _, czbl2 HB GE435 GE436⟩
 ·
  have c18b2 : ¬ (t445 = []) := fun h_ => c18 (by rw [h_]; rfl)
  replace H := Option.bind_eq_some_iff.mp H
  obtain ⟨⟨t449, t450⟩, A200, H⟩ := H
  (try dsimp only at H)
  have A20 := am A200
  clear A200
  obtain rfl := Option.some.inj H
  obtain ⟨Ao21, co21, eo21⟩ := Kd.R_slice HO448.1
  subst eo21
  go_wp2_with (first | ((with_reducible refine gate_callee (f := 54) rfl ?_); refine czgo (some 37) Tryz.func54 #[.slice A0 l0.length c0, .slice Ao16 t441.length co16] ?_; (with_reducible refine (vendmeterref_SlotStored.calls k _ _ l0 _ _ t441 t449 t450 _ ?side1 ?side2 (czC HO443) ?side4 A20.out).mono ?_); (case side1 => repeat (first | exact (Kd.C_below HR0.out HB.1) | (with_reducible refine Kd.C_alloc ?_ _) | (with_reducible refine Kd.C_drewN ?_ _) | (with_reducible refine Kd.C_drew ?_))); (case side2 => exact HC0.out); (case side4 => exact (Kd.R_reads' HO443.1).2.1); rintro e w22 ⟨v451, rfl, ho0, hb⟩; refine ⟨_, rfl, ?_⟩; have HO452 := am (Kd.R_lower (Kd.R_new' ho0 (Kd.R_lt (czR HO448))) (below_size (czbl2 HB GE435 GE436))); replace HO439 := am (Kd.R_below (czR HO439) hb); replace HO443 := am (Kd.R_below (czR HO443) hb); replace HO448 := am (Kd.R_elder' (czR HO448) (Kd.R_base ho0) hb); replace BK435 := czbb BK435 hb; replace BK436 := czbb BK436 hb; replace HB := am (below_step (czbl2 HB GE435 GE436) hb); (try clear hb hb2 hk hi ho0)))
  go_ret
  exact ⟨_, czeq, by (with_reducible repeat (first | apply Kd.R_alloc | apply Kd.R_drewN | apply Kd.R_drew)); exact Kd.R_mono HO452.1 (fun _ hk => trivial), czbl2 HB GE435 GE436⟩

/-! ### vendmeterref_PocketKeyed: function 7 -/
def vendmeterref_PocketKeyed.f (k : Nat) (l0 : List Int) (l1_0 : List (S55)) (a2 : ByteArray) : Option ((List (S53)) × Int × Int) := (vendmeterref_Booted.f k l0).bind fun bt454 => (if bt454.2.2.2.2.2.2.2 = 0 then ((vendmeterref_Parsed.f k a2).bind fun bt463 => (if bt463.2.2.2.2 = 0 then ((vendmeterref_OracleMay.f k l1_0).bind fun t469 => (if t469 = true then ((vendmeterref_MeterKeyed.f k bt454.1 bt454.2.1 bt454.2.2.1 bt454.2.2.2.1 bt454.2.2.2.2.1 bt454.2.2.2.2.2.1 bt454.2.2.2.2.2.2.1 l1_0 bt463.1 bt463.2.1 bt463.2.2.1 bt463.2.2.2.1).bind fun bt470 => ((vendmeterref_stored.f k l0 bt454.1 bt454.2.1 bt454.2.2.1 bt454.2.2.2.1 bt454.2.2.2.2.1 bt454.2.2.2.2.2.1 bt454.2.2.2.2.2.2.1 bt470.1 bt470.2.1 bt470.2.2.1 bt470.2.2.2.1 bt470.2.2.2.2.1 bt470.2.2.2.2.2.1 bt470.2.2.2.2.2.2.1).bind fun t480 => (some (t480, bt470.2.2.2.2.2.2.2.1, bt470.2.2.2.2.2.2.2.2)))) else (some (([] : List (S53)), 0, 5)))) else (some (([] : List (S53)), 0, bt463.2.2.2.2)))) else (some (([] : List (S53)), 0, bt454.2.2.2.2.2.2.2)))
theorem vendmeterref_PocketKeyed.mono : ∀ a0 a1 a2 k, LeO (vendmeterref_PocketKeyed.f k a0 a1 a2) (vendmeterref_PocketKeyed.f (k + 1) a0 a1 a2) := by
 intro a0 a1 a2 k
 unfold vendmeterref_PocketKeyed.f
 repeat' first
   | (with_reducible exact vendmeterref_Booted.mono _ _)
   | (with_reducible exact vendmeterref_MeterKeyed.mono _ _ _ _ _ _ _ _ _ _ _ _ _)
   | (with_reducible exact vendmeterref_OracleMay.mono _ _)
   | (with_reducible exact vendmeterref_Parsed.mono _ _)
   | (with_reducible exact vendmeterref_stored.mono _ _ _ _ _ _ _ _ _ _ _ _ _ _ _ _)
   | (with_reducible exact LeO.refl _)
   | (with_reducible exact LeO.none _)
   | (with_reducible refine LeO.ite ?_ ?_)
   | (with_reducible refine LeO.bind ?_ (fun _ => ?_))
theorem vendmeterref_PocketKeyed.calls (k : Nat) (A0 : Option Addr) (c0 : Nat) (l0 : List Int) (A1_0 : Option Addr) (c1_0 : Nat) (l1_0 : List (S55)) (a2 : ByteArray) (r1 : List (S53)) (r2 : Int) (r3 : Int) (w : World) (hr0 : Kd.C (Kd.int .u32) w A0 l0.length l0) (hc0 : l0.length ≤ c0) (hr1_0 : Kd.C k55 w A1_0 l1_0.length l1_0) (hc1_0 : l1_0.length ≤ c1_0) (h : vendmeterref_PocketKeyed.f k l0 l1_0 a2 = some (r1, r2, r3)) :
  Calls Tryz.prog 7 #[.slice A0 l0.length c0, .agg #[.slice A1_0 l1_0.length c1_0], .string a2] w fun e w' => ∃ v0_ : Value, e = .returned (.tuple #[v0_, .int .i64 r2, .int .i64 r3]) ∧ Kd.R k53 53 w' w.heap.size (fun _ => True) v0_ r1 ∧ Below w.heap.size w w' := by
 have hu25 := Tryz.underlying25
 have hu40 := Tryz.underlying40
 have hu44 := Tryz.underlying44
 have HR0 := am hr0
 have HC0 := am hc0
 clear hr0 hc0
 have HR1_0 := am hr1_0
 have HC1_0 := am hc1_0
 clear hr1_0 hc1_0
 have HB := am (Below.refl w.heap.size w)
 have H : ((vendmeterref_Booted.f k l0).bind fun bt454 => (if bt454.2.2.2.2.2.2.2 = 0 then ((vendmeterref_Parsed.f k a2).bind fun bt463 => (if bt463.2.2.2.2 = 0 then ((vendmeterref_OracleMay.f k l1_0).bind fun t469 => (if t469 = true then ((vendmeterref_MeterKeyed.f k bt454.1 bt454.2.1 bt454.2.2.1 bt454.2.2.2.1 bt454.2.2.2.2.1 bt454.2.2.2.2.2.1 bt454.2.2.2.2.2.2.1 l1_0 bt463.1 bt463.2.1 bt463.2.2.1 bt463.2.2.2.1).bind fun bt470 => ((vendmeterref_stored.f k l0 bt454.1 bt454.2.1 bt454.2.2.1 bt454.2.2.2.1 bt454.2.2.2.2.1 bt454.2.2.2.2.2.1 bt454.2.2.2.2.2.2.1 bt470.1 bt470.2.1 bt470.2.2.1 bt470.2.2.2.1 bt470.2.2.2.2.1 bt470.2.2.2.2.2.1 bt470.2.2.2.2.2.2.1).bind fun t480 => (some (t480, bt470.2.2.2.2.2.2.2.1, bt470.2.2.2.2.2.2.2.2)))) else (some (([] : List (S53)), 0, 5)))) else (some (([] : List (S53)), 0, bt463.2.2.2.2)))) else (some (([] : List (S53)), 0, bt454.2.2.2.2.2.2.2)))) = some (r1, r2, r3) := h
 clear h
 replace H := Option.bind_eq_some_iff.mp H
 obtain ⟨⟨t454, t455, t456, t457, t458, t459, t460, t461⟩, A40, H⟩ := H
 (try dsimp only at H)
 have A4 := am A40
 clear A40
 have HC5 := am H
 clear H
 go_enter Tryz.func7, Tryz.ntmps7
 go_upto_region 2 with (first | ((with_reducible refine gate_dst (N := 4) rfl ?_); refine czbox 4 #[.slice A1_0 l1_0.length c1_0] 25 ?_; intro gb453 hg w6 hbox hb; have BK453 := am (hbox); have GW453 := czsz hg (czbl HB); have GE453 := czsz hg (czbl HB); replace HB := am (below_step (czbl HB) hb); clear hb hbox hg) | ((with_reducible refine gate_callee (f := 15) rfl ?_); refine czgo (some 16) Tryz.func15 #[.slice A0 l0.length c0] ?_; (with_reducible refine (vendmeterref_Booted.calls k _ _ l0 t454 t455 t456 t457 t458 t459 t460 t461 _ ?side1 ?side2 A4.out).mono ?_); (case side1 => repeat (first | exact (Kd.C_below HR0.out HB.1) | (with_reducible refine Kd.C_alloc ?_ _) | (with_reducible refine Kd.C_drewN ?_ _) | (with_reducible refine Kd.C_drew ?_))); (case side2 => exact HC0.out); rintro e w7 ⟨rfl, hb⟩; refine ⟨_, rfl, ?_⟩; replace BK453 := czbb BK453 hb; replace HB := am (below_step (czbl1 HB GE453) hb); (try clear hb hb2 hk hi)) | ((with_reducible refine gate_dst (N := 9) rfl ?_); refine czbox 9 #[.int .i64 0, .int .i64 0, .int .i64 0, .int .i64 0, .int .u64 0, .int .i64 0, .int .i64 0] 40 ?_; intro gb462 hg w8 hbox hb; have BK462 := am (hbox); have GW462 := czsz hg (czbl1 HB GE453); have GE462 := czsz hg (czbl1 HB GE453); have NB453_462 := czne BK453 hg; have NB462_453 := czen BK453 hg; replace BK453 := czbb BK453 hb; replace HB := am (below_step (czbl1 HB GE453) hb); clear hb hbox hg; have hnb9 := NB462_453.1; have hnc9 := NB453_462.1; obtain ⟨hcz10_0, hcz10_1, hcz10_2, hcz10_3, hcz10_4, hcz10_5, hcz10_6⟩ := czc7 BK462.1; obtain ⟨hfz10_0, hfz10_1, hfz10_2, hfz10_3, hfz10_4, hfz10_5, hfz10_6⟩ := czf7 BK462.1))
 have H := HC5.out
 clear HC5
 revert H
 refine czei (fun c11b0 c11b1 H => ?_) (fun c11 c11b0 c11b1 H => ?_)
 ·
  replace H := Option.bind_eq_some_iff.mp H
  obtain ⟨⟨t463, t464, t465, t466, t467⟩, A120, H⟩ := H
  (try dsimp only at H)
  have A12 := am A120
  clear A120
  have HC13 := am H
  clear H
  go_upto_region 5 with (first | ((with_reducible refine gate_callee (f := 16) rfl ?_); refine czgo (some 24) Tryz.func16 #[.string a2] ?_; (with_reducible refine (vendmeterref_Parsed.calls k a2 t463 t464 t465 t466 t467 _ A12.out).mono ?_); rintro e w14 ⟨rfl, hb⟩; refine ⟨_, rfl, ?_⟩; replace BK453 := am (blk_below (g := gb453) (o := .cells #[.slice A1_0 l1_0.length c1_0] 25 (0, 0)) (by (with_reducible repeat (first | apply czxn | apply czxd | apply czxa)); refine blk_far ?_ NB453_462.1 _; (with_reducible repeat (first | apply czxn | apply czxd | apply czxa)); refine blk_far ?_ NB453_462.1 _; (with_reducible repeat (first | apply czxn | apply czxd | apply czxa)); refine blk_far ?_ NB453_462.1 _; (with_reducible repeat (first | apply czxn | apply czxd | apply czxa)); refine blk_far ?_ NB453_462.1 _; (with_reducible repeat (first | apply czxn | apply czxd | apply czxa)); refine blk_far ?_ NB453_462.1 _; (with_reducible repeat (first | apply czxn | apply czxd | apply czxa)); refine blk_far ?_ NB453_462.1 _; (with_reducible repeat (first | apply czxn | apply czxd | apply czxa)); refine blk_far ?_ NB453_462.1 _; (with_reducible repeat (first | apply czxn | apply czxd | apply czxa)); exact BK453.1) hb); replace BK462 := am (blk_below (g := gb462) (o := .cells #[.int .i64 t454, .int .i64 t455, .int .i64 t456, .int .i64 t457, .int .u64 t458, .int .i64 t459, .int .i64 t460] 40 (0, 0)) (by (with_reducible repeat (first | apply czxn | apply czxd | apply czxa)); refine blk_put (cs := #[.int .i64 t454, .int .i64 t455, .int .i64 t456, .int .i64 t457, .int .u64 t458, .int .i64 t459, .int .i64 0]) ?_ 6 _ rfl; (with_reducible repeat (first | apply czxn | apply czxd | apply czxa)); refine blk_put (cs := #[.int .i64 t454, .int .i64 t455, .int .i64 t456, .int .i64 t457, .int .u64 t458, .int .i64 0, .int .i64 0]) ?_ 5 _ rfl; (with_reducible repeat (first | apply czxn | apply czxd | apply czxa)); refine blk_put (cs := #[.int .i64 t454, .int .i64 t455, .int .i64 t456, .int .i64 t457, .int .u64 0, .int .i64 0, .int .i64 0]) ?_ 4 _ rfl; (with_reducible repeat (first | apply czxn | apply czxd | apply czxa)); refine blk_put (cs := #[.int .i64 t454, .int .i64 t455, .int .i64 t456, .int .i64 0, .int .u64 0, .int .i64 0, .int .i64 0]) ?_ 3 _ rfl; (with_reducible repeat (first | apply czxn | apply czxd | apply czxa)); refine blk_put (cs := #[.int .i64 t454, .int .i64 t455, .int .i64 0, .int .i64 0, .int .u64 0, .int .i64 0, .int .i64 0]) ?_ 2 _ rfl; (with_reducible repeat (first | apply czxn | apply czxd | apply czxa)); refine blk_put (cs := #[.int .i64 t454, .int .i64 0, .int .i64 0, .int .i64 0, .int .u64 0, .int .i64 0, .int .i64 0]) ?_ 1 _ rfl; (with_reducible repeat (first | apply czxn | apply czxd | apply czxa)); refine blk_put (cs := #[.int .i64 0, .int .i64 0, .int .i64 0, .int .i64 0, .int .u64 0, .int .i64 0, .int .i64 0]) ?_ 0 _ rfl; (with_reducible repeat (first | apply czxn | apply czxd | apply czxa)); exact BK462.1) hb); replace HB := am (below_step (czbl2 HB GE453 GE462) hb); (try clear hb hb2 hk hi)) | ((with_reducible refine gate_dst (N := 11) rfl ?_); refine czbox 11 #[.int .i64 0, .int .i64 0, .int .i64 0, .int .i64 0] 44 ?_; intro gb468 hg w15 hbox hb; have BK468 := am (hbox); have GW468 := czsz hg (czbl2 HB GE453 GE462); have GE468 := czsz hg (czbl2 HB GE453 GE462); have NB453_468 := czne BK453 hg; have NB468_453 := czen BK453 hg; have NB462_468 := czne BK462 hg; have NB468_462 := czen BK462 hg; replace BK453 := czbb BK453 hb; replace BK462 := czbb BK462 hb; replace HB := am (below_step (czbl2 HB GE453 GE462) hb); clear hb hbox hg; have hnb16 := NB468_453.1; have hnc16 := NB453_468.1; have hnb17 := NB468_462.1; have hnc17 := NB462_468.1; obtain ⟨hcz18_0, hcz18_1, hcz18_2, hcz18_3⟩ := czc4 BK468.1; obtain ⟨hfz18_0, hfz18_1, hfz18_2, hfz18_3⟩ := czf4 BK468.1))
  have H := HC13.out
  clear HC13
  revert H
  refine czei (fun c19b0 c19b1 H => ?_) (fun c19 c19b0 c19b1 H => ?_)
  ·
   replace H := Option.bind_eq_some_iff.mp H
   obtain ⟨t469, A200, H⟩ := H
   (try dsimp only at H)
   have A20 := am A200
   clear A200
   by_cases c21 : t469 = true
   ·
    subst c21
    have H1 : ((vendmeterref_MeterKeyed.f k t454 t455 t456 t457 t458 t459 t460 l1_0 t463 t464 t465 t466).bind fun bt470 => ((vendmeterref_stored.f k l0 t454 t455 t456 t457 t458 t459 t460 bt470.1 bt470.2.1 bt470.2.2.1 bt470.2.2.2.1 bt470.2.2.2.2.1 bt470.2.2.2.2.2.1 bt470.2.2.2.2.2.2.1).bind fun t480 => (some (t480, bt470.2.2.2.2.2.2.2.1, bt470.2.2.2.2.2.2.2.2)))) = some (r1, r2, r3) := by rw [if_pos rfl] at H; exact H
    clear H
    have H := H1
    clear H1
    replace H := Option.bind_eq_some_iff.mp H
    obtain ⟨⟨t470, t471, t472, t473, t474, t475, t476, t477, t478⟩, A220, H⟩ := H
    (try dsimp only at H)
    have A22 := am A220
    clear A220
    replace H := Option.bind_eq_some_iff.mp H
    obtain ⟨t480, A230, H⟩ := H
    (try dsimp only at H)
    have A23 := am A230
    clear A230
    simp only [Option.some.injEq, Prod.mk.injEq] at H
    obtain ⟨rfl, rfl, rfl⟩ := H
    have hnb24 := NB453_462.1
    have hnc24 := NB462_453.1
    have hnb25 := NB453_468.1
    have hnc25 := NB468_453.1
    have hcz26_0 : w15.cell? ⟨gb453, 0, none⟩ = some (.slice A1_0 l1_0.length c1_0) := (blk_cell BK453.1 0).trans rfl
    have hfz26_0 := blk_frozen BK453.1 0
    go_wp2_with (first | ((with_reducible refine gate_callee (f := 17) rfl ?_); refine czgo (some 31) Tryz.func17 #[.agg #[.slice A1_0 l1_0.length c1_0]] ?_; (with_reducible refine (vendmeterref_OracleMay.calls k _ _ l1_0 true _ ?side1 ?side2 A20.out).mono ?_); (case side1 => exact Kd.C_below HR1_0.out (czbl3 HB GE453 GE462 GE468)); (case side2 => exact HC1_0.out); rintro e w27 ⟨rfl, hb⟩; refine ⟨_, rfl, ?_⟩; replace BK453 := am (blk_below (g := gb453) (o := .cells #[.slice A1_0 l1_0.length c1_0] 25 (0, 0)) (by (with_reducible repeat (first | apply czxn | apply czxd | apply czxa)); refine blk_far ?_ NB453_468.1 _; (with_reducible repeat (first | apply czxn | apply czxd | apply czxa)); refine blk_far ?_ NB453_468.1 _; (with_reducible repeat (first | apply czxn | apply czxd | apply czxa)); refine blk_far ?_ NB453_468.1 _; (with_reducible repeat (first | apply czxn | apply czxd | apply czxa)); refine blk_far ?_ NB453_468.1 _; (with_reducible repeat (first | apply czxn | apply czxd | apply czxa)); exact BK453.1) hb); replace BK462 := am (blk_below (g := gb462) (o := .cells #[.int .i64 t454, .int .i64 t455, .int .i64 t456, .int .i64 t457, .int .u64 t458, .int .i64 t459, .int .i64 t460] 40 (0, 0)) (by (with_reducible repeat (first | apply czxn | apply czxd | apply czxa)); refine blk_far ?_ NB462_468.1 _; (with_reducible repeat (first | apply czxn | apply czxd | apply czxa)); refine blk_far ?_ NB462_468.1 _; (with_reducible repeat (first | apply czxn | apply czxd | apply czxa)); refine blk_far ?_ NB462_468.1 _; (with_reducible repeat (first | apply czxn | apply czxd | apply czxa)); refine blk_far ?_ NB462_468.1 _; (with_reducible repeat (first | apply czxn | apply czxd | apply czxa)); exact BK462.1) hb); replace BK468 := am (blk_below (g := gb468) (o := .cells #[.int .i64 t463, .int .i64 t464, .int .i64 t465, .int .i64 t466] 44 (0, 0)) (by (with_reducible repeat (first | apply czxn | apply czxd | apply czxa)); refine blk_put (cs := #[.int .i64 t463, .int .i64 t464, .int .i64 t465, .int .i64 0]) ?_ 3 _ rfl; (with_reducible repeat (first | apply czxn | apply czxd | apply czxa)); refine blk_put (cs := #[.int .i64 t463, .int .i64 t464, .int .i64 0, .int .i64 0]) ?_ 2 _ rfl; (with_reducible repeat (first | apply czxn | apply czxd | apply czxa)); refine blk_put (cs := #[.int .i64 t463, .int .i64 0, .int .i64 0, .int .i64 0]) ?_ 1 _ rfl; (with_reducible repeat (first | apply czxn | apply czxd | apply czxa)); refine blk_put (cs := #[.int .i64 0, .int .i64 0, .int .i64 0, .int .i64 0]) ?_ 0 _ rfl; (with_reducible repeat (first | apply czxn | apply czxd | apply czxa)); exact BK468.1) hb); replace HB := am (below_step (czbl3 HB GE453 GE462 GE468) hb); (try clear hb hb2 hk hi); have hnb28 := NB462_468.1; have hnc28 := NB468_462.1; obtain ⟨hcz29_0, hcz29_1, hcz29_2, hcz29_3, hcz29_4, hcz29_5, hcz29_6⟩ := czc7 BK462.1; obtain ⟨hfz29_0, hfz29_1, hfz29_2, hfz29_3, hfz29_4, hfz29_5, hfz29_6⟩ := czf7 BK462.1; have hcz30_0 : w27.cell? ⟨gb453, 0, none⟩ = some (.slice A1_0 l1_0.length c1_0) := (blk_cell BK453.1 0).trans rfl; have hfz30_0 := blk_frozen BK453.1 0; obtain ⟨hcz31_0, hcz31_1, hcz31_2, hcz31_3⟩ := czc4 BK468.1; obtain ⟨hfz31_0, hfz31_1, hfz31_2, hfz31_3⟩ := czf4 BK468.1) | ((with_reducible refine gate_callee (f := 18) rfl ?_); refine czgo (some 37) Tryz.func18 #[.agg #[.int .i64 t454, .int .i64 t455, .int .i64 t456, .int .i64 t457, .int .u64 t458, .int .i64 t459, .int .i64 t460], .agg #[.slice A1_0 l1_0.length c1_0], .agg #[.int .i64 t463, .int .i64 t464, .int .i64 t465, .int .i64 t466]] ?_; (with_reducible refine (vendmeterref_MeterKeyed.calls k t454 t455 t456 t457 t458 t459 t460 _ _ l1_0 t463 t464 t465 t466 t470 t471 t472 t473 t474 t475 t476 t477 t478 _ ?side1 ?side2 A22.out).mono ?_); (case side1 => repeat (first | exact (Kd.C_below HR1_0.out HB.1) | (with_reducible refine Kd.C_alloc ?_ _) | (with_reducible refine Kd.C_drewN ?_ _) | (with_reducible refine Kd.C_drew ?_))); (case side2 => exact HC1_0.out); rintro e w32 ⟨rfl, hb⟩; refine ⟨_, rfl, ?_⟩; replace BK453 := czbb BK453 hb; replace BK462 := czbb BK462 hb; replace BK468 := czbb BK468 hb; replace HB := am (below_step (czbl3 HB GE453 GE462 GE468) hb); (try clear hb hb2 hk hi)) | ((with_reducible refine gate_dst (N := 12) rfl ?_); refine czbox 12 #[.int .i64 0, .int .i64 0, .int .i64 0, .int .i64 0, .int .u64 0, .int .i64 0, .int .i64 0] 40 ?_; intro gb479 hg w33 hbox hb; have BK479 := am (hbox); have GW479 := czsz hg (czbl3 HB GE453 GE462 GE468); have GE479 := czsz hg (czbl3 HB GE453 GE462 GE468); have NB453_479 := czne BK453 hg; have NB479_453 := czen BK453 hg; have NB462_479 := czne BK462 hg; have NB479_462 := czen BK462 hg; have NB468_479 := czne BK468 hg; have NB479_468 := czen BK468 hg; replace BK453 := czbb BK453 hb; replace BK462 := czbb BK462 hb; replace BK468 := czbb BK468 hb; replace HB := am (below_step (czbl3 HB GE453 GE462 GE468) hb); clear hb hbox hg; have hnb34 := NB479_453.1; have hnc34 := NB453_479.1; have hnb35 := NB479_462.1; have hnc35 := NB462_479.1; have hnb36 := NB479_468.1; have hnc36 := NB468_479.1; obtain ⟨hcz37_0, hcz37_1, hcz37_2, hcz37_3, hcz37_4, hcz37_5, hcz37_6⟩ := czc7 BK479.1; obtain ⟨hfz37_0, hfz37_1, hfz37_2, hfz37_3, hfz37_4, hfz37_5, hfz37_6⟩ := czf7 BK479.1; obtain ⟨hcz38_0, hcz38_1, hcz38_2, hcz38_3, hcz38_4, hcz38_5, hcz38_6⟩ := czc7 BK462.1; obtain ⟨hfz38_0, hfz38_1, hfz38_2, hfz38_3, hfz38_4, hfz38_5, hfz38_6⟩ := czf7 BK462.1) | ((with_reducible refine gate_callee (f := 19) rfl ?_); refine czgo (some 44) Tryz.func19 #[.slice A0 l0.length c0, .agg #[.int .i64 t454, .int .i64 t455, .int .i64 t456, .int .i64 t457, .int .u64 t458, .int .i64 t459, .int .i64 t460], .agg #[.int .i64 t470, .int .i64 t471, .int .i64 t472, .int .i64 t473, .int .u64 t474, .int .i64 t475, .int .i64 t476]] ?_; (with_reducible refine (vendmeterref_stored.calls k _ _ l0 t454 t455 t456 t457 t458 t459 t460 t470 t471 t472 t473 t474 t475 t476 t480 _ ?side1 ?side2 A23.out).mono ?_); (case side1 => exact Kd.C_below HR0.out (czbl4 HB GE453 GE462 GE468 GE479)); (case side2 => exact HC0.out); rintro e w39 ⟨v481, rfl, ho0, hb⟩; refine ⟨_, rfl, ?_⟩; have HO482 := am (Kd.R_lower ho0 (below_size (czbl4 HB GE453 GE462 GE468 GE479))); replace BK453 := am (blk_below (g := gb453) (o := .cells #[.slice A1_0 l1_0.length c1_0] 25 (0, 0)) (by (with_reducible repeat (first | apply czxn | apply czxd | apply czxa)); refine blk_far ?_ NB453_479.1 _; (with_reducible repeat (first | apply czxn | apply czxd | apply czxa)); refine blk_far ?_ NB453_479.1 _; (with_reducible repeat (first | apply czxn | apply czxd | apply czxa)); refine blk_far ?_ NB453_479.1 _; (with_reducible repeat (first | apply czxn | apply czxd | apply czxa)); refine blk_far ?_ NB453_479.1 _; (with_reducible repeat (first | apply czxn | apply czxd | apply czxa)); refine blk_far ?_ NB453_479.1 _; (with_reducible repeat (first | apply czxn | apply czxd | apply czxa)); refine blk_far ?_ NB453_479.1 _; (with_reducible repeat (first | apply czxn | apply czxd | apply czxa)); refine blk_far ?_ NB453_479.1 _; (with_reducible repeat (first | apply czxn | apply czxd | apply czxa)); exact BK453.1) hb); replace BK462 := am (blk_below (g := gb462) (o := .cells #[.int .i64 t454, .int .i64 t455, .int .i64 t456, .int .i64 t457, .int .u64 t458, .int .i64 t459, .int .i64 t460] 40 (0, 0)) (by (with_reducible repeat (first | apply czxn | apply czxd | apply czxa)); refine blk_far ?_ NB462_479.1 _; (with_reducible repeat (first | apply czxn | apply czxd | apply czxa)); refine blk_far ?_ NB462_479.1 _; (with_reducible repeat (first | apply czxn | apply czxd | apply czxa)); refine blk_far ?_ NB462_479.1 _; (with_reducible repeat (first | apply czxn | apply czxd | apply czxa)); refine blk_far ?_ NB462_479.1 _; (with_reducible repeat (first | apply czxn | apply czxd | apply czxa)); refine blk_far ?_ NB462_479.1 _; (with_reducible repeat (first | apply czxn | apply czxd | apply czxa)); refine blk_far ?_ NB462_479.1 _; (with_reducible repeat (first | apply czxn | apply czxd | apply czxa)); refine blk_far ?_ NB462_479.1 _; (with_reducible repeat (first | apply czxn | apply czxd | apply czxa)); exact BK462.1) hb); replace BK468 := am (blk_below (g := gb468) (o := .cells #[.int .i64 t463, .int .i64 t464, .int .i64 t465, .int .i64 t466] 44 (0, 0)) (by (with_reducible repeat (first | apply czxn | apply czxd | apply czxa)); refine blk_far ?_ NB468_479.1 _; (with_reducible repeat (first | apply czxn | apply czxd | apply czxa)); refine blk_far ?_ NB468_479.1 _; (with_reducible repeat (first | apply czxn | apply czxd | apply czxa)); refine blk_far ?_ NB468_479.1 _; (with_reducible repeat (first | apply czxn | apply czxd | apply czxa)); refine blk_far ?_ NB468_479.1 _; (with_reducible repeat (first | apply czxn | apply czxd | apply czxa)); refine blk_far ?_ NB468_479.1 _; (with_reducible repeat (first | apply czxn | apply czxd | apply czxa)); refine blk_far ?_ NB468_479.1 _; (with_reducible repeat (first | apply czxn | apply czxd | apply czxa)); refine blk_far ?_ NB468_479.1 _; (with_reducible repeat (first | apply czxn | apply czxd | apply czxa)); exact BK468.1) hb); replace BK479 := am (blk_below (g := gb479) (o := .cells #[.int .i64 t470, .int .i64 t471, .int .i64 t472, .int .i64 t473, .int .u64 t474, .int .i64 t475, .int .i64 t476] 40 (0, 0)) (by (with_reducible repeat (first | apply czxn | apply czxd | apply czxa)); refine blk_put (cs := #[.int .i64 t470, .int .i64 t471, .int .i64 t472, .int .i64 t473, .int .u64 t474, .int .i64 t475, .int .i64 0]) ?_ 6 _ rfl; (with_reducible repeat (first | apply czxn | apply czxd | apply czxa)); refine blk_put (cs := #[.int .i64 t470, .int .i64 t471, .int .i64 t472, .int .i64 t473, .int .u64 t474, .int .i64 0, .int .i64 0]) ?_ 5 _ rfl; (with_reducible repeat (first | apply czxn | apply czxd | apply czxa)); refine blk_put (cs := #[.int .i64 t470, .int .i64 t471, .int .i64 t472, .int .i64 t473, .int .u64 0, .int .i64 0, .int .i64 0]) ?_ 4 _ rfl; (with_reducible repeat (first | apply czxn | apply czxd | apply czxa)); refine blk_put (cs := #[.int .i64 t470, .int .i64 t471, .int .i64 t472, .int .i64 0, .int .u64 0, .int .i64 0, .int .i64 0]) ?_ 3 _ rfl; (with_reducible repeat (first | apply czxn | apply czxd | apply czxa)); refine blk_put (cs := #[.int .i64 t470, .int .i64 t471, .int .i64 0, .int .i64 0, .int .u64 0, .int .i64 0, .int .i64 0]) ?_ 2 _ rfl; (with_reducible repeat (first | apply czxn | apply czxd | apply czxa)); refine blk_put (cs := #[.int .i64 t470, .int .i64 0, .int .i64 0, .int .i64 0, .int .u64 0, .int .i64 0, .int .i64 0]) ?_ 1 _ rfl; (with_reducible repeat (first | apply czxn | apply czxd | apply czxa)); refine blk_put (cs := #[.int .i64 0, .int .i64 0, .int .i64 0, .int .i64 0, .int .u64 0, .int .i64 0, .int .i64 0]) ?_ 0 _ rfl; (with_reducible repeat (first | apply czxn | apply czxd | apply czxa)); exact BK479.1) hb); replace HB := am (below_step (czbl4 HB GE453 GE462 GE468 GE479) hb); (try clear hb hb2 hk hi ho0)))
    go_ret3
    exact ⟨_, czeq, czR HO482, czbl4 HB GE453 GE462 GE468 GE479⟩
   ·
    replace c21 := Bool.eq_false_iff.mpr c21
    subst c21
    have H1 : (some (([] : List (S53)), 0, 5)) = some (r1, r2, r3) := by rw [if_neg (show ¬ (false = true) by decide)] at H; exact H
    clear H
    have H := H1
    clear H1
    simp only [Option.some.injEq, Prod.mk.injEq] at H
    obtain ⟨rfl, rfl, rfl⟩ := H
    have hnb40 := NB453_462.1
    have hnc40 := NB462_453.1
    have hnb41 := NB453_468.1
    have hnc41 := NB468_453.1
    have hcz42_0 : w15.cell? ⟨gb453, 0, none⟩ = some (.slice A1_0 l1_0.length c1_0) := (blk_cell BK453.1 0).trans rfl
    have hfz42_0 := blk_frozen BK453.1 0
    go_wp2_with (first | ((with_reducible refine gate_callee (f := 17) rfl ?_); refine czgo (some 31) Tryz.func17 #[.agg #[.slice A1_0 l1_0.length c1_0]] ?_; (with_reducible refine (vendmeterref_OracleMay.calls k _ _ l1_0 false _ ?side1 ?side2 A20.out).mono ?_); (case side1 => exact Kd.C_below HR1_0.out (czbl3 HB GE453 GE462 GE468)); (case side2 => exact HC1_0.out); rintro e w43 ⟨rfl, hb⟩; refine ⟨_, rfl, ?_⟩; replace BK453 := am (blk_below (g := gb453) (o := .cells #[.slice A1_0 l1_0.length c1_0] 25 (0, 0)) (by (with_reducible repeat (first | apply czxn | apply czxd | apply czxa)); refine blk_far ?_ NB453_468.1 _; (with_reducible repeat (first | apply czxn | apply czxd | apply czxa)); refine blk_far ?_ NB453_468.1 _; (with_reducible repeat (first | apply czxn | apply czxd | apply czxa)); refine blk_far ?_ NB453_468.1 _; (with_reducible repeat (first | apply czxn | apply czxd | apply czxa)); refine blk_far ?_ NB453_468.1 _; (with_reducible repeat (first | apply czxn | apply czxd | apply czxa)); exact BK453.1) hb); replace BK462 := am (blk_below (g := gb462) (o := .cells #[.int .i64 t454, .int .i64 t455, .int .i64 t456, .int .i64 t457, .int .u64 t458, .int .i64 t459, .int .i64 t460] 40 (0, 0)) (by (with_reducible repeat (first | apply czxn | apply czxd | apply czxa)); refine blk_far ?_ NB462_468.1 _; (with_reducible repeat (first | apply czxn | apply czxd | apply czxa)); refine blk_far ?_ NB462_468.1 _; (with_reducible repeat (first | apply czxn | apply czxd | apply czxa)); refine blk_far ?_ NB462_468.1 _; (with_reducible repeat (first | apply czxn | apply czxd | apply czxa)); refine blk_far ?_ NB462_468.1 _; (with_reducible repeat (first | apply czxn | apply czxd | apply czxa)); exact BK462.1) hb); replace BK468 := am (blk_below (g := gb468) (o := .cells #[.int .i64 t463, .int .i64 t464, .int .i64 t465, .int .i64 t466] 44 (0, 0)) (by (with_reducible repeat (first | apply czxn | apply czxd | apply czxa)); refine blk_put (cs := #[.int .i64 t463, .int .i64 t464, .int .i64 t465, .int .i64 0]) ?_ 3 _ rfl; (with_reducible repeat (first | apply czxn | apply czxd | apply czxa)); refine blk_put (cs := #[.int .i64 t463, .int .i64 t464, .int .i64 0, .int .i64 0]) ?_ 2 _ rfl; (with_reducible repeat (first | apply czxn | apply czxd | apply czxa)); refine blk_put (cs := #[.int .i64 t463, .int .i64 0, .int .i64 0, .int .i64 0]) ?_ 1 _ rfl; (with_reducible repeat (first | apply czxn | apply czxd | apply czxa)); refine blk_put (cs := #[.int .i64 0, .int .i64 0, .int .i64 0, .int .i64 0]) ?_ 0 _ rfl; (with_reducible repeat (first | apply czxn | apply czxd | apply czxa)); exact BK468.1) hb); replace HB := am (below_step (czbl3 HB GE453 GE462 GE468) hb); (try clear hb hb2 hk hi)))
    go_ret3
    exact ⟨_, czeq, by first | exact Kd.R_nil _ _ _ _ _ | exact Kd.N_nil _ _ _ _ _ | exact Kd.V_nil _ _ _ _ _ | exact Kd.Q_nil _ _ _ _ _ | exact Kd.S_nil _ _ _ _ _, czbl3 HB GE453 GE462 GE468⟩
  ·
   simp only [Option.some.injEq, Prod.mk.injEq] at H
   obtain ⟨rfl, rfl, rfl⟩ := H
   go_wp2
   go_ret3
   exact ⟨_, czeq, by first | exact Kd.R_nil _ _ _ _ _ | exact Kd.N_nil _ _ _ _ _ | exact Kd.V_nil _ _ _ _ _ | exact Kd.Q_nil _ _ _ _ _ | exact Kd.S_nil _ _ _ _ _, czbl3 HB GE453 GE462 GE468⟩
 ·
  simp only [Option.some.injEq, Prod.mk.injEq] at H
  obtain ⟨rfl, rfl, rfl⟩ := H
  go_wp2
  go_ret3
  exact ⟨_, czeq, by first | exact Kd.R_nil _ _ _ _ _ | exact Kd.N_nil _ _ _ _ _ | exact Kd.V_nil _ _ _ _ _ | exact Kd.Q_nil _ _ _ _ _ | exact Kd.S_nil _ _ _ _ _, czbl2 HB GE453 GE462⟩

/-! ### vendmeterlaw_sameWrites: function 8 -/
def vendmeterlaw_sameWrites.l0 : Nat → List (S53) → List (S53) → Int → Option (Bool)
 | 0, _, _, _ => none
 | k + 1, x0, x1, x5 => if x5 < (x0.length : Int) then (if 0 ≤ x5 then (if x5 < (x1.length : Int) then (if (!(((rd_T53 x0 x5).f0) == ((rd_T53 x1 x5).f0)) || (!(((rd_T53 x0 x5).f1) == ((rd_T53 x1 x5).f1)))) = true then (some false) else (vendmeterlaw_sameWrites.l0 k x0 x1 (wrap64 (x5 + 1)))) else (none)) else (none)) else (some true)
def vendmeterlaw_sameWrites.f (k : Nat) (l0 : List (S53)) (l1 : List (S53)) : Option (Bool) := if (l0.length : Int) = (l1.length : Int) then (vendmeterlaw_sameWrites.l0 k l0 l1 0) else (some false)
theorem vendmeterlaw_sameWrites.mono_l : ∀ k, (∀ y0 y1 y2, LeO (vendmeterlaw_sameWrites.l0 k y0 y1 y2) (vendmeterlaw_sameWrites.l0 (k + 1) y0 y1 y2))
 | 0 => fun _ _ _ r h => by simp [vendmeterlaw_sameWrites.l0] at h
 | k + 1 => by
  have ih0 := vendmeterlaw_sameWrites.mono_l k
  ·
   intro y0 y1 y2
   unfold vendmeterlaw_sameWrites.l0
   repeat' first
   | (with_reducible exact ih0 _ _ _)
   | (with_reducible exact LeO.refl _)
   | (with_reducible exact LeO.none _)
   | (with_reducible refine LeO.ite ?_ ?_)
   | (with_reducible refine LeO.bind ?_ (fun _ => ?_))
theorem vendmeterlaw_sameWrites.mono : ∀ a0 a1 k, LeO (vendmeterlaw_sameWrites.f k a0 a1) (vendmeterlaw_sameWrites.f (k + 1) a0 a1) := by
 intro a0 a1 k
 have ih0 := vendmeterlaw_sameWrites.mono_l k
 unfold vendmeterlaw_sameWrites.f
 repeat' first
   | (with_reducible exact ih0 _ _ _)
   | (with_reducible exact LeO.refl _)
   | (with_reducible exact LeO.none _)
   | (with_reducible refine LeO.ite ?_ ?_)
   | (with_reducible refine LeO.bind ?_ (fun _ => ?_))
theorem vendmeterlaw_sameWrites.calls (k : Nat) (A0 : Option Addr) (c0 : Nat) (l0 : List (S53)) (A1 : Option Addr) (c1 : Nat) (l1 : List (S53)) (r : Bool) (w : World) (hr0 : Kd.C k53 w A0 l0.length l0) (hc0 : l0.length ≤ c0) (hr1 : Kd.C k53 w A1 l1.length l1) (hc1 : l1.length ≤ c1) (h : vendmeterlaw_sameWrites.f k l0 l1 = some r) :
  Calls Tryz.prog 8 #[.slice A0 l0.length c0, .slice A1 l1.length c1] w fun e w' => e = .returned (.bool r) ∧ Drawn0 w w' := by
 have hu53 := Tryz.underlying53
 have HR0 := am hr0
 have HC0 := am hc0
 clear hr0 hc0
 have HR1 := am hr1
 have HC1 := am hc1
 clear hr1 hc1
 have H : (if (l0.length : Int) = (l1.length : Int) then (vendmeterlaw_sameWrites.l0 k l0 l1 0) else (some false)) = some r := h
 clear h
 by_cases c3 : (l0.length : Int) = (l1.length : Int)
 ·
  rw [if_pos c3] at H
  have c3b0 : ((l0.length : Int) == (l1.length : Int)) = true := beq_iff_eq.mpr c3
  have c3b1 : ((l0.length : Int) != (l1.length : Int)) = false := bne_eq_false_iff_eq.mpr c3
  have c3b2 : (l0.length == l1.length) = true := by first | simpa using c3 | (simp at c3 ⊢; omega)
  clear c3
  have H' := am H
  clear H
  go_enter Tryz.func8, Tryz.ntmps8
  go_wp2
  repeat (go_quiet (fail); try go_wp2)
  go_loopg [5] k (fun kq v5 w' => ∃ (x5_1 : Int), v5 = .int .i64 x5_1 ∧ Aside0 (vendmeterlaw_sameWrites.l0 kq l0 l1 x5_1 = some r) ∧ Aside0 (kq ≤ k) ∧ Drawn0 w w')
  case atStart => exact ⟨(0), czr, H', ⟨Nat.le_refl _⟩, by repeat (first | exact Drawn0.refl _ | apply Drawn0.step)⟩
  case round =>
   clear H'
   try clear c1
   try clear p2
   try clear c3
   try clear c3b0
   try clear c3b1
   try clear c3b2
   obtain ⟨x5_1, rfl, HA, HK1, ⟨m1, rfl⟩⟩ := hrel
   cases gk with
   | zero => exact absurd HA.out (by simp [vendmeterlaw_sameWrites.l0])
   | succ k1 =>
    have H := HA.out
    clear HA
    simp only [vendmeterlaw_sameWrites.l0] at H
    revert H
    refine czif (fun c4b0 H => ?_) (fun c4b0 H => ?_)
    ·
     by_cases c5 : 0 ≤ x5_1
     ·
      rw [if_pos c5] at H
      have c5b0 : decide (0 ≤ x5_1) = true := decide_eq_true c5
      clear c5
      by_cases c6 : x5_1 < (l1.length : Int)
      ·
       rw [if_pos c6] at H
       have c6b0 : decide (x5_1 < (l1.length : Int)) = true := decide_eq_true c6
       clear c6
       by_cases c7 : (!(((rd_T53 l0 x5_1).f0) == ((rd_T53 l1 x5_1).f0)) || (!(((rd_T53 l0 x5_1).f1) == ((rd_T53 l1 x5_1).f1)))) = true
       ·
        rw [if_pos c7] at H
        have c7b0 : (!(((rd_T53 l0 x5_1).f0) == ((rd_T53 l1 x5_1).f0)) || (!(((rd_T53 l0 x5_1).f1) == ((rd_T53 l1 x5_1).f1)))) = true := c7
        clear c7
        obtain rfl := Option.some.inj H
        have p483 : 0 ≤ (x5_1 : Int) := czd
        have q483 : x5_1 < (l0.length : Int) := czd
        obtain ⟨ad483, e483, hx483_0, hx483_1⟩ := at_T53 HR0.out x5_1 p483 q483
        cases e483
        replace p483 := eq_true p483
        replace q483 := eq_true q483
        have p484 : 0 ≤ (x5_1 : Int) := czd
        have q484 : x5_1 < (l1.length : Int) := czd
        obtain ⟨ad484, e484, hx484_0, hx484_1⟩ := at_T53 HR1.out x5_1 p484 q484
        cases e484
        replace p484 := eq_true p484
        replace q484 := eq_true q484
        go_wp2
        repeat (go_quiet (fail); try go_wp2)
        go_ret
        exact ⟨by first | rfl | (simp; done) | (simp [*]; done), by repeat (first | exact Drawn0.refl _ | apply Drawn0.step)⟩
       ·
        rw [if_neg c7] at H
        have c7b0 : (!(((rd_T53 l0 x5_1).f0) == ((rd_T53 l1 x5_1).f0)) || (!(((rd_T53 l0 x5_1).f1) == ((rd_T53 l1 x5_1).f1)))) = false := by simpa using c7
        clear c7
        have H' := am H
        clear H
        have p483 : 0 ≤ (x5_1 : Int) := czd
        have q483 : x5_1 < (l0.length : Int) := czd
        obtain ⟨ad483, e483, hx483_0, hx483_1⟩ := at_T53 HR0.out x5_1 p483 q483
        cases e483
        replace p483 := eq_true p483
        replace q483 := eq_true q483
        have p484 : 0 ≤ (x5_1 : Int) := czd
        have q484 : x5_1 < (l1.length : Int) := czd
        obtain ⟨ad484, e484, hx484_0, hx484_1⟩ := at_T53 HR1.out x5_1 p484 q484
        cases e484
        replace p484 := eq_true p484
        replace q484 := eq_true q484
        go_wp2
        repeat (go_quiet (fail); try go_wp2)
        go_roundg k1
        case measure => have := HK1.out; omega
        case rel => exact ⟨(wrap64 (x5_1 + 1)), czr, H', ⟨by have := HK1.out; omega⟩, by repeat (first | exact Drawn0.refl _ | apply Drawn0.step)⟩
      ·
       rw [if_neg c6] at H
       exact absurd H (by simp)
     ·
      rw [if_neg c5] at H
      exact absurd H (by simp)
    ·
     obtain rfl := Option.some.inj H
     go_wp2
     repeat (go_quiet (fail); try go_wp2)
     go_ret
     exact ⟨by first | rfl | (simp; done) | (simp [*]; done), by repeat (first | exact Drawn0.refl _ | apply Drawn0.step)⟩
 ·
  rw [if_neg c3] at H
  have c3b0 : ((l0.length : Int) == (l1.length : Int)) = false := beq_eq_false_iff_ne.mpr c3
  have c3b1 : ((l0.length : Int) != (l1.length : Int)) = true := bne_iff_ne.mpr c3
  have c3b2 : (l0.length == l1.length) = false := by first | simpa using c3 | (simp at c3 ⊢; omega)
  obtain rfl := Option.some.inj H
  go_enter Tryz.func8, Tryz.ntmps8
  go_wp2
  repeat (go_quiet (fail); try go_wp2)
  go_ret
  exact ⟨by first | rfl | (simp; done) | (simp [*]; done), by repeat (first | exact Drawn0.refl _ | apply Drawn0.step)⟩

end Go.Proofs.YtcllddkmcnfejaaGreatDoor.PPocketKeys
