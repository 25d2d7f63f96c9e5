-- written by this session's program wip/xp/xprint.py (it drives the kit's print and adds to it)
import Derived.Test.YtojnaalncgofhaaPBookEncodesx0
import Derived.Test.YtojnaalncgofhaaPBookEncodesx2
namespace Go.Proofs.Ytojnaalncgofhaa.PBookEncodes
open Go.RowKit Go.Proofs.YtojnaalncgofhaaW.PrintWords Go.Proofs.YtojnaalncgofhaaW.PrintLast Go.Proofs.YtojnaalncgofhaaW.PrintMore
attribute [local go_sem] max2_int min2_int max_two min_two max_three min_three max_four min_four   -- for this text's walks alone
set_option linter.unusedVariables false
set_option linter.unusedSimpArgs false

/-! ### vendmeterref_In: function 31 -/
def vendmeterref_In.f (a0 : Int) (a1 : Int) (a2 : Int) : Option (Bool) := if a0 ≥ a1 then (some (decide (a0 ≤ a2))) else (some false)
set_option maxHeartbeats 8000000 in
set_option maxRecDepth 100000 in
theorem vendmeterref_In.calls (a0 : Int) (a1 : Int) (a2 : Int) (r : Bool) (w : World) (h : vendmeterref_In.f a0 a1 a2 = some r) :
    Calls Try.prog 31 #[.int .i64 a0, .int .i64 a1, .int .i64 a2] w fun e w' => e = .returned (.bool r) ∧ Drawn0 w w' := by
  have H : (if a0 ≥ a1 then (some (decide (a0 ≤ a2))) else (some false)) = some r := h
  clear h
  by_cases c4 : a0 ≥ a1
  · rw [if_pos c4] at H
    have c4b0 : decide (a1 ≤ a0) = true := decide_eq_true c4
    clear c4
    obtain rfl := Option.some.inj H
    go_enter Try.func31, Try.ntmps31
    go_wp2
    go_ret
    exact ⟨by first | rfl | (simp; done) | (simp [*]; done), by repeat (first | exact Drawn0.refl _ | apply Drawn0.step)⟩
  · rw [if_neg c4] at H
    have c4b0 : decide (a1 ≤ a0) = false := decide_eq_false c4
    clear c4
    obtain rfl := Option.some.inj H
    go_enter Try.func31, Try.ntmps31
    go_wp2
    go_ret
    exact ⟨by first | rfl | (simp; done) | (simp [*]; done), by repeat (first | exact Drawn0.refl _ | apply Drawn0.step)⟩

attribute [local go_sem high] evA_Bill evA_Debt evA_Event
set_option maxHeartbeats 4000000 in
theorem ref_In.tt (w : World) (n lo hi : Int) (h1 : decide (lo ≤ n) = true) (h2 : decide (n ≤ hi) = true) :
    Calls Try.prog 31 #[.int .i64 n, .int .i64 lo, .int .i64 hi] w fun e w' => e = .returned (.bool true) ∧ w' = w := by
  have h3 : decide (n ≥ lo) = true := h1
  go_enter Try.func31, Try.ntmps31
  go_wp2
  go_ret
  exact ⟨rfl, rfl⟩
set_option maxHeartbeats 4000000 in
theorem ref_In.lo (w : World) (n lo hi : Int) (h1 : decide (lo ≤ n) = false) :
    Calls Try.prog 31 #[.int .i64 n, .int .i64 lo, .int .i64 hi] w fun e w' => e = .returned (.bool false) ∧ w' = w := by
  have h3 : decide (n ≥ lo) = false := h1
  go_enter Try.func31, Try.ntmps31
  go_wp2
  go_ret
  exact ⟨rfl, rfl⟩
set_option maxHeartbeats 4000000 in
theorem ref_In.hi (w : World) (n lo hi : Int) (h1 : decide (lo ≤ n) = true) (h2 : decide (n ≤ hi) = false) :
    Calls Try.prog 31 #[.int .i64 n, .int .i64 lo, .int .i64 hi] w fun e w' => e = .returned (.bool false) ∧ w' = w := by
  have h3 : decide (n ≥ lo) = true := h1
  go_enter Try.func31, Try.ntmps31
  go_wp2
  go_ret
  exact ⟨rfl, rfl⟩
set_option maxHeartbeats 400000000 in
set_option maxRecDepth 100000 in
theorem vendmeterref_EventMay.at_ (w : World) (k me mo id te de fe pr ch un tg ow bp : Int) (r : Bool) (hR : r = evOk k me mo id te de fe pr ch un tg ow bp) :
    Calls Try.prog 41 #[.agg #[.int .i64 k, .int .i64 me, .int .i64 mo, .int .i64 id, .int .i64 te, .int .i64 de, .int .i64 fe, .int .i64 pr, .int .i64 ch, .int .i64 un, .int .i64 tg, .int .i64 ow, .int .i64 bp]] w fun e w' => e = .returned (.bool r) ∧ Below w.heap.size w w' := by
  have hu41 := Try.underlying41
  have hu31 := Try.underlying31
  have hu39 := Try.underlying39
  have HR := Aside0.mk hR
  unfold evOk at HR
  clear hR
  go_enter Try.func41, Try.ntmps41
  go_upto_region 2 with (fail)
  obtain ⟨wy, hwx⟩ : ∃ W : World, W = (w.alloc (.cells #[.int .i64 k, .int .i64 me, .int .i64 mo, .int .i64 id, .int .i64 te, .int .i64 de, .int .i64 fe, .int .i64 pr, .int .i64 ch, .int .i64 un, .int .i64 tg, .int .i64 ow, .int .i64 bp] 41)).alloc (.cells #[.int .i64 id, .int .i64 te, .int .i64 de, .int .i64 fe, .int .i64 pr, .int .i64 ch, .int .i64 un] 31) := ⟨_, rfl⟩
  rw [← hwx]
  have B1 := Aside0.mk (show wy.heap[w.heap.size]? = some (.cells #[.int .i64 k, .int .i64 me, .int .i64 mo, .int .i64 id, .int .i64 te, .int .i64 de, .int .i64 fe, .int .i64 pr, .int .i64 ch, .int .i64 un, .int .i64 tg, .int .i64 ow, .int .i64 bp] 41 (0, 0)) from hwx ▸ blk_alloc (blk_new w _) _)
  have BT := Aside0.mk (show wy.heap[w.heap.size + 1]? = some (.cells #[.int .i64 id, .int .i64 te, .int .i64 de, .int .i64 fe, .int .i64 pr, .int .i64 ch, .int .i64 un] 31 (0, 0)) from hwx ▸ by have h := blk_new (w.alloc (.cells #[.int .i64 k, .int .i64 me, .int .i64 mo, .int .i64 id, .int .i64 te, .int .i64 de, .int .i64 fe, .int .i64 pr, .int .i64 ch, .int .i64 un, .int .i64 tg, .int .i64 ow, .int .i64 bp] 41)) (.cells #[.int .i64 id, .int .i64 te, .int .i64 de, .int .i64 fe, .int .i64 pr, .int .i64 ch, .int .i64 un] 31); rw [World.size_alloc] at h; exact h)
  have HY := Aside0.mk (show Below w.heap.size w wy from hwx ▸ below_alloc (below_alloc (Below.refl w.heap.size w) _) _)
  clear hwx
  have x0 : wy.cell? ⟨w.heap.size, 0, none⟩ = some (.int .i64 k) := (blk_cell B1.out 0).trans rfl
  have x1 : wy.cell? ⟨w.heap.size, 1, none⟩ = some (.int .i64 me) := (blk_cell B1.out 1).trans rfl
  have x2 : wy.cell? ⟨w.heap.size, 2, none⟩ = some (.int .i64 mo) := (blk_cell B1.out 2).trans rfl
  have x3 : wy.cell? ⟨w.heap.size, 3, none⟩ = some (.int .i64 id) := (blk_cell B1.out 3).trans rfl
  have x4 : wy.cell? ⟨w.heap.size, 4, none⟩ = some (.int .i64 te) := (blk_cell B1.out 4).trans rfl
  have x5 : wy.cell? ⟨w.heap.size, 5, none⟩ = some (.int .i64 de) := (blk_cell B1.out 5).trans rfl
  have x6 : wy.cell? ⟨w.heap.size, 6, none⟩ = some (.int .i64 fe) := (blk_cell B1.out 6).trans rfl
  have x7 : wy.cell? ⟨w.heap.size, 7, none⟩ = some (.int .i64 pr) := (blk_cell B1.out 7).trans rfl
  have x8 : wy.cell? ⟨w.heap.size, 8, none⟩ = some (.int .i64 ch) := (blk_cell B1.out 8).trans rfl
  have x9 : wy.cell? ⟨w.heap.size, 9, none⟩ = some (.int .i64 un) := (blk_cell B1.out 9).trans rfl
  have x10 : wy.cell? ⟨w.heap.size, 10, none⟩ = some (.int .i64 tg) := (blk_cell B1.out 10).trans rfl
  have x11 : wy.cell? ⟨w.heap.size, 11, none⟩ = some (.int .i64 ow) := (blk_cell B1.out 11).trans rfl
  have x12 : wy.cell? ⟨w.heap.size, 12, none⟩ = some (.int .i64 bp) := (blk_cell B1.out 12).trans rfl
  have y0 : wy.cell? ⟨w.heap.size + 1, 0, none⟩ = some (.int .i64 id) := (blk_cell BT.out 0).trans rfl
  have y1 : wy.cell? ⟨w.heap.size + 1, 1, none⟩ = some (.int .i64 te) := (blk_cell BT.out 1).trans rfl
  have y2 : wy.cell? ⟨w.heap.size + 1, 2, none⟩ = some (.int .i64 de) := (blk_cell BT.out 2).trans rfl
  have y3 : wy.cell? ⟨w.heap.size + 1, 3, none⟩ = some (.int .i64 fe) := (blk_cell BT.out 3).trans rfl
  have y4 : wy.cell? ⟨w.heap.size + 1, 4, none⟩ = some (.int .i64 pr) := (blk_cell BT.out 4).trans rfl
  have y5 : wy.cell? ⟨w.heap.size + 1, 5, none⟩ = some (.int .i64 ch) := (blk_cell BT.out 5).trans rfl
  have y6 : wy.cell? ⟨w.heap.size + 1, 6, none⟩ = some (.int .i64 un) := (blk_cell BT.out 6).trans rfl
  by_cases h1_ : 0 ≤ me
  rotate_left
  · have q1_0 : decide (0 ≤ me) = false := by exact decide_eq_false (by omega)
    have q1_1 : decide (me ≥ 0) = false := by exact decide_eq_false (by omega)
    have HRV := Aside0.mk (show r = false by rw [HR.out]; exact decide_eq_false (by unfold evMay evM1 evM2 evM3 evM4 evM5 evZ evT evU evB; omega))
    clear h1_
    go_wp2_with (go_at_call 31; first | (refine (ref_In.tt _ _ _ _ (by first | assumption | decide) (by first | assumption | decide)).mono ?_; rintro e_ w_ ⟨rfl, hw_⟩; subst w_) | (refine (ref_In.lo _ _ _ _ (by first | assumption | decide)).mono ?_; rintro e_ w_ ⟨rfl, hw_⟩; subst w_) | (refine (ref_In.hi _ _ _ _ (by first | assumption | decide) (by first | assumption | decide)).mono ?_; rintro e_ w_ ⟨rfl, hw_⟩; subst w_))
    go_ret
    exact ⟨by rw [HRV.out]; rfl, HY.out⟩
  have q1_0 : decide (0 ≤ me) = true := by exact decide_eq_true (by omega)
  have q1_1 : decide (me ≥ 0) = true := by exact decide_eq_true (by omega)
  by_cases h2_ : me ≤ 49
  rotate_left
  · have q2_0 : decide (me ≤ 49) = false := by exact decide_eq_false (by omega)
    have q2_1 : decide (49 ≥ me) = false := by exact decide_eq_false (by omega)
    have HRV := Aside0.mk (show r = false by rw [HR.out]; exact decide_eq_false (by unfold evMay evM1 evM2 evM3 evM4 evM5 evZ evT evU evB; omega))
    clear h1_ h2_
    go_wp2_with (go_at_call 31; first | (refine (ref_In.tt _ _ _ _ (by first | assumption | decide) (by first | assumption | decide)).mono ?_; rintro e_ w_ ⟨rfl, hw_⟩; subst w_) | (refine (ref_In.lo _ _ _ _ (by first | assumption | decide)).mono ?_; rintro e_ w_ ⟨rfl, hw_⟩; subst w_) | (refine (ref_In.hi _ _ _ _ (by first | assumption | decide) (by first | assumption | decide)).mono ?_; rintro e_ w_ ⟨rfl, hw_⟩; subst w_))
    go_ret
    exact ⟨by rw [HRV.out]; rfl, HY.out⟩
  have q2_0 : decide (me ≤ 49) = true := by exact decide_eq_true (by omega)
  have q2_1 : decide (49 ≥ me) = true := by exact decide_eq_true (by omega)
  by_cases k1 : k = 1
  · subst k1
    have HP := Aside0.mk (And.intro h1_ (h2_))
    clear h1_ h2_
    go_wp2_with (go_at_call 31; first | (refine (ref_In.tt _ _ _ _ (by first | assumption | decide) (by first | assumption | decide)).mono ?_; rintro e_ w_ ⟨rfl, hw_⟩; subst w_) | (refine (ref_In.lo _ _ _ _ (by first | assumption | decide)).mono ?_; rintro e_ w_ ⟨rfl, hw_⟩; subst w_) | (refine (ref_In.hi _ _ _ _ (by first | assumption | decide) (by first | assumption | decide)).mono ?_; rintro e_ w_ ⟨rfl, hw_⟩; subst w_))
    go_ret
    refine ⟨congrArg (fun b => Ending.returned (.bool b)) (Bool.eq_iff_iff.mpr ?_), HY.out⟩
    rw [HR.out, decide_eq_true_eq]
    have hp := HP.out
    try simp only [Bool.and_eq_true, beq_iff_eq, eq_self, true_iff]
    unfold evMay evM1 evM2 evM3 evM4 evM5 evZ evT evU evB
    omega
  by_cases k5 : k = 5
  · subst k5
    clear k1
    rcases hE : (mo == 0 && (id == 0 && (te == 0 && (de == 0 && (fe == 0 && (pr == 0 && (ch == 0 && un == 0))))) && tg == 0)) with _ | _
    · have hp : ¬ (mo = 0 ∧ (id = 0 ∧ te = 0 ∧ de = 0 ∧ fe = 0 ∧ pr = 0 ∧ ch = 0 ∧ un = 0) ∧ tg = 0) := by
        intro h
        obtain ⟨a1, ⟨a2, a3, a4, a5, a6, a7, a8⟩, a9⟩ := h
        rw [a1, a2, a3, a4, a5, a6, a7, a8, a9] at hE
        exact absurd hE (by decide)
      have HRV := Aside0.mk (show r = false by rw [HR.out]; exact decide_eq_false (by unfold evMay evM1 evM2 evM3 evM4 evM5 evZ evT evU evB; omega))
      clear h1_ h2_ hp
      go_wp2_with (go_at_call 31; first | (refine (ref_In.tt _ _ _ _ (by first | assumption | decide) (by first | assumption | decide)).mono ?_; rintro e_ w_ ⟨rfl, hw_⟩; subst w_) | (refine (ref_In.lo _ _ _ _ (by first | assumption | decide)).mono ?_; rintro e_ w_ ⟨rfl, hw_⟩; subst w_) | (refine (ref_In.hi _ _ _ _ (by first | assumption | decide) (by first | assumption | decide)).mono ?_; rintro e_ w_ ⟨rfl, hw_⟩; subst w_))
      go_ret
      exact ⟨by rw [HRV.out]; rfl, HY.out⟩
    · have hp := hE
      simp only [Bool.and_eq_true, beq_iff_eq] at hp
      by_cases h3_ : 1 ≤ ow
      rotate_left
      · have q3_0 : decide (1 ≤ ow) = false := by exact decide_eq_false (by omega)
        have q3_1 : decide (ow ≥ 1) = false := by exact decide_eq_false (by omega)
        have HRV := Aside0.mk (show r = false by rw [HR.out]; exact decide_eq_false (by unfold evMay evM1 evM2 evM3 evM4 evM5 evZ evT evU evB; omega))
        clear h1_ h2_ hp h3_
        go_wp2_with (go_at_call 31; first | (refine (ref_In.tt _ _ _ _ (by first | assumption | decide) (by first | assumption | decide)).mono ?_; rintro e_ w_ ⟨rfl, hw_⟩; subst w_) | (refine (ref_In.lo _ _ _ _ (by first | assumption | decide)).mono ?_; rintro e_ w_ ⟨rfl, hw_⟩; subst w_) | (refine (ref_In.hi _ _ _ _ (by first | assumption | decide) (by first | assumption | decide)).mono ?_; rintro e_ w_ ⟨rfl, hw_⟩; subst w_))
        go_ret
        exact ⟨by rw [HRV.out]; rfl, HY.out⟩
      have q3_0 : decide (1 ≤ ow) = true := by exact decide_eq_true (by omega)
      have q3_1 : decide (ow ≥ 1) = true := by exact decide_eq_true (by omega)
      by_cases h4_ : ow ≤ 1000000000
      rotate_left
      · have q4_0 : decide (ow ≤ 1000000000) = false := by exact decide_eq_false (by omega)
        have q4_1 : decide (1000000000 ≥ ow) = false := by exact decide_eq_false (by omega)
        have HRV := Aside0.mk (show r = false by rw [HR.out]; exact decide_eq_false (by unfold evMay evM1 evM2 evM3 evM4 evM5 evZ evT evU evB; omega))
        clear h1_ h2_ hp h3_ h4_
        go_wp2_with (go_at_call 31; first | (refine (ref_In.tt _ _ _ _ (by first | assumption | decide) (by first | assumption | decide)).mono ?_; rintro e_ w_ ⟨rfl, hw_⟩; subst w_) | (refine (ref_In.lo _ _ _ _ (by first | assumption | decide)).mono ?_; rintro e_ w_ ⟨rfl, hw_⟩; subst w_) | (refine (ref_In.hi _ _ _ _ (by first | assumption | decide) (by first | assumption | decide)).mono ?_; rintro e_ w_ ⟨rfl, hw_⟩; subst w_))
        go_ret
        exact ⟨by rw [HRV.out]; rfl, HY.out⟩
      have q4_0 : decide (ow ≤ 1000000000) = true := by exact decide_eq_true (by omega)
      have q4_1 : decide (1000000000 ≥ ow) = true := by exact decide_eq_true (by omega)
      by_cases h5_ : 0 ≤ bp
      rotate_left
      · have q5_0 : decide (0 ≤ bp) = false := by exact decide_eq_false (by omega)
        have q5_1 : decide (bp ≥ 0) = false := by exact decide_eq_false (by omega)
        have HRV := Aside0.mk (show r = false by rw [HR.out]; exact decide_eq_false (by unfold evMay evM1 evM2 evM3 evM4 evM5 evZ evT evU evB; omega))
        clear h1_ h2_ hp h3_ h4_ h5_
        go_wp2_with (go_at_call 31; first | (refine (ref_In.tt _ _ _ _ (by first | assumption | decide) (by first | assumption | decide)).mono ?_; rintro e_ w_ ⟨rfl, hw_⟩; subst w_) | (refine (ref_In.lo _ _ _ _ (by first | assumption | decide)).mono ?_; rintro e_ w_ ⟨rfl, hw_⟩; subst w_) | (refine (ref_In.hi _ _ _ _ (by first | assumption | decide) (by first | assumption | decide)).mono ?_; rintro e_ w_ ⟨rfl, hw_⟩; subst w_))
        go_ret
        exact ⟨by rw [HRV.out]; rfl, HY.out⟩
      have q5_0 : decide (0 ≤ bp) = true := by exact decide_eq_true (by omega)
      have q5_1 : decide (bp ≥ 0) = true := by exact decide_eq_true (by omega)
      by_cases h6_ : bp ≤ 10000
      rotate_left
      · have q6_0 : decide (bp ≤ 10000) = false := by exact decide_eq_false (by omega)
        have q6_1 : decide (10000 ≥ bp) = false := by exact decide_eq_false (by omega)
        have HRV := Aside0.mk (show r = false by rw [HR.out]; exact decide_eq_false (by unfold evMay evM1 evM2 evM3 evM4 evM5 evZ evT evU evB; omega))
        clear h1_ h2_ hp h3_ h4_ h5_ h6_
        go_wp2_with (go_at_call 31; first | (refine (ref_In.tt _ _ _ _ (by first | assumption | decide) (by first | assumption | decide)).mono ?_; rintro e_ w_ ⟨rfl, hw_⟩; subst w_) | (refine (ref_In.lo _ _ _ _ (by first | assumption | decide)).mono ?_; rintro e_ w_ ⟨rfl, hw_⟩; subst w_) | (refine (ref_In.hi _ _ _ _ (by first | assumption | decide) (by first | assumption | decide)).mono ?_; rintro e_ w_ ⟨rfl, hw_⟩; subst w_))
        go_ret
        exact ⟨by rw [HRV.out]; rfl, HY.out⟩
      have q6_0 : decide (bp ≤ 10000) = true := by exact decide_eq_true (by omega)
      have q6_1 : decide (10000 ≥ bp) = true := by exact decide_eq_true (by omega)
      have HP := Aside0.mk (And.intro h1_ (And.intro h2_ (And.intro hp (And.intro h3_ (And.intro h4_ (And.intro h5_ (h6_)))))))
      clear h1_ h2_ hp h3_ h4_ h5_ h6_
      go_wp2_with (go_at_call 31; first | (refine (ref_In.tt _ _ _ _ (by first | assumption | decide) (by first | assumption | decide)).mono ?_; rintro e_ w_ ⟨rfl, hw_⟩; subst w_) | (refine (ref_In.lo _ _ _ _ (by first | assumption | decide)).mono ?_; rintro e_ w_ ⟨rfl, hw_⟩; subst w_) | (refine (ref_In.hi _ _ _ _ (by first | assumption | decide) (by first | assumption | decide)).mono ?_; rintro e_ w_ ⟨rfl, hw_⟩; subst w_))
      go_ret
      refine ⟨congrArg (fun b => Ending.returned (.bool b)) (Bool.eq_iff_iff.mpr ?_), HY.out⟩
      rw [HR.out, decide_eq_true_eq]
      have hp := HP.out
      try simp only [Bool.and_eq_true, beq_iff_eq, eq_self, true_iff]
      unfold evMay evM1 evM2 evM3 evM4 evM5 evZ evT evU evB
      omega
  by_cases kr : 2 ≤ k ∧ k ≤ 4
  rotate_left
  · have nn : (k == 1) = false := beq_eq_false_iff_ne.mpr k1
    have n5 : (k == 5) = false := beq_eq_false_iff_ne.mpr k5
    by_cases g2 : 2 ≤ k
    · have n1 : decide (2 ≤ k) = true := decide_eq_true g2
      have n2 : decide (k ≥ 2) = true := decide_eq_true g2
      have n3 : decide (k ≤ 4) = false := decide_eq_false (by omega)
      have HRV := Aside0.mk (show r = false by rw [HR.out]; exact decide_eq_false (by unfold evMay evM1 evM2 evM3 evM4 evM5 evZ evT evU evB; omega))
      clear h1_ h2_ k1 k5 kr g2
      go_wp2_with (go_at_call 31; first | (refine (ref_In.tt _ _ _ _ (by first | assumption | decide) (by first | assumption | decide)).mono ?_; rintro e_ w_ ⟨rfl, hw_⟩; subst w_) | (refine (ref_In.lo _ _ _ _ (by first | assumption | decide)).mono ?_; rintro e_ w_ ⟨rfl, hw_⟩; subst w_) | (refine (ref_In.hi _ _ _ _ (by first | assumption | decide) (by first | assumption | decide)).mono ?_; rintro e_ w_ ⟨rfl, hw_⟩; subst w_))
      go_ret
      exact ⟨by rw [HRV.out]; rfl, HY.out⟩
    · have n1 : decide (2 ≤ k) = false := decide_eq_false g2
      have n2 : decide (k ≥ 2) = false := decide_eq_false g2
      have HRV := Aside0.mk (show r = false by rw [HR.out]; exact decide_eq_false (by unfold evMay evM1 evM2 evM3 evM4 evM5 evZ evT evU evB; omega))
      clear h1_ h2_ k1 k5 kr g2
      go_wp2_with (go_at_call 31; first | (refine (ref_In.tt _ _ _ _ (by first | assumption | decide) (by first | assumption | decide)).mono ?_; rintro e_ w_ ⟨rfl, hw_⟩; subst w_) | (refine (ref_In.lo _ _ _ _ (by first | assumption | decide)).mono ?_; rintro e_ w_ ⟨rfl, hw_⟩; subst w_) | (refine (ref_In.hi _ _ _ _ (by first | assumption | decide) (by first | assumption | decide)).mono ?_; rintro e_ w_ ⟨rfl, hw_⟩; subst w_))
      go_ret
      exact ⟨by rw [HRV.out]; rfl, HY.out⟩
  have nn : (k == 1) = false := beq_eq_false_iff_ne.mpr k1
  have n5 : (k == 5) = false := beq_eq_false_iff_ne.mpr k5
  have n1 : decide (2 ≤ k) = true := decide_eq_true kr.1
  have n2 : decide (k ≥ 2) = true := decide_eq_true kr.1
  have n3 : decide (k ≤ 4) = true := decide_eq_true kr.2
  by_cases h7_ : 1 ≤ id
  rotate_left
  · have q7_0 : decide (1 ≤ id) = false := by exact decide_eq_false (by omega)
    have q7_1 : decide (id ≥ 1) = false := by exact decide_eq_false (by omega)
    have HRV := Aside0.mk (show r = false by rw [HR.out]; exact decide_eq_false (by unfold evMay evM1 evM2 evM3 evM4 evM5 evZ evT evU evB; omega))
    clear h1_ h2_ k1 k5 kr h7_
    go_wp2_with (go_at_call 31; first | (refine (ref_In.tt _ _ _ _ (by first | assumption | decide) (by first | assumption | decide)).mono ?_; rintro e_ w_ ⟨rfl, hw_⟩; subst w_) | (refine (ref_In.lo _ _ _ _ (by first | assumption | decide)).mono ?_; rintro e_ w_ ⟨rfl, hw_⟩; subst w_) | (refine (ref_In.hi _ _ _ _ (by first | assumption | decide) (by first | assumption | decide)).mono ?_; rintro e_ w_ ⟨rfl, hw_⟩; subst w_))
    go_ret
    exact ⟨by rw [HRV.out]; rfl, HY.out⟩
  have q7_0 : decide (1 ≤ id) = true := by exact decide_eq_true (by omega)
  have q7_1 : decide (id ≥ 1) = true := by exact decide_eq_true (by omega)
  by_cases h8_ : id ≤ 1048575
  rotate_left
  · have q8_0 : decide (id ≤ 1048575) = false := by exact decide_eq_false (by omega)
    have q8_1 : decide (1048575 ≥ id) = false := by exact decide_eq_false (by omega)
    have HRV := Aside0.mk (show r = false by rw [HR.out]; exact decide_eq_false (by unfold evMay evM1 evM2 evM3 evM4 evM5 evZ evT evU evB; omega))
    clear h1_ h2_ k1 k5 kr h7_ h8_
    go_wp2_with (go_at_call 31; first | (refine (ref_In.tt _ _ _ _ (by first | assumption | decide) (by first | assumption | decide)).mono ?_; rintro e_ w_ ⟨rfl, hw_⟩; subst w_) | (refine (ref_In.lo _ _ _ _ (by first | assumption | decide)).mono ?_; rintro e_ w_ ⟨rfl, hw_⟩; subst w_) | (refine (ref_In.hi _ _ _ _ (by first | assumption | decide) (by first | assumption | decide)).mono ?_; rintro e_ w_ ⟨rfl, hw_⟩; subst w_))
    go_ret
    exact ⟨by rw [HRV.out]; rfl, HY.out⟩
  have q8_0 : decide (id ≤ 1048575) = true := by exact decide_eq_true (by omega)
  have q8_1 : decide (1048575 ≥ id) = true := by exact decide_eq_true (by omega)
  by_cases h9_ : 0 ≤ tg
  rotate_left
  · have q9_0 : decide (0 ≤ tg) = false := by exact decide_eq_false (by omega)
    have q9_1 : decide (tg ≥ 0) = false := by exact decide_eq_false (by omega)
    have HRV := Aside0.mk (show r = false by rw [HR.out]; exact decide_eq_false (by unfold evMay evM1 evM2 evM3 evM4 evM5 evZ evT evU evB; omega))
    clear h1_ h2_ k1 k5 kr h7_ h8_ h9_
    go_wp2_with (go_at_call 31; first | (refine (ref_In.tt _ _ _ _ (by first | assumption | decide) (by first | assumption | decide)).mono ?_; rintro e_ w_ ⟨rfl, hw_⟩; subst w_) | (refine (ref_In.lo _ _ _ _ (by first | assumption | decide)).mono ?_; rintro e_ w_ ⟨rfl, hw_⟩; subst w_) | (refine (ref_In.hi _ _ _ _ (by first | assumption | decide) (by first | assumption | decide)).mono ?_; rintro e_ w_ ⟨rfl, hw_⟩; subst w_))
    go_ret
    exact ⟨by rw [HRV.out]; rfl, HY.out⟩
  have q9_0 : decide (0 ≤ tg) = true := by exact decide_eq_true (by omega)
  have q9_1 : decide (tg ≥ 0) = true := by exact decide_eq_true (by omega)
  by_cases h10_ : tg ≤ 65535
  rotate_left
  · have q10_0 : decide (tg ≤ 65535) = false := by exact decide_eq_false (by omega)
    have q10_1 : decide (65535 ≥ tg) = false := by exact decide_eq_false (by omega)
    have HRV := Aside0.mk (show r = false by rw [HR.out]; exact decide_eq_false (by unfold evMay evM1 evM2 evM3 evM4 evM5 evZ evT evU evB; omega))
    clear h1_ h2_ k1 k5 kr h7_ h8_ h9_ h10_
    go_wp2_with (go_at_call 31; first | (refine (ref_In.tt _ _ _ _ (by first | assumption | decide) (by first | assumption | decide)).mono ?_; rintro e_ w_ ⟨rfl, hw_⟩; subst w_) | (refine (ref_In.lo _ _ _ _ (by first | assumption | decide)).mono ?_; rintro e_ w_ ⟨rfl, hw_⟩; subst w_) | (refine (ref_In.hi _ _ _ _ (by first | assumption | decide) (by first | assumption | decide)).mono ?_; rintro e_ w_ ⟨rfl, hw_⟩; subst w_))
    go_ret
    exact ⟨by rw [HRV.out]; rfl, HY.out⟩
  have q10_0 : decide (tg ≤ 65535) = true := by exact decide_eq_true (by omega)
  have q10_1 : decide (65535 ≥ tg) = true := by exact decide_eq_true (by omega)
  by_cases h11_ : ow = 0
  rotate_left
  · have q11_0 : (ow == 0) = false := by exact beq_eq_false_iff_ne.mpr (by omega)
    have HRV := Aside0.mk (show r = false by rw [HR.out]; exact decide_eq_false (by unfold evMay evM1 evM2 evM3 evM4 evM5 evZ evT evU evB; omega))
    clear h1_ h2_ k1 k5 kr h7_ h8_ h9_ h10_ h11_
    go_wp2_with (go_at_call 31; first | (refine (ref_In.tt _ _ _ _ (by first | assumption | decide) (by first | assumption | decide)).mono ?_; rintro e_ w_ ⟨rfl, hw_⟩; subst w_) | (refine (ref_In.lo _ _ _ _ (by first | assumption | decide)).mono ?_; rintro e_ w_ ⟨rfl, hw_⟩; subst w_) | (refine (ref_In.hi _ _ _ _ (by first | assumption | decide) (by first | assumption | decide)).mono ?_; rintro e_ w_ ⟨rfl, hw_⟩; subst w_))
    go_ret
    exact ⟨by rw [HRV.out]; rfl, HY.out⟩
  have q11_0 : (ow == 0) = true := by exact beq_iff_eq.mpr (by omega)
  by_cases h12_ : bp = 0
  rotate_left
  · have q12_0 : (bp == 0) = false := by exact beq_eq_false_iff_ne.mpr (by omega)
    have HRV := Aside0.mk (show r = false by rw [HR.out]; exact decide_eq_false (by unfold evMay evM1 evM2 evM3 evM4 evM5 evZ evT evU evB; omega))
    clear h1_ h2_ k1 k5 kr h7_ h8_ h9_ h10_ h11_ h12_
    go_wp2_with (go_at_call 31; first | (refine (ref_In.tt _ _ _ _ (by first | assumption | decide) (by first | assumption | decide)).mono ?_; rintro e_ w_ ⟨rfl, hw_⟩; subst w_) | (refine (ref_In.lo _ _ _ _ (by first | assumption | decide)).mono ?_; rintro e_ w_ ⟨rfl, hw_⟩; subst w_) | (refine (ref_In.hi _ _ _ _ (by first | assumption | decide) (by first | assumption | decide)).mono ?_; rintro e_ w_ ⟨rfl, hw_⟩; subst w_))
    go_ret
    exact ⟨by rw [HRV.out]; rfl, HY.out⟩
  have q12_0 : (bp == 0) = true := by exact beq_iff_eq.mpr (by omega)
  clear nn n5 n1 n2 n3
  by_cases k4 : k = 4
  · subst k4
    by_cases h13_ : mo = 0
    rotate_left
    · have q13_0 : (mo == 0) = false := by exact beq_eq_false_iff_ne.mpr (by omega)
      have HRV := Aside0.mk (show r = false by rw [HR.out]; exact decide_eq_false (by unfold evMay evM1 evM2 evM3 evM4 evM5 evZ evT evU evB; omega))
      clear h1_ h2_ kr h7_ h8_ h9_ h10_ h11_ h12_ h13_
      go_wp2_with (go_at_call 31; first | (refine (ref_In.tt _ _ _ _ (by first | assumption | decide) (by first | assumption | decide)).mono ?_; rintro e_ w_ ⟨rfl, hw_⟩; subst w_) | (refine (ref_In.lo _ _ _ _ (by first | assumption | decide)).mono ?_; rintro e_ w_ ⟨rfl, hw_⟩; subst w_) | (refine (ref_In.hi _ _ _ _ (by first | assumption | decide) (by first | assumption | decide)).mono ?_; rintro e_ w_ ⟨rfl, hw_⟩; subst w_))
      go_ret
      exact ⟨by rw [HRV.out]; rfl, HY.out⟩
    have q13_0 : (mo == 0) = true := by exact beq_iff_eq.mpr (by omega)
    have HP := Aside0.mk (And.intro h1_ (And.intro h2_ (And.intro kr (And.intro h7_ (And.intro h8_ (And.intro h9_ (And.intro h10_ (And.intro h11_ (And.intro h12_ (h13_))))))))))
    clear h1_ h2_ kr h7_ h8_ h9_ h10_ h11_ h12_ h13_
    go_wp2_with (go_at_call 31; first | (refine (ref_In.tt _ _ _ _ (by first | assumption | decide) (by first | assumption | decide)).mono ?_; rintro e_ w_ ⟨rfl, hw_⟩; subst w_) | (refine (ref_In.lo _ _ _ _ (by first | assumption | decide)).mono ?_; rintro e_ w_ ⟨rfl, hw_⟩; subst w_) | (refine (ref_In.hi _ _ _ _ (by first | assumption | decide) (by first | assumption | decide)).mono ?_; rintro e_ w_ ⟨rfl, hw_⟩; subst w_))
    go_ret
    refine ⟨congrArg (fun b => Ending.returned (.bool b)) (Bool.eq_iff_iff.mpr ?_), HY.out⟩
    rw [HR.out, decide_eq_true_eq]
    have hp := HP.out
    try simp only [Bool.and_eq_true, beq_iff_eq, eq_self, true_iff]
    unfold evMay evM1 evM2 evM3 evM4 evM5 evZ evT evU evB
    omega
  by_cases k3 : k = 3
  · subst k3
    clear k4
    by_cases h14_ : 0 ≤ mo
    rotate_left
    · have q14_0 : decide (0 ≤ mo) = false := by exact decide_eq_false (by omega)
      have q14_1 : decide (mo ≥ 0) = false := by exact decide_eq_false (by omega)
      have HRV := Aside0.mk (show r = false by rw [HR.out]; exact decide_eq_false (by unfold evMay evM1 evM2 evM3 evM4 evM5 evZ evT evU evB; omega))
      clear h1_ h2_ kr h7_ h8_ h9_ h10_ h11_ h12_ h14_
      go_wp2_with (go_at_call 31; first | (refine (ref_In.tt _ _ _ _ (by first | assumption | decide) (by first | assumption | decide)).mono ?_; rintro e_ w_ ⟨rfl, hw_⟩; subst w_) | (refine (ref_In.lo _ _ _ _ (by first | assumption | decide)).mono ?_; rintro e_ w_ ⟨rfl, hw_⟩; subst w_) | (refine (ref_In.hi _ _ _ _ (by first | assumption | decide) (by first | assumption | decide)).mono ?_; rintro e_ w_ ⟨rfl, hw_⟩; subst w_))
      go_ret
      exact ⟨by rw [HRV.out]; rfl, HY.out⟩
    have q14_0 : decide (0 ≤ mo) = true := by exact decide_eq_true (by omega)
    have q14_1 : decide (mo ≥ 0) = true := by exact decide_eq_true (by omega)
    by_cases h15_ : mo ≤ 2399
    rotate_left
    · have q15_0 : decide (mo ≤ 2399) = false := by exact decide_eq_false (by omega)
      have q15_1 : decide (2399 ≥ mo) = false := by exact decide_eq_false (by omega)
      have HRV := Aside0.mk (show r = false by rw [HR.out]; exact decide_eq_false (by unfold evMay evM1 evM2 evM3 evM4 evM5 evZ evT evU evB; omega))
      clear h1_ h2_ kr h7_ h8_ h9_ h10_ h11_ h12_ h14_ h15_
      go_wp2_with (go_at_call 31; first | (refine (ref_In.tt _ _ _ _ (by first | assumption | decide) (by first | assumption | decide)).mono ?_; rintro e_ w_ ⟨rfl, hw_⟩; subst w_) | (refine (ref_In.lo _ _ _ _ (by first | assumption | decide)).mono ?_; rintro e_ w_ ⟨rfl, hw_⟩; subst w_) | (refine (ref_In.hi _ _ _ _ (by first | assumption | decide) (by first | assumption | decide)).mono ?_; rintro e_ w_ ⟨rfl, hw_⟩; subst w_))
      go_ret
      exact ⟨by rw [HRV.out]; rfl, HY.out⟩
    have q15_0 : decide (mo ≤ 2399) = true := by exact decide_eq_true (by omega)
    have q15_1 : decide (2399 ≥ mo) = true := by exact decide_eq_true (by omega)
    by_cases h16_ : 1 ≤ un
    rotate_left
    · have q16_0 : decide (1 ≤ un) = false := by exact decide_eq_false (by omega)
      have q16_1 : decide (un ≥ 1) = false := by exact decide_eq_false (by omega)
      have HRV := Aside0.mk (show r = false by rw [HR.out]; exact decide_eq_false (by unfold evMay evM1 evM2 evM3 evM4 evM5 evZ evT evU evB; omega))
      clear h1_ h2_ kr h7_ h8_ h9_ h10_ h11_ h12_ h14_ h15_ h16_
      go_wp2_with (go_at_call 31; first | (refine (ref_In.tt _ _ _ _ (by first | assumption | decide) (by first | assumption | decide)).mono ?_; rintro e_ w_ ⟨rfl, hw_⟩; subst w_) | (refine (ref_In.lo _ _ _ _ (by first | assumption | decide)).mono ?_; rintro e_ w_ ⟨rfl, hw_⟩; subst w_) | (refine (ref_In.hi _ _ _ _ (by first | assumption | decide) (by first | assumption | decide)).mono ?_; rintro e_ w_ ⟨rfl, hw_⟩; subst w_))
      go_ret
      exact ⟨by rw [HRV.out]; rfl, HY.out⟩
    have q16_0 : decide (1 ≤ un) = true := by exact decide_eq_true (by omega)
    have q16_1 : decide (un ≥ 1) = true := by exact decide_eq_true (by omega)
    by_cases h17_ : un ≤ 2097151
    rotate_left
    · have q17_0 : decide (un ≤ 2097151) = false := by exact decide_eq_false (by omega)
      have q17_1 : decide (2097151 ≥ un) = false := by exact decide_eq_false (by omega)
      have HRV := Aside0.mk (show r = false by rw [HR.out]; exact decide_eq_false (by unfold evMay evM1 evM2 evM3 evM4 evM5 evZ evT evU evB; omega))
      clear h1_ h2_ kr h7_ h8_ h9_ h10_ h11_ h12_ h14_ h15_ h16_ h17_
      go_wp2_with (go_at_call 31; first | (refine (ref_In.tt _ _ _ _ (by first | assumption | decide) (by first | assumption | decide)).mono ?_; rintro e_ w_ ⟨rfl, hw_⟩; subst w_) | (refine (ref_In.lo _ _ _ _ (by first | assumption | decide)).mono ?_; rintro e_ w_ ⟨rfl, hw_⟩; subst w_) | (refine (ref_In.hi _ _ _ _ (by first | assumption | decide) (by first | assumption | decide)).mono ?_; rintro e_ w_ ⟨rfl, hw_⟩; subst w_))
      go_ret
      exact ⟨by rw [HRV.out]; rfl, HY.out⟩
    have q17_0 : decide (un ≤ 2097151) = true := by exact decide_eq_true (by omega)
    have q17_1 : decide (2097151 ≥ un) = true := by exact decide_eq_true (by omega)
    have HP := Aside0.mk (And.intro h1_ (And.intro h2_ (And.intro kr (And.intro h7_ (And.intro h8_ (And.intro h9_ (And.intro h10_ (And.intro h11_ (And.intro h12_ (And.intro h14_ (And.intro h15_ (And.intro h16_ (h17_)))))))))))))
    clear h1_ h2_ kr h7_ h8_ h9_ h10_ h11_ h12_ h14_ h15_ h16_ h17_
    go_wp2_with (go_at_call 31; first | (refine (ref_In.tt _ _ _ _ (by first | assumption | decide) (by first | assumption | decide)).mono ?_; rintro e_ w_ ⟨rfl, hw_⟩; subst w_) | (refine (ref_In.lo _ _ _ _ (by first | assumption | decide)).mono ?_; rintro e_ w_ ⟨rfl, hw_⟩; subst w_) | (refine (ref_In.hi _ _ _ _ (by first | assumption | decide) (by first | assumption | decide)).mono ?_; rintro e_ w_ ⟨rfl, hw_⟩; subst w_))
    go_ret
    refine ⟨congrArg (fun b => Ending.returned (.bool b)) (Bool.eq_iff_iff.mpr ?_), HY.out⟩
    rw [HR.out, decide_eq_true_eq]
    have hp := HP.out
    try simp only [Bool.and_eq_true, beq_iff_eq, eq_self, true_iff]
    unfold evMay evM1 evM2 evM3 evM4 evM5 evZ evT evU evB
    omega
  obtain rfl : k = 2 := by omega
  clear k4 k3 k1 k5
  by_cases h18_ : 0 ≤ mo
  rotate_left
  · have q18_0 : decide (0 ≤ mo) = false := by exact decide_eq_false (by omega)
    have q18_1 : decide (mo ≥ 0) = false := by exact decide_eq_false (by omega)
    have HRV := Aside0.mk (show r = false by rw [HR.out]; exact decide_eq_false (by unfold evMay evM1 evM2 evM3 evM4 evM5 evZ evT evU evB; omega))
    clear h1_ h2_ kr h7_ h8_ h9_ h10_ h11_ h12_ h18_
    go_wp2_with (go_at_call 31; first | (refine (ref_In.tt _ _ _ _ (by first | assumption | decide) (by first | assumption | decide)).mono ?_; rintro e_ w_ ⟨rfl, hw_⟩; subst w_) | (refine (ref_In.lo _ _ _ _ (by first | assumption | decide)).mono ?_; rintro e_ w_ ⟨rfl, hw_⟩; subst w_) | (refine (ref_In.hi _ _ _ _ (by first | assumption | decide) (by first | assumption | decide)).mono ?_; rintro e_ w_ ⟨rfl, hw_⟩; subst w_))
    go_ret
    exact ⟨by rw [HRV.out]; rfl, HY.out⟩
  have q18_0 : decide (0 ≤ mo) = true := by exact decide_eq_true (by omega)
  have q18_1 : decide (mo ≥ 0) = true := by exact decide_eq_true (by omega)
  by_cases h19_ : mo ≤ 2399
  rotate_left
  · have q19_0 : decide (mo ≤ 2399) = false := by exact decide_eq_false (by omega)
    have q19_1 : decide (2399 ≥ mo) = false := by exact decide_eq_false (by omega)
    have HRV := Aside0.mk (show r = false by rw [HR.out]; exact decide_eq_false (by unfold evMay evM1 evM2 evM3 evM4 evM5 evZ evT evU evB; omega))
    clear h1_ h2_ kr h7_ h8_ h9_ h10_ h11_ h12_ h18_ h19_
    go_wp2_with (go_at_call 31; first | (refine (ref_In.tt _ _ _ _ (by first | assumption | decide) (by first | assumption | decide)).mono ?_; rintro e_ w_ ⟨rfl, hw_⟩; subst w_) | (refine (ref_In.lo _ _ _ _ (by first | assumption | decide)).mono ?_; rintro e_ w_ ⟨rfl, hw_⟩; subst w_) | (refine (ref_In.hi _ _ _ _ (by first | assumption | decide) (by first | assumption | decide)).mono ?_; rintro e_ w_ ⟨rfl, hw_⟩; subst w_))
    go_ret
    exact ⟨by rw [HRV.out]; rfl, HY.out⟩
  have q19_0 : decide (mo ≤ 2399) = true := by exact decide_eq_true (by omega)
  have q19_1 : decide (2399 ≥ mo) = true := by exact decide_eq_true (by omega)
  by_cases h20_ : 1 ≤ un
  rotate_left
  · have q20_0 : decide (1 ≤ un) = false := by exact decide_eq_false (by omega)
    have q20_1 : decide (un ≥ 1) = false := by exact decide_eq_false (by omega)
    have HRV := Aside0.mk (show r = false by rw [HR.out]; exact decide_eq_false (by unfold evMay evM1 evM2 evM3 evM4 evM5 evZ evT evU evB; omega))
    clear h1_ h2_ kr h7_ h8_ h9_ h10_ h11_ h12_ h18_ h19_ h20_
    go_wp2_with (go_at_call 31; first | (refine (ref_In.tt _ _ _ _ (by first | assumption | decide) (by first | assumption | decide)).mono ?_; rintro e_ w_ ⟨rfl, hw_⟩; subst w_) | (refine (ref_In.lo _ _ _ _ (by first | assumption | decide)).mono ?_; rintro e_ w_ ⟨rfl, hw_⟩; subst w_) | (refine (ref_In.hi _ _ _ _ (by first | assumption | decide) (by first | assumption | decide)).mono ?_; rintro e_ w_ ⟨rfl, hw_⟩; subst w_))
    go_ret
    exact ⟨by rw [HRV.out]; rfl, HY.out⟩
  have q20_0 : decide (1 ≤ un) = true := by exact decide_eq_true (by omega)
  have q20_1 : decide (un ≥ 1) = true := by exact decide_eq_true (by omega)
  by_cases h21_ : un ≤ 2097151
  rotate_left
  · have q21_0 : decide (un ≤ 2097151) = false := by exact decide_eq_false (by omega)
    have q21_1 : decide (2097151 ≥ un) = false := by exact decide_eq_false (by omega)
    have HRV := Aside0.mk (show r = false by rw [HR.out]; exact decide_eq_false (by unfold evMay evM1 evM2 evM3 evM4 evM5 evZ evT evU evB; omega))
    clear h1_ h2_ kr h7_ h8_ h9_ h10_ h11_ h12_ h18_ h19_ h20_ h21_
    go_wp2_with (go_at_call 31; first | (refine (ref_In.tt _ _ _ _ (by first | assumption | decide) (by first | assumption | decide)).mono ?_; rintro e_ w_ ⟨rfl, hw_⟩; subst w_) | (refine (ref_In.lo _ _ _ _ (by first | assumption | decide)).mono ?_; rintro e_ w_ ⟨rfl, hw_⟩; subst w_) | (refine (ref_In.hi _ _ _ _ (by first | assumption | decide) (by first | assumption | decide)).mono ?_; rintro e_ w_ ⟨rfl, hw_⟩; subst w_))
    go_ret
    exact ⟨by rw [HRV.out]; rfl, HY.out⟩
  have q21_0 : decide (un ≤ 2097151) = true := by exact decide_eq_true (by omega)
  have q21_1 : decide (2097151 ≥ un) = true := by exact decide_eq_true (by omega)
  by_cases h22_ : 1 ≤ te
  rotate_left
  · have q22_0 : decide (1 ≤ te) = false := by exact decide_eq_false (by omega)
    have q22_1 : decide (te ≥ 1) = false := by exact decide_eq_false (by omega)
    have HRV := Aside0.mk (show r = false by rw [HR.out]; exact decide_eq_false (by unfold evMay evM1 evM2 evM3 evM4 evM5 evZ evT evU evB; omega))
    clear h1_ h2_ kr h7_ h8_ h9_ h10_ h11_ h12_ h18_ h19_ h20_ h21_ h22_
    go_wp2_with (go_at_call 31; first | (refine (ref_In.tt _ _ _ _ (by first | assumption | decide) (by first | assumption | decide)).mono ?_; rintro e_ w_ ⟨rfl, hw_⟩; subst w_) | (refine (ref_In.lo _ _ _ _ (by first | assumption | decide)).mono ?_; rintro e_ w_ ⟨rfl, hw_⟩; subst w_) | (refine (ref_In.hi _ _ _ _ (by first | assumption | decide) (by first | assumption | decide)).mono ?_; rintro e_ w_ ⟨rfl, hw_⟩; subst w_))
    go_ret
    exact ⟨by rw [HRV.out]; rfl, HY.out⟩
  have q22_0 : decide (1 ≤ te) = true := by exact decide_eq_true (by omega)
  have q22_1 : decide (te ≥ 1) = true := by exact decide_eq_true (by omega)
  by_cases h23_ : te ≤ 100000000
  rotate_left
  · have q23_0 : decide (te ≤ 100000000) = false := by exact decide_eq_false (by omega)
    have q23_1 : decide (100000000 ≥ te) = false := by exact decide_eq_false (by omega)
    have HRV := Aside0.mk (show r = false by rw [HR.out]; exact decide_eq_false (by unfold evMay evM1 evM2 evM3 evM4 evM5 evZ evT evU evB; omega))
    clear h1_ h2_ kr h7_ h8_ h9_ h10_ h11_ h12_ h18_ h19_ h20_ h21_ h22_ h23_
    go_wp2_with (go_at_call 31; first | (refine (ref_In.tt _ _ _ _ (by first | assumption | decide) (by first | assumption | decide)).mono ?_; rintro e_ w_ ⟨rfl, hw_⟩; subst w_) | (refine (ref_In.lo _ _ _ _ (by first | assumption | decide)).mono ?_; rintro e_ w_ ⟨rfl, hw_⟩; subst w_) | (refine (ref_In.hi _ _ _ _ (by first | assumption | decide) (by first | assumption | decide)).mono ?_; rintro e_ w_ ⟨rfl, hw_⟩; subst w_))
    go_ret
    exact ⟨by rw [HRV.out]; rfl, HY.out⟩
  have q23_0 : decide (te ≤ 100000000) = true := by exact decide_eq_true (by omega)
  have q23_1 : decide (100000000 ≥ te) = true := by exact decide_eq_true (by omega)
  by_cases h24_ : 0 ≤ de
  rotate_left
  · have q24_0 : decide (0 ≤ de) = false := by exact decide_eq_false (by omega)
    have q24_1 : decide (de ≥ 0) = false := by exact decide_eq_false (by omega)
    have HRV := Aside0.mk (show r = false by rw [HR.out]; exact decide_eq_false (by unfold evMay evM1 evM2 evM3 evM4 evM5 evZ evT evU evB; omega))
    clear h1_ h2_ kr h7_ h8_ h9_ h10_ h11_ h12_ h18_ h19_ h20_ h21_ h22_ h23_ h24_
    go_wp2_with (go_at_call 31; first | (refine (ref_In.tt _ _ _ _ (by first | assumption | decide) (by first | assumption | decide)).mono ?_; rintro e_ w_ ⟨rfl, hw_⟩; subst w_) | (refine (ref_In.lo _ _ _ _ (by first | assumption | decide)).mono ?_; rintro e_ w_ ⟨rfl, hw_⟩; subst w_) | (refine (ref_In.hi _ _ _ _ (by first | assumption | decide) (by first | assumption | decide)).mono ?_; rintro e_ w_ ⟨rfl, hw_⟩; subst w_))
    go_ret
    exact ⟨by rw [HRV.out]; rfl, HY.out⟩
  have q24_0 : decide (0 ≤ de) = true := by exact decide_eq_true (by omega)
  have q24_1 : decide (de ≥ 0) = true := by exact decide_eq_true (by omega)
  by_cases h25_ : de ≤ te
  rotate_left
  · have q25_0 : decide (de ≤ te) = false := by exact decide_eq_false (by omega)
    have q25_1 : decide (te ≥ de) = false := by exact decide_eq_false (by omega)
    have HRV := Aside0.mk (show r = false by rw [HR.out]; exact decide_eq_false (by unfold evMay evM1 evM2 evM3 evM4 evM5 evZ evT evU evB; omega))
    clear h1_ h2_ kr h7_ h8_ h9_ h10_ h11_ h12_ h18_ h19_ h20_ h21_ h22_ h23_ h24_ h25_
    go_wp2_with (go_at_call 31; first | (refine (ref_In.tt _ _ _ _ (by first | assumption | decide) (by first | assumption | decide)).mono ?_; rintro e_ w_ ⟨rfl, hw_⟩; subst w_) | (refine (ref_In.lo _ _ _ _ (by first | assumption | decide)).mono ?_; rintro e_ w_ ⟨rfl, hw_⟩; subst w_) | (refine (ref_In.hi _ _ _ _ (by first | assumption | decide) (by first | assumption | decide)).mono ?_; rintro e_ w_ ⟨rfl, hw_⟩; subst w_))
    go_ret
    exact ⟨by rw [HRV.out]; rfl, HY.out⟩
  have q25_0 : decide (de ≤ te) = true := by exact decide_eq_true (by omega)
  have q25_1 : decide (te ≥ de) = true := by exact decide_eq_true (by omega)
  by_cases h26_ : 0 ≤ fe
  rotate_left
  · have q26_0 : decide (0 ≤ fe) = false := by exact decide_eq_false (by omega)
    have q26_1 : decide (fe ≥ 0) = false := by exact decide_eq_false (by omega)
    have HRV := Aside0.mk (show r = false by rw [HR.out]; exact decide_eq_false (by unfold evMay evM1 evM2 evM3 evM4 evM5 evZ evT evU evB; omega))
    clear h1_ h2_ kr h7_ h8_ h9_ h10_ h11_ h12_ h18_ h19_ h20_ h21_ h22_ h23_ h24_ h25_ h26_
    go_wp2_with (go_at_call 31; first | (refine (ref_In.tt _ _ _ _ (by first | assumption | decide) (by first | assumption | decide)).mono ?_; rintro e_ w_ ⟨rfl, hw_⟩; subst w_) | (refine (ref_In.lo _ _ _ _ (by first | assumption | decide)).mono ?_; rintro e_ w_ ⟨rfl, hw_⟩; subst w_) | (refine (ref_In.hi _ _ _ _ (by first | assumption | decide) (by first | assumption | decide)).mono ?_; rintro e_ w_ ⟨rfl, hw_⟩; subst w_))
    go_ret
    exact ⟨by rw [HRV.out]; rfl, HY.out⟩
  have q26_0 : decide (0 ≤ fe) = true := by exact decide_eq_true (by omega)
  have q26_1 : decide (fe ≥ 0) = true := by exact decide_eq_true (by omega)
  by_cases h27_ : fe ≤ te
  rotate_left
  · have q27_0 : decide (fe ≤ te) = false := by exact decide_eq_false (by omega)
    have q27_1 : decide (te ≥ fe) = false := by exact decide_eq_false (by omega)
    have HRV := Aside0.mk (show r = false by rw [HR.out]; exact decide_eq_false (by unfold evMay evM1 evM2 evM3 evM4 evM5 evZ evT evU evB; omega))
    clear h1_ h2_ kr h7_ h8_ h9_ h10_ h11_ h12_ h18_ h19_ h20_ h21_ h22_ h23_ h24_ h25_ h26_ h27_
    go_wp2_with (go_at_call 31; first | (refine (ref_In.tt _ _ _ _ (by first | assumption | decide) (by first | assumption | decide)).mono ?_; rintro e_ w_ ⟨rfl, hw_⟩; subst w_) | (refine (ref_In.lo _ _ _ _ (by first | assumption | decide)).mono ?_; rintro e_ w_ ⟨rfl, hw_⟩; subst w_) | (refine (ref_In.hi _ _ _ _ (by first | assumption | decide) (by first | assumption | decide)).mono ?_; rintro e_ w_ ⟨rfl, hw_⟩; subst w_))
    go_ret
    exact ⟨by rw [HRV.out]; rfl, HY.out⟩
  have q27_0 : decide (fe ≤ te) = true := by exact decide_eq_true (by omega)
  have q27_1 : decide (te ≥ fe) = true := by exact decide_eq_true (by omega)
  by_cases h28_ : 0 ≤ pr
  rotate_left
  · have q28_0 : decide (0 ≤ pr) = false := by exact decide_eq_false (by omega)
    have q28_1 : decide (pr ≥ 0) = false := by exact decide_eq_false (by omega)
    have HRV := Aside0.mk (show r = false by rw [HR.out]; exact decide_eq_false (by unfold evMay evM1 evM2 evM3 evM4 evM5 evZ evT evU evB; omega))
    clear h1_ h2_ kr h7_ h8_ h9_ h10_ h11_ h12_ h18_ h19_ h20_ h21_ h22_ h23_ h24_ h25_ h26_ h27_ h28_
    go_wp2_with (go_at_call 31; first | (refine (ref_In.tt _ _ _ _ (by first | assumption | decide) (by first | assumption | decide)).mono ?_; rintro e_ w_ ⟨rfl, hw_⟩; subst w_) | (refine (ref_In.lo _ _ _ _ (by first | assumption | decide)).mono ?_; rintro e_ w_ ⟨rfl, hw_⟩; subst w_) | (refine (ref_In.hi _ _ _ _ (by first | assumption | decide) (by first | assumption | decide)).mono ?_; rintro e_ w_ ⟨rfl, hw_⟩; subst w_))
    go_ret
    exact ⟨by rw [HRV.out]; rfl, HY.out⟩
  have q28_0 : decide (0 ≤ pr) = true := by exact decide_eq_true (by omega)
  have q28_1 : decide (pr ≥ 0) = true := by exact decide_eq_true (by omega)
  by_cases h29_ : pr ≤ te
  rotate_left
  · have q29_0 : decide (pr ≤ te) = false := by exact decide_eq_false (by omega)
    have q29_1 : decide (te ≥ pr) = false := by exact decide_eq_false (by omega)
    have HRV := Aside0.mk (show r = false by rw [HR.out]; exact decide_eq_false (by unfold evMay evM1 evM2 evM3 evM4 evM5 evZ evT evU evB; omega))
    clear h1_ h2_ kr h7_ h8_ h9_ h10_ h11_ h12_ h18_ h19_ h20_ h21_ h22_ h23_ h24_ h25_ h26_ h27_ h28_ h29_
    go_wp2_with (go_at_call 31; first | (refine (ref_In.tt _ _ _ _ (by first | assumption | decide) (by first | assumption | decide)).mono ?_; rintro e_ w_ ⟨rfl, hw_⟩; subst w_) | (refine (ref_In.lo _ _ _ _ (by first | assumption | decide)).mono ?_; rintro e_ w_ ⟨rfl, hw_⟩; subst w_) | (refine (ref_In.hi _ _ _ _ (by first | assumption | decide) (by first | assumption | decide)).mono ?_; rintro e_ w_ ⟨rfl, hw_⟩; subst w_))
    go_ret
    exact ⟨by rw [HRV.out]; rfl, HY.out⟩
  have q29_0 : decide (pr ≤ te) = true := by exact decide_eq_true (by omega)
  have q29_1 : decide (te ≥ pr) = true := by exact decide_eq_true (by omega)
  by_cases h30_ : 0 ≤ ch
  rotate_left
  · have q30_0 : decide (0 ≤ ch) = false := by exact decide_eq_false (by omega)
    have q30_1 : decide (ch ≥ 0) = false := by exact decide_eq_false (by omega)
    have HRV := Aside0.mk (show r = false by rw [HR.out]; exact decide_eq_false (by unfold evMay evM1 evM2 evM3 evM4 evM5 evZ evT evU evB; omega))
    clear h1_ h2_ kr h7_ h8_ h9_ h10_ h11_ h12_ h18_ h19_ h20_ h21_ h22_ h23_ h24_ h25_ h26_ h27_ h28_ h29_ h30_
    go_wp2_with (go_at_call 31; first | (refine (ref_In.tt _ _ _ _ (by first | assumption | decide) (by first | assumption | decide)).mono ?_; rintro e_ w_ ⟨rfl, hw_⟩; subst w_) | (refine (ref_In.lo _ _ _ _ (by first | assumption | decide)).mono ?_; rintro e_ w_ ⟨rfl, hw_⟩; subst w_) | (refine (ref_In.hi _ _ _ _ (by first | assumption | decide) (by first | assumption | decide)).mono ?_; rintro e_ w_ ⟨rfl, hw_⟩; subst w_))
    go_ret
    exact ⟨by rw [HRV.out]; rfl, HY.out⟩
  have q30_0 : decide (0 ≤ ch) = true := by exact decide_eq_true (by omega)
  have q30_1 : decide (ch ≥ 0) = true := by exact decide_eq_true (by omega)
  by_cases h31_ : ch ≤ te
  rotate_left
  · have q31_0 : decide (ch ≤ te) = false := by exact decide_eq_false (by omega)
    have q31_1 : decide (te ≥ ch) = false := by exact decide_eq_false (by omega)
    have HRV := Aside0.mk (show r = false by rw [HR.out]; exact decide_eq_false (by unfold evMay evM1 evM2 evM3 evM4 evM5 evZ evT evU evB; omega))
    clear h1_ h2_ kr h7_ h8_ h9_ h10_ h11_ h12_ h18_ h19_ h20_ h21_ h22_ h23_ h24_ h25_ h26_ h27_ h28_ h29_ h30_ h31_
    go_wp2_with (go_at_call 31; first | (refine (ref_In.tt _ _ _ _ (by first | assumption | decide) (by first | assumption | decide)).mono ?_; rintro e_ w_ ⟨rfl, hw_⟩; subst w_) | (refine (ref_In.lo _ _ _ _ (by first | assumption | decide)).mono ?_; rintro e_ w_ ⟨rfl, hw_⟩; subst w_) | (refine (ref_In.hi _ _ _ _ (by first | assumption | decide) (by first | assumption | decide)).mono ?_; rintro e_ w_ ⟨rfl, hw_⟩; subst w_))
    go_ret
    exact ⟨by rw [HRV.out]; rfl, HY.out⟩
  have q31_0 : decide (ch ≤ te) = true := by exact decide_eq_true (by omega)
  have q31_1 : decide (te ≥ ch) = true := by exact decide_eq_true (by omega)
  have w1 : wrap64 (de + fe) = de + fe := IntWalk.wrap64_in _ ⟨by omega, by omega⟩
  have w2 : wrap64 (de + fe + pr) = de + fe + pr := IntWalk.wrap64_in _ ⟨by omega, by omega⟩
  have w3 : wrap64 (de + fe + pr + ch) = de + fe + pr + ch := IntWalk.wrap64_in _ ⟨by omega, by omega⟩
  have HP := Aside0.mk (And.intro h1_ (And.intro h2_ (And.intro kr (And.intro h7_ (And.intro h8_ (And.intro h9_ (And.intro h10_ (And.intro h11_ (And.intro h12_ (And.intro h18_ (And.intro h19_ (And.intro h20_ (And.intro h21_ (And.intro h22_ (And.intro h23_ (And.intro h24_ (And.intro h25_ (And.intro h26_ (And.intro h27_ (And.intro h28_ (And.intro h29_ (And.intro h30_ (h31_)))))))))))))))))))))))
  clear h1_ h2_ kr h7_ h8_ h9_ h10_ h11_ h12_ h18_ h19_ h20_ h21_ h22_ h23_ h24_ h25_ h26_ h27_ h28_ h29_ h30_ h31_
  go_wp2_with (go_at_call 31; first | (refine (ref_In.tt _ _ _ _ (by first | assumption | decide) (by first | assumption | decide)).mono ?_; rintro e_ w_ ⟨rfl, hw_⟩; subst w_) | (refine (ref_In.lo _ _ _ _ (by first | assumption | decide)).mono ?_; rintro e_ w_ ⟨rfl, hw_⟩; subst w_) | (refine (ref_In.hi _ _ _ _ (by first | assumption | decide) (by first | assumption | decide)).mono ?_; rintro e_ w_ ⟨rfl, hw_⟩; subst w_))
  go_ret
  refine ⟨congrArg (fun b => Ending.returned (.bool b)) (Bool.eq_iff_iff.mpr ?_), HY.out⟩
  rw [HR.out, decide_eq_true_eq]
  have hp := HP.out
  try simp only [Bool.and_eq_true, beq_iff_eq, eq_self, true_iff]
  unfold evMay evM1 evM2 evM3 evM4 evM5 evZ evT evU evB
  omega
/-! ### vendmeterref_EventMay: function 41 (by hand) -/
def vendmeterref_EventMay.f (a0_0 : Int) (a0_1 : Int) (a0_2 : Int) (a0_3 : Int) (a0_4 : Int) (a0_5 : Int) (a0_6 : Int) (a0_7 : Int) (a0_8 : Int) (a0_9 : Int) (a0_10 : Int) (a0_11 : Int) (a0_12 : Int) : Option (Bool) := some (evOk a0_0 a0_1 a0_2 a0_3 a0_4 a0_5 a0_6 a0_7 a0_8 a0_9 a0_10 a0_11 a0_12)
theorem vendmeterref_EventMay.calls (a0_0 : Int) (a0_1 : Int) (a0_2 : Int) (a0_3 : Int) (a0_4 : Int) (a0_5 : Int) (a0_6 : Int) (a0_7 : Int) (a0_8 : Int) (a0_9 : Int) (a0_10 : Int) (a0_11 : Int) (a0_12 : Int) (r : Bool) (w : World) (h : vendmeterref_EventMay.f a0_0 a0_1 a0_2 a0_3 a0_4 a0_5 a0_6 a0_7 a0_8 a0_9 a0_10 a0_11 a0_12 = some r) :
    Calls Try.prog 41 #[.agg #[.int .i64 a0_0, .int .i64 a0_1, .int .i64 a0_2, .int .i64 a0_3, .int .i64 a0_4, .int .i64 a0_5, .int .i64 a0_6, .int .i64 a0_7, .int .i64 a0_8, .int .i64 a0_9, .int .i64 a0_10, .int .i64 a0_11, .int .i64 a0_12]] w fun e w' => e = .returned (.bool r) ∧ Below w.heap.size w w' :=
  vendmeterref_EventMay.at_ w a0_0 a0_1 a0_2 a0_3 a0_4 a0_5 a0_6 a0_7 a0_8 a0_9 a0_10 a0_11 a0_12 r (Option.some.inj h).symm

/-! ### vendmeterref_Encoded: function 14 -/
theorem xa14 {w : World} {g : Nat} {o : Obj} (h : w.heap[g]? = some o) (o' : Obj) : (w.alloc o').heap[g]? = some o := blk_alloc h o'
theorem xd14 {w : World} {g : Nat} {o : Obj} (h : w.heap[g]? = some o) : w.drew.heap[g]? = some o := blk_drew h
theorem xn14 {w : World} {g : Nat} {o : Obj} (h : w.heap[g]? = some o) (n : Nat) : (w.drewN n).heap[g]? = some o := blk_drewN h n
theorem ya14 {w W : World} (h : Below w.heap.size w W) (o : Obj) : Below w.heap.size w (W.alloc o) := below_alloc h o
theorem yn14 {B : Nat} {w W : World} (h : Below B w W) (n : Nat) : Below B w (W.drewN n) := pw_below_drewN h n
theorem yd14 {B : Nat} {w W : World} (h : Below B w W) : Below B w W.drew := below_drew1 h
theorem c7_14 {w : World} {g : Nat} {t : TypeId} {x0 x1 x2 x3 x4 x5 x6 : Value} {r : List Value} (h : w.heap[g]? = some (.cells (List.toArray (x0 :: x1 :: x2 :: x3 :: x4 :: x5 :: x6 :: r)) t (0, 0))) : w.cell? ⟨g, 0, none⟩ = some x0 ∧ w.cell? ⟨g, 1, none⟩ = some x1 ∧ w.cell? ⟨g, 2, none⟩ = some x2 ∧ w.cell? ⟨g, 3, none⟩ = some x3 ∧ w.cell? ⟨g, 4, none⟩ = some x4 ∧ w.cell? ⟨g, 5, none⟩ = some x5 ∧ w.cell? ⟨g, 6, none⟩ = some x6 := ⟨(blk_cell h 0).trans rfl, (blk_cell h 1).trans rfl, (blk_cell h 2).trans rfl, (blk_cell h 3).trans rfl, (blk_cell h 4).trans rfl, (blk_cell h 5).trans rfl, (blk_cell h 6).trans rfl⟩
theorem c13_14 {w : World} {g : Nat} {t : TypeId} {x0 x1 x2 x3 x4 x5 x6 x7 x8 x9 x10 x11 x12 : Value} {r : List Value} (h : w.heap[g]? = some (.cells (List.toArray (x0 :: x1 :: x2 :: x3 :: x4 :: x5 :: x6 :: x7 :: x8 :: x9 :: x10 :: x11 :: x12 :: r)) t (0, 0))) : w.cell? ⟨g, 0, none⟩ = some x0 ∧ w.cell? ⟨g, 1, none⟩ = some x1 ∧ w.cell? ⟨g, 2, none⟩ = some x2 ∧ w.cell? ⟨g, 3, none⟩ = some x3 ∧ w.cell? ⟨g, 4, none⟩ = some x4 ∧ w.cell? ⟨g, 5, none⟩ = some x5 ∧ w.cell? ⟨g, 6, none⟩ = some x6 ∧ w.cell? ⟨g, 7, none⟩ = some x7 ∧ w.cell? ⟨g, 8, none⟩ = some x8 ∧ w.cell? ⟨g, 9, none⟩ = some x9 ∧ w.cell? ⟨g, 10, none⟩ = some x10 ∧ w.cell? ⟨g, 11, none⟩ = some x11 ∧ w.cell? ⟨g, 12, none⟩ = some x12 := ⟨(blk_cell h 0).trans rfl, (blk_cell h 1).trans rfl, (blk_cell h 2).trans rfl, (blk_cell h 3).trans rfl, (blk_cell h 4).trans rfl, (blk_cell h 5).trans rfl, (blk_cell h 6).trans rfl, (blk_cell h 7).trans rfl, (blk_cell h 8).trans rfl, (blk_cell h 9).trans rfl, (blk_cell h 10).trans rfl, (blk_cell h 11).trans rfl, (blk_cell h 12).trans rfl⟩
theorem f7_14 {w : World} {g : Nat} {t : TypeId} {cs : Array Value} (h : w.heap[g]? = some (.cells cs t (0, 0))) : w.frozen? ⟨g, 0, none⟩ = false ∧ w.frozen? ⟨g, 1, none⟩ = false ∧ w.frozen? ⟨g, 2, none⟩ = false ∧ w.frozen? ⟨g, 3, none⟩ = false ∧ w.frozen? ⟨g, 4, none⟩ = false ∧ w.frozen? ⟨g, 5, none⟩ = false ∧ w.frozen? ⟨g, 6, none⟩ = false := ⟨blk_frozen h 0, blk_frozen h 1, blk_frozen h 2, blk_frozen h 3, blk_frozen h 4, blk_frozen h 5, blk_frozen h 6⟩
theorem f13_14 {w : World} {g : Nat} {t : TypeId} {cs : Array Value} (h : w.heap[g]? = some (.cells cs t (0, 0))) : w.frozen? ⟨g, 0, none⟩ = false ∧ w.frozen? ⟨g, 1, none⟩ = false ∧ w.frozen? ⟨g, 2, none⟩ = false ∧ w.frozen? ⟨g, 3, none⟩ = false ∧ w.frozen? ⟨g, 4, none⟩ = false ∧ w.frozen? ⟨g, 5, none⟩ = false ∧ w.frozen? ⟨g, 6, none⟩ = false ∧ w.frozen? ⟨g, 7, none⟩ = false ∧ w.frozen? ⟨g, 8, none⟩ = false ∧ w.frozen? ⟨g, 9, none⟩ = false ∧ w.frozen? ⟨g, 10, none⟩ = false ∧ w.frozen? ⟨g, 11, none⟩ = false ∧ w.frozen? ⟨g, 12, none⟩ = false := ⟨blk_frozen h 0, blk_frozen h 1, blk_frozen h 2, blk_frozen h 3, blk_frozen h 4, blk_frozen h 5, blk_frozen h 6, blk_frozen h 7, blk_frozen h 8, blk_frozen h 9, blk_frozen h 10, blk_frozen h 11, blk_frozen h 12⟩
def vendmeterref_Encoded.l0 : Nat → List Int → List Int → Int → Option (List Int × Int)
  | 0, _, _, _ => none
  | k + 1, x5, x6, x7 => if x7 < (x5.length : Int) then (if 0 ≤ x7 then (if x6.length < 35184372088832 then (vendmeterref_Encoded.l0 k x5 (x6 ++ [(rd x5 x7) % 4294967296]) (wrap64 (x7 + 1))) else (none)) else (none)) else (some (x6, 0))
def vendmeterref_Encoded.f (k : Nat) (a0_0 : Int) (a0_1 : Int) (a0_2 : Int) (a0_3 : Int) (a0_4 : Int) (a0_5 : Int) (a0_6 : Int) (a0_7 : Int) (a0_8 : Int) (a0_9 : Int) (a0_10 : Int) (a0_11 : Int) (a0_12 : Int) : Option (List Int × Int) := (vendmeterref_EventMay.f a0_0 a0_1 a0_2 a0_3 a0_4 a0_5 a0_6 a0_7 a0_8 a0_9 a0_10 a0_11 a0_12).bind fun t104 => (if t104 = true then (vendmeterref_Encoded.l0 k (([a0_0, a0_1, a0_2, a0_3, a0_4, a0_5, a0_6, a0_7, a0_8, a0_9, a0_10, a0_11, a0_12] : List Int)) ([] : List Int) 0) else (some (([] : List Int), 5)))
theorem vendmeterref_Encoded.mono_l : ∀ k, (∀ y0 y1 y2, LeO (vendmeterref_Encoded.l0 k y0 y1 y2) (vendmeterref_Encoded.l0 (k + 1) y0 y1 y2))
  | 0 => fun _ _ _ r h => by simp [vendmeterref_Encoded.l0] at h
  | k + 1 => by
    have ih0 := vendmeterref_Encoded.mono_l k
    · intro y0 y1 y2
      unfold vendmeterref_Encoded.l0
      repeat' first
      | (with_reducible exact ih0 _ _ _)
      | (with_reducible exact LeO.refl _)
      | (with_reducible exact LeO.none _)
      | (with_reducible refine LeO.ite ?_ ?_)
      | (with_reducible refine LeO.bind ?_ (fun _ => ?_))
      | exact ih0 _ _ _
      | exact LeO.none _
      | refine LeO.ite ?_ ?_
      | refine LeO.bind ?_ (fun _ => ?_)
theorem vendmeterref_Encoded.mono : ∀ a0 a1 a2 a3 a4 a5 a6 a7 a8 a9 a10 a11 a12 k, LeO (vendmeterref_Encoded.f k a0 a1 a2 a3 a4 a5 a6 a7 a8 a9 a10 a11 a12) (vendmeterref_Encoded.f (k + 1) a0 a1 a2 a3 a4 a5 a6 a7 a8 a9 a10 a11 a12) := by
  intro a0 a1 a2 a3 a4 a5 a6 a7 a8 a9 a10 a11 a12 k
  have ih0 := vendmeterref_Encoded.mono_l k
  unfold vendmeterref_Encoded.f
  repeat' first
      | (with_reducible exact ih0 _ _ _)
      | (with_reducible exact LeO.refl _)
      | (with_reducible exact LeO.none _)
      | (with_reducible refine LeO.ite ?_ ?_)
      | (with_reducible refine LeO.bind ?_ (fun _ => ?_))
      | exact ih0 _ _ _
      | exact LeO.none _
      | refine LeO.ite ?_ ?_
      | refine LeO.bind ?_ (fun _ => ?_)
set_option maxHeartbeats 8000000 in
set_option maxRecDepth 100000 in
theorem vendmeterref_Encoded.calls (k : Nat) (a0_0 : Int) (a0_1 : Int) (a0_2 : Int) (a0_3 : Int) (a0_4 : Int) (a0_5 : Int) (a0_6 : Int) (a0_7 : Int) (a0_8 : Int) (a0_9 : Int) (a0_10 : Int) (a0_11 : Int) (a0_12 : Int) (r1 : List Int) (r2 : Int) (w : World) (h : vendmeterref_Encoded.f k a0_0 a0_1 a0_2 a0_3 a0_4 a0_5 a0_6 a0_7 a0_8 a0_9 a0_10 a0_11 a0_12 = some (r1, r2)) :
    Calls Try.prog 14 #[.agg #[.int .i64 a0_0, .int .i64 a0_1, .int .i64 a0_2, .int .i64 a0_3, .int .i64 a0_4, .int .i64 a0_5, .int .i64 a0_6, .int .i64 a0_7, .int .i64 a0_8, .int .i64 a0_9, .int .i64 a0_10, .int .i64 a0_11, .int .i64 a0_12]] w fun e w' => ∃ v0_ : Value, e = .returned (.tuple #[v0_, .int .i64 r2]) ∧ Kd.R (Kd.int .u32) 86 w' w.heap.size (fun _ => True) v0_ r1 ∧ Below w.heap.size w w' := by
  have hu41 := Try.underlying41
  have hu31 := Try.underlying31
  have HB := Aside0.mk (Below.refl w.heap.size w)
  have H : ((vendmeterref_EventMay.f a0_0 a0_1 a0_2 a0_3 a0_4 a0_5 a0_6 a0_7 a0_8 a0_9 a0_10 a0_11 a0_12).bind fun t104 => (if t104 = true then (vendmeterref_Encoded.l0 k (([a0_0, a0_1, a0_2, a0_3, a0_4, a0_5, a0_6, a0_7, a0_8, a0_9, a0_10, a0_11, a0_12] : List Int)) ([] : List Int) 0) else (some (([] : List Int), 5)))) = some (r1, r2) := h
  clear h
  replace H := Option.bind_eq_some_iff.mp H
  obtain ⟨t104, A20, H⟩ := H
  replace H : (if t104 = true then (vendmeterref_Encoded.l0 k (([a0_0, a0_1, a0_2, a0_3, a0_4, a0_5, a0_6, a0_7, a0_8, a0_9, a0_10, a0_11, a0_12] : List Int)) ([] : List Int) 0) else (some (([] : List Int), 5))) = some (r1, r2) := H
  have A2 := Aside0.mk A20
  clear A20
  by_cases c3 : t104 = true
  · subst c3
    have H1 : (vendmeterref_Encoded.l0 k (([a0_0, a0_1, a0_2, a0_3, a0_4, a0_5, a0_6, a0_7, a0_8, a0_9, a0_10, a0_11, a0_12] : List Int)) ([] : List Int) 0) = some (r1, r2) := by rw [if_pos rfl] at H; exact H
    clear H
    have H := H1
    clear H1
    obtain ⟨y106, hy106⟩ : ∃ y_ : List Int, y_ = (([a0_0, a0_1, a0_2, a0_3, a0_4, a0_5, a0_6, a0_7, a0_8, a0_9, a0_10, a0_11, a0_12] : List Int)) := ⟨_, rfl⟩
    replace H : (vendmeterref_Encoded.l0 k y106 ([] : List Int) 0) = some (r1, r2) := by first | (rw [hy106]; with_reducible exact H) | (have H2_ := (Option.bind_some _ _).symm.trans H; rw [hy106]; with_reducible exact H2_) | (have H2_ := (Option.bind_some _ _).symm.trans H; with_reducible exact H2_) | with_reducible exact H | (rw [hy106]; exact H) | exact H
    have Ny106 := Aside0.mk hy106
    clear hy106
    have H' := Aside0.mk H
    clear H
    go_enter Try.func14, Try.ntmps14
    go_wp2_with (first | ((with_reducible refine gate_dst (N := 1) rfl ?_); refine box_event ?hg (N := 1) ?hd (cs := #[.int .i64 a0_0, .int .i64 a0_1, .int .i64 a0_2, .int .i64 a0_3, .int .i64 a0_4, .int .i64 a0_5, .int .i64 a0_6, .int .i64 a0_7, .int .i64 a0_8, .int .i64 a0_9, .int .i64 a0_10, .int .i64 a0_11, .int .i64 a0_12]) (t := 41) ?hr ?_; (case hd => rfl); (case hg => rfl); (case hr => first | (go_simp; done) | (go_simp; rfl)); intro gb103 hg w4 hbox hb; have n0_ := Aside0.mk (below_step (by with_reducible repeat (first | exact HB.1 | apply ya14 | apply yn14 | apply yd14)) hb); have n1_ := Aside0.mk (hbox); have n2_ := Aside0.mk ((by rw [hg]; exact (below_size (by with_reducible repeat (first | exact HB.1 | apply ya14 | apply yn14 | apply yd14))) : w.heap.size ≤ gb103)); have n3_ := n2_; clear HB; have HB := n0_; have BK103 := n1_; have GW103 := n2_; have GE103 := n3_; clear n0_ n1_ n2_ n3_; clear hb hbox hg; obtain ⟨hcz5_0, hcz5_1, hcz5_2, hcz5_3, hcz5_4, hcz5_5, hcz5_6, hcz5_7, hcz5_8, hcz5_9, hcz5_10, hcz5_11, hcz5_12⟩ := c13_14 BK103.1; obtain ⟨hfz5_0, hfz5_1, hfz5_2, hfz5_3, hfz5_4, hfz5_5, hfz5_6, hfz5_7, hfz5_8, hfz5_9, hfz5_10, hfz5_11, hfz5_12⟩ := f13_14 BK103.1) | ((with_reducible refine gate_callee (f := 41) rfl ?_); refine goesL_ (some 9) rfl rfl Try.func41 (by kernel_rfl) rfl #[.agg #[.int .i64 a0_0, .int .i64 a0_1, .int .i64 a0_2, .int .i64 a0_3, .int .i64 a0_4, .int .i64 a0_5, .int .i64 a0_6, .int .i64 a0_7, .int .i64 a0_8, .int .i64 a0_9, .int .i64 a0_10, .int .i64 a0_11, .int .i64 a0_12]] rfl (by (try simp only [List.map_toArray, List.map_cons, List.map_nil]); first | done | rfl | (simp only [List.length_drop, List.length_take]; rfl)) ?_; (with_reducible refine (vendmeterref_EventMay.calls a0_0 a0_1 a0_2 a0_3 a0_4 a0_5 a0_6 a0_7 a0_8 a0_9 a0_10 a0_11 a0_12 true _ A2.out).mono ?_); rintro e w6 ⟨rfl, hb⟩; refine ⟨_, rfl, ?_⟩; have n0_ := Aside0.mk (blk_below (g := gb103) (o := .cells #[.int .i64 a0_0, .int .i64 a0_1, .int .i64 a0_2, .int .i64 a0_3, .int .i64 a0_4, .int .i64 a0_5, .int .i64 a0_6, .int .i64 a0_7, .int .i64 a0_8, .int .i64 a0_9, .int .i64 a0_10, .int .i64 a0_11, .int .i64 a0_12] 41 (0, 0)) (by (with_reducible repeat (first | apply xn14 | apply xd14 | apply xa14)); exact BK103.1) hb); have n1_ := Aside0.mk (below_step (by with_reducible repeat (first | exact HB.1 | apply ya14 | apply yn14 | apply yd14 | refine below_set ?_ GE103.1)) hb); clear BK103; clear HB; have BK103 := n0_; have HB := n1_; clear n0_ n1_; (try clear hb); (try clear hb2); (try clear hk); (try clear hi); obtain ⟨hcz7_0, hcz7_1, hcz7_2, hcz7_3, hcz7_4, hcz7_5, hcz7_6, hcz7_7, hcz7_8, hcz7_9, hcz7_10, hcz7_11, hcz7_12⟩ := c13_14 BK103.1; obtain ⟨hfz7_0, hfz7_1, hfz7_2, hfz7_3, hfz7_4, hfz7_5, hfz7_6, hfz7_7, hfz7_8, hfz7_9, hfz7_10, hfz7_11, hfz7_12⟩ := f13_14 BK103.1) | ((with_reducible refine gate_dst (N := 4) rfl ?_); refine box_event ?hg (N := 4) ?hd (cs := #[.int .i64 0, .int .i64 0, .int .i64 0, .int .i64 0, .int .i64 0, .int .i64 0, .int .i64 0]) (t := 31) ?hr ?_; (case hd => rfl); (case hg => rfl); (case hr => first | (go_simp; done) | (go_simp; rfl)); intro gb105 hg w8 hbox hb; have n0_ := Aside0.mk (blk_below (g := gb103) (o := .cells #[.int .i64 a0_0, .int .i64 a0_1, .int .i64 a0_2, .int .i64 a0_3, .int .i64 a0_4, .int .i64 a0_5, .int .i64 a0_6, .int .i64 a0_7, .int .i64 a0_8, .int .i64 a0_9, .int .i64 a0_10, .int .i64 a0_11, .int .i64 a0_12] 41 (0, 0)) (by (with_reducible repeat (first | apply xn14 | apply xd14 | apply xa14)); exact BK103.1) hb); have n1_ := Aside0.mk (below_step (by with_reducible repeat (first | exact HB.1 | apply ya14 | apply yn14 | apply yd14 | refine below_set ?_ GE103.1)) hb); have n2_ := Aside0.mk (hbox); have n3_ := Aside0.mk ((by rw [hg]; exact (below_size (by with_reducible repeat (first | exact HB.1 | apply ya14 | apply yn14 | apply yd14 | refine below_set ?_ GE103.1))) : w.heap.size ≤ gb105)); have n4_ := n3_; have n5_ := Aside0.mk ((by rw [hg]; exact Nat.ne_of_lt (blk_lt (g := gb103) (o := .cells #[.int .i64 a0_0, .int .i64 a0_1, .int .i64 a0_2, .int .i64 a0_3, .int .i64 a0_4, .int .i64 a0_5, .int .i64 a0_6, .int .i64 a0_7, .int .i64 a0_8, .int .i64 a0_9, .int .i64 a0_10, .int .i64 a0_11, .int .i64 a0_12] 41 (0, 0)) (by (with_reducible repeat (first | apply xn14 | apply xd14 | apply xa14)); exact BK103.1)) : gb103 ≠ gb105)); have n6_ := Aside0.mk ((by rw [hg]; exact Nat.ne_of_gt (blk_lt (g := gb103) (o := .cells #[.int .i64 a0_0, .int .i64 a0_1, .int .i64 a0_2, .int .i64 a0_3, .int .i64 a0_4, .int .i64 a0_5, .int .i64 a0_6, .int .i64 a0_7, .int .i64 a0_8, .int .i64 a0_9, .int .i64 a0_10, .int .i64 a0_11, .int .i64 a0_12] 41 (0, 0)) (by (with_reducible repeat (first | apply xn14 | apply xd14 | apply xa14)); exact BK103.1)) : gb105 ≠ gb103)); clear BK103; clear HB; have BK103 := n0_; have HB := n1_; have BK105 := n2_; have GW105 := n3_; have GE105 := n4_; have NB103_105 := n5_; have NB105_103 := n6_; clear n0_ n1_ n2_ n3_ n4_ n5_ n6_; clear hb hbox hg; have hnb9 := NB105_103.1; have hnc9 := NB103_105.1; obtain ⟨hcz10_0, hcz10_1, hcz10_2, hcz10_3, hcz10_4, hcz10_5, hcz10_6⟩ := c7_14 BK105.1; obtain ⟨hfz10_0, hfz10_1, hfz10_2, hfz10_3, hfz10_4, hfz10_5, hfz10_6⟩ := f7_14 BK105.1; obtain ⟨hcz11_0, hcz11_1, hcz11_2, hcz11_3, hcz11_4, hcz11_5, hcz11_6, hcz11_7, hcz11_8, hcz11_9, hcz11_10, hcz11_11, hcz11_12⟩ := c13_14 BK103.1; obtain ⟨hfz11_0, hfz11_1, hfz11_2, hfz11_3, hfz11_4, hfz11_5, hfz11_6, hfz11_7, hfz11_8, hfz11_9, hfz11_10, hfz11_11, hfz11_12⟩ := f13_14 BK103.1) | ((with_reducible refine gate_dst (N := 41) rfl ?_); refine Kd.R_lit (Kd.int .i64) _ 3 ?hg (N := 41) ?hd (xs := ([a0_0, a0_1, a0_2, a0_3, a0_4, a0_5, a0_6, a0_7, a0_8, a0_9, a0_10, a0_11, a0_12] : List Int)) (inner := [.int .i64 a0_0, .int .i64 a0_1, .int .i64 a0_2, .int .i64 a0_3, .int .i64 a0_4, .int .i64 a0_5, .int .i64 a0_6, .int .i64 a0_7, .int .i64 a0_8, .int .i64 a0_9, .int .i64 a0_10, .int .i64 a0_11, .int .i64 a0_12]) (ok := fun _ => True) (okp := fun _ => True) ?hr ?hp (fun _ hk => hk) trivial (Below.refl _ _) (Nat.le_refl _) (by simp) ?_; (case hd => rfl); (case hg => rfl); (case hr => first | (go_simp; done) | (go_simp; rfl)); (case hp => exact (Reps.one (show Kd.M (Kd.int .i64) _ _ _ a0_0 [.int .i64 a0_0] from rfl) (Reps.one (show Kd.M (Kd.int .i64) _ _ _ a0_1 [.int .i64 a0_1] from rfl) (Reps.one (show Kd.M (Kd.int .i64) _ _ _ a0_2 [.int .i64 a0_2] from rfl) (Reps.one (show Kd.M (Kd.int .i64) _ _ _ a0_3 [.int .i64 a0_3] from rfl) (Reps.one (show Kd.M (Kd.int .i64) _ _ _ a0_4 [.int .i64 a0_4] from rfl) (Reps.one (show Kd.M (Kd.int .i64) _ _ _ a0_5 [.int .i64 a0_5] from rfl) (Reps.one (show Kd.M (Kd.int .i64) _ _ _ a0_6 [.int .i64 a0_6] from rfl) (Reps.one (show Kd.M (Kd.int .i64) _ _ _ a0_7 [.int .i64 a0_7] from rfl) (Reps.one (show Kd.M (Kd.int .i64) _ _ _ a0_8 [.int .i64 a0_8] from rfl) (Reps.one (show Kd.M (Kd.int .i64) _ _ _ a0_9 [.int .i64 a0_9] from rfl) (Reps.one (show Kd.M (Kd.int .i64) _ _ _ a0_10 [.int .i64 a0_10] from rfl) (Reps.one (show Kd.M (Kd.int .i64) _ _ _ a0_11 [.int .i64 a0_11] from rfl) (Reps.one (show Kd.M (Kd.int .i64) _ _ _ a0_12 [.int .i64 a0_12] from rfl) (Reps.none _ _))))))))))))))); intro v107 w12 ho13 hb hg_ hnew_; clear hg_ hnew_; (first | rw [← Ny106.out] at ho13 | (simp only [Int.reduceToNat] at ho13; rw [← Ny106.out] at ho13)); have n0_ := Aside0.mk (Kd.R_lower ho13 (below_size (by with_reducible repeat (first | exact HB.1 | apply ya14 | apply yn14 | apply yd14 | refine below_set ?_ GE103.1 | refine below_set ?_ GE105.1)))); have n1_ := Aside0.mk (blk_below (g := gb103) (o := .cells #[.int .i64 a0_0, .int .i64 a0_1, .int .i64 a0_2, .int .i64 a0_3, .int .i64 a0_4, .int .i64 a0_5, .int .i64 a0_6, .int .i64 a0_7, .int .i64 a0_8, .int .i64 a0_9, .int .i64 a0_10, .int .i64 a0_11, .int .i64 a0_12] 41 (0, 0)) (by (with_reducible repeat (first | apply xn14 | apply xd14 | apply xa14)); refine blk_far ?_ NB103_105.1 _; (with_reducible repeat (first | apply xn14 | apply xd14 | apply xa14)); refine blk_far ?_ NB103_105.1 _; (with_reducible repeat (first | apply xn14 | apply xd14 | apply xa14)); refine blk_far ?_ NB103_105.1 _; (with_reducible repeat (first | apply xn14 | apply xd14 | apply xa14)); refine blk_far ?_ NB103_105.1 _; (with_reducible repeat (first | apply xn14 | apply xd14 | apply xa14)); refine blk_far ?_ NB103_105.1 _; (with_reducible repeat (first | apply xn14 | apply xd14 | apply xa14)); refine blk_far ?_ NB103_105.1 _; (with_reducible repeat (first | apply xn14 | apply xd14 | apply xa14)); refine blk_far ?_ NB103_105.1 _; (with_reducible repeat (first | apply xn14 | apply xd14 | apply xa14)); exact BK103.1) hb); have n2_ := Aside0.mk (blk_below (g := gb105) (o := .cells #[.int .i64 a0_3, .int .i64 a0_4, .int .i64 a0_5, .int .i64 a0_6, .int .i64 a0_7, .int .i64 a0_8, .int .i64 a0_9] 31 (0, 0)) (by (with_reducible repeat (first | apply xn14 | apply xd14 | apply xa14)); refine blk_put (cs := #[.int .i64 a0_3, .int .i64 a0_4, .int .i64 a0_5, .int .i64 a0_6, .int .i64 a0_7, .int .i64 a0_8, .int .i64 0]) ?_ 6 _ rfl; (with_reducible repeat (first | apply xn14 | apply xd14 | apply xa14)); refine blk_put (cs := #[.int .i64 a0_3, .int .i64 a0_4, .int .i64 a0_5, .int .i64 a0_6, .int .i64 a0_7, .int .i64 0, .int .i64 0]) ?_ 5 _ rfl; (with_reducible repeat (first | apply xn14 | apply xd14 | apply xa14)); refine blk_put (cs := #[.int .i64 a0_3, .int .i64 a0_4, .int .i64 a0_5, .int .i64 a0_6, .int .i64 0, .int .i64 0, .int .i64 0]) ?_ 4 _ rfl; (with_reducible repeat (first | apply xn14 | apply xd14 | apply xa14)); refine blk_put (cs := #[.int .i64 a0_3, .int .i64 a0_4, .int .i64 a0_5, .int .i64 0, .int .i64 0, .int .i64 0, .int .i64 0]) ?_ 3 _ rfl; (with_reducible repeat (first | apply xn14 | apply xd14 | apply xa14)); refine blk_put (cs := #[.int .i64 a0_3, .int .i64 a0_4, .int .i64 0, .int .i64 0, .int .i64 0, .int .i64 0, .int .i64 0]) ?_ 2 _ rfl; (with_reducible repeat (first | apply xn14 | apply xd14 | apply xa14)); refine blk_put (cs := #[.int .i64 a0_3, .int .i64 0, .int .i64 0, .int .i64 0, .int .i64 0, .int .i64 0, .int .i64 0]) ?_ 1 _ rfl; (with_reducible repeat (first | apply xn14 | apply xd14 | apply xa14)); refine blk_put (cs := #[.int .i64 0, .int .i64 0, .int .i64 0, .int .i64 0, .int .i64 0, .int .i64 0, .int .i64 0]) ?_ 0 _ rfl; (with_reducible repeat (first | apply xn14 | apply xd14 | apply xa14)); exact BK105.1) hb); have n3_ := Aside0.mk (below_step (by with_reducible repeat (first | exact HB.1 | apply ya14 | apply yn14 | apply yd14 | refine below_set ?_ GE103.1 | refine below_set ?_ GE105.1)) hb); clear BK103; clear BK105; clear HB; have HO108 := n0_; have BK103 := n1_; have BK105 := n2_; have HB := n3_; clear n0_ n1_ n2_ n3_; clear hb ho13))
    go_loopg [6, 7] k (fun kq v6 v7 w' => ∃ (x6_1 : List Int) (x7_1 : Int), v7 = .int .i64 x7_1 ∧ Aside0 (vendmeterref_Encoded.l0 kq y106 x6_1 x7_1 = some (r1, r2)) ∧ Aside0 (kq ≤ k) ∧ Aside0 (Kd.R (Kd.int .i64) 3 w' w.heap.size (fun _ => True) v107 y106) ∧ Aside0 (Kd.R (Kd.int .u32) 86 w' w.heap.size (fun _ => True) v6 x6_1) ∧ Aside0 (w'.heap[gb103]? = some (.cells #[.int .i64 a0_0, .int .i64 a0_1, .int .i64 a0_2, .int .i64 a0_3, .int .i64 a0_4, .int .i64 a0_5, .int .i64 a0_6, .int .i64 a0_7, .int .i64 a0_8, .int .i64 a0_9, .int .i64 a0_10, .int .i64 a0_11, .int .i64 a0_12] 41 (0, 0))) ∧ Aside0 (w'.heap[gb105]? = some (.cells #[.int .i64 a0_3, .int .i64 a0_4, .int .i64 a0_5, .int .i64 a0_6, .int .i64 a0_7, .int .i64 a0_8, .int .i64 a0_9] 31 (0, 0))) ∧ Aside0 (Below w.heap.size w w'))
    case atStart => exact ⟨(([] : List Int)), (0), (by first | rfl | (simp; done) | (simp [*]; done)), H', ⟨Nat.le_refl _⟩, ⟨by (with_reducible repeat (first | apply Kd.R_alloc | apply Kd.R_drewN | apply Kd.R_drew)); exact HO108.1⟩, ⟨by first | exact Kd.R_nil _ _ _ _ _ | exact Kd.N_nil _ _ _ _ _ | exact Kd.V_nil _ _ _ _ _ | exact Kd.Q_nil _ _ _ _ _ | exact Kd.S_nil _ _ _ _ _⟩, ⟨by (with_reducible repeat (first | apply xn14 | apply xd14 | apply xa14)); exact BK103.1⟩, ⟨by (with_reducible repeat (first | apply xn14 | apply xd14 | apply xa14)); exact BK105.1⟩, ⟨by repeat (first | (with_reducible first | exact HB.1 | apply below_alloc | apply pw_below_drewN | apply below_drew1 | refine below_set ?_ GE103.1 | refine below_set ?_ GE105.1) | exact HB.1)⟩⟩
    case round =>
      clear H'
      try clear c1
      try clear p2
      try clear c3
      try clear c4
      try clear c9
      try clear hcz10_0
      try clear hcz10_1
      try clear hcz10_2
      try clear hcz10_3
      try clear hcz10_4
      try clear hcz10_5
      try clear hcz10_6
      try clear hcz11_0
      try clear hcz11_1
      try clear hcz11_10
      try clear hcz11_11
      try clear hcz11_12
      try clear hcz11_2
      try clear hcz11_3
      try clear hcz11_4
      try clear hcz11_5
      try clear hcz11_6
      try clear hcz11_7
      try clear hcz11_8
      try clear hcz11_9
      try clear hcz5_0
      try clear hcz5_1
      try clear hcz5_10
      try clear hcz5_11
      try clear hcz5_12
      try clear hcz5_2
      try clear hcz5_3
      try clear hcz5_4
      try clear hcz5_5
      try clear hcz5_6
      try clear hcz5_7
      try clear hcz5_8
      try clear hcz5_9
      try clear hcz7_0
      try clear hcz7_1
      try clear hcz7_10
      try clear hcz7_11
      try clear hcz7_12
      try clear hcz7_2
      try clear hcz7_3
      try clear hcz7_4
      try clear hcz7_5
      try clear hcz7_6
      try clear hcz7_7
      try clear hcz7_8
      try clear hcz7_9
      try clear hfz10_0
      try clear hfz10_1
      try clear hfz10_2
      try clear hfz10_3
      try clear hfz10_4
      try clear hfz10_5
      try clear hfz10_6
      try clear hfz11_0
      try clear hfz11_1
      try clear hfz11_10
      try clear hfz11_11
      try clear hfz11_12
      try clear hfz11_2
      try clear hfz11_3
      try clear hfz11_4
      try clear hfz11_5
      try clear hfz11_6
      try clear hfz11_7
      try clear hfz11_8
      try clear hfz11_9
      try clear hfz5_0
      try clear hfz5_1
      try clear hfz5_10
      try clear hfz5_11
      try clear hfz5_12
      try clear hfz5_2
      try clear hfz5_3
      try clear hfz5_4
      try clear hfz5_5
      try clear hfz5_6
      try clear hfz5_7
      try clear hfz5_8
      try clear hfz5_9
      try clear hfz7_0
      try clear hfz7_1
      try clear hfz7_10
      try clear hfz7_11
      try clear hfz7_12
      try clear hfz7_2
      try clear hfz7_3
      try clear hfz7_4
      try clear hfz7_5
      try clear hfz7_6
      try clear hfz7_7
      try clear hfz7_8
      try clear hfz7_9
      obtain ⟨x6_1, x7_1, rfl, HA, HK1, HO_5, HO_6, BK103, BK105, HB⟩ := hrel
      cases gk with
      | zero => exact absurd HA.out (by simp [vendmeterref_Encoded.l0])
      | succ k1 =>
        have H := HA.out
        clear HA
        simp only [vendmeterref_Encoded.l0] at H
        by_cases c14 : x7_1 < (y106.length : Int)
        · rw [if_pos c14] at H
          have c14b0 : decide (x7_1 < (y106.length : Int)) = true := decide_eq_true c14
          clear c14
          by_cases c15 : 0 ≤ x7_1
          · rw [if_pos c15] at H
            have c15b0 : decide (0 ≤ x7_1) = true := decide_eq_true c15
            clear c15
            by_cases c16 : x6_1.length < 35184372088832
            · rw [if_pos c16] at H
              have LMc16 := Aside0.mk c16
              clear c16
              obtain ⟨y110, hy110⟩ : ∃ y_ : List Int, y_ = (x6_1 ++ [(rd y106 x7_1) % 4294967296]) := ⟨_, rfl⟩
              replace H : (vendmeterref_Encoded.l0 k1 y106 y110 (wrap64 (x7_1 + 1))) = some (r1, r2) := by first | (rw [hy110]; with_reducible exact H) | (have H2_ := (Option.bind_some _ _).symm.trans H; rw [hy110]; with_reducible exact H2_) | (have H2_ := (Option.bind_some _ _).symm.trans H; with_reducible exact H2_) | with_reducible exact H | (rw [hy110]; exact H) | exact H
              have Ny110 := Aside0.mk hy110
              clear hy110
              have H' := Aside0.mk H
              clear H
              obtain ⟨Ao17, co17, eo17⟩ := Kd.R_slice HO_5.out
              subst eo17
              have p109 : 0 ≤ (x7_1 : Int) := of_decide_eq_true (by first | (with_reducible assumption) | assumption)
              have q109 : x7_1 < (y106.length : Int) := of_decide_eq_true (by first | (with_reducible assumption) | assumption)
              obtain ⟨ad109, e109, hx109_0⟩ := Kd.at_int (Kd.R_reads' HO_5.out).2.2 x7_1 p109 q109
              cases e109
              replace p109 := eq_true p109
              replace q109 := eq_true q109
              go_wp2_with (first | ((with_reducible refine gate_builtin (b := .append) (xs := #[.tmp 48, .tmp 54]) rfl ?_); at_builtin; refine Kd.R_append (Kd.int .u32) (w0 := w) w.heap.size rfl (.tmp 48) (.tmp 54) 42 86 (.int .u32 0) 4 rfl Try.underlying42 info86 rfl (by decide) (by omega) u6 x6_1 ((rd y106 x7_1) % 4294967296) [.int .u32 ((rd y106 x7_1) % 4294967296)] (fun _ => True) (fun _ => False) rfl rfl ?aP (fun _ hk => hk.elim) ?aF ?aO ?aB ?aS ?aL ?_; (case aP => exact rfl); (case aB => exact (by with_reducible repeat (first | exact HB.1 | apply ya14 | apply yn14 | apply yd14 | refine below_set ?_ GE103.1 | refine below_set ?_ GE105.1))); (case aF => exact (fun _ _ => trivial)); (case aO => exact (by (with_reducible repeat (first | apply Kd.R_alloc | apply Kd.R_drewN | apply Kd.R_drew)); exact HO_6.out)); (case aS => exact (below_size (by with_reducible repeat (first | exact HB.1 | apply ya14 | apply yn14 | apply yd14 | refine below_set ?_ GE103.1 | refine below_set ?_ GE105.1)))); (case aL => have := LMc16.out; omega); intro v111 w18 ho hb hg hat; rw [← Ny110.out] at ho; have n0_ := Aside0.mk (Kd.R_over' (by (with_reducible repeat (first | apply Kd.R_alloc | apply Kd.R_drewN | apply Kd.R_drew)); exact HO_5.out) (Kd.R_typed (by (with_reducible repeat (first | apply Kd.R_alloc | apply Kd.R_drewN | apply Kd.R_drew)); exact HO_6.out)) (by decide) hg); have n1_ := Aside0.mk (blk_grown (g := gb103) (o := .cells #[.int .i64 a0_0, .int .i64 a0_1, .int .i64 a0_2, .int .i64 a0_3, .int .i64 a0_4, .int .i64 a0_5, .int .i64 a0_6, .int .i64 a0_7, .int .i64 a0_8, .int .i64 a0_9, .int .i64 a0_10, .int .i64 a0_11, .int .i64 a0_12] 41 (0, 0)) (by (with_reducible repeat (first | apply xn14 | apply xd14 | apply xa14)); exact BK103.1) hg (Kd.R_ne HO_6.out BK103.1 (by decide))); have n2_ := Aside0.mk (blk_grown (g := gb105) (o := .cells #[.int .i64 a0_3, .int .i64 a0_4, .int .i64 a0_5, .int .i64 a0_6, .int .i64 a0_7, .int .i64 a0_8, .int .i64 a0_9] 31 (0, 0)) (by (with_reducible repeat (first | apply xn14 | apply xd14 | apply xa14)); exact BK105.1) hg (Kd.R_ne HO_6.out BK105.1 (by decide))); have n3_ := Aside0.mk (hb); have n4_ := Aside0.mk (ho); clear HO_5; clear BK103; clear BK105; clear HB; clear HO_6; have HO_5 := n0_; have BK103 := n1_; have BK105 := n2_; have HB := n3_; have HO112 := n4_; clear n0_ n1_ n2_ n3_ n4_; clear ho hb hg hat))
              go_roundg k1
              case measure => have := HK1.out; omega
              case rel => exact ⟨(y110), (wrap64 (x7_1 + 1)), (by first | rfl | (simp; done) | (simp [*]; done)), H', ⟨by have := HK1.out; omega⟩, ⟨by (with_reducible repeat (first | apply Kd.R_alloc | apply Kd.R_drewN | apply Kd.R_drew)); exact HO_5.out⟩, ⟨by (with_reducible repeat (first | apply Kd.R_alloc | apply Kd.R_drewN | apply Kd.R_drew)); exact HO112.1⟩, ⟨by (with_reducible repeat (first | apply xn14 | apply xd14 | apply xa14)); exact BK103.1⟩, ⟨by (with_reducible repeat (first | apply xn14 | apply xd14 | apply xa14)); exact BK105.1⟩, ⟨by repeat (first | (with_reducible first | exact HB.1 | apply below_alloc | apply pw_below_drewN | apply below_drew1 | refine below_set ?_ GE103.1 | refine below_set ?_ GE105.1) | exact HB.1)⟩⟩
            · rw [if_neg c16] at H
              exact absurd H (by simp)
          · rw [if_neg c15] at H
            exact absurd H (by simp)
        · rw [if_neg c14] at H
          have c14b0 : decide (x7_1 < (y106.length : Int)) = false := decide_eq_false c14
          clear c14
          simp only [Option.some.injEq, Prod.mk.injEq] at H
          obtain ⟨rfl, rfl⟩ := H
          obtain ⟨Ao19, co19, eo19⟩ := Kd.R_slice HO_5.out
          subst eo19
          go_wp2
          go_ret2
          exact ⟨_, by first | rfl | (simp [errW_none, errW_some] <;> rfl) | (simp [*, errW_none, errW_some] <;> rfl), by (with_reducible repeat (first | apply Kd.R_alloc | apply Kd.R_drewN | apply Kd.R_drew)); exact HO_6.out, by repeat (first | (with_reducible first | exact HB.1 | apply below_alloc | apply pw_below_drewN | apply below_drew1 | refine below_set ?_ GE103.1 | refine below_set ?_ GE105.1) | exact HB.1)⟩
  · replace c3 := Bool.eq_false_iff.mpr c3
    subst c3
    have H1 : (some (([] : List Int), 5)) = some (r1, r2) := by rw [if_neg (show ¬ (false = true) by decide)] at H; exact H
    clear H
    have H := H1
    clear H1
    simp only [Option.some.injEq, Prod.mk.injEq] at H
    obtain ⟨rfl, rfl⟩ := H
    go_enter Try.func14, Try.ntmps14
    go_wp2_with (first | ((with_reducible refine gate_dst (N := 1) rfl ?_); refine box_event ?hg (N := 1) ?hd (cs := #[.int .i64 a0_0, .int .i64 a0_1, .int .i64 a0_2, .int .i64 a0_3, .int .i64 a0_4, .int .i64 a0_5, .int .i64 a0_6, .int .i64 a0_7, .int .i64 a0_8, .int .i64 a0_9, .int .i64 a0_10, .int .i64 a0_11, .int .i64 a0_12]) (t := 41) ?hr ?_; (case hd => rfl); (case hg => rfl); (case hr => first | (go_simp; done) | (go_simp; rfl)); intro gb103 hg w20 hbox hb; have n0_ := Aside0.mk (below_step (by with_reducible repeat (first | exact HB.1 | apply ya14 | apply yn14 | apply yd14)) hb); have n1_ := Aside0.mk (hbox); have n2_ := Aside0.mk ((by rw [hg]; exact (below_size (by with_reducible repeat (first | exact HB.1 | apply ya14 | apply yn14 | apply yd14))) : w.heap.size ≤ gb103)); have n3_ := n2_; clear HB; have HB := n0_; have BK103 := n1_; have GW103 := n2_; have GE103 := n3_; clear n0_ n1_ n2_ n3_; clear hb hbox hg; obtain ⟨hcz21_0, hcz21_1, hcz21_2, hcz21_3, hcz21_4, hcz21_5, hcz21_6, hcz21_7, hcz21_8, hcz21_9, hcz21_10, hcz21_11, hcz21_12⟩ := c13_14 BK103.1; obtain ⟨hfz21_0, hfz21_1, hfz21_2, hfz21_3, hfz21_4, hfz21_5, hfz21_6, hfz21_7, hfz21_8, hfz21_9, hfz21_10, hfz21_11, hfz21_12⟩ := f13_14 BK103.1) | ((with_reducible refine gate_callee (f := 41) rfl ?_); refine goesL_ (some 9) rfl rfl Try.func41 (by kernel_rfl) rfl #[.agg #[.int .i64 a0_0, .int .i64 a0_1, .int .i64 a0_2, .int .i64 a0_3, .int .i64 a0_4, .int .i64 a0_5, .int .i64 a0_6, .int .i64 a0_7, .int .i64 a0_8, .int .i64 a0_9, .int .i64 a0_10, .int .i64 a0_11, .int .i64 a0_12]] rfl (by (try simp only [List.map_toArray, List.map_cons, List.map_nil]); first | done | rfl | (simp only [List.length_drop, List.length_take]; rfl)) ?_; (with_reducible refine (vendmeterref_EventMay.calls a0_0 a0_1 a0_2 a0_3 a0_4 a0_5 a0_6 a0_7 a0_8 a0_9 a0_10 a0_11 a0_12 false _ A2.out).mono ?_); rintro e w22 ⟨rfl, hb⟩; refine ⟨_, rfl, ?_⟩; have n0_ := Aside0.mk (blk_below (g := gb103) (o := .cells #[.int .i64 a0_0, .int .i64 a0_1, .int .i64 a0_2, .int .i64 a0_3, .int .i64 a0_4, .int .i64 a0_5, .int .i64 a0_6, .int .i64 a0_7, .int .i64 a0_8, .int .i64 a0_9, .int .i64 a0_10, .int .i64 a0_11, .int .i64 a0_12] 41 (0, 0)) (by (with_reducible repeat (first | apply xn14 | apply xd14 | apply xa14)); exact BK103.1) hb); have n1_ := Aside0.mk (below_step (by with_reducible repeat (first | exact HB.1 | apply ya14 | apply yn14 | apply yd14 | refine below_set ?_ GE103.1)) hb); clear BK103; clear HB; have BK103 := n0_; have HB := n1_; clear n0_ n1_; (try clear hb); (try clear hb2); (try clear hk); (try clear hi)))
    go_ret2
    exact ⟨_, by first | rfl | (simp [errW_none, errW_some] <;> rfl) | (simp [*, errW_none, errW_some] <;> rfl), by first | exact Kd.R_nil _ _ _ _ _ | exact Kd.N_nil _ _ _ _ _ | exact Kd.V_nil _ _ _ _ _ | exact Kd.Q_nil _ _ _ _ _ | exact Kd.S_nil _ _ _ _ _, by repeat (first | (with_reducible first | exact HB.1 | apply below_alloc | apply pw_below_drewN | apply below_drew1 | refine below_set ?_ GE103.1) | exact HB.1)⟩

end Go.Proofs.Ytojnaalncgofhaa.PBookEncodes
