-- written by this session's program wip/xp/xprint.py (it drives the kit's print and adds to it)
import Derived.Test.YtojnaalncgofhaaPBookDecodesx0
import Derived.Test.YtojnaalncgofhaaPBookDecodesx3
namespace Go.Proofs.Ytojnaalncgofhaa.PBookDecodes
open Go.RowKit Go.Proofs.YtojnaalncgofhaaW.PrintWords Go.Proofs.YtojnaalncgofhaaW.PrintLast Go.Proofs.YtojnaalncgofhaaW.PrintMore
attribute [local go_sem] max2_int min2_int max_two min_two max_three min_three max_four min_four   -- for this text's walks alone
set_option linter.unusedVariables false
set_option linter.unusedSimpArgs false

/-! ### vendmeterref_In: function 31 -/
def vendmeterref_In.f (a0 : Int) (a1 : Int) (a2 : Int) : Option (Bool) := if a0 ≥ a1 then (some (decide (a0 ≤ a2))) else (some false)
set_option maxHeartbeats 8000000 in
set_option maxRecDepth 100000 in
theorem vendmeterref_In.calls (a0 : Int) (a1 : Int) (a2 : Int) (r : Bool) (w : World) (h : vendmeterref_In.f a0 a1 a2 = some r) :
    Calls Try.prog 31 #[.int .i64 a0, .int .i64 a1, .int .i64 a2] w fun e w' => e = .returned (.bool r) ∧ Drawn0 w w' := by
  have H : (if a0 ≥ a1 then (some (decide (a0 ≤ a2))) else (some false)) = some r := h
  clear h
  by_cases c4 : a0 ≥ a1
  · rw [if_pos c4] at H
    have c4b0 : decide (a1 ≤ a0) = true := decide_eq_true c4
    clear c4
    obtain rfl := Option.some.inj H
    go_enter Try.func31, Try.ntmps31
    go_wp2
    go_ret
    exact ⟨by first | rfl | (simp; done) | (simp [*]; done), by repeat (first | exact Drawn0.refl _ | apply Drawn0.step)⟩
  · rw [if_neg c4] at H
    have c4b0 : decide (a1 ≤ a0) = false := decide_eq_false c4
    clear c4
    obtain rfl := Option.some.inj H
    go_enter Try.func31, Try.ntmps31
    go_wp2
    go_ret
    exact ⟨by first | rfl | (simp; done) | (simp [*]; done), by repeat (first | exact Drawn0.refl _ | apply Drawn0.step)⟩

attribute [local go_sem high] evA_Bill evA_Debt evA_Event
set_option maxHeartbeats 4000000 in
theorem ref_In.tt (w : World) (n lo hi : Int) (h1 : decide (lo ≤ n) = true) (h2 : decide (n ≤ hi) = true) :
    Calls Try.prog 31 #[.int .i64 n, .int .i64 lo, .int .i64 hi] w fun e w' => e = .returned (.bool true) ∧ w' = w := by
  have h3 : decide (n ≥ lo) = true := h1
  go_enter Try.func31, Try.ntmps31
  go_wp2
  go_ret
  exact ⟨rfl, rfl⟩
set_option maxHeartbeats 4000000 in
theorem ref_In.lo (w : World) (n lo hi : Int) (h1 : decide (lo ≤ n) = false) :
    Calls Try.prog 31 #[.int .i64 n, .int .i64 lo, .int .i64 hi] w fun e w' => e = .returned (.bool false) ∧ w' = w := by
  have h3 : decide (n ≥ lo) = false := h1
  go_enter Try.func31, Try.ntmps31
  go_wp2
  go_ret
  exact ⟨rfl, rfl⟩
set_option maxHeartbeats 4000000 in
theorem ref_In.hi (w : World) (n lo hi : Int) (h1 : decide (lo ≤ n) = true) (h2 : decide (n ≤ hi) = false) :
    Calls Try.prog 31 #[.int .i64 n, .int .i64 lo, .int .i64 hi] w fun e w' => e = .returned (.bool false) ∧ w' = w := by
  have h3 : decide (n ≥ lo) = true := h1
  go_enter Try.func31, Try.ntmps31
  go_wp2
  go_ret
  exact ⟨rfl, rfl⟩
set_option maxHeartbeats 400000000 in
set_option maxRecDepth 100000 in
theorem vendmeterref_EventMay.at_ (w : World) (k me mo id te de fe pr ch un tg ow bp : Int) (r : Bool) (hR : r = evOk k me mo id te de fe pr ch un tg ow bp) :
    Calls Try.prog 41 #[.agg #[.int .i64 k, .int .i64 me, .int .i64 mo, .int .i64 id, .int .i64 te, .int .i64 de, .int .i64 fe, .int .i64 pr, .int .i64 ch, .int .i64 un, .int .i64 tg, .int .i64 ow, .int .i64 bp]] w fun e w' => e = .returned (.bool r) ∧ Below w.heap.size w w' := by
  have hu41 := Try.underlying41
  have hu31 := Try.underlying31
  have hu39 := Try.underlying39
  have HR := Aside0.mk hR
  unfold evOk at HR
  clear hR
  go_enter Try.func41, Try.ntmps41
  go_upto_region 2 with (fail)
  obtain ⟨wy, hwx⟩ : ∃ W : World, W = (w.alloc (.cells #[.int .i64 k, .int .i64 me, .int .i64 mo, .int .i64 id, .int .i64 te, .int .i64 de, .int .i64 fe, .int .i64 pr, .int .i64 ch, .int .i64 un, .int .i64 tg, .int .i64 ow, .int .i64 bp] 41)).alloc (.cells #[.int .i64 id, .int .i64 te, .int .i64 de, .int .i64 fe, .int .i64 pr, .int .i64 ch, .int .i64 un] 31) := ⟨_, rfl⟩
  rw [← hwx]
  have B1 := Aside0.mk (show wy.heap[w.heap.size]? = some (.cells #[.int .i64 k, .int .i64 me, .int .i64 mo, .int .i64 id, .int .i64 te, .int .i64 de, .int .i64 fe, .int .i64 pr, .int .i64 ch, .int .i64 un, .int .i64 tg, .int .i64 ow, .int .i64 bp] 41 (0, 0)) from hwx ▸ blk_alloc (blk_new w _) _)
  have BT := Aside0.mk (show wy.heap[w.heap.size + 1]? = some (.cells #[.int .i64 id, .int .i64 te, .int .i64 de, .int .i64 fe, .int .i64 pr, .int .i64 ch, .int .i64 un] 31 (0, 0)) from hwx ▸ by have h := blk_new (w.alloc (.cells #[.int .i64 k, .int .i64 me, .int .i64 mo, .int .i64 id, .int .i64 te, .int .i64 de, .int .i64 fe, .int .i64 pr, .int .i64 ch, .int .i64 un, .int .i64 tg, .int .i64 ow, .int .i64 bp] 41)) (.cells #[.int .i64 id, .int .i64 te, .int .i64 de, .int .i64 fe, .int .i64 pr, .int .i64 ch, .int .i64 un] 31); rw [World.size_alloc] at h; exact h)
  have HY := Aside0.mk (show Below w.heap.size w wy from hwx ▸ below_alloc (below_alloc (Below.refl w.heap.size w) _) _)
  clear hwx
  have x0 : wy.cell? ⟨w.heap.size, 0, none⟩ = some (.int .i64 k) := (blk_cell B1.out 0).trans rfl
  have x1 : wy.cell? ⟨w.heap.size, 1, none⟩ = some (.int .i64 me) := (blk_cell B1.out 1).trans rfl
  have x2 : wy.cell? ⟨w.heap.size, 2, none⟩ = some (.int .i64 mo) := (blk_cell B1.out 2).trans rfl
  have x3 : wy.cell? ⟨w.heap.size, 3, none⟩ = some (.int .i64 id) := (blk_cell B1.out 3).trans rfl
  have x4 : wy.cell? ⟨w.heap.size, 4, none⟩ = some (.int .i64 te) := (blk_cell B1.out 4).trans rfl
  have x5 : wy.cell? ⟨w.heap.size, 5, none⟩ = some (.int .i64 de) := (blk_cell B1.out 5).trans rfl
  have x6 : wy.cell? ⟨w.heap.size, 6, none⟩ = some (.int .i64 fe) := (blk_cell B1.out 6).trans rfl
  have x7 : wy.cell? ⟨w.heap.size, 7, none⟩ = some (.int .i64 pr) := (blk_cell B1.out 7).trans rfl
  have x8 : wy.cell? ⟨w.heap.size, 8, none⟩ = some (.int .i64 ch) := (blk_cell B1.out 8).trans rfl
  have x9 : wy.cell? ⟨w.heap.size, 9, none⟩ = some (.int .i64 un) := (blk_cell B1.out 9).trans rfl
  have x10 : wy.cell? ⟨w.heap.size, 10, none⟩ = some (.int .i64 tg) := (blk_cell B1.out 10).trans rfl
  have x11 : wy.cell? ⟨w.heap.size, 11, none⟩ = some (.int .i64 ow) := (blk_cell B1.out 11).trans rfl
  have x12 : wy.cell? ⟨w.heap.size, 12, none⟩ = some (.int .i64 bp) := (blk_cell B1.out 12).trans rfl
  have y0 : wy.cell? ⟨w.heap.size + 1, 0, none⟩ = some (.int .i64 id) := (blk_cell BT.out 0).trans rfl
  have y1 : wy.cell? ⟨w.heap.size + 1, 1, none⟩ = some (.int .i64 te) := (blk_cell BT.out 1).trans rfl
  have y2 : wy.cell? ⟨w.heap.size + 1, 2, none⟩ = some (.int .i64 de) := (blk_cell BT.out 2).trans rfl
  have y3 : wy.cell? ⟨w.heap.size + 1, 3, none⟩ = some (.int .i64 fe) := (blk_cell BT.out 3).trans rfl
  have y4 : wy.cell? ⟨w.heap.size + 1, 4, none⟩ = some (.int .i64 pr) := (blk_cell BT.out 4).trans rfl
  have y5 : wy.cell? ⟨w.heap.size + 1, 5, none⟩ = some (.int .i64 ch) := (blk_cell BT.out 5).trans rfl
  have y6 : wy.cell? ⟨w.heap.size + 1, 6, none⟩ = some (.int .i64 un) := (blk_cell BT.out 6).trans rfl
  by_cases h1_ : 0 ≤ me
  rotate_left
  · have q1_0 : decide (0 ≤ me) = false := by exact decide_eq_false (by omega)
    have q1_1 : decide (me ≥ 0) = false := by exact decide_eq_false (by omega)
    have HRV := Aside0.mk (show r = false by rw [HR.out]; exact decide_eq_false (by unfold evMay evM1 evM2 evM3 evM4 evM5 evZ evT evU evB; omega))
    clear h1_
    go_wp2_with (go_at_call 31; first | (refine (ref_In.tt _ _ _ _ (by first | assumption | decide) (by first | assumption | decide)).mono ?_; rintro e_ w_ ⟨rfl, hw_⟩; subst w_) | (refine (ref_In.lo _ _ _ _ (by first | assumption | decide)).mono ?_; rintro e_ w_ ⟨rfl, hw_⟩; subst w_) | (refine (ref_In.hi _ _ _ _ (by first | assumption | decide) (by first | assumption | decide)).mono ?_; rintro e_ w_ ⟨rfl, hw_⟩; subst w_))
    go_ret
    exact ⟨by rw [HRV.out]; rfl, HY.out⟩
  have q1_0 : decide (0 ≤ me) = true := by exact decide_eq_true (by omega)
  have q1_1 : decide (me ≥ 0) = true := by exact decide_eq_true (by omega)
  by_cases h2_ : me ≤ 49
  rotate_left
  · have q2_0 : decide (me ≤ 49) = false := by exact decide_eq_false (by omega)
    have q2_1 : decide (49 ≥ me) = false := by exact decide_eq_false (by omega)
    have HRV := Aside0.mk (show r = false by rw [HR.out]; exact decide_eq_false (by unfold evMay evM1 evM2 evM3 evM4 evM5 evZ evT evU evB; omega))
    clear h1_ h2_
    go_wp2_with (go_at_call 31; first | (refine (ref_In.tt _ _ _ _ (by first | assumption | decide) (by first | assumption | decide)).mono ?_; rintro e_ w_ ⟨rfl, hw_⟩; subst w_) | (refine (ref_In.lo _ _ _ _ (by first | assumption | decide)).mono ?_; rintro e_ w_ ⟨rfl, hw_⟩; subst w_) | (refine (ref_In.hi _ _ _ _ (by first | assumption | decide) (by first | assumption | decide)).mono ?_; rintro e_ w_ ⟨rfl, hw_⟩; subst w_))
    go_ret
    exact ⟨by rw [HRV.out]; rfl, HY.out⟩
  have q2_0 : decide (me ≤ 49) = true := by exact decide_eq_true (by omega)
  have q2_1 : decide (49 ≥ me) = true := by exact decide_eq_true (by omega)
  by_cases k1 : k = 1
  · subst k1
    have HP := Aside0.mk (And.intro h1_ (h2_))
    clear h1_ h2_
    go_wp2_with (go_at_call 31; first | (refine (ref_In.tt _ _ _ _ (by first | assumption | decide) (by first | assumption | decide)).mono ?_; rintro e_ w_ ⟨rfl, hw_⟩; subst w_) | (refine (ref_In.lo _ _ _ _ (by first | assumption | decide)).mono ?_; rintro e_ w_ ⟨rfl, hw_⟩; subst w_) | (refine (ref_In.hi _ _ _ _ (by first | assumption | decide) (by first | assumption | decide)).mono ?_; rintro e_ w_ ⟨rfl, hw_⟩; subst w_))
    go_ret
    refine ⟨congrArg (fun b => Ending.returned (.bool b)) (Bool.eq_iff_iff.mpr ?_), HY.out⟩
    rw [HR.out, decide_eq_true_eq]
    have hp := HP.out
    try simp only [Bool.and_eq_true, beq_iff_eq, eq_self, true_iff]
    unfold evMay evM1 evM2 evM3 evM4 evM5 evZ evT evU evB
    omega
  by_cases k5 : k = 5
  · subst k5
    clear k1
    rcases hE : (mo == 0 && (id == 0 && (te == 0 && (de == 0 && (fe == 0 && (pr == 0 && (ch == 0 && un == 0))))) && tg == 0)) with _ | _
    · have hp : ¬ (mo = 0 ∧ (id = 0 ∧ te = 0 ∧ de = 0 ∧ fe = 0 ∧ pr = 0 ∧ ch = 0 ∧ un = 0) ∧ tg = 0) := by
        intro h
        obtain ⟨a1, ⟨a2, a3, a4, a5, a6, a7, a8⟩, a9⟩ := h
        rw [a1, a2, a3, a4, a5, a6, a7, a8, a9] at hE
        exact absurd hE (by decide)
      have HRV := Aside0.mk (show r = false by rw [HR.out]; exact decide_eq_false (by unfold evMay evM1 evM2 evM3 evM4 evM5 evZ evT evU evB; omega))
      clear h1_ h2_ hp
      go_wp2_with (go_at_call 31; first | (refine (ref_In.tt _ _ _ _ (by first | assumption | decide) (by first | assumption | decide)).mono ?_; rintro e_ w_ ⟨rfl, hw_⟩; subst w_) | (refine (ref_In.lo _ _ _ _ (by first | assumption | decide)).mono ?_; rintro e_ w_ ⟨rfl, hw_⟩; subst w_) | (refine (ref_In.hi _ _ _ _ (by first | assumption | decide) (by first | assumption | decide)).mono ?_; rintro e_ w_ ⟨rfl, hw_⟩; subst w_))
      go_ret
      exact ⟨by rw [HRV.out]; rfl, HY.out⟩
    · have hp := hE
      simp only [Bool.and_eq_true, beq_iff_eq] at hp
      by_cases h3_ : 1 ≤ ow
      rotate_left
      · have q3_0 : decide (1 ≤ ow) = false := by exact decide_eq_false (by omega)
        have q3_1 : decide (ow ≥ 1) = false := by exact decide_eq_false (by omega)
        have HRV := Aside0.mk (show r = false by rw [HR.out]; exact decide_eq_false (by unfold evMay evM1 evM2 evM3 evM4 evM5 evZ evT evU evB; omega))
        clear h1_ h2_ hp h3_
        go_wp2_with (go_at_call 31; first | (refine (ref_In.tt _ _ _ _ (by first | assumption | decide) (by first | assumption | decide)).mono ?_; rintro e_ w_ ⟨rfl, hw_⟩; subst w_) | (refine (ref_In.lo _ _ _ _ (by first | assumption | decide)).mono ?_; rintro e_ w_ ⟨rfl, hw_⟩; subst w_) | (refine (ref_In.hi _ _ _ _ (by first | assumption | decide) (by first | assumption | decide)).mono ?_; rintro e_ w_ ⟨rfl, hw_⟩; subst w_))
        go_ret
        exact ⟨by rw [HRV.out]; rfl, HY.out⟩
      have q3_0 : decide (1 ≤ ow) = true := by exact decide_eq_true (by omega)
      have q3_1 : decide (ow ≥ 1) = true := by exact decide_eq_true (by omega)
      by_cases h4_ : ow ≤ 1000000000
      rotate_left
      · have q4_0 : decide (ow ≤ 1000000000) = false := by exact decide_eq_false (by omega)
        have q4_1 : decide (1000000000 ≥ ow) = false := by exact decide_eq_false (by omega)
        have HRV := Aside0.mk (show r = false by rw [HR.out]; exact decide_eq_false (by unfold evMay evM1 evM2 evM3 evM4 evM5 evZ evT evU evB; omega))
        clear h1_ h2_ hp h3_ h4_
        go_wp2_with (go_at_call 31; first | (refine (ref_In.tt _ _ _ _ (by first | assumption | decide) (by first | assumption | decide)).mono ?_; rintro e_ w_ ⟨rfl, hw_⟩; subst w_) | (refine (ref_In.lo _ _ _ _ (by first | assumption | decide)).mono ?_; rintro e_ w_ ⟨rfl, hw_⟩; subst w_) | (refine (ref_In.hi _ _ _ _ (by first | assumption | decide) (by first | assumption | decide)).mono ?_; rintro e_ w_ ⟨rfl, hw_⟩; subst w_))
        go_ret
        exact ⟨by rw [HRV.out]; rfl, HY.out⟩
      have q4_0 : decide (ow ≤ 1000000000) = true := by exact decide_eq_true (by omega)
      have q4_1 : decide (1000000000 ≥ ow) = true := by exact decide_eq_true (by omega)
      by_cases h5_ : 0 ≤ bp
      rotate_left
      · have q5_0 : decide (0 ≤ bp) = false := by exact decide_eq_false (by omega)
        have q5_1 : decide (bp ≥ 0) = false := by exact decide_eq_false (by omega)
        have HRV := Aside0.mk (show r = false by rw [HR.out]; exact decide_eq_false (by unfold evMay evM1 evM2 evM3 evM4 evM5 evZ evT evU evB; omega))
        clear h1_ h2_ hp h3_ h4_ h5_
        go_wp2_with (go_at_call 31; first | (refine (ref_In.tt _ _ _ _ (by first | assumption | decide) (by first | assumption | decide)).mono ?_; rintro e_ w_ ⟨rfl, hw_⟩; subst w_) | (refine (ref_In.lo _ _ _ _ (by first | assumption | decide)).mono ?_; rintro e_ w_ ⟨rfl, hw_⟩; subst w_) | (refine (ref_In.hi _ _ _ _ (by first | assumption | decide) (by first | assumption | decide)).mono ?_; rintro e_ w_ ⟨rfl, hw_⟩; subst w_))
        go_ret
        exact ⟨by rw [HRV.out]; rfl, HY.out⟩
      have q5_0 : decide (0 ≤ bp) = true := by exact decide_eq_true (by omega)
      have q5_1 : decide (bp ≥ 0) = true := by exact decide_eq_true (by omega)
      by_cases h6_ : bp ≤ 10000
      rotate_left
      · have q6_0 : decide (bp ≤ 10000) = false := by exact decide_eq_false (by omega)
        have q6_1 : decide (10000 ≥ bp) = false := by exact decide_eq_false (by omega)
        have HRV := Aside0.mk (show r = false by rw [HR.out]; exact decide_eq_false (by unfold evMay evM1 evM2 evM3 evM4 evM5 evZ evT evU evB; omega))
        clear h1_ h2_ hp h3_ h4_ h5_ h6_
        go_wp2_with (go_at_call 31; first | (refine (ref_In.tt _ _ _ _ (by first | assumption | decide) (by first | assumption | decide)).mono ?_; rintro e_ w_ ⟨rfl, hw_⟩; subst w_) | (refine (ref_In.lo _ _ _ _ (by first | assumption | decide)).mono ?_; rintro e_ w_ ⟨rfl, hw_⟩; subst w_) | (refine (ref_In.hi _ _ _ _ (by first | assumption | decide) (by first | assumption | decide)).mono ?_; rintro e_ w_ ⟨rfl, hw_⟩; subst w_))
        go_ret
        exact ⟨by rw [HRV.out]; rfl, HY.out⟩
      have q6_0 : decide (bp ≤ 10000) = true := by exact decide_eq_true (by omega)
      have q6_1 : decide (10000 ≥ bp) = true := by exact decide_eq_true (by omega)
      have HP := Aside0.mk (And.intro h1_ (And.intro h2_ (And.intro hp (And.intro h3_ (And.intro h4_ (And.intro h5_ (h6_)))))))
      clear h1_ h2_ hp h3_ h4_ h5_ h6_
      go_wp2_with (go_at_call 31; first | (refine (ref_In.tt _ _ _ _ (by first | assumption | decide) (by first | assumption | decide)).mono ?_; rintro e_ w_ ⟨rfl, hw_⟩; subst w_) | (refine (ref_In.lo _ _ _ _ (by first | assumption | decide)).mono ?_; rintro e_ w_ ⟨rfl, hw_⟩; subst w_) | (refine (ref_In.hi _ _ _ _ (by first | assumption | decide) (by first | assumption | decide)).mono ?_; rintro e_ w_ ⟨rfl, hw_⟩; subst w_))
      go_ret
      refine ⟨congrArg (fun b => Ending.returned (.bool b)) (Bool.eq_iff_iff.mpr ?_), HY.out⟩
      rw [HR.out, decide_eq_true_eq]
      have hp := HP.out
      try simp only [Bool.and_eq_true, beq_iff_eq, eq_self, true_iff]
      unfold evMay evM1 evM2 evM3 evM4 evM5 evZ evT evU evB
      omega
  by_cases kr : 2 ≤ k ∧ k ≤ 4
  rotate_left
  · have nn : (k == 1) = false := beq_eq_false_iff_ne.mpr k1
    have n5 : (k == 5) = false := beq_eq_false_iff_ne.mpr k5
    by_cases g2 : 2 ≤ k
    · have n1 : decide (2 ≤ k) = true := decide_eq_true g2
      have n2 : decide (k ≥ 2) = true := decide_eq_true g2
      have n3 : decide (k ≤ 4) = false := decide_eq_false (by omega)
      have HRV := Aside0.mk (show r = false by rw [HR.out]; exact decide_eq_false (by unfold evMay evM1 evM2 evM3 evM4 evM5 evZ evT evU evB; omega))
      clear h1_ h2_ k1 k5 kr g2
      go_wp2_with (go_at_call 31; first | (refine (ref_In.tt _ _ _ _ (by first | assumption | decide) (by first | assumption | decide)).mono ?_; rintro e_ w_ ⟨rfl, hw_⟩; subst w_) | (refine (ref_In.lo _ _ _ _ (by first | assumption | decide)).mono ?_; rintro e_ w_ ⟨rfl, hw_⟩; subst w_) | (refine (ref_In.hi _ _ _ _ (by first | assumption | decide) (by first | assumption | decide)).mono ?_; rintro e_ w_ ⟨rfl, hw_⟩; subst w_))
      go_ret
      exact ⟨by rw [HRV.out]; rfl, HY.out⟩
    · have n1 : decide (2 ≤ k) = false := decide_eq_false g2
      have n2 : decide (k ≥ 2) = false := decide_eq_false g2
      have HRV := Aside0.mk (show r = false by rw [HR.out]; exact decide_eq_false (by unfold evMay evM1 evM2 evM3 evM4 evM5 evZ evT evU evB; omega))
      clear h1_ h2_ k1 k5 kr g2
      go_wp2_with (go_at_call 31; first | (refine (ref_In.tt _ _ _ _ (by first | assumption | decide) (by first | assumption | decide)).mono ?_; rintro e_ w_ ⟨rfl, hw_⟩; subst w_) | (refine (ref_In.lo _ _ _ _ (by first | assumption | decide)).mono ?_; rintro e_ w_ ⟨rfl, hw_⟩; subst w_) | (refine (ref_In.hi _ _ _ _ (by first | assumption | decide) (by first | assumption | decide)).mono ?_; rintro e_ w_ ⟨rfl, hw_⟩; subst w_))
      go_ret
      exact ⟨by rw [HRV.out]; rfl, HY.out⟩
  have nn : (k == 1) = false := beq_eq_false_iff_ne.mpr k1
  have n5 : (k == 5) = false := beq_eq_false_iff_ne.mpr k5
  have n1 : decide (2 ≤ k) = true := decide_eq_true kr.1
  have n2 : decide (k ≥ 2) = true := decide_eq_true kr.1
  have n3 : decide (k ≤ 4) = true := decide_eq_true kr.2
  by_cases h7_ : 1 ≤ id
  rotate_left
  · have q7_0 : decide (1 ≤ id) = false := by exact decide_eq_false (by omega)
    have q7_1 : decide (id ≥ 1) = false := by exact decide_eq_false (by omega)
    have HRV := Aside0.mk (show r = false by rw [HR.out]; exact decide_eq_false (by unfold evMay evM1 evM2 evM3 evM4 evM5 evZ evT evU evB; omega))
    clear h1_ h2_ k1 k5 kr h7_
    go_wp2_with (go_at_call 31; first | (refine (ref_In.tt _ _ _ _ (by first | assumption | decide) (by first | assumption | decide)).mono ?_; rintro e_ w_ ⟨rfl, hw_⟩; subst w_) | (refine (ref_In.lo _ _ _ _ (by first | assumption | decide)).mono ?_; rintro e_ w_ ⟨rfl, hw_⟩; subst w_) | (refine (ref_In.hi _ _ _ _ (by first | assumption | decide) (by first | assumption | decide)).mono ?_; rintro e_ w_ ⟨rfl, hw_⟩; subst w_))
    go_ret
    exact ⟨by rw [HRV.out]; rfl, HY.out⟩
  have q7_0 : decide (1 ≤ id) = true := by exact decide_eq_true (by omega)
  have q7_1 : decide (id ≥ 1) = true := by exact decide_eq_true (by omega)
  by_cases h8_ : id ≤ 1048575
  rotate_left
  · have q8_0 : decide (id ≤ 1048575) = false := by exact decide_eq_false (by omega)
    have q8_1 : decide (1048575 ≥ id) = false := by exact decide_eq_false (by omega)
    have HRV := Aside0.mk (show r = false by rw [HR.out]; exact decide_eq_false (by unfold evMay evM1 evM2 evM3 evM4 evM5 evZ evT evU evB; omega))
    clear h1_ h2_ k1 k5 kr h7_ h8_
    go_wp2_with (go_at_call 31; first | (refine (ref_In.tt _ _ _ _ (by first | assumption | decide) (by first | assumption | decide)).mono ?_; rintro e_ w_ ⟨rfl, hw_⟩; subst w_) | (refine (ref_In.lo _ _ _ _ (by first | assumption | decide)).mono ?_; rintro e_ w_ ⟨rfl, hw_⟩; subst w_) | (refine (ref_In.hi _ _ _ _ (by first | assumption | decide) (by first | assumption | decide)).mono ?_; rintro e_ w_ ⟨rfl, hw_⟩; subst w_))
    go_ret
    exact ⟨by rw [HRV.out]; rfl, HY.out⟩
  have q8_0 : decide (id ≤ 1048575) = true := by exact decide_eq_true (by omega)
  have q8_1 : decide (1048575 ≥ id) = true := by exact decide_eq_true (by omega)
  by_cases h9_ : 0 ≤ tg
  rotate_left
  · have q9_0 : decide (0 ≤ tg) = false := by exact decide_eq_false (by omega)
    have q9_1 : decide (tg ≥ 0) = false := by exact decide_eq_false (by omega)
    have HRV := Aside0.mk (show r = false by rw [HR.out]; exact decide_eq_false (by unfold evMay evM1 evM2 evM3 evM4 evM5 evZ evT evU evB; omega))
    clear h1_ h2_ k1 k5 kr h7_ h8_ h9_
    go_wp2_with (go_at_call 31; first | (refine (ref_In.tt _ _ _ _ (by first | assumption | decide) (by first | assumption | decide)).mono ?_; rintro e_ w_ ⟨rfl, hw_⟩; subst w_) | (refine (ref_In.lo _ _ _ _ (by first | assumption | decide)).mono ?_; rintro e_ w_ ⟨rfl, hw_⟩; subst w_) | (refine (ref_In.hi _ _ _ _ (by first | assumption | decide) (by first | assumption | decide)).mono ?_; rintro e_ w_ ⟨rfl, hw_⟩; subst w_))
    go_ret
    exact ⟨by rw [HRV.out]; rfl, HY.out⟩
  have q9_0 : decide (0 ≤ tg) = true := by exact decide_eq_true (by omega)
  have q9_1 : decide (tg ≥ 0) = true := by exact decide_eq_true (by omega)
  by_cases h10_ : tg ≤ 65535
  rotate_left
  · have q10_0 : decide (tg ≤ 65535) = false := by exact decide_eq_false (by omega)
    have q10_1 : decide (65535 ≥ tg) = false := by exact decide_eq_false (by omega)
    have HRV := Aside0.mk (show r = false by rw [HR.out]; exact decide_eq_false (by unfold evMay evM1 evM2 evM3 evM4 evM5 evZ evT evU evB; omega))
    clear h1_ h2_ k1 k5 kr h7_ h8_ h9_ h10_
    go_wp2_with (go_at_call 31; first | (refine (ref_In.tt _ _ _ _ (by first | assumption | decide) (by first | assumption | decide)).mono ?_; rintro e_ w_ ⟨rfl, hw_⟩; subst w_) | (refine (ref_In.lo _ _ _ _ (by first | assumption | decide)).mono ?_; rintro e_ w_ ⟨rfl, hw_⟩; subst w_) | (refine (ref_In.hi _ _ _ _ (by first | assumption | decide) (by first | assumption | decide)).mono ?_; rintro e_ w_ ⟨rfl, hw_⟩; subst w_))
    go_ret
    exact ⟨by rw [HRV.out]; rfl, HY.out⟩
  have q10_0 : decide (tg ≤ 65535) = true := by exact decide_eq_true (by omega)
  have q10_1 : decide (65535 ≥ tg) = true := by exact decide_eq_true (by omega)
  by_cases h11_ : ow = 0
  rotate_left
  · have q11_0 : (ow == 0) = false := by exact beq_eq_false_iff_ne.mpr (by omega)
    have HRV := Aside0.mk (show r = false by rw [HR.out]; exact decide_eq_false (by unfold evMay evM1 evM2 evM3 evM4 evM5 evZ evT evU evB; omega))
    clear h1_ h2_ k1 k5 kr h7_ h8_ h9_ h10_ h11_
    go_wp2_with (go_at_call 31; first | (refine (ref_In.tt _ _ _ _ (by first | assumption | decide) (by first | assumption | decide)).mono ?_; rintro e_ w_ ⟨rfl, hw_⟩; subst w_) | (refine (ref_In.lo _ _ _ _ (by first | assumption | decide)).mono ?_; rintro e_ w_ ⟨rfl, hw_⟩; subst w_) | (refine (ref_In.hi _ _ _ _ (by first | assumption | decide) (by first | assumption | decide)).mono ?_; rintro e_ w_ ⟨rfl, hw_⟩; subst w_))
    go_ret
    exact ⟨by rw [HRV.out]; rfl, HY.out⟩
  have q11_0 : (ow == 0) = true := by exact beq_iff_eq.mpr (by omega)
  by_cases h12_ : bp = 0
  rotate_left
  · have q12_0 : (bp == 0) = false := by exact beq_eq_false_iff_ne.mpr (by omega)
    have HRV := Aside0.mk (show r = false by rw [HR.out]; exact decide_eq_false (by unfold evMay evM1 evM2 evM3 evM4 evM5 evZ evT evU evB; omega))
    clear h1_ h2_ k1 k5 kr h7_ h8_ h9_ h10_ h11_ h12_
    go_wp2_with (go_at_call 31; first | (refine (ref_In.tt _ _ _ _ (by first | assumption | decide) (by first | assumption | decide)).mono ?_; rintro e_ w_ ⟨rfl, hw_⟩; subst w_) | (refine (ref_In.lo _ _ _ _ (by first | assumption | decide)).mono ?_; rintro e_ w_ ⟨rfl, hw_⟩; subst w_) | (refine (ref_In.hi _ _ _ _ (by first | assumption | decide) (by first | assumption | decide)).mono ?_; rintro e_ w_ ⟨rfl, hw_⟩; subst w_))
    go_ret
    exact ⟨by rw [HRV.out]; rfl, HY.out⟩
  have q12_0 : (bp == 0) = true := by exact beq_iff_eq.mpr (by omega)
  clear nn n5 n1 n2 n3
  by_cases k4 : k = 4
  · subst k4
    by_cases h13_ : mo = 0
    rotate_left
    · have q13_0 : (mo == 0) = false := by exact beq_eq_false_iff_ne.mpr (by omega)
      have HRV := Aside0.mk (show r = false by rw [HR.out]; exact decide_eq_false (by unfold evMay evM1 evM2 evM3 evM4 evM5 evZ evT evU evB; omega))
      clear h1_ h2_ kr h7_ h8_ h9_ h10_ h11_ h12_ h13_
      go_wp2_with (go_at_call 31; first | (refine (ref_In.tt _ _ _ _ (by first | assumption | decide) (by first | assumption | decide)).mono ?_; rintro e_ w_ ⟨rfl, hw_⟩; subst w_) | (refine (ref_In.lo _ _ _ _ (by first | assumption | decide)).mono ?_; rintro e_ w_ ⟨rfl, hw_⟩; subst w_) | (refine (ref_In.hi _ _ _ _ (by first | assumption | decide) (by first | assumption | decide)).mono ?_; rintro e_ w_ ⟨rfl, hw_⟩; subst w_))
      go_ret
      exact ⟨by rw [HRV.out]; rfl, HY.out⟩
    have q13_0 : (mo == 0) = true := by exact beq_iff_eq.mpr (by omega)
    have HP := Aside0.mk (And.intro h1_ (And.intro h2_ (And.intro kr (And.intro h7_ (And.intro h8_ (And.intro h9_ (And.intro h10_ (And.intro h11_ (And.intro h12_ (h13_))))))))))
    clear h1_ h2_ kr h7_ h8_ h9_ h10_ h11_ h12_ h13_
    go_wp2_with (go_at_call 31; first | (refine (ref_In.tt _ _ _ _ (by first | assumption | decide) (by first | assumption | decide)).mono ?_; rintro e_ w_ ⟨rfl, hw_⟩; subst w_) | (refine (ref_In.lo _ _ _ _ (by first | assumption | decide)).mono ?_; rintro e_ w_ ⟨rfl, hw_⟩; subst w_) | (refine (ref_In.hi _ _ _ _ (by first | assumption | decide) (by first | assumption | decide)).mono ?_; rintro e_ w_ ⟨rfl, hw_⟩; subst w_))
    go_ret
    refine ⟨congrArg (fun b => Ending.returned (.bool b)) (Bool.eq_iff_iff.mpr ?_), HY.out⟩
    rw [HR.out, decide_eq_true_eq]
    have hp := HP.out
    try simp only [Bool.and_eq_true, beq_iff_eq, eq_self, true_iff]
    unfold evMay evM1 evM2 evM3 evM4 evM5 evZ evT evU evB
    omega
  by_cases k3 : k = 3
  · subst k3
    clear k4
    by_cases h14_ : 0 ≤ mo
    rotate_left
    · have q14_0 : decide (0 ≤ mo) = false := by exact decide_eq_false (by omega)
      have q14_1 : decide (mo ≥ 0) = false := by exact decide_eq_false (by omega)
      have HRV := Aside0.mk (show r = false by rw [HR.out]; exact decide_eq_false (by unfold evMay evM1 evM2 evM3 evM4 evM5 evZ evT evU evB; omega))
      clear h1_ h2_ kr h7_ h8_ h9_ h10_ h11_ h12_ h14_
      go_wp2_with (go_at_call 31; first | (refine (ref_In.tt _ _ _ _ (by first | assumption | decide) (by first | assumption | decide)).mono ?_; rintro e_ w_ ⟨rfl, hw_⟩; subst w_) | (refine (ref_In.lo _ _ _ _ (by first | assumption | decide)).mono ?_; rintro e_ w_ ⟨rfl, hw_⟩; subst w_) | (refine (ref_In.hi _ _ _ _ (by first | assumption | decide) (by first | assumption | decide)).mono ?_; rintro e_ w_ ⟨rfl, hw_⟩; subst w_))
      go_ret
      exact ⟨by rw [HRV.out]; rfl, HY.out⟩
    have q14_0 : decide (0 ≤ mo) = true := by exact decide_eq_true (by omega)
    have q14_1 : decide (mo ≥ 0) = true := by exact decide_eq_true (by omega)
    by_cases h15_ : mo ≤ 2399
    rotate_left
    · have q15_0 : decide (mo ≤ 2399) = false := by exact decide_eq_false (by omega)
      have q15_1 : decide (2399 ≥ mo) = false := by exact decide_eq_false (by omega)
      have HRV := Aside0.mk (show r = false by rw [HR.out]; exact decide_eq_false (by unfold evMay evM1 evM2 evM3 evM4 evM5 evZ evT evU evB; omega))
      clear h1_ h2_ kr h7_ h8_ h9_ h10_ h11_ h12_ h14_ h15_
      go_wp2_with (go_at_call 31; first | (refine (ref_In.tt _ _ _ _ (by first | assumption | decide) (by first | assumption | decide)).mono ?_; rintro e_ w_ ⟨rfl, hw_⟩; subst w_) | (refine (ref_In.lo _ _ _ _ (by first | assumption | decide)).mono ?_; rintro e_ w_ ⟨rfl, hw_⟩; subst w_) | (refine (ref_In.hi _ _ _ _ (by first | assumption | decide) (by first | assumption | decide)).mono ?_; rintro e_ w_ ⟨rfl, hw_⟩; subst w_))
      go_ret
      exact ⟨by rw [HRV.out]; rfl, HY.out⟩
    have q15_0 : decide (mo ≤ 2399) = true := by exact decide_eq_true (by omega)
    have q15_1 : decide (2399 ≥ mo) = true := by exact decide_eq_true (by omega)
    by_cases h16_ : 1 ≤ un
    rotate_left
    · have q16_0 : decide (1 ≤ un) = false := by exact decide_eq_false (by omega)
      have q16_1 : decide (un ≥ 1) = false := by exact decide_eq_false (by omega)
      have HRV := Aside0.mk (show r = false by rw [HR.out]; exact decide_eq_false (by unfold evMay evM1 evM2 evM3 evM4 evM5 evZ evT evU evB; omega))
      clear h1_ h2_ kr h7_ h8_ h9_ h10_ h11_ h12_ h14_ h15_ h16_
      go_wp2_with (go_at_call 31; first | (refine (ref_In.tt _ _ _ _ (by first | assumption | decide) (by first | assumption | decide)).mono ?_; rintro e_ w_ ⟨rfl, hw_⟩; subst w_) | (refine (ref_In.lo _ _ _ _ (by first | assumption | decide)).mono ?_; rintro e_ w_ ⟨rfl, hw_⟩; subst w_) | (refine (ref_In.hi _ _ _ _ (by first | assumption | decide) (by first | assumption | decide)).mono ?_; rintro e_ w_ ⟨rfl, hw_⟩; subst w_))
      go_ret
      exact ⟨by rw [HRV.out]; rfl, HY.out⟩
    have q16_0 : decide (1 ≤ un) = true := by exact decide_eq_true (by omega)
    have q16_1 : decide (un ≥ 1) = true := by exact decide_eq_true (by omega)
    by_cases h17_ : un ≤ 2097151
    rotate_left
    · have q17_0 : decide (un ≤ 2097151) = false := by exact decide_eq_false (by omega)
      have q17_1 : decide (2097151 ≥ un) = false := by exact decide_eq_false (by omega)
      have HRV := Aside0.mk (show r = false by rw [HR.out]; exact decide_eq_false (by unfold evMay evM1 evM2 evM3 evM4 evM5 evZ evT evU evB; omega))
      clear h1_ h2_ kr h7_ h8_ h9_ h10_ h11_ h12_ h14_ h15_ h16_ h17_
      go_wp2_with (go_at_call 31; first | (refine (ref_In.tt _ _ _ _ (by first | assumption | decide) (by first | assumption | decide)).mono ?_; rintro e_ w_ ⟨rfl, hw_⟩; subst w_) | (refine (ref_In.lo _ _ _ _ (by first | assumption | decide)).mono ?_; rintro e_ w_ ⟨rfl, hw_⟩; subst w_) | (refine (ref_In.hi _ _ _ _ (by first | assumption | decide) (by first | assumption | decide)).mono ?_; rintro e_ w_ ⟨rfl, hw_⟩; subst w_))
      go_ret
      exact ⟨by rw [HRV.out]; rfl, HY.out⟩
    have q17_0 : decide (un ≤ 2097151) = true := by exact decide_eq_true (by omega)
    have q17_1 : decide (2097151 ≥ un) = true := by exact decide_eq_true (by omega)
    have HP := Aside0.mk (And.intro h1_ (And.intro h2_ (And.intro kr (And.intro h7_ (And.intro h8_ (And.intro h9_ (And.intro h10_ (And.intro h11_ (And.intro h12_ (And.intro h14_ (And.intro h15_ (And.intro h16_ (h17_)))))))))))))
    clear h1_ h2_ kr h7_ h8_ h9_ h10_ h11_ h12_ h14_ h15_ h16_ h17_
    go_wp2_with (go_at_call 31; first | (refine (ref_In.tt _ _ _ _ (by first | assumption | decide) (by first | assumption | decide)).mono ?_; rintro e_ w_ ⟨rfl, hw_⟩; subst w_) | (refine (ref_In.lo _ _ _ _ (by first | assumption | decide)).mono ?_; rintro e_ w_ ⟨rfl, hw_⟩; subst w_) | (refine (ref_In.hi _ _ _ _ (by first | assumption | decide) (by first | assumption | decide)).mono ?_; rintro e_ w_ ⟨rfl, hw_⟩; subst w_))
    go_ret
    refine ⟨congrArg (fun b => Ending.returned (.bool b)) (Bool.eq_iff_iff.mpr ?_), HY.out⟩
    rw [HR.out, decide_eq_true_eq]
    have hp := HP.out
    try simp only [Bool.and_eq_true, beq_iff_eq, eq_self, true_iff]
    unfold evMay evM1 evM2 evM3 evM4 evM5 evZ evT evU evB
    omega
  obtain rfl : k = 2 := by omega
  clear k4 k3 k1 k5
  by_cases h18_ : 0 ≤ mo
  rotate_left
  · have q18_0 : decide (0 ≤ mo) = false := by exact decide_eq_false (by omega)
    have q18_1 : decide (mo ≥ 0) = false := by exact decide_eq_false (by omega)
    have HRV := Aside0.mk (show r = false by rw [HR.out]; exact decide_eq_false (by unfold evMay evM1 evM2 evM3 evM4 evM5 evZ evT evU evB; omega))
    clear h1_ h2_ kr h7_ h8_ h9_ h10_ h11_ h12_ h18_
    go_wp2_with (go_at_call 31; first | (refine (ref_In.tt _ _ _ _ (by first | assumption | decide) (by first | assumption | decide)).mono ?_; rintro e_ w_ ⟨rfl, hw_⟩; subst w_) | (refine (ref_In.lo _ _ _ _ (by first | assumption | decide)).mono ?_; rintro e_ w_ ⟨rfl, hw_⟩; subst w_) | (refine (ref_In.hi _ _ _ _ (by first | assumption | decide) (by first | assumption | decide)).mono ?_; rintro e_ w_ ⟨rfl, hw_⟩; subst w_))
    go_ret
    exact ⟨by rw [HRV.out]; rfl, HY.out⟩
  have q18_0 : decide (0 ≤ mo) = true := by exact decide_eq_true (by omega)
  have q18_1 : decide (mo ≥ 0) = true := by exact decide_eq_true (by omega)
  by_cases h19_ : mo ≤ 2399
  rotate_left
  · have q19_0 : decide (mo ≤ 2399) = false := by exact decide_eq_false (by omega)
    have q19_1 : decide (2399 ≥ mo) = false := by exact decide_eq_false (by omega)
    have HRV := Aside0.mk (show r = false by rw [HR.out]; exact decide_eq_false (by unfold evMay evM1 evM2 evM3 evM4 evM5 evZ evT evU evB; omega))
    clear h1_ h2_ kr h7_ h8_ h9_ h10_ h11_ h12_ h18_ h19_
    go_wp2_with (go_at_call 31; first | (refine (ref_In.tt _ _ _ _ (by first | assumption | decide) (by first | assumption | decide)).mono ?_; rintro e_ w_ ⟨rfl, hw_⟩; subst w_) | (refine (ref_In.lo _ _ _ _ (by first | assumption | decide)).mono ?_; rintro e_ w_ ⟨rfl, hw_⟩; subst w_) | (refine (ref_In.hi _ _ _ _ (by first | assumption | decide) (by first | assumption | decide)).mono ?_; rintro e_ w_ ⟨rfl, hw_⟩; subst w_))
    go_ret
    exact ⟨by rw [HRV.out]; rfl, HY.out⟩
  have q19_0 : decide (mo ≤ 2399) = true := by exact decide_eq_true (by omega)
  have q19_1 : decide (2399 ≥ mo) = true := by exact decide_eq_true (by omega)
  by_cases h20_ : 1 ≤ un
  rotate_left
  · have q20_0 : decide (1 ≤ un) = false := by exact decide_eq_false (by omega)
    have q20_1 : decide (un ≥ 1) = false := by exact decide_eq_false (by omega)
    have HRV := Aside0.mk (show r = false by rw [HR.out]; exact decide_eq_false (by unfold evMay evM1 evM2 evM3 evM4 evM5 evZ evT evU evB; omega))
    clear h1_ h2_ kr h7_ h8_ h9_ h10_ h11_ h12_ h18_ h19_ h20_
    go_wp2_with (go_at_call 31; first | (refine (ref_In.tt _ _ _ _ (by first | assumption | decide) (by first | assumption | decide)).mono ?_; rintro e_ w_ ⟨rfl, hw_⟩; subst w_) | (refine (ref_In.lo _ _ _ _ (by first | assumption | decide)).mono ?_; rintro e_ w_ ⟨rfl, hw_⟩; subst w_) | (refine (ref_In.hi _ _ _ _ (by first | assumption | decide) (by first | assumption | decide)).mono ?_; rintro e_ w_ ⟨rfl, hw_⟩; subst w_))
    go_ret
    exact ⟨by rw [HRV.out]; rfl, HY.out⟩
  have q20_0 : decide (1 ≤ un) = true := by exact decide_eq_true (by omega)
  have q20_1 : decide (un ≥ 1) = true := by exact decide_eq_true (by omega)
  by_cases h21_ : un ≤ 2097151
  rotate_left
  · have q21_0 : decide (un ≤ 2097151) = false := by exact decide_eq_false (by omega)
    have q21_1 : decide (2097151 ≥ un) = false := by exact decide_eq_false (by omega)
    have HRV := Aside0.mk (show r = false by rw [HR.out]; exact decide_eq_false (by unfold evMay evM1 evM2 evM3 evM4 evM5 evZ evT evU evB; omega))
    clear h1_ h2_ kr h7_ h8_ h9_ h10_ h11_ h12_ h18_ h19_ h20_ h21_
    go_wp2_with (go_at_call 31; first | (refine (ref_In.tt _ _ _ _ (by first | assumption | decide) (by first | assumption | decide)).mono ?_; rintro e_ w_ ⟨rfl, hw_⟩; subst w_) | (refine (ref_In.lo _ _ _ _ (by first | assumption | decide)).mono ?_; rintro e_ w_ ⟨rfl, hw_⟩; subst w_) | (refine (ref_In.hi _ _ _ _ (by first | assumption | decide) (by first | assumption | decide)).mono ?_; rintro e_ w_ ⟨rfl, hw_⟩; subst w_))
    go_ret
    exact ⟨by rw [HRV.out]; rfl, HY.out⟩
  have q21_0 : decide (un ≤ 2097151) = true := by exact decide_eq_true (by omega)
  have q21_1 : decide (2097151 ≥ un) = true := by exact decide_eq_true (by omega)
  by_cases h22_ : 1 ≤ te
  rotate_left
  · have q22_0 : decide (1 ≤ te) = false := by exact decide_eq_false (by omega)
    have q22_1 : decide (te ≥ 1) = false := by exact decide_eq_false (by omega)
    have HRV := Aside0.mk (show r = false by rw [HR.out]; exact decide_eq_false (by unfold evMay evM1 evM2 evM3 evM4 evM5 evZ evT evU evB; omega))
    clear h1_ h2_ kr h7_ h8_ h9_ h10_ h11_ h12_ h18_ h19_ h20_ h21_ h22_
    go_wp2_with (go_at_call 31; first | (refine (ref_In.tt _ _ _ _ (by first | assumption | decide) (by first | assumption | decide)).mono ?_; rintro e_ w_ ⟨rfl, hw_⟩; subst w_) | (refine (ref_In.lo _ _ _ _ (by first | assumption | decide)).mono ?_; rintro e_ w_ ⟨rfl, hw_⟩; subst w_) | (refine (ref_In.hi _ _ _ _ (by first | assumption | decide) (by first | assumption | decide)).mono ?_; rintro e_ w_ ⟨rfl, hw_⟩; subst w_))
    go_ret
    exact ⟨by rw [HRV.out]; rfl, HY.out⟩
  have q22_0 : decide (1 ≤ te) = true := by exact decide_eq_true (by omega)
  have q22_1 : decide (te ≥ 1) = true := by exact decide_eq_true (by omega)
  by_cases h23_ : te ≤ 100000000
  rotate_left
  · have q23_0 : decide (te ≤ 100000000) = false := by exact decide_eq_false (by omega)
    have q23_1 : decide (100000000 ≥ te) = false := by exact decide_eq_false (by omega)
    have HRV := Aside0.mk (show r = false by rw [HR.out]; exact decide_eq_false (by unfold evMay evM1 evM2 evM3 evM4 evM5 evZ evT evU evB; omega))
    clear h1_ h2_ kr h7_ h8_ h9_ h10_ h11_ h12_ h18_ h19_ h20_ h21_ h22_ h23_
    go_wp2_with (go_at_call 31; first | (refine (ref_In.tt _ _ _ _ (by first | assumption | decide) (by first | assumption | decide)).mono ?_; rintro e_ w_ ⟨rfl, hw_⟩; subst w_) | (refine (ref_In.lo _ _ _ _ (by first | assumption | decide)).mono ?_; rintro e_ w_ ⟨rfl, hw_⟩; subst w_) | (refine (ref_In.hi _ _ _ _ (by first | assumption | decide) (by first | assumption | decide)).mono ?_; rintro e_ w_ ⟨rfl, hw_⟩; subst w_))
    go_ret
    exact ⟨by rw [HRV.out]; rfl, HY.out⟩
  have q23_0 : decide (te ≤ 100000000) = true := by exact decide_eq_true (by omega)
  have q23_1 : decide (100000000 ≥ te) = true := by exact decide_eq_true (by omega)
  by_cases h24_ : 0 ≤ de
  rotate_left
  · have q24_0 : decide (0 ≤ de) = false := by exact decide_eq_false (by omega)
    have q24_1 : decide (de ≥ 0) = false := by exact decide_eq_false (by omega)
    have HRV := Aside0.mk (show r = false by rw [HR.out]; exact decide_eq_false (by unfold evMay evM1 evM2 evM3 evM4 evM5 evZ evT evU evB; omega))
    clear h1_ h2_ kr h7_ h8_ h9_ h10_ h11_ h12_ h18_ h19_ h20_ h21_ h22_ h23_ h24_
    go_wp2_with (go_at_call 31; first | (refine (ref_In.tt _ _ _ _ (by first | assumption | decide) (by first | assumption | decide)).mono ?_; rintro e_ w_ ⟨rfl, hw_⟩; subst w_) | (refine (ref_In.lo _ _ _ _ (by first | assumption | decide)).mono ?_; rintro e_ w_ ⟨rfl, hw_⟩; subst w_) | (refine (ref_In.hi _ _ _ _ (by first | assumption | decide) (by first | assumption | decide)).mono ?_; rintro e_ w_ ⟨rfl, hw_⟩; subst w_))
    go_ret
    exact ⟨by rw [HRV.out]; rfl, HY.out⟩
  have q24_0 : decide (0 ≤ de) = true := by exact decide_eq_true (by omega)
  have q24_1 : decide (de ≥ 0) = true := by exact decide_eq_true (by omega)
  by_cases h25_ : de ≤ te
  rotate_left
  · have q25_0 : decide (de ≤ te) = false := by exact decide_eq_false (by omega)
    have q25_1 : decide (te ≥ de) = false := by exact decide_eq_false (by omega)
    have HRV := Aside0.mk (show r = false by rw [HR.out]; exact decide_eq_false (by unfold evMay evM1 evM2 evM3 evM4 evM5 evZ evT evU evB; omega))
    clear h1_ h2_ kr h7_ h8_ h9_ h10_ h11_ h12_ h18_ h19_ h20_ h21_ h22_ h23_ h24_ h25_
    go_wp2_with (go_at_call 31; first | (refine (ref_In.tt _ _ _ _ (by first | assumption | decide) (by first | assumption | decide)).mono ?_; rintro e_ w_ ⟨rfl, hw_⟩; subst w_) | (refine (ref_In.lo _ _ _ _ (by first | assumption | decide)).mono ?_; rintro e_ w_ ⟨rfl, hw_⟩; subst w_) | (refine (ref_In.hi _ _ _ _ (by first | assumption | decide) (by first | assumption | decide)).mono ?_; rintro e_ w_ ⟨rfl, hw_⟩; subst w_))
    go_ret
    exact ⟨by rw [HRV.out]; rfl, HY.out⟩
  have q25_0 : decide (de ≤ te) = true := by exact decide_eq_true (by omega)
  have q25_1 : decide (te ≥ de) = true := by exact decide_eq_true (by omega)
  by_cases h26_ : 0 ≤ fe
  rotate_left
  · have q26_0 : decide (0 ≤ fe) = false := by exact decide_eq_false (by omega)
    have q26_1 : decide (fe ≥ 0) = false := by exact decide_eq_false (by omega)
    have HRV := Aside0.mk (show r = false by rw [HR.out]; exact decide_eq_false (by unfold evMay evM1 evM2 evM3 evM4 evM5 evZ evT evU evB; omega))
    clear h1_ h2_ kr h7_ h8_ h9_ h10_ h11_ h12_ h18_ h19_ h20_ h21_ h22_ h23_ h24_ h25_ h26_
    go_wp2_with (go_at_call 31; first | (refine (ref_In.tt _ _ _ _ (by first | assumption | decide) (by first | assumption | decide)).mono ?_; rintro e_ w_ ⟨rfl, hw_⟩; subst w_) | (refine (ref_In.lo _ _ _ _ (by first | assumption | decide)).mono ?_; rintro e_ w_ ⟨rfl, hw_⟩; subst w_) | (refine (ref_In.hi _ _ _ _ (by first | assumption | decide) (by first | assumption | decide)).mono ?_; rintro e_ w_ ⟨rfl, hw_⟩; subst w_))
    go_ret
    exact ⟨by rw [HRV.out]; rfl, HY.out⟩
  have q26_0 : decide (0 ≤ fe) = true := by exact decide_eq_true (by omega)
  have q26_1 : decide (fe ≥ 0) = true := by exact decide_eq_true (by omega)
  by_cases h27_ : fe ≤ te
  rotate_left
  · have q27_0 : decide (fe ≤ te) = false := by exact decide_eq_false (by omega)
    have q27_1 : decide (te ≥ fe) = false := by exact decide_eq_false (by omega)
    have HRV := Aside0.mk (show r = false by rw [HR.out]; exact decide_eq_false (by unfold evMay evM1 evM2 evM3 evM4 evM5 evZ evT evU evB; omega))
    clear h1_ h2_ kr h7_ h8_ h9_ h10_ h11_ h12_ h18_ h19_ h20_ h21_ h22_ h23_ h24_ h25_ h26_ h27_
    go_wp2_with (go_at_call 31; first | (refine (ref_In.tt _ _ _ _ (by first | assumption | decide) (by first | assumption | decide)).mono ?_; rintro e_ w_ ⟨rfl, hw_⟩; subst w_) | (refine (ref_In.lo _ _ _ _ (by first | assumption | decide)).mono ?_; rintro e_ w_ ⟨rfl, hw_⟩; subst w_) | (refine (ref_In.hi _ _ _ _ (by first | assumption | decide) (by first | assumption | decide)).mono ?_; rintro e_ w_ ⟨rfl, hw_⟩; subst w_))
    go_ret
    exact ⟨by rw [HRV.out]; rfl, HY.out⟩
  have q27_0 : decide (fe ≤ te) = true := by exact decide_eq_true (by omega)
  have q27_1 : decide (te ≥ fe) = true := by exact decide_eq_true (by omega)
  by_cases h28_ : 0 ≤ pr
  rotate_left
  · have q28_0 : decide (0 ≤ pr) = false := by exact decide_eq_false (by omega)
    have q28_1 : decide (pr ≥ 0) = false := by exact decide_eq_false (by omega)
    have HRV := Aside0.mk (show r = false by rw [HR.out]; exact decide_eq_false (by unfold evMay evM1 evM2 evM3 evM4 evM5 evZ evT evU evB; omega))
    clear h1_ h2_ kr h7_ h8_ h9_ h10_ h11_ h12_ h18_ h19_ h20_ h21_ h22_ h23_ h24_ h25_ h26_ h27_ h28_
    go_wp2_with (go_at_call 31; first | (refine (ref_In.tt _ _ _ _ (by first | assumption | decide) (by first | assumption | decide)).mono ?_; rintro e_ w_ ⟨rfl, hw_⟩; subst w_) | (refine (ref_In.lo _ _ _ _ (by first | assumption | decide)).mono ?_; rintro e_ w_ ⟨rfl, hw_⟩; subst w_) | (refine (ref_In.hi _ _ _ _ (by first | assumption | decide) (by first | assumption | decide)).mono ?_; rintro e_ w_ ⟨rfl, hw_⟩; subst w_))
    go_ret
    exact ⟨by rw [HRV.out]; rfl, HY.out⟩
  have q28_0 : decide (0 ≤ pr) = true := by exact decide_eq_true (by omega)
  have q28_1 : decide (pr ≥ 0) = true := by exact decide_eq_true (by omega)
  by_cases h29_ : pr ≤ te
  rotate_left
  · have q29_0 : decide (pr ≤ te) = false := by exact decide_eq_false (by omega)
    have q29_1 : decide (te ≥ pr) = false := by exact decide_eq_false (by omega)
    have HRV := Aside0.mk (show r = false by rw [HR.out]; exact decide_eq_false (by unfold evMay evM1 evM2 evM3 evM4 evM5 evZ evT evU evB; omega))
    clear h1_ h2_ kr h7_ h8_ h9_ h10_ h11_ h12_ h18_ h19_ h20_ h21_ h22_ h23_ h24_ h25_ h26_ h27_ h28_ h29_
    go_wp2_with (go_at_call 31; first | (refine (ref_In.tt _ _ _ _ (by first | assumption | decide) (by first | assumption | decide)).mono ?_; rintro e_ w_ ⟨rfl, hw_⟩; subst w_) | (refine (ref_In.lo _ _ _ _ (by first | assumption | decide)).mono ?_; rintro e_ w_ ⟨rfl, hw_⟩; subst w_) | (refine (ref_In.hi _ _ _ _ (by first | assumption | decide) (by first | assumption | decide)).mono ?_; rintro e_ w_ ⟨rfl, hw_⟩; subst w_))
    go_ret
    exact ⟨by rw [HRV.out]; rfl, HY.out⟩
  have q29_0 : decide (pr ≤ te) = true := by exact decide_eq_true (by omega)
  have q29_1 : decide (te ≥ pr) = true := by exact decide_eq_true (by omega)
  by_cases h30_ : 0 ≤ ch
  rotate_left
  · have q30_0 : decide (0 ≤ ch) = false := by exact decide_eq_false (by omega)
    have q30_1 : decide (ch ≥ 0) = false := by exact decide_eq_false (by omega)
    have HRV := Aside0.mk (show r = false by rw [HR.out]; exact decide_eq_false (by unfold evMay evM1 evM2 evM3 evM4 evM5 evZ evT evU evB; omega))
    clear h1_ h2_ kr h7_ h8_ h9_ h10_ h11_ h12_ h18_ h19_ h20_ h21_ h22_ h23_ h24_ h25_ h26_ h27_ h28_ h29_ h30_
    go_wp2_with (go_at_call 31; first | (refine (ref_In.tt _ _ _ _ (by first | assumption | decide) (by first | assumption | decide)).mono ?_; rintro e_ w_ ⟨rfl, hw_⟩; subst w_) | (refine (ref_In.lo _ _ _ _ (by first | assumption | decide)).mono ?_; rintro e_ w_ ⟨rfl, hw_⟩; subst w_) | (refine (ref_In.hi _ _ _ _ (by first | assumption | decide) (by first | assumption | decide)).mono ?_; rintro e_ w_ ⟨rfl, hw_⟩; subst w_))
    go_ret
    exact ⟨by rw [HRV.out]; rfl, HY.out⟩
  have q30_0 : decide (0 ≤ ch) = true := by exact decide_eq_true (by omega)
  have q30_1 : decide (ch ≥ 0) = true := by exact decide_eq_true (by omega)
  by_cases h31_ : ch ≤ te
  rotate_left
  · have q31_0 : decide (ch ≤ te) = false := by exact decide_eq_false (by omega)
    have q31_1 : decide (te ≥ ch) = false := by exact decide_eq_false (by omega)
    have HRV := Aside0.mk (show r = false by rw [HR.out]; exact decide_eq_false (by unfold evMay evM1 evM2 evM3 evM4 evM5 evZ evT evU evB; omega))
    clear h1_ h2_ kr h7_ h8_ h9_ h10_ h11_ h12_ h18_ h19_ h20_ h21_ h22_ h23_ h24_ h25_ h26_ h27_ h28_ h29_ h30_ h31_
    go_wp2_with (go_at_call 31; first | (refine (ref_In.tt _ _ _ _ (by first | assumption | decide) (by first | assumption | decide)).mono ?_; rintro e_ w_ ⟨rfl, hw_⟩; subst w_) | (refine (ref_In.lo _ _ _ _ (by first | assumption | decide)).mono ?_; rintro e_ w_ ⟨rfl, hw_⟩; subst w_) | (refine (ref_In.hi _ _ _ _ (by first | assumption | decide) (by first | assumption | decide)).mono ?_; rintro e_ w_ ⟨rfl, hw_⟩; subst w_))
    go_ret
    exact ⟨by rw [HRV.out]; rfl, HY.out⟩
  have q31_0 : decide (ch ≤ te) = true := by exact decide_eq_true (by omega)
  have q31_1 : decide (te ≥ ch) = true := by exact decide_eq_true (by omega)
  have w1 : wrap64 (de + fe) = de + fe := IntWalk.wrap64_in _ ⟨by omega, by omega⟩
  have w2 : wrap64 (de + fe + pr) = de + fe + pr := IntWalk.wrap64_in _ ⟨by omega, by omega⟩
  have w3 : wrap64 (de + fe + pr + ch) = de + fe + pr + ch := IntWalk.wrap64_in _ ⟨by omega, by omega⟩
  have HP := Aside0.mk (And.intro h1_ (And.intro h2_ (And.intro kr (And.intro h7_ (And.intro h8_ (And.intro h9_ (And.intro h10_ (And.intro h11_ (And.intro h12_ (And.intro h18_ (And.intro h19_ (And.intro h20_ (And.intro h21_ (And.intro h22_ (And.intro h23_ (And.intro h24_ (And.intro h25_ (And.intro h26_ (And.intro h27_ (And.intro h28_ (And.intro h29_ (And.intro h30_ (h31_)))))))))))))))))))))))
  clear h1_ h2_ kr h7_ h8_ h9_ h10_ h11_ h12_ h18_ h19_ h20_ h21_ h22_ h23_ h24_ h25_ h26_ h27_ h28_ h29_ h30_ h31_
  go_wp2_with (go_at_call 31; first | (refine (ref_In.tt _ _ _ _ (by first | assumption | decide) (by first | assumption | decide)).mono ?_; rintro e_ w_ ⟨rfl, hw_⟩; subst w_) | (refine (ref_In.lo _ _ _ _ (by first | assumption | decide)).mono ?_; rintro e_ w_ ⟨rfl, hw_⟩; subst w_) | (refine (ref_In.hi _ _ _ _ (by first | assumption | decide) (by first | assumption | decide)).mono ?_; rintro e_ w_ ⟨rfl, hw_⟩; subst w_))
  go_ret
  refine ⟨congrArg (fun b => Ending.returned (.bool b)) (Bool.eq_iff_iff.mpr ?_), HY.out⟩
  rw [HR.out, decide_eq_true_eq]
  have hp := HP.out
  try simp only [Bool.and_eq_true, beq_iff_eq, eq_self, true_iff]
  unfold evMay evM1 evM2 evM3 evM4 evM5 evZ evT evU evB
  omega
/-! ### vendmeterref_EventMay: function 41 (by hand) -/
def vendmeterref_EventMay.f (a0_0 : Int) (a0_1 : Int) (a0_2 : Int) (a0_3 : Int) (a0_4 : Int) (a0_5 : Int) (a0_6 : Int) (a0_7 : Int) (a0_8 : Int) (a0_9 : Int) (a0_10 : Int) (a0_11 : Int) (a0_12 : Int) : Option (Bool) := some (evOk a0_0 a0_1 a0_2 a0_3 a0_4 a0_5 a0_6 a0_7 a0_8 a0_9 a0_10 a0_11 a0_12)
theorem vendmeterref_EventMay.calls (a0_0 : Int) (a0_1 : Int) (a0_2 : Int) (a0_3 : Int) (a0_4 : Int) (a0_5 : Int) (a0_6 : Int) (a0_7 : Int) (a0_8 : Int) (a0_9 : Int) (a0_10 : Int) (a0_11 : Int) (a0_12 : Int) (r : Bool) (w : World) (h : vendmeterref_EventMay.f a0_0 a0_1 a0_2 a0_3 a0_4 a0_5 a0_6 a0_7 a0_8 a0_9 a0_10 a0_11 a0_12 = some r) :
    Calls Try.prog 41 #[.agg #[.int .i64 a0_0, .int .i64 a0_1, .int .i64 a0_2, .int .i64 a0_3, .int .i64 a0_4, .int .i64 a0_5, .int .i64 a0_6, .int .i64 a0_7, .int .i64 a0_8, .int .i64 a0_9, .int .i64 a0_10, .int .i64 a0_11, .int .i64 a0_12]] w fun e w' => e = .returned (.bool r) ∧ Below w.heap.size w w' :=
  vendmeterref_EventMay.at_ w a0_0 a0_1 a0_2 a0_3 a0_4 a0_5 a0_6 a0_7 a0_8 a0_9 a0_10 a0_11 a0_12 r (Option.some.inj h).symm

end Go.Proofs.Ytojnaalncgofhaa.PBookDecodes
