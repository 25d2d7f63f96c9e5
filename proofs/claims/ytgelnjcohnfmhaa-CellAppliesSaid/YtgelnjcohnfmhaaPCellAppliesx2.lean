-- written by this session's program wip/xp/xprint.py (it drives the kit's print and adds to it)
import Derived.Test.YtgelnjcohnfmhaaPCellAppliesx0
import Derived.Test.YtgelnjcohnfmhaaPCellAppliesx1
namespace Go.Proofs.Ytgelnjcohnfmhaa.PCellApplies
open Go.RowKit Go.Proofs.YtgelnjcohnfmhaaW.PrintWords Go.Proofs.YtgelnjcohnfmhaaW.PrintLast Go.Proofs.YtgelnjcohnfmhaaW.PrintMore
attribute [local go_sem] max2_int min2_int max_two min_two max_three min_three max_four min_four   -- for this text's walks alone
set_option linter.unusedVariables false
set_option linter.unusedSimpArgs false

attribute [local go_sem high] eqA112
/-! ### vendmeterlaw_words: function 25 -/
def vendmeterlaw_words.f (l0 : List Int) : Option (List Int) := if ([] : List Int).length + l0.length < 35184372088832 then (some (([] : List Int) ++ l0)) else (none)
set_option maxHeartbeats 8000000 in
set_option maxRecDepth 100000 in
theorem vendmeterlaw_words.calls (A0 : Option Addr) (c0 : Nat) (l0 : List Int) (r : List Int) (w : World) (hr0 : Kd.C (Kd.int .u32) w A0 l0.length l0) (hc0 : l0.length ≤ c0) (h : vendmeterlaw_words.f l0 = some r) :
    Calls Try.prog 25 #[.slice A0 l0.length c0] w fun e w' => ∃ v0_ : Value, e = .returned (v0_) ∧ Kd.R (Kd.int .u32) 101 w' w.heap.size (fun _ => True) v0_ r ∧ Below w.heap.size w w' := by
  have HR0 := Aside0.mk hr0
  have HC0 := Aside0.mk hc0
  clear hr0 hc0
  have HB := Aside0.mk (Below.refl w.heap.size w)
  have H : (if ([] : List Int).length + l0.length < 35184372088832 then (some (([] : List Int) ++ l0)) else (none)) = some r := h
  clear h
  by_cases c2 : ([] : List Int).length + l0.length < 35184372088832
  · rw [if_pos c2] at H
    have LMc2 := Aside0.mk c2
    clear c2
    obtain ⟨y101, hy101⟩ : ∃ y_ : List Int, y_ = (([] : List Int) ++ l0) := ⟨_, rfl⟩
    replace H : (some y101) = some r := by first | (rw [hy101]; with_reducible exact H) | (have H2_ := (Option.bind_some _ _).symm.trans H; rw [hy101]; with_reducible exact H2_) | (have H2_ := (Option.bind_some _ _).symm.trans H; with_reducible exact H2_) | with_reducible exact H | (rw [hy101]; exact H) | exact H
    have Ny101 := Aside0.mk hy101
    clear hy101
    obtain rfl := Option.some.inj H
    go_enter Try.func25, Try.ntmps25
    go_wp2_with (first | ((with_reducible refine gate_builtin (b := .append) (xs := #[.const (.slice none 0 0), .tmp 3]) rfl ?_); at_builtin; refine Kd.R_append_rows (Kd.int .u32) (w0 := w) w.heap.size rfl (.const (.slice none 0 0)) (.tmp 3) 42 101 (.int .u32 0) 4 rfl Try.underlying42 info101 rfl (by decide) (by omega) (.slice none 0 0) ([] : List Int) l0 _ _ _ (fun _ => True) (fun _ => False) rfl rfl ?aO ?aR (fun _ _ h => h) (fun _ h => h.elim) ?aF ?aB ?aS ?aL ?_; (case aR => repeat (first | exact HR0.out | (with_reducible refine Kd.C_alloc ?_ _) | (with_reducible refine Kd.C_drewN ?_ _) | (with_reducible refine Kd.C_drew ?_))); (case aB => exact (by repeat (first | (with_reducible first | exact HB.out | apply below_alloc | apply pw_below_drewN | apply below_drew1) | exact HB.out))); (case aF => exact (fun _ _ => trivial)); (case aO => exact ((Kd.R_nil _ _ _ _ (fun _ => True)))); (case aS => exact (below_size (by repeat (first | (with_reducible first | exact HB.out | apply below_alloc | apply pw_below_drewN | apply below_drew1) | exact HB.out)))); (case aL => have := LMc2.out; omega); intro v102 w3 ho hb hg hat; rw [← Ny101.out] at ho; have n0_ := Aside0.mk (hb); have n1_ := Aside0.mk (ho); clear HB; have HB := n0_; have HO103 := n1_; clear n0_ n1_; clear ho hb hg hat))
    go_ret
    exact ⟨_, by first | rfl | (simp [errW_none, errW_some] <;> rfl) | (simp [*, errW_none, errW_some] <;> rfl), by (with_reducible repeat (first | apply Kd.R_alloc | apply Kd.R_drewN | apply Kd.R_drew)); exact HO103.out, by repeat (first | (with_reducible first | exact HB.out | apply below_alloc | apply pw_below_drewN | apply below_drew1) | exact HB.out)⟩
  · rw [if_neg c2] at H
    exact absurd H (by simp)

/-! ### vendmeterlaw_sameWords: function 28 -/
def vendmeterlaw_sameWords.l0 : Nat → List Int → List Int → Int → Option (Bool)
  | 0, _, _, _ => none
  | k + 1, x0, x1, x5 => if x5 < (x0.length : Int) then (if 0 ≤ x5 then (if x5 < (x1.length : Int) then (if (rd x0 x5) = (rd x1 x5) then (vendmeterlaw_sameWords.l0 k x0 x1 (wrap64 (x5 + 1))) else (some false)) else (none)) else (none)) else (some true)
def vendmeterlaw_sameWords.f (k : Nat) (l0 : List Int) (l1 : List Int) : Option (Bool) := if (l0.length : Int) = (l1.length : Int) then (vendmeterlaw_sameWords.l0 k l0 l1 0) else (some false)
theorem vendmeterlaw_sameWords.mono_l : ∀ k, (∀ y0 y1 y2, LeO (vendmeterlaw_sameWords.l0 k y0 y1 y2) (vendmeterlaw_sameWords.l0 (k + 1) y0 y1 y2))
  | 0 => fun _ _ _ r h => by simp [vendmeterlaw_sameWords.l0] at h
  | k + 1 => by
    have ih0 := vendmeterlaw_sameWords.mono_l k
    · intro y0 y1 y2
      unfold vendmeterlaw_sameWords.l0
      repeat' first
      | (with_reducible exact ih0 _ _ _)
      | (with_reducible exact LeO.refl _)
      | (with_reducible exact LeO.none _)
      | (with_reducible refine LeO.ite ?_ ?_)
      | (with_reducible refine LeO.bind ?_ (fun _ => ?_))
      | exact ih0 _ _ _
      | exact LeO.none _
      | refine LeO.ite ?_ ?_
      | refine LeO.bind ?_ (fun _ => ?_)
theorem vendmeterlaw_sameWords.mono : ∀ a0 a1 k, LeO (vendmeterlaw_sameWords.f k a0 a1) (vendmeterlaw_sameWords.f (k + 1) a0 a1) := by
  intro a0 a1 k
  have ih0 := vendmeterlaw_sameWords.mono_l k
  unfold vendmeterlaw_sameWords.f
  repeat' first
      | (with_reducible exact ih0 _ _ _)
      | (with_reducible exact LeO.refl _)
      | (with_reducible exact LeO.none _)
      | (with_reducible refine LeO.ite ?_ ?_)
      | (with_reducible refine LeO.bind ?_ (fun _ => ?_))
      | exact ih0 _ _ _
      | exact LeO.none _
      | refine LeO.ite ?_ ?_
      | refine LeO.bind ?_ (fun _ => ?_)
set_option maxHeartbeats 8000000 in
set_option maxRecDepth 100000 in
theorem vendmeterlaw_sameWords.calls (k : Nat) (A0 : Option Addr) (c0 : Nat) (l0 : List Int) (A1 : Option Addr) (c1 : Nat) (l1 : List Int) (r : Bool) (w : World) (hr0 : Kd.C (Kd.int .u32) w A0 l0.length l0) (hc0 : l0.length ≤ c0) (hr1 : Kd.C (Kd.int .u32) w A1 l1.length l1) (hc1 : l1.length ≤ c1) (h : vendmeterlaw_sameWords.f k l0 l1 = some r) :
    Calls Try.prog 28 #[.slice A0 l0.length c0, .slice A1 l1.length c1] w fun e w' => e = .returned (.bool r) ∧ Drawn0 w w' := by
  have HR0 := Aside0.mk hr0
  have HC0 := Aside0.mk hc0
  clear hr0 hc0
  have HR1 := Aside0.mk hr1
  have HC1 := Aside0.mk hc1
  clear hr1 hc1
  have H : (if (l0.length : Int) = (l1.length : Int) then (vendmeterlaw_sameWords.l0 k l0 l1 0) else (some false)) = some r := h
  clear h
  by_cases c3 : (l0.length : Int) = (l1.length : Int)
  · rw [if_pos c3] at H
    have c3b0 : ((l0.length : Int) == (l1.length : Int)) = true := beq_iff_eq.mpr c3
    have c3b1 : ((l0.length : Int) != (l1.length : Int)) = false := bne_eq_false_iff_eq.mpr c3
    have c3b2 : (l0.length == l1.length) = true := by first | simpa using c3 | (simp at c3 ⊢; omega)
    clear c3
    have H' := Aside0.mk H
    clear H
    go_enter Try.func28, Try.ntmps28
    go_wp2
    repeat (go_quiet (fail); try go_wp2)
    go_loopg [5] k (fun kq v5 w' => ∃ (x5_1 : Int), v5 = .int .i64 x5_1 ∧ Aside0 (vendmeterlaw_sameWords.l0 kq l0 l1 x5_1 = some r) ∧ Aside0 (kq ≤ k) ∧ Drawn0 w w')
    case atStart => exact ⟨(0), (by first | rfl | (simp; done) | (simp [*]; done)), H', ⟨Nat.le_refl _⟩, by repeat (first | exact Drawn0.refl _ | apply Drawn0.step)⟩
    case round =>
      clear H'
      try clear c1
      try clear c2
      try clear p2
      try clear c3
      try clear c3b0
      try clear c3b1
      try clear c3b2
      obtain ⟨x5_1, rfl, HA, HK1, ⟨m1, rfl⟩⟩ := hrel
      cases gk with
      | zero => exact absurd HA.out (by simp [vendmeterlaw_sameWords.l0])
      | succ k1 =>
        have H := HA.out
        clear HA
        simp only [vendmeterlaw_sameWords.l0] at H
        by_cases c4 : x5_1 < (l0.length : Int)
        · rw [if_pos c4] at H
          have c4b0 : decide (x5_1 < (l0.length : Int)) = true := decide_eq_true c4
          clear c4
          by_cases c5 : 0 ≤ x5_1
          · rw [if_pos c5] at H
            have c5b0 : decide (0 ≤ x5_1) = true := decide_eq_true c5
            clear c5
            by_cases c6 : x5_1 < (l1.length : Int)
            · rw [if_pos c6] at H
              have c6b0 : decide (x5_1 < (l1.length : Int)) = true := decide_eq_true c6
              clear c6
              by_cases c7 : (rd l0 x5_1) = (rd l1 x5_1)
              · rw [if_pos c7] at H
                have c7b0 : ((rd l0 x5_1) == (rd l1 x5_1)) = true := beq_iff_eq.mpr c7
                have c7b1 : ((rd l0 x5_1) != (rd l1 x5_1)) = false := bne_eq_false_iff_eq.mpr c7
                clear c7
                have H' := Aside0.mk H
                clear H
                have p104 : 0 ≤ (x5_1 : Int) := of_decide_eq_true (by first | (with_reducible assumption) | assumption)
                have q104 : x5_1 < (l0.length : Int) := of_decide_eq_true (by first | (with_reducible assumption) | assumption)
                obtain ⟨ad104, e104, hx104_0⟩ := Kd.at_int HR0.out x5_1 p104 q104
                cases e104
                replace p104 := eq_true p104
                replace q104 := eq_true q104
                have p105 : 0 ≤ (x5_1 : Int) := of_decide_eq_true (by first | (with_reducible assumption) | assumption)
                have q105 : x5_1 < (l1.length : Int) := of_decide_eq_true (by first | (with_reducible assumption) | assumption)
                obtain ⟨ad105, e105, hx105_0⟩ := Kd.at_int HR1.out x5_1 p105 q105
                cases e105
                replace p105 := eq_true p105
                replace q105 := eq_true q105
                go_wp2
                repeat (go_quiet (fail); try go_wp2)
                go_roundg k1
                case measure => have := HK1.out; omega
                case rel => exact ⟨(wrap64 (x5_1 + 1)), (by first | rfl | (simp; done) | (simp [*]; done)), H', ⟨by have := HK1.out; omega⟩, by repeat (first | exact Drawn0.refl _ | apply Drawn0.step)⟩
              · rw [if_neg c7] at H
                have c7b0 : ((rd l0 x5_1) == (rd l1 x5_1)) = false := beq_eq_false_iff_ne.mpr c7
                have c7b1 : ((rd l0 x5_1) != (rd l1 x5_1)) = true := bne_iff_ne.mpr c7
                obtain rfl := Option.some.inj H
                have p104 : 0 ≤ (x5_1 : Int) := of_decide_eq_true (by first | (with_reducible assumption) | assumption)
                have q104 : x5_1 < (l0.length : Int) := of_decide_eq_true (by first | (with_reducible assumption) | assumption)
                obtain ⟨ad104, e104, hx104_0⟩ := Kd.at_int HR0.out x5_1 p104 q104
                cases e104
                replace p104 := eq_true p104
                replace q104 := eq_true q104
                have p105 : 0 ≤ (x5_1 : Int) := of_decide_eq_true (by first | (with_reducible assumption) | assumption)
                have q105 : x5_1 < (l1.length : Int) := of_decide_eq_true (by first | (with_reducible assumption) | assumption)
                obtain ⟨ad105, e105, hx105_0⟩ := Kd.at_int HR1.out x5_1 p105 q105
                cases e105
                replace p105 := eq_true p105
                replace q105 := eq_true q105
                go_wp2
                repeat (go_quiet (fail); try go_wp2)
                go_ret
                exact ⟨by first | rfl | (simp; done) | (simp [*]; done), by repeat (first | exact Drawn0.refl _ | apply Drawn0.step)⟩
            · rw [if_neg c6] at H
              exact absurd H (by simp)
          · rw [if_neg c5] at H
            exact absurd H (by simp)
        · rw [if_neg c4] at H
          have c4b0 : decide (x5_1 < (l0.length : Int)) = false := decide_eq_false c4
          clear c4
          obtain rfl := Option.some.inj H
          go_wp2
          repeat (go_quiet (fail); try go_wp2)
          go_ret
          exact ⟨by first | rfl | (simp; done) | (simp [*]; done), by repeat (first | exact Drawn0.refl _ | apply Drawn0.step)⟩
  · rw [if_neg c3] at H
    have c3b0 : ((l0.length : Int) == (l1.length : Int)) = false := beq_eq_false_iff_ne.mpr c3
    have c3b1 : ((l0.length : Int) != (l1.length : Int)) = true := bne_iff_ne.mpr c3
    have c3b2 : (l0.length == l1.length) = false := by first | simpa using c3 | (simp at c3 ⊢; omega)
    obtain rfl := Option.some.inj H
    go_enter Try.func28, Try.ntmps28
    go_wp2
    repeat (go_quiet (fail); try go_wp2)
    go_ret
    exact ⟨by first | rfl | (simp; done) | (simp [*]; done), by repeat (first | exact Drawn0.refl _ | apply Drawn0.step)⟩

/-! ### vendmeterlaw_sameWrites: function 35 -/
def vendmeterlaw_sameWrites.l0 : Nat → List (S112) → List (S112) → Int → Option (Bool)
  | 0, _, _, _ => none
  | k + 1, x0, x1, x5 => if x5 < (x0.length : Int) then (if 0 ≤ x5 then (if x5 < (x1.length : Int) then (if (!(((rd_T112 x0 x5).f0) == ((rd_T112 x1 x5).f0)) || (!(((rd_T112 x0 x5).f1) == ((rd_T112 x1 x5).f1)))) = true then (some false) else (vendmeterlaw_sameWrites.l0 k x0 x1 (wrap64 (x5 + 1)))) else (none)) else (none)) else (some true)
def vendmeterlaw_sameWrites.f (k : Nat) (l0 : List (S112)) (l1 : List (S112)) : Option (Bool) := if (l0.length : Int) = (l1.length : Int) then (vendmeterlaw_sameWrites.l0 k l0 l1 0) else (some false)
theorem vendmeterlaw_sameWrites.mono_l : ∀ k, (∀ y0 y1 y2, LeO (vendmeterlaw_sameWrites.l0 k y0 y1 y2) (vendmeterlaw_sameWrites.l0 (k + 1) y0 y1 y2))
  | 0 => fun _ _ _ r h => by simp [vendmeterlaw_sameWrites.l0] at h
  | k + 1 => by
    have ih0 := vendmeterlaw_sameWrites.mono_l k
    · intro y0 y1 y2
      unfold vendmeterlaw_sameWrites.l0
      repeat' first
      | (with_reducible exact ih0 _ _ _)
      | (with_reducible exact LeO.refl _)
      | (with_reducible exact LeO.none _)
      | (with_reducible refine LeO.ite ?_ ?_)
      | (with_reducible refine LeO.bind ?_ (fun _ => ?_))
      | exact ih0 _ _ _
      | exact LeO.none _
      | refine LeO.ite ?_ ?_
      | refine LeO.bind ?_ (fun _ => ?_)
theorem vendmeterlaw_sameWrites.mono : ∀ a0 a1 k, LeO (vendmeterlaw_sameWrites.f k a0 a1) (vendmeterlaw_sameWrites.f (k + 1) a0 a1) := by
  intro a0 a1 k
  have ih0 := vendmeterlaw_sameWrites.mono_l k
  unfold vendmeterlaw_sameWrites.f
  repeat' first
      | (with_reducible exact ih0 _ _ _)
      | (with_reducible exact LeO.refl _)
      | (with_reducible exact LeO.none _)
      | (with_reducible refine LeO.ite ?_ ?_)
      | (with_reducible refine LeO.bind ?_ (fun _ => ?_))
      | exact ih0 _ _ _
      | exact LeO.none _
      | refine LeO.ite ?_ ?_
      | refine LeO.bind ?_ (fun _ => ?_)
set_option maxHeartbeats 8000000 in
set_option maxRecDepth 100000 in
theorem vendmeterlaw_sameWrites.calls (k : Nat) (A0 : Option Addr) (c0 : Nat) (l0 : List (S112)) (A1 : Option Addr) (c1 : Nat) (l1 : List (S112)) (r : Bool) (w : World) (hr0 : Kd.C k112 w A0 l0.length l0) (hc0 : l0.length ≤ c0) (hr1 : Kd.C k112 w A1 l1.length l1) (hc1 : l1.length ≤ c1) (h : vendmeterlaw_sameWrites.f k l0 l1 = some r) :
    Calls Try.prog 35 #[.slice A0 l0.length c0, .slice A1 l1.length c1] w fun e w' => e = .returned (.bool r) ∧ Drawn0 w w' := by
  have hu112 := Try.underlying112
  have HR0 := Aside0.mk hr0
  have HC0 := Aside0.mk hc0
  clear hr0 hc0
  have HR1 := Aside0.mk hr1
  have HC1 := Aside0.mk hc1
  clear hr1 hc1
  have H : (if (l0.length : Int) = (l1.length : Int) then (vendmeterlaw_sameWrites.l0 k l0 l1 0) else (some false)) = some r := h
  clear h
  by_cases c3 : (l0.length : Int) = (l1.length : Int)
  · rw [if_pos c3] at H
    have c3b0 : ((l0.length : Int) == (l1.length : Int)) = true := beq_iff_eq.mpr c3
    have c3b1 : ((l0.length : Int) != (l1.length : Int)) = false := bne_eq_false_iff_eq.mpr c3
    have c3b2 : (l0.length == l1.length) = true := by first | simpa using c3 | (simp at c3 ⊢; omega)
    clear c3
    have H' := Aside0.mk H
    clear H
    go_enter Try.func35, Try.ntmps35
    go_wp2
    repeat (go_quiet (fail); try go_wp2)
    go_loopg [5] k (fun kq v5 w' => ∃ (x5_1 : Int), v5 = .int .i64 x5_1 ∧ Aside0 (vendmeterlaw_sameWrites.l0 kq l0 l1 x5_1 = some r) ∧ Aside0 (kq ≤ k) ∧ Drawn0 w w')
    case atStart => exact ⟨(0), (by first | rfl | (simp; done) | (simp [*]; done)), H', ⟨Nat.le_refl _⟩, by repeat (first | exact Drawn0.refl _ | apply Drawn0.step)⟩
    case round =>
      clear H'
      try clear c1
      try clear p2
      try clear c3
      try clear c3b0
      try clear c3b1
      try clear c3b2
      obtain ⟨x5_1, rfl, HA, HK1, ⟨m1, rfl⟩⟩ := hrel
      cases gk with
      | zero => exact absurd HA.out (by simp [vendmeterlaw_sameWrites.l0])
      | succ k1 =>
        have H := HA.out
        clear HA
        simp only [vendmeterlaw_sameWrites.l0] at H
        by_cases c4 : x5_1 < (l0.length : Int)
        · rw [if_pos c4] at H
          have c4b0 : decide (x5_1 < (l0.length : Int)) = true := decide_eq_true c4
          clear c4
          by_cases c5 : 0 ≤ x5_1
          · rw [if_pos c5] at H
            have c5b0 : decide (0 ≤ x5_1) = true := decide_eq_true c5
            clear c5
            by_cases c6 : x5_1 < (l1.length : Int)
            · rw [if_pos c6] at H
              have c6b0 : decide (x5_1 < (l1.length : Int)) = true := decide_eq_true c6
              clear c6
              by_cases c7 : (!(((rd_T112 l0 x5_1).f0) == ((rd_T112 l1 x5_1).f0)) || (!(((rd_T112 l0 x5_1).f1) == ((rd_T112 l1 x5_1).f1)))) = true
              · rw [if_pos c7] at H
                have c7b0 : (!(((rd_T112 l0 x5_1).f0) == ((rd_T112 l1 x5_1).f0)) || (!(((rd_T112 l0 x5_1).f1) == ((rd_T112 l1 x5_1).f1)))) = true := c7
                clear c7
                obtain rfl := Option.some.inj H
                have p106 : 0 ≤ (x5_1 : Int) := of_decide_eq_true (by first | (with_reducible assumption) | assumption)
                have q106 : x5_1 < (l0.length : Int) := of_decide_eq_true (by first | (with_reducible assumption) | assumption)
                obtain ⟨ad106, e106, hx106_0, hx106_1⟩ := at_T112 HR0.out x5_1 p106 q106
                cases e106
                replace p106 := eq_true p106
                replace q106 := eq_true q106
                have p107 : 0 ≤ (x5_1 : Int) := of_decide_eq_true (by first | (with_reducible assumption) | assumption)
                have q107 : x5_1 < (l1.length : Int) := of_decide_eq_true (by first | (with_reducible assumption) | assumption)
                obtain ⟨ad107, e107, hx107_0, hx107_1⟩ := at_T112 HR1.out x5_1 p107 q107
                cases e107
                replace p107 := eq_true p107
                replace q107 := eq_true q107
                go_wp2
                repeat (go_quiet (fail); try go_wp2)
                go_ret
                exact ⟨by first | rfl | (simp; done) | (simp [*]; done), by repeat (first | exact Drawn0.refl _ | apply Drawn0.step)⟩
              · rw [if_neg c7] at H
                have c7b0 : (!(((rd_T112 l0 x5_1).f0) == ((rd_T112 l1 x5_1).f0)) || (!(((rd_T112 l0 x5_1).f1) == ((rd_T112 l1 x5_1).f1)))) = false := by simpa using c7
                clear c7
                have H' := Aside0.mk H
                clear H
                have p106 : 0 ≤ (x5_1 : Int) := of_decide_eq_true (by first | (with_reducible assumption) | assumption)
                have q106 : x5_1 < (l0.length : Int) := of_decide_eq_true (by first | (with_reducible assumption) | assumption)
                obtain ⟨ad106, e106, hx106_0, hx106_1⟩ := at_T112 HR0.out x5_1 p106 q106
                cases e106
                replace p106 := eq_true p106
                replace q106 := eq_true q106
                have p107 : 0 ≤ (x5_1 : Int) := of_decide_eq_true (by first | (with_reducible assumption) | assumption)
                have q107 : x5_1 < (l1.length : Int) := of_decide_eq_true (by first | (with_reducible assumption) | assumption)
                obtain ⟨ad107, e107, hx107_0, hx107_1⟩ := at_T112 HR1.out x5_1 p107 q107
                cases e107
                replace p107 := eq_true p107
                replace q107 := eq_true q107
                go_wp2
                repeat (go_quiet (fail); try go_wp2)
                go_roundg k1
                case measure => have := HK1.out; omega
                case rel => exact ⟨(wrap64 (x5_1 + 1)), (by first | rfl | (simp; done) | (simp [*]; done)), H', ⟨by have := HK1.out; omega⟩, by repeat (first | exact Drawn0.refl _ | apply Drawn0.step)⟩
            · rw [if_neg c6] at H
              exact absurd H (by simp)
          · rw [if_neg c5] at H
            exact absurd H (by simp)
        · rw [if_neg c4] at H
          have c4b0 : decide (x5_1 < (l0.length : Int)) = false := decide_eq_false c4
          clear c4
          obtain rfl := Option.some.inj H
          go_wp2
          repeat (go_quiet (fail); try go_wp2)
          go_ret
          exact ⟨by first | rfl | (simp; done) | (simp [*]; done), by repeat (first | exact Drawn0.refl _ | apply Drawn0.step)⟩
  · rw [if_neg c3] at H
    have c3b0 : ((l0.length : Int) == (l1.length : Int)) = false := beq_eq_false_iff_ne.mpr c3
    have c3b1 : ((l0.length : Int) != (l1.length : Int)) = true := bne_iff_ne.mpr c3
    have c3b2 : (l0.length == l1.length) = false := by first | simpa using c3 | (simp at c3 ⊢; omega)
    obtain rfl := Option.some.inj H
    go_enter Try.func35, Try.ntmps35
    go_wp2
    repeat (go_quiet (fail); try go_wp2)
    go_ret
    exact ⟨by first | rfl | (simp; done) | (simp [*]; done), by repeat (first | exact Drawn0.refl _ | apply Drawn0.step)⟩

/-! ### vendmeterlaw_writes: function 36 -/
def vendmeterlaw_writes.f (l0 : List (S112)) : Option ((List (S112))) := if ([] : List (S112)).length + l0.length < 8796093022208 then (some (([] : List (S112)) ++ l0)) else (none)
set_option maxHeartbeats 8000000 in
set_option maxRecDepth 100000 in
theorem vendmeterlaw_writes.calls (A0 : Option Addr) (c0 : Nat) (l0 : List (S112)) (r : List (S112)) (w : World) (hr0 : Kd.C k112 w A0 l0.length l0) (hc0 : l0.length ≤ c0) (h : vendmeterlaw_writes.f l0 = some r) :
    Calls Try.prog 36 #[.slice A0 l0.length c0] w fun e w' => ∃ v0_ : Value, e = .returned (v0_) ∧ Kd.R k112 112 w' w.heap.size (fun _ => True) v0_ r ∧ Below w.heap.size w w' := by
  have HR0 := Aside0.mk hr0
  have HC0 := Aside0.mk hc0
  clear hr0 hc0
  have HB := Aside0.mk (Below.refl w.heap.size w)
  have H : (if ([] : List (S112)).length + l0.length < 8796093022208 then (some (([] : List (S112)) ++ l0)) else (none)) = some r := h
  clear h
  by_cases c2 : ([] : List (S112)).length + l0.length < 8796093022208
  · rw [if_pos c2] at H
    have LMc2 := Aside0.mk c2
    clear c2
    obtain ⟨y108, hy108⟩ : ∃ y_ : List (S112), y_ = (([] : List (S112)) ++ l0) := ⟨_, rfl⟩
    replace H : (some y108) = some r := by first | (rw [hy108]; with_reducible exact H) | (have H2_ := (Option.bind_some _ _).symm.trans H; rw [hy108]; with_reducible exact H2_) | (have H2_ := (Option.bind_some _ _).symm.trans H; with_reducible exact H2_) | with_reducible exact H | (rw [hy108]; exact H) | exact H
    have Ny108 := Aside0.mk hy108
    clear hy108
    obtain rfl := Option.some.inj H
    go_enter Try.func36, Try.ntmps36
    go_wp2_with (first | ((with_reducible refine gate_builtin (b := .append) (xs := #[.const (.slice none 0 0), .tmp 3]) rfl ?_); at_builtin; refine Kd.R_append_rows k112 (w0 := w) w.heap.size rfl (.const (.slice none 0 0)) (.tmp 3) 51 112 (.agg #[(.int .i64 0), (.int .u32 0)]) 16 rfl Try.underlying51 info112 rfl (by decide) (by omega) (.slice none 0 0) ([] : List (S112)) l0 _ _ _ (fun _ => True) (fun _ => False) rfl rfl ?aO ?aR (fun _ _ h => h) (fun _ h => h.elim) ?aF ?aB ?aS ?aL ?_; (case aR => repeat (first | exact HR0.out | (with_reducible refine Kd.C_alloc ?_ _) | (with_reducible refine Kd.C_drewN ?_ _) | (with_reducible refine Kd.C_drew ?_))); (case aB => exact (by repeat (first | (with_reducible first | exact HB.out | apply below_alloc | apply pw_below_drewN | apply below_drew1) | exact HB.out))); (case aF => exact (fun _ _ => trivial)); (case aO => exact ((Kd.R_nil _ _ _ _ (fun _ => True)))); (case aS => exact (below_size (by repeat (first | (with_reducible first | exact HB.out | apply below_alloc | apply pw_below_drewN | apply below_drew1) | exact HB.out)))); (case aL => have := LMc2.out; omega); intro v109 w3 ho hb hg hat; rw [← Ny108.out] at ho; have n0_ := Aside0.mk (hb); have n1_ := Aside0.mk (ho); clear HB; have HB := n0_; have HO110 := n1_; clear n0_ n1_; clear ho hb hg hat))
    go_ret
    exact ⟨_, by first | rfl | (simp [errW_none, errW_some] <;> rfl) | (simp [*, errW_none, errW_some] <;> rfl), by (with_reducible repeat (first | apply Kd.R_alloc | apply Kd.R_drewN | apply Kd.R_drew)); exact HO110.out, by repeat (first | (with_reducible first | exact HB.out | apply below_alloc | apply pw_below_drewN | apply below_drew1) | exact HB.out)⟩
  · rw [if_neg c2] at H
    exact absurd H (by simp)

/-! ### cell_fits: function 70 -/
def cell_fits.f (l0 : List Int) : Option (Bool) := if (l0.length : Int) ≥ 1 then (some (decide ((l0.length : Int) ≤ 2048))) else (some false)
set_option maxHeartbeats 8000000 in
set_option maxRecDepth 100000 in
theorem cell_fits.calls (A0 : Option Addr) (c0 : Nat) (l0 : List Int) (r : Bool) (w : World) (hr0 : Kd.C (Kd.int .u32) w A0 l0.length l0) (hc0 : l0.length ≤ c0) (h : cell_fits.f l0 = some r) :
    Calls Try.prog 70 #[.slice A0 l0.length c0] w fun e w' => e = .returned (.bool r) ∧ Drawn0 w w' := by
  have HR0 := Aside0.mk hr0
  have HC0 := Aside0.mk hc0
  clear hr0 hc0
  have H : (if (l0.length : Int) ≥ 1 then (some (decide ((l0.length : Int) ≤ 2048))) else (some false)) = some r := h
  clear h
  by_cases c2 : (l0.length : Int) ≥ 1
  · rw [if_pos c2] at H
    have c2b0 : decide (1 ≤ (l0.length : Int)) = true := decide_eq_true c2
    have c2b1 : decide (1 ≤ l0.length) = true := decide_eq_true (by omega)
    clear c2
    obtain rfl := Option.some.inj H
    go_enter Try.func70, Try.ntmps70
    go_wp2
    go_ret
    exact ⟨by first | rfl | (simp; done) | (simp [*]; done), by repeat (first | exact Drawn0.refl _ | apply Drawn0.step)⟩
  · rw [if_neg c2] at H
    have c2b0 : decide (1 ≤ (l0.length : Int)) = false := decide_eq_false c2
    have c2b1 : decide (1 ≤ l0.length) = false := decide_eq_false (by omega)
    clear c2
    obtain rfl := Option.some.inj H
    go_enter Try.func70, Try.ntmps70
    go_wp2
    go_ret
    exact ⟨by first | rfl | (simp; done) | (simp [*]; done), by repeat (first | exact Drawn0.refl _ | apply Drawn0.step)⟩

-- NOT PRINTED: function 100 (api_Write_100)

-- NOT PRINTED: function 71 (api_Write_71)

/-! ### cell_Apply -/
def cell_Apply.bad (n : Nat) (x : S112) : Bool := decide (x.f0 < 0) || decide (x.f0 ≥ (n : Int))
def cell_Apply.at (n : Nat) (l : List S112) : Option Nat := l.findIdx? (cell_Apply.bad n)
def cell_Apply.idx (n : Nat) (l : List S112) : Int := match cell_Apply.at n l with | some i => (i : Int) | none => -1
def cell_Apply.put (c : List Int) (l : List S112) : List Int := l.foldl (fun c x => c.set x.f0.toNat x.f1) c
def cell_Apply.f (l0 : List Int) (l1 : List S112) (a2 : Int) : Option (List Int × Int) :=
  (cell_fits.f l0).bind fun b => if b = true then (if l1.length > 4096 then some ([], 1) else if (cell_Apply.at l0.length l1).isSome = true then some ([], 2) else if a2 < 0 then some ([], 2) else if a2 > (l1.length : Int) then some ([], 2) else some (cell_Apply.put l0 (l1.take a2.toNat), 0)) else some ([], 1)
theorem cell_Apply.get {l : List S112} {m : Nat} (hm : m < l.length) : rd_T112 l (m : Int) = l[m] := by
  unfold rd_T112; rw [List.getD_eq_getElem?_getD, Int.toNat_natCast, List.getElem?_eq_getElem hm]; rfl
theorem cell_Apply.hit {n : Nat} {l : List S112} {i : Nat} (hi : i < l.length) (h : cell_Apply.bad n (rd_T112 l (i : Int)) = true) (hb : ∀ m : Nat, m < i → cell_Apply.bad n (rd_T112 l (m : Int)) = false) : cell_Apply.at n l = some i := by
  unfold cell_Apply.at
  rw [List.findIdx?_eq_some_iff_getElem]
  refine ⟨hi, by rw [← cell_Apply.get hi]; exact h, fun m hm => ?_⟩
  have := hb m hm
  rw [cell_Apply.get (by omega)] at this
  simpa using this
theorem cell_Apply.miss {n : Nat} {l : List S112} (hb : ∀ m : Nat, m < l.length → cell_Apply.bad n (rd_T112 l (m : Int)) = false) : cell_Apply.at n l = none := by
  unfold cell_Apply.at
  rw [List.findIdx?_eq_none_iff]
  intro x hx
  obtain ⟨m, hm, rfl⟩ := List.mem_iff_getElem.1 hx
  have := hb m hm
  rw [cell_Apply.get hm] at this
  simpa using this
theorem cell_Apply.blk {g : Nat} {w W : World} {o : Obj} (h : w.heap[g]? = some o) (hb : Below w.heap.size w W) : W.heap[g]? = some o := (hb.block _ (blk_lt h)).trans h
theorem cell_Apply.fit (A0 : Option Addr) (c0 : Nat) (l0 : List Int) (r : Bool) (w : World) (hr0 : Kd.C (Kd.int .u32) w A0 l0.length l0) (hc0 : l0.length ≤ c0) (h : cell_fits.f l0 = some r) :
    Calls Try.prog 70 #[.slice A0 l0.length c0] w fun e w' => e = .returned (.bool r) ∧ Below w.heap.size w w' :=
  (cell_fits.calls A0 c0 l0 r w hr0 hc0 h).mono (by rintro e w' ⟨rfl, nd, rfl⟩; exact ⟨rfl, pw_below_drewN (Below.refl _ _) _⟩)
set_option maxHeartbeats 2000000 in
set_option maxRecDepth 100000 in
theorem cell_Apply.is (g : Nat) (A : Option Addr) (n c : Nat) (x0 x1 : Int) (w : World) (hb : w.cell? ⟨g, 0, none⟩ = some (.slice A n c)) :
    Calls Try.prog 72 #[.agg #[.int .i64 x0, .int .u32 x1], .pointer (some ⟨g, 0, none⟩)] w fun e w' => e = .returned (.bool (cell_Apply.bad n ⟨x0, x1⟩)) ∧ Below w.heap.size w w' := by
  have hb2 := fun o => pw_cell_below (below_alloc (Below.refl w.heap.size w) o) hb
  clear hb
  have hu112 := Try.underlying112
  by_cases h0 : x0 < 0
  · have q0 := decide_eq_true h0
    have HE : Aside0 (cell_Apply.bad n ⟨x0, x1⟩ = true) := ⟨by unfold cell_Apply.bad; simp [h0]⟩
    clear h0
    go_enter Try.func72, Try.ntmps72
    go_wp2
    go_ret
    exact ⟨congrArg (fun b => Ending.returned (.bool b)) HE.out.symm, below_alloc (Below.refl _ _) _⟩
  · have q0 := decide_eq_false h0
    have HE : Aside0 (cell_Apply.bad n ⟨x0, x1⟩ = decide (x0 ≥ (n : Int))) := ⟨by unfold cell_Apply.bad; simp [h0]⟩
    clear h0
    go_enter Try.func72, Try.ntmps72
    go_wp2
    go_ret
    exact ⟨congrArg (fun b => Ending.returned (.bool b)) HE.out.symm, below_alloc (Below.refl _ _) _⟩
set_option maxHeartbeats 2000000 in
set_option maxRecDepth 100000 in
theorem cell_Apply.index (g : Nat) (A : Option Addr) (n c : Nat) (A0 : Option Addr) (c0 : Nat) (l0 : List S112) (w : World) (hb : w.cell? ⟨g, 0, none⟩ = some (.slice A n c)) (hr0 : Kd.C k112 w A0 l0.length l0) (hl : l0.length ≤ 4096) :
    Calls Try.prog 100 #[.slice A0 l0.length c0, .func (.func 72) #[] #[.pointer (some ⟨g, 0, none⟩)]] w fun e w' => e = .returned (.int .i64 (cell_Apply.idx n l0)) ∧ Below w.heap.size w w' := by
  have HR0 := Aside0.mk hr0
  have HB0 := Aside0.mk hb
  clear hr0 hb
  have hu112 := Try.underlying112
  go_enter Try.func100, Try.ntmps100
  go_wp2
  go_loopg [8] l0.length (fun kq v8 w' => ∃ i : Nat, v8 = .int .i64 (i : Int) ∧ i ≤ l0.length ∧ kq = l0.length - i ∧ Aside0 (∀ m : Nat, m < i → cell_Apply.bad n (rd_T112 l0 (m : Int)) = false) ∧ Aside0 (Below w.heap.size w w'))
  case atStart => exact ⟨0, rfl, by omega, rfl, ⟨fun m h => by omega⟩, ⟨Below.refl _ _⟩⟩
  case round =>
    obtain ⟨i, rfl, hi, rfl, HA, HBW⟩ := hrel
    by_cases hlt : i < l0.length
    · have hltb : decide ((i : Int) < (l0.length : Int)) = true := decide_eq_true (by omega)
      obtain ⟨ad, rfl, y0, y1⟩ := at_T112 (Kd.C_below HR0.out HBW.out) (i : Int) (by omega) (by omega)
      have hbr := pw_cell_below HBW.out HB0.out
      have HBR := Aside0.mk hbr
      clear hbr
      rw [Int.toNat_natCast] at y0 y1
      cases hm : cell_Apply.bad n (rd_T112 l0 (i : Int)) with
      | true =>
        have hat := cell_Apply.hit hlt hm HA.out
        have HE : Aside0 (cell_Apply.idx n l0 = (i : Int)) := ⟨by unfold cell_Apply.idx; rw [hat]⟩
        have HQ : Aside0 (cell_Apply.bad n ⟨(rd_T112 l0 (i : Int)).f0, (rd_T112 l0 (i : Int)).f1⟩ = true) := ⟨hm⟩
        clear hat hm
        go_wp2_with (go_at_call 72; refine (cell_Apply.is g A n c _ _ _ HBR.out).mono ?_; rintro e w1 ⟨rfl, hb1⟩; rw [HQ.out]; have HB1 := Aside0.mk (below_then HBW.out HBW.out.size hb1); clear hb1)
        go_ret
        exact ⟨congrArg (fun z => Ending.returned (.int .i64 z)) HE.out.symm, HB1.out⟩
      | false =>
        have HQ : Aside0 (cell_Apply.bad n ⟨(rd_T112 l0 (i : Int)).f0, (rd_T112 l0 (i : Int)).f1⟩ = false) := ⟨hm⟩
        have HM := Aside0.mk hm
        clear hm
        go_wp2_with (go_at_call 72; refine (cell_Apply.is g A n c _ _ _ HBR.out).mono ?_; rintro e w1 ⟨rfl, hb1⟩; rw [HQ.out]; have HB1 := Aside0.mk (below_then HBW.out HBW.out.size hb1); clear hb1)
        go_roundg (l0.length - (i + 1))
        case measure => omega
        case rel =>
          refine ⟨i + 1, by first | rfl | go_num, hlt, rfl, ⟨fun m h => ?_⟩, ⟨HB1.out⟩⟩
          by_cases hmi : m = i
          · rw [hmi]; exact HM.out
          · exact HA.out m (by omega)
    · have hltb : decide ((i : Int) < (l0.length : Int)) = false := decide_eq_false (by omega)
      have hat := cell_Apply.miss (n := n) (l := l0) (fun m hm => HA.out m (by omega))
      have HE : Aside0 (cell_Apply.idx n l0 = -1) := ⟨by unfold cell_Apply.idx; rw [hat]⟩
      clear hat
      go_wp2
      go_ret
      exact ⟨congrArg (fun z => Ending.returned (.int .i64 z)) HE.out.symm, HBW.out⟩
set_option maxHeartbeats 2000000 in
set_option maxRecDepth 100000 in
theorem cell_Apply.contains (g : Nat) (A : Option Addr) (n c : Nat) (A0 : Option Addr) (c0 : Nat) (l0 : List S112) (w : World) (hb : w.cell? ⟨g, 0, none⟩ = some (.slice A n c)) (hr0 : Kd.C k112 w A0 l0.length l0) (hl : l0.length ≤ 4096) :
    Calls Try.prog 71 #[.slice A0 l0.length c0, .func (.func 72) #[] #[.pointer (some ⟨g, 0, none⟩)]] w fun e w' => e = .returned (.bool (cell_Apply.at n l0).isSome) ∧ Below w.heap.size w w' := by
  have HR0 := Aside0.mk hr0
  have HB0 := Aside0.mk hb
  clear hr0 hb
  cases hat : cell_Apply.at n l0 with
  | none =>
    have HE : Aside0 (cell_Apply.idx n l0 = -1) := ⟨by unfold cell_Apply.idx; rw [hat]⟩
    go_enter Try.func71, Try.ntmps71
    go_wp2_with (go_at_call 100; refine (cell_Apply.index g A n c A0 c0 l0 _ HB0.out HR0.out hl).mono ?_; rintro e w1 ⟨rfl, hb1⟩; rw [HE.out]; have HB1 := Aside0.mk hb1; clear hb1)
    go_ret
    exact ⟨rfl, HB1.out⟩
  | some i =>
    have HE : Aside0 (cell_Apply.idx n l0 = (i : Int)) := ⟨by unfold cell_Apply.idx; rw [hat]⟩
    have hn : decide ((i : Int) ≥ 0) = true := decide_eq_true (by omega)
    go_enter Try.func71, Try.ntmps71
    go_wp2_with (go_at_call 100; refine (cell_Apply.index g A n c A0 c0 l0 _ HB0.out HR0.out hl).mono ?_; rintro e w1 ⟨rfl, hb1⟩; rw [HE.out]; have HB1 := Aside0.mk hb1; clear hb1)
    go_ret
    exact ⟨rfl, HB1.out⟩
theorem cell_Apply.wr (n : Int) (h : -9223372036854775808 ≤ n ∧ n ≤ 9223372036854775807) : wrap64 n = n := by unfold wrap64; omega
theorem cell_Apply.splice_take {α : Type} (C X : List α) (h : X.length ≤ C.length) : (splice C 0 X).take X.length = X := by
  unfold splice
  simp
theorem cell_Apply.put_step (c : List Int) (l : List S112) (i : Nat) (hi : i < l.length) : cell_Apply.put c (l.take (i + 1)) = (cell_Apply.put c (l.take i)).set (rd_T112 l (i : Int)).f0.toNat (rd_T112 l (i : Int)).f1 := by
  unfold cell_Apply.put
  rw [List.take_add_one, List.getElem?_eq_getElem hi, List.foldl_append, cell_Apply.get hi]
  rfl
theorem cell_Apply.put_len (c : List Int) (l : List S112) : (cell_Apply.put c l).length = c.length := by
  unfold cell_Apply.put
  induction l generalizing c with
  | nil => rfl
  | cons x l ih => rw [List.foldl_cons, ih, List.length_set]
theorem cell_Apply.good {n : Nat} {l : List S112} (h : cell_Apply.at n l = none) (i : Nat) (hi : i < l.length) : 0 ≤ (rd_T112 l (i : Int)).f0 ∧ (rd_T112 l (i : Int)).f0 < (n : Int) := by
  unfold cell_Apply.at at h
  rw [List.findIdx?_eq_none_iff] at h
  have := h l[i] (List.getElem_mem hi)
  rw [cell_Apply.get hi]
  unfold cell_Apply.bad at this
  simp only [Bool.or_eq_false_iff, decide_eq_false_iff_not] at this
  omega
theorem cell_Apply.made {W : World} {v : Value} {n B : Nat} (h : Kd.R (Kd.int .u32) 101 W B (fun _ => True) v (List.replicate ((n : Int)).toNat 0)) (hn : 1 ≤ n) : ∃ g cap cur, v = .slice (some ⟨g, 0, none⟩) n cap ∧ B ≤ g ∧ W.heap[g]? = some (.cells cur 101 (0, 0)) ∧ n ≤ cap ∧ cap ≤ maxLen ∧ cur.size = cap := by
  obtain ⟨_, ho⟩ := Kd.own_of_R h
  simp only [Int.toNat_natCast, List.length_replicate] at ho
  rcases ho with ⟨_, h0⟩ | ⟨g, cap, cur, rfl, hg1, hg2, hg3, hg4, hg5, _⟩
  · omega
  · exact ⟨g, cap, cur, rfl, hg1, hg2, hg3, hg4, by omega⟩
theorem cell_Apply.filled {W : World} {g cap B : Nat} {cur : Array Value} {l : List Int} (h : W.heap[g]? = some (.cells (splice cur.toList 0 (l.map (Value.int .u32))).toArray 101 (0, 0))) (hB : B ≤ g) (hn : l.length ≤ cap) (hc : cap ≤ maxLen) (hs : cur.size = cap) : Kd.R (Kd.int .u32) 101 W B (fun _ => True) (.slice (some ⟨g, 0, none⟩) l.length cap) l := by
  have hown : W.ownsRow B 101 1 (.slice (some ⟨g, 0, none⟩) l.length cap) l.length (encs (Value.int .u32) l) := by
    have e : cur.toList.length = cap := by rw [← hs]; exact Array.length_toList
    refine ⟨by rw [encs, List.length_map, Nat.mul_one], .inr ⟨g, cap, _, rfl, hB, h, hn, hc, ?_, ?_⟩⟩
    · rw [List.size_toArray, length_splice _ _ _ (by rw [List.length_map]; omega)]; omega
    · have := cell_Apply.splice_take cur.toList (l.map (Value.int .u32)) (by rw [List.length_map]; omega)
      rw [List.length_map] at this
      rw [Nat.mul_one, List.toList_toArray, this]; rfl
  exact Kd.R_of_own (enc := Value.int .u32) (h1 := fun _ => rfl) hown (fun _ _ => trivial)
theorem cell_Apply.word {w : World} {A : Option Addr} {n : Nat} {xs : List Int} (h : Kd.C (Kd.int .u32) w A n xs) (i : Nat) (h1 : i < n) : ∃ ad, A = some ad ∧ w.cell? (ad.add i) = some (.int .u32 (rd xs (i : Int))) := by
  obtain ⟨ad, c, e, hl, hK, hc⟩ := Kd.C_get h 0 (i : Int) (by omega) (by omega)
  obtain rfl : c = [.int .u32 (xs.getD (i : Int).toNat 0)] := hK
  have := hc 0 _ rfl
  simp only [show (Kd.int IntKind.u32).sz = 1 from rfl, Int.toNat_natCast, Nat.mul_one, Nat.add_zero] at this
  exact ⟨ad, e, this⟩
theorem cell_Apply.src {w : World} {A : Option Addr} {xs : List Int} (h : Kd.C (Kd.int .u32) w A xs.length xs) (h0 : 1 ≤ xs.length) : ∃ ad, A = some ad ∧ ∀ j v, (xs.map (Value.int .u32))[j]? = some v → w.cell? (ad.add j) = some v := by
  obtain ⟨ad, hA, _⟩ := cell_Apply.word h 0 h0
  refine ⟨ad, hA, fun j v hj => ?_⟩
  have hj5 : j < xs.length := by
    have := (List.getElem?_eq_some_iff.mp hj).1
    rwa [List.length_map] at this
  obtain ⟨ad2, hA2, x⟩ := cell_Apply.word h j hj5
  rw [hA] at hA2
  cases hA2
  rw [x]
  rw [List.getElem?_map, List.getElem?_eq_getElem hj5] at hj
  rw [← hj]
  simp [rd, List.getElem?_eq_getElem hj5]
set_option maxHeartbeats 8000000 in
set_option maxRecDepth 100000 in
theorem cell_Apply.calls (A0 : Option Addr) (c0 : Nat) (l0 : List Int) (A1 : Option Addr) (c1 : Nat) (l1 : List (S112)) (a2 : Int) (r1 : List Int) (r2 : Int) (w : World) (hr0 : Kd.C (Kd.int .u32) w A0 l0.length l0) (hc0 : l0.length ≤ c0) (hr1 : Kd.C k112 w A1 l1.length l1) (hc1 : l1.length ≤ c1) (h : cell_Apply.f l0 l1 a2 = some (r1, r2)) :
    Calls Try.prog 37 #[.slice A0 l0.length c0, .slice A1 l1.length c1, .int .i64 a2] w fun e w' => ∃ v0_ : Value, e = .returned (.tuple #[v0_, .int .i64 r2]) ∧ Kd.R (Kd.int .u32) 101 w' w.heap.size (fun _ => True) v0_ r1 ∧ Below w.heap.size w w' := by
  have hu112 := Try.underlying112
  have HB0 := Aside0.mk (below_alloc (Below.refl w.heap.size w) (.cells #[.slice A0 l0.length c0] 42))
  have HR0 := Aside0.mk (Kd.C_below hr0 HB0.out)
  have HR1 := Aside0.mk (Kd.C_below hr1 HB0.out)
  have HC0 := Aside0.mk hc0
  have HC1 := Aside0.mk hc1
  have HO0 := Aside0.mk hr0
  have HO1 := Aside0.mk hr1
  clear hr0 hr1 hc0 hc1
  have H50 : Aside0 ((w.alloc (.cells #[.slice A0 l0.length c0] 42)).heap[w.heap.size]? = some (.cells #[.slice A0 l0.length c0] 42 (0, 0))) := ⟨World.alloc_heap_new w _⟩
  unfold cell_Apply.f at h
  obtain ⟨b, hf, h⟩ := Option.bind_eq_some_iff.mp h
  have HF := Aside0.mk hf
  cases b with
  | false =>
    rw [if_neg (by decide)] at h
    simp only [Option.some.injEq, Prod.mk.injEq] at h
    obtain ⟨rfl, rfl⟩ := h
    clear hf
    go_enter Try.func37, Try.ntmps37
    go_wp2_with (go_at_call 70; refine (cell_Apply.fit _ _ l0 _ _ HR0.out HC0.out HF.out).mono ?_; rintro e w1 ⟨rfl, hb1⟩; have HB1 := Aside0.mk (below_then HB0.out HB0.out.size hb1); clear hb1)
    go_ret2
    exact ⟨_, rfl, Kd.R_nil _ _ _ _ _, HB1.out⟩
  | true =>
    rw [if_pos rfl] at h
    have HL0 : Aside0 (1 ≤ l0.length ∧ l0.length ≤ 2048) := ⟨by
      unfold cell_fits.f at hf
      by_cases h1 : (l0.length : Int) ≥ 1
      · rw [if_pos h1] at hf
        have := of_decide_eq_true (Option.some.inj hf)
        omega
      · rw [if_neg h1] at hf; cases hf⟩
    clear hf
    by_cases h1 : l1.length > 4096
    · rw [if_pos h1] at h
      simp only [Option.some.injEq, Prod.mk.injEq] at h
      obtain ⟨rfl, rfl⟩ := h
      have q1 : decide ((l1.length : Int) > 4096) = true := decide_eq_true (by omega)
      clear h1
      go_enter Try.func37, Try.ntmps37
      go_wp2_with (go_at_call 70; refine (cell_Apply.fit _ _ l0 _ _ HR0.out HC0.out HF.out).mono ?_; rintro e w1 ⟨rfl, hb1⟩; have HB1 := Aside0.mk (below_then HB0.out HB0.out.size hb1); clear hb1)
      go_ret2
      exact ⟨_, rfl, Kd.R_nil _ _ _ _ _, HB1.out⟩
    rw [if_neg h1] at h
    have HL1 : Aside0 (l1.length ≤ 4096) := ⟨by omega⟩
    have q1 : decide ((l1.length : Int) > 4096) = false := decide_eq_false (by omega)
    clear h1
    cases hat : cell_Apply.at l0.length l1 with
    | some i =>
      rw [hat, if_pos (show (some i).isSome = true from rfl)] at h
      simp only [Option.some.injEq, Prod.mk.injEq] at h
      obtain ⟨rfl, rfl⟩ := h
      have HAT := Aside0.mk hat
      clear hat
      go_enter Try.func37, Try.ntmps37
      go_wp2_with (first | (go_at_call 70; refine (cell_Apply.fit _ _ l0 _ _ HR0.out HC0.out HF.out).mono ?_; rintro e w1 ⟨rfl, hb1⟩; have HB1 := Aside0.mk (below_then HB0.out HB0.out.size hb1); have HR11 := Aside0.mk (Kd.C_below HR1.out hb1); have H51 := Aside0.mk (cell_Apply.blk H50.out hb1); have yc := (blk_cell H51.out 0).trans rfl; clear hb1) | (go_at_call 71; refine (cell_Apply.contains w.heap.size A0 l0.length c0 A1 c1 l1 _ yc HR11.out HL1.out).mono ?_; rintro e w2 ⟨rfl, hb2⟩; rw [HAT.out]; have HB2 := Aside0.mk (below_then HB1.out HB1.out.size hb2); clear hb2))
      go_ret2
      exact ⟨_, rfl, Kd.R_nil _ _ _ _ _, HB2.out⟩
    | none =>
      rw [hat, if_neg (by decide)] at h
      have HAT := Aside0.mk hat
      clear hat
      by_cases h2 : a2 < 0
      · rw [if_pos h2] at h
        simp only [Option.some.injEq, Prod.mk.injEq] at h
        obtain ⟨rfl, rfl⟩ := h
        have q2 := decide_eq_true h2
        clear h2
        go_enter Try.func37, Try.ntmps37
        go_wp2_with (first | (go_at_call 70; refine (cell_Apply.fit _ _ l0 _ _ HR0.out HC0.out HF.out).mono ?_; rintro e w1 ⟨rfl, hb1⟩; have HB1 := Aside0.mk (below_then HB0.out HB0.out.size hb1); have HR11 := Aside0.mk (Kd.C_below HR1.out hb1); have H51 := Aside0.mk (cell_Apply.blk H50.out hb1); have yc := (blk_cell H51.out 0).trans rfl; clear hb1) | (go_at_call 71; refine (cell_Apply.contains w.heap.size A0 l0.length c0 A1 c1 l1 _ yc HR11.out HL1.out).mono ?_; rintro e w2 ⟨rfl, hb2⟩; rw [HAT.out]; have HB2 := Aside0.mk (below_then HB1.out HB1.out.size hb2); clear hb2))
        go_ret2
        exact ⟨_, rfl, Kd.R_nil _ _ _ _ _, HB2.out⟩
      rw [if_neg h2] at h
      have q2 := decide_eq_false h2
      by_cases h3 : a2 > (l1.length : Int)
      · rw [if_pos h3] at h
        simp only [Option.some.injEq, Prod.mk.injEq] at h
        obtain ⟨rfl, rfl⟩ := h
        have q3 := decide_eq_true h3
        clear h2 h3
        go_enter Try.func37, Try.ntmps37
        go_wp2_with (first | (go_at_call 70; refine (cell_Apply.fit _ _ l0 _ _ HR0.out HC0.out HF.out).mono ?_; rintro e w1 ⟨rfl, hb1⟩; have HB1 := Aside0.mk (below_then HB0.out HB0.out.size hb1); have HR11 := Aside0.mk (Kd.C_below HR1.out hb1); have H51 := Aside0.mk (cell_Apply.blk H50.out hb1); have yc := (blk_cell H51.out 0).trans rfl; clear hb1) | (go_at_call 71; refine (cell_Apply.contains w.heap.size A0 l0.length c0 A1 c1 l1 _ yc HR11.out HL1.out).mono ?_; rintro e w2 ⟨rfl, hb2⟩; rw [HAT.out]; have HB2 := Aside0.mk (below_then HB1.out HB1.out.size hb2); clear hb2))
        go_ret2
        exact ⟨_, rfl, Kd.R_nil _ _ _ _ _, HB2.out⟩
      rw [if_neg h3] at h
      simp only [Option.some.injEq, Prod.mk.injEq] at h
      obtain ⟨hr1, rfl⟩ := h
      obtain ⟨k, rfl⟩ := Int.eq_ofNat_of_zero_le (show 0 ≤ a2 by omega)
      have HR := Aside0.mk hr1
      have HK : Aside0 (k ≤ l1.length) := ⟨by omega⟩
      have q3 := decide_eq_false h3
      have q3b : decide (l1.length < k) = false := decide_eq_false (by omega)
      have hsl : ∀ W, (Instr.slice 51 (.slice A1 l1.length c1) none (some (.int .i64 (k : Int))) (some (.int .i64 (k : Int)))).run Try.prog W = .ok (.slice A1 k k) W := fun W => by
        rw [run_slice_hm W 51 A1 l1.length c1 Try.underlying51 .i64 .i64 (k : Int) (k : Int) (by omega) (by omega) (by have := HC1.out; omega)]
        simp [go_sem, sliced, Result.andThen, Addr.add]
      clear h2 h3 hr1
      go_enter Try.func37, Try.ntmps37
      go_wp2_with (first | (go_at_call 70; refine (cell_Apply.fit _ _ l0 _ _ HR0.out HC0.out HF.out).mono ?_; rintro e w1 ⟨rfl, hb1⟩; have HB1 := Aside0.mk (below_then HB0.out HB0.out.size hb1); have HR11 := Aside0.mk (Kd.C_below HR1.out hb1); have H51 := Aside0.mk (cell_Apply.blk H50.out hb1); have yc := (blk_cell H51.out 0).trans rfl; clear hb1) | (go_at_call 71; refine (cell_Apply.contains w.heap.size A0 l0.length c0 A1 c1 l1 _ yc HR11.out HL1.out).mono ?_; rintro e w2 ⟨rfl, hb2⟩; rw [HAT.out]; have HB2 := Aside0.mk (below_then HB1.out HB1.out.size hb2); have H52 := Aside0.mk (cell_Apply.blk H51.out hb2); have yc2 := (blk_cell H52.out 0).trans rfl; clear hb2) | ((with_reducible refine gate_dst (N := 34) rfl ?_); refine Kd.R_make (Kd.int .u32) (w0 := w) w.heap.size 101 rfl (N := 34) rfl 42 _ _ rfl (l0.length : Int) rfl rfl Try.underlying42 (.int .u32 0) 4 info101 rfl (by decide) (by omega) 0 (ok := fun _ => True) (okp := fun _ => True) rfl (fun _ hk => hk) trivial (by omega) (by have := HL0.out; omega) HB2.out HB2.out.size ?_; intro v3 w3 ho3 hb3 hg3 hnew3; have HB3 := Aside0.mk hb3; have H53 := Aside0.mk (blk_grown H52.out hg3 (by simp)); have yc3 := (blk_cell H53.out 0).trans rfl; obtain ⟨g, cap, cur, rfl, hg1, hg2, hgn, hgm, hgs⟩ := cell_Apply.made ho3 HL0.out.1; have HG1 := Aside0.mk hg1; have HG2 := Aside0.mk hg2; have HGN := Aside0.mk hgn; have HGM := Aside0.mk hgm; have HGS := Aside0.mk hgs; clear hb3 hg3 hnew3 ho3 hg1 hg2 hgn hgm hgs) | ((with_reducible refine gate_builtin (b := .copy) (xs := #[.tmp 35, .tmp 36]) rfl ?_); refine wpList_copy_splice rfl (.tmp 35) (.tmp 36) 42 42 rfl 101 Try.underlying42 (by kernel_rfl) (some ⟨g, 0, none⟩) A0 l0.length cap l0.length c0 rfl rfl g 0 cur.toList 101 (by rw [Array.toArray_toList]; exact HG2.out) (l0.map (Value.int .u32)) (by rw [List.length_map]; exact (Nat.min_self _).symm) ?cP ?cF ?cO w.heap.size w HB3.out HG1.out ?_; (case cP => exact fun _ => ⟨rfl, cell_Apply.src (Kd.C_below HO0.out HB3.out) HL0.out.1⟩); (case cF => have := HGN.out; have h7 := HGS.out; have h8 : cur.toList.length = cur.size := Array.length_toList; rw [List.length_map]; omega); (case cO => intro v hv; obtain ⟨x, _, rfl⟩ := List.mem_map.mp hv; rfl); intro w4 hw4 hb4; have HR4 := Aside0.mk (cell_Apply.filled hw4.out HG1.out HGN.out HGM.out HGS.out); have HB4 := Aside0.mk hb4; have HC4 := Aside0.mk (Kd.C_below HO1.out hb4); clear hw4 hb4))
      have HKL := HL0.out
      go_loopg [43] k (fun kq v43 w' => ∃ i : Nat, v43 = .int .i64 (i : Int) ∧ i ≤ k ∧ kq = k - i ∧ Aside0 (Kd.R (Kd.int .u32) 101 w' w.heap.size (fun _ => True) (.slice (some ⟨g, 0, none⟩) l0.length cap) (cell_Apply.put l0 (l1.take i))) ∧ Aside0 (Below w.heap.size w w'))
      case atStart => exact ⟨0, rfl, by omega, rfl, HR4, HB4⟩
      case round =>
        obtain ⟨i, rfl, hi, rfl, HRW, HBW⟩ := hrel
        by_cases hlt : i < k
        · have hltb : decide ((i : Int) < (k : Int)) = true := decide_eq_true (by omega)
          have HLT := Aside0.mk hlt
          obtain ⟨ad, rfl, y0, y1⟩ := at_T112 (Kd.C_below HO1.out HBW.out) (i : Int) (by omega) (by have := HK.out; omega)
          rw [Int.toNat_natCast] at y0 y1
          obtain ⟨g0, g1⟩ := cell_Apply.good HAT.out i (by have := HK.out; omega)
          obtain ⟨D, hD⟩ : ∃ D, D = rd_T112 l1 (i : Int) := ⟨_, rfl⟩
          rw [← hD] at y0 y1 g0 g1
          have HD := Aside0.mk hD
          clear hD
          have hx := fun o => (Kd.R_celln 0 (Kd.R_alloc HRW.out o) D.f0 g0 g1).1
          have hf := fun o => (Kd.R_celln 0 (Kd.R_alloc HRW.out o) D.f0 g0 g1).2
          go_wp2
          go_roundg (k - (i + 1))
          case measure => omega
          case rel =>
            refine ⟨i + 1, by rw [cell_Apply.wr ((i : Int) + 1) (by have := HK.out; have := HL1.out; have := HLT.out; omega)]; rfl, HLT.out, rfl, ⟨?_⟩, ⟨(below_alloc HBW.out _).setCell (p := ⟨g, _, none⟩) HG1.out _⟩⟩
            rw [cell_Apply.put_step l0 l1 i (by have := HK.out; have := HLT.out; omega), ← HD.out]
            exact Kd.R_putn (Kd.R_alloc HRW.out _) D.f0 D.f1
        · have hltb : decide ((i : Int) < (k : Int)) = false := decide_eq_false (by omega)
          have hik : i = k := by omega
          subst hik
          go_wp2
          go_ret2
          refine ⟨_, rfl, ?_, HBW.out⟩
          rw [← HR.out, Int.toNat_natCast]
          exact HRW.out

/-! ### vendmeterref_In: function 63 -/
def vendmeterref_In.f (a0 : Int) (a1 : Int) (a2 : Int) : Option (Bool) := if a0 ≥ a1 then (some (decide (a0 ≤ a2))) else (some false)
set_option maxHeartbeats 8000000 in
set_option maxRecDepth 100000 in
theorem vendmeterref_In.calls (a0 : Int) (a1 : Int) (a2 : Int) (r : Bool) (w : World) (h : vendmeterref_In.f a0 a1 a2 = some r) :
    Calls Try.prog 63 #[.int .i64 a0, .int .i64 a1, .int .i64 a2] w fun e w' => e = .returned (.bool r) ∧ Drawn0 w w' := by
  have H : (if a0 ≥ a1 then (some (decide (a0 ≤ a2))) else (some false)) = some r := h
  clear h
  by_cases c4 : a0 ≥ a1
  · rw [if_pos c4] at H
    have c4b0 : decide (a1 ≤ a0) = true := decide_eq_true c4
    clear c4
    obtain rfl := Option.some.inj H
    go_enter Try.func63, Try.ntmps63
    go_wp2
    go_ret
    exact ⟨by first | rfl | (simp; done) | (simp [*]; done), by repeat (first | exact Drawn0.refl _ | apply Drawn0.step)⟩
  · rw [if_neg c4] at H
    have c4b0 : decide (a1 ≤ a0) = false := decide_eq_false c4
    clear c4
    obtain rfl := Option.some.inj H
    go_enter Try.func63, Try.ntmps63
    go_wp2
    go_ret
    exact ⟨by first | rfl | (simp; done) | (simp [*]; done), by repeat (first | exact Drawn0.refl _ | apply Drawn0.step)⟩

/-! ### vendmeterref_last: function 73 -/
def vendmeterref_last.l0 : Nat → List Int → List (S112) → Int → Int → Option (Int)
  | 0, _, _, _, _ => none
  | k + 1, x0, x1, x3, x9 => if x9 ≥ 0 then (if 0 ≤ x9 then (if x9 < (x1.length : Int) then (if ((rd_T112 x1 x9).f0) = x3 then (some ((rd_T112 x1 x9).f1)) else (vendmeterref_last.l0 k x0 x1 x3 (wrap64 (x9 - 1)))) else (none)) else (none)) else (if 0 ≤ x3 then (if x3 < (x0.length : Int) then (some (rd x0 x3)) else (none)) else (none))
def vendmeterref_last.f (k : Nat) (l0 : List Int) (l1 : List (S112)) (a2 : Int) (a3 : Int) : Option (Int) := vendmeterref_last.l0 k l0 l1 a3 (wrap64 (a2 - 1))
theorem vendmeterref_last.mono_l : ∀ k, (∀ y0 y1 y2 y3, LeO (vendmeterref_last.l0 k y0 y1 y2 y3) (vendmeterref_last.l0 (k + 1) y0 y1 y2 y3))
  | 0 => fun _ _ _ _ r h => by simp [vendmeterref_last.l0] at h
  | k + 1 => by
    have ih0 := vendmeterref_last.mono_l k
    · intro y0 y1 y2 y3
      unfold vendmeterref_last.l0
      repeat' first
      | (with_reducible exact ih0 _ _ _ _)
      | (with_reducible exact LeO.refl _)
      | (with_reducible exact LeO.none _)
      | (with_reducible refine LeO.ite ?_ ?_)
      | (with_reducible refine LeO.bind ?_ (fun _ => ?_))
      | exact ih0 _ _ _ _
      | exact LeO.none _
      | refine LeO.ite ?_ ?_
      | refine LeO.bind ?_ (fun _ => ?_)
theorem vendmeterref_last.mono : ∀ a0 a1 a2 a3 k, LeO (vendmeterref_last.f k a0 a1 a2 a3) (vendmeterref_last.f (k + 1) a0 a1 a2 a3) := by
  intro a0 a1 a2 a3 k
  have ih0 := vendmeterref_last.mono_l k
  unfold vendmeterref_last.f
  repeat' first
      | (with_reducible exact ih0 _ _ _ _)
      | (with_reducible exact LeO.refl _)
      | (with_reducible exact LeO.none _)
      | (with_reducible refine LeO.ite ?_ ?_)
      | (with_reducible refine LeO.bind ?_ (fun _ => ?_))
      | exact ih0 _ _ _ _
      | exact LeO.none _
      | refine LeO.ite ?_ ?_
      | refine LeO.bind ?_ (fun _ => ?_)
set_option maxHeartbeats 8000000 in
set_option maxRecDepth 100000 in
theorem vendmeterref_last.calls (k : Nat) (A0 : Option Addr) (c0 : Nat) (l0 : List Int) (A1 : Option Addr) (c1 : Nat) (l1 : List (S112)) (a2 : Int) (a3 : Int) (r : Int) (w : World) (hr0 : Kd.C (Kd.int .u32) w A0 l0.length l0) (hc0 : l0.length ≤ c0) (hr1 : Kd.C k112 w A1 l1.length l1) (hc1 : l1.length ≤ c1) (h : vendmeterref_last.f k l0 l1 a2 a3 = some r) :
    Calls Try.prog 73 #[.slice A0 l0.length c0, .slice A1 l1.length c1, .int .i64 a2, .int .i64 a3] w fun e w' => e = .returned (.int .u32 r) ∧ Drawn0 w w' := by
  have HR0 := Aside0.mk hr0
  have HC0 := Aside0.mk hc0
  clear hr0 hc0
  have HR1 := Aside0.mk hr1
  have HC1 := Aside0.mk hc1
  clear hr1 hc1
  have H : (vendmeterref_last.l0 k l0 l1 a3 (wrap64 (a2 - 1))) = some r := h
  clear h
  have H' := Aside0.mk H
  clear H
  go_enter Try.func73, Try.ntmps73
  go_wp2
  go_loopg [9] k (fun kq v9 w' => ∃ (x9_1 : Int), v9 = .int .i64 x9_1 ∧ Aside0 (vendmeterref_last.l0 kq l0 l1 a3 x9_1 = some r) ∧ Aside0 (kq ≤ k) ∧ Drawn0 w w')
  case atStart => exact ⟨(wrap64 (a2 - 1)), (by first | rfl | (simp; done) | (simp [*]; done)), H', ⟨Nat.le_refl _⟩, by repeat (first | exact Drawn0.refl _ | apply Drawn0.step)⟩
  case round =>
    clear H'
    try clear c1
    try clear p2
    obtain ⟨x9_1, rfl, HA, HK1, ⟨m1, rfl⟩⟩ := hrel
    cases gk with
    | zero => exact absurd HA.out (by simp [vendmeterref_last.l0])
    | succ k1 =>
      have H := HA.out
      clear HA
      simp only [vendmeterref_last.l0] at H
      by_cases c5 : x9_1 ≥ 0
      · rw [if_pos c5] at H
        have c5b0 : decide (0 ≤ x9_1) = true := decide_eq_true c5
        clear c5
        by_cases c6 : 0 ≤ x9_1
        · rw [if_pos c6] at H
          have c6b0 : decide (0 ≤ x9_1) = true := decide_eq_true c6
          clear c6
          by_cases c7 : x9_1 < (l1.length : Int)
          · rw [if_pos c7] at H
            have c7b0 : decide (x9_1 < (l1.length : Int)) = true := decide_eq_true c7
            clear c7
            by_cases c8 : ((rd_T112 l1 x9_1).f0) = a3
            · rw [if_pos c8] at H
              have c8b0 : (((rd_T112 l1 x9_1).f0) == a3) = true := beq_iff_eq.mpr c8
              have c8b1 : (((rd_T112 l1 x9_1).f0) != a3) = false := bne_eq_false_iff_eq.mpr c8
              clear c8
              obtain rfl := Option.some.inj H
              have p111 : 0 ≤ (x9_1 : Int) := of_decide_eq_true (by first | (with_reducible assumption) | assumption)
              have q111 : x9_1 < (l1.length : Int) := of_decide_eq_true (by first | (with_reducible assumption) | assumption)
              obtain ⟨ad111, e111, hx111_0, hx111_1⟩ := at_T112 HR1.out x9_1 p111 q111
              cases e111
              replace p111 := eq_true p111
              replace q111 := eq_true q111
              have p112 : 0 ≤ (x9_1 : Int) := of_decide_eq_true (by first | (with_reducible assumption) | assumption)
              have q112 : x9_1 < (l1.length : Int) := of_decide_eq_true (by first | (with_reducible assumption) | assumption)
              obtain ⟨ad112, e112, hx112_0, hx112_1⟩ := at_T112 HR1.out x9_1 p112 q112
              obtain rfl : ad111 = ad112 := (by injection e112)
              replace p112 := eq_true p112
              replace q112 := eq_true q112
              go_wp2
              go_ret
              exact ⟨by first | rfl | (simp; done) | (simp [*]; done), by repeat (first | exact Drawn0.refl _ | apply Drawn0.step)⟩
            · rw [if_neg c8] at H
              have c8b0 : (((rd_T112 l1 x9_1).f0) == a3) = false := beq_eq_false_iff_ne.mpr c8
              have c8b1 : (((rd_T112 l1 x9_1).f0) != a3) = true := bne_iff_ne.mpr c8
              have H' := Aside0.mk H
              clear H
              have p111 : 0 ≤ (x9_1 : Int) := of_decide_eq_true (by first | (with_reducible assumption) | assumption)
              have q111 : x9_1 < (l1.length : Int) := of_decide_eq_true (by first | (with_reducible assumption) | assumption)
              obtain ⟨ad111, e111, hx111_0, hx111_1⟩ := at_T112 HR1.out x9_1 p111 q111
              cases e111
              replace p111 := eq_true p111
              replace q111 := eq_true q111
              go_wp2
              go_roundg k1
              case measure => have := HK1.out; omega
              case rel => exact ⟨(wrap64 (x9_1 - 1)), (by first | rfl | (simp; done) | (simp [*]; done)), H', ⟨by have := HK1.out; omega⟩, by repeat (first | exact Drawn0.refl _ | apply Drawn0.step)⟩
          · rw [if_neg c7] at H
            exact absurd H (by simp)
        · rw [if_neg c6] at H
          exact absurd H (by simp)
      · rw [if_neg c5] at H
        have c5b0 : decide (0 ≤ x9_1) = false := decide_eq_false c5
        clear c5
        by_cases c9 : 0 ≤ a3
        · rw [if_pos c9] at H
          have c9b0 : decide (0 ≤ a3) = true := decide_eq_true c9
          clear c9
          by_cases c10 : a3 < (l0.length : Int)
          · rw [if_pos c10] at H
            have c10b0 : decide (a3 < (l0.length : Int)) = true := decide_eq_true c10
            clear c10
            obtain rfl := Option.some.inj H
            have p113 : 0 ≤ (a3 : Int) := of_decide_eq_true (by first | (with_reducible assumption) | assumption)
            have q113 : a3 < (l0.length : Int) := of_decide_eq_true (by first | (with_reducible assumption) | assumption)
            obtain ⟨ad113, e113, hx113_0⟩ := Kd.at_int HR0.out a3 p113 q113
            cases e113
            replace p113 := eq_true p113
            replace q113 := eq_true q113
            go_wp2
            go_ret
            exact ⟨by first | rfl | (simp; done) | (simp [*]; done), by repeat (first | exact Drawn0.refl _ | apply Drawn0.step)⟩
          · rw [if_neg c10] at H
            exact absurd H (by simp)
        · rw [if_neg c9] at H
          exact absurd H (by simp)

end Go.Proofs.Ytgelnjcohnfmhaa.PCellApplies
