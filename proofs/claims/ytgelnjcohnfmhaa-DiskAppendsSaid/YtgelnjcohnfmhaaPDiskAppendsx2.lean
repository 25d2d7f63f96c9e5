-- written by this session's program wip/xp/xprint.py (it drives the kit's print and adds to it)
import Derived.Test.YtgelnjcohnfmhaaPDiskAppendsx0
import Derived.Test.YtgelnjcohnfmhaaPDiskAppendsx1
namespace Go.Proofs.Ytgelnjcohnfmhaa.PDiskAppends
open Go.RowKit Go.Proofs.YtgelnjcohnfmhaaW.PrintWords Go.Proofs.YtgelnjcohnfmhaaW.PrintLast Go.Proofs.YtgelnjcohnfmhaaW.PrintMore
attribute [local go_sem] max2_int min2_int max_two min_two max_three min_three max_four min_four   -- for this text's walks alone
set_option linter.unusedVariables false
set_option linter.unusedSimpArgs false

attribute [local go_sem high] eqA112
/-! ### vendmeterlaw_words: function 25 -/
def vendmeterlaw_words.f (l0 : List Int) : Option (List Int) := if ([] : List Int).length + l0.length < 35184372088832 then (some (([] : List Int) ++ l0)) else (none)
set_option maxHeartbeats 8000000 in
set_option maxRecDepth 100000 in
theorem vendmeterlaw_words.calls (A0 : Option Addr) (c0 : Nat) (l0 : List Int) (r : List Int) (w : World) (hr0 : Kd.C (Kd.int .u32) w A0 l0.length l0) (hc0 : l0.length ≤ c0) (h : vendmeterlaw_words.f l0 = some r) :
    Calls Try.prog 25 #[.slice A0 l0.length c0] w fun e w' => ∃ v0_ : Value, e = .returned (v0_) ∧ Kd.R (Kd.int .u32) 101 w' w.heap.size (fun _ => True) v0_ r ∧ Below w.heap.size w w' := by
  have HR0 := Aside0.mk hr0
  have HC0 := Aside0.mk hc0
  clear hr0 hc0
  have HB := Aside0.mk (Below.refl w.heap.size w)
  have H : (if ([] : List Int).length + l0.length < 35184372088832 then (some (([] : List Int) ++ l0)) else (none)) = some r := h
  clear h
  by_cases c2 : ([] : List Int).length + l0.length < 35184372088832
  · rw [if_pos c2] at H
    have LMc2 := Aside0.mk c2
    clear c2
    obtain ⟨y101, hy101⟩ : ∃ y_ : List Int, y_ = (([] : List Int) ++ l0) := ⟨_, rfl⟩
    replace H : (some y101) = some r := by first | (rw [hy101]; with_reducible exact H) | (have H2_ := (Option.bind_some _ _).symm.trans H; rw [hy101]; with_reducible exact H2_) | (have H2_ := (Option.bind_some _ _).symm.trans H; with_reducible exact H2_) | with_reducible exact H | (rw [hy101]; exact H) | exact H
    have Ny101 := Aside0.mk hy101
    clear hy101
    obtain rfl := Option.some.inj H
    go_enter Try.func25, Try.ntmps25
    go_wp2_with (first | ((with_reducible refine gate_builtin (b := .append) (xs := #[.const (.slice none 0 0), .tmp 3]) rfl ?_); at_builtin; refine Kd.R_append_rows (Kd.int .u32) (w0 := w) w.heap.size rfl (.const (.slice none 0 0)) (.tmp 3) 42 101 (.int .u32 0) 4 rfl Try.underlying42 info101 rfl (by decide) (by omega) (.slice none 0 0) ([] : List Int) l0 _ _ _ (fun _ => True) (fun _ => False) rfl rfl ?aO ?aR (fun _ _ h => h) (fun _ h => h.elim) ?aF ?aB ?aS ?aL ?_; (case aR => repeat (first | exact HR0.out | (with_reducible refine Kd.C_alloc ?_ _) | (with_reducible refine Kd.C_drewN ?_ _) | (with_reducible refine Kd.C_drew ?_))); (case aB => exact (by repeat (first | (with_reducible first | exact HB.out | apply below_alloc | apply pw_below_drewN | apply below_drew1) | exact HB.out))); (case aF => exact (fun _ _ => trivial)); (case aO => exact ((Kd.R_nil _ _ _ _ (fun _ => True)))); (case aS => exact (below_size (by repeat (first | (with_reducible first | exact HB.out | apply below_alloc | apply pw_below_drewN | apply below_drew1) | exact HB.out)))); (case aL => have := LMc2.out; omega); intro v102 w3 ho hb hg hat; rw [← Ny101.out] at ho; have n0_ := Aside0.mk (hb); have n1_ := Aside0.mk (ho); clear HB; have HB := n0_; have HO103 := n1_; clear n0_ n1_; clear ho hb hg hat))
    go_ret
    exact ⟨_, by first | rfl | (simp [errW_none, errW_some] <;> rfl) | (simp [*, errW_none, errW_some] <;> rfl), by (with_reducible repeat (first | apply Kd.R_alloc | apply Kd.R_drewN | apply Kd.R_drew)); exact HO103.out, by repeat (first | (with_reducible first | exact HB.out | apply below_alloc | apply pw_below_drewN | apply below_drew1) | exact HB.out)⟩
  · rw [if_neg c2] at H
    exact absurd H (by simp)

/-! ### vendmeterlaw_sameWords: function 28 -/
def vendmeterlaw_sameWords.l0 : Nat → List Int → List Int → Int → Option (Bool)
  | 0, _, _, _ => none
  | k + 1, x0, x1, x5 => if x5 < (x0.length : Int) then (if 0 ≤ x5 then (if x5 < (x1.length : Int) then (if (rd x0 x5) = (rd x1 x5) then (vendmeterlaw_sameWords.l0 k x0 x1 (wrap64 (x5 + 1))) else (some false)) else (none)) else (none)) else (some true)
def vendmeterlaw_sameWords.f (k : Nat) (l0 : List Int) (l1 : List Int) : Option (Bool) := if (l0.length : Int) = (l1.length : Int) then (vendmeterlaw_sameWords.l0 k l0 l1 0) else (some false)
theorem vendmeterlaw_sameWords.mono_l : ∀ k, (∀ y0 y1 y2, LeO (vendmeterlaw_sameWords.l0 k y0 y1 y2) (vendmeterlaw_sameWords.l0 (k + 1) y0 y1 y2))
  | 0 => fun _ _ _ r h => by simp [vendmeterlaw_sameWords.l0] at h
  | k + 1 => by
    have ih0 := vendmeterlaw_sameWords.mono_l k
    · intro y0 y1 y2
      unfold vendmeterlaw_sameWords.l0
      repeat' first
      | (with_reducible exact ih0 _ _ _)
      | (with_reducible exact LeO.refl _)
      | (with_reducible exact LeO.none _)
      | (with_reducible refine LeO.ite ?_ ?_)
      | (with_reducible refine LeO.bind ?_ (fun _ => ?_))
      | exact ih0 _ _ _
      | exact LeO.none _
      | refine LeO.ite ?_ ?_
      | refine LeO.bind ?_ (fun _ => ?_)
theorem vendmeterlaw_sameWords.mono : ∀ a0 a1 k, LeO (vendmeterlaw_sameWords.f k a0 a1) (vendmeterlaw_sameWords.f (k + 1) a0 a1) := by
  intro a0 a1 k
  have ih0 := vendmeterlaw_sameWords.mono_l k
  unfold vendmeterlaw_sameWords.f
  repeat' first
      | (with_reducible exact ih0 _ _ _)
      | (with_reducible exact LeO.refl _)
      | (with_reducible exact LeO.none _)
      | (with_reducible refine LeO.ite ?_ ?_)
      | (with_reducible refine LeO.bind ?_ (fun _ => ?_))
      | exact ih0 _ _ _
      | exact LeO.none _
      | refine LeO.ite ?_ ?_
      | refine LeO.bind ?_ (fun _ => ?_)
set_option maxHeartbeats 8000000 in
set_option maxRecDepth 100000 in
theorem vendmeterlaw_sameWords.calls (k : Nat) (A0 : Option Addr) (c0 : Nat) (l0 : List Int) (A1 : Option Addr) (c1 : Nat) (l1 : List Int) (r : Bool) (w : World) (hr0 : Kd.C (Kd.int .u32) w A0 l0.length l0) (hc0 : l0.length ≤ c0) (hr1 : Kd.C (Kd.int .u32) w A1 l1.length l1) (hc1 : l1.length ≤ c1) (h : vendmeterlaw_sameWords.f k l0 l1 = some r) :
    Calls Try.prog 28 #[.slice A0 l0.length c0, .slice A1 l1.length c1] w fun e w' => e = .returned (.bool r) ∧ Drawn0 w w' := by
  have HR0 := Aside0.mk hr0
  have HC0 := Aside0.mk hc0
  clear hr0 hc0
  have HR1 := Aside0.mk hr1
  have HC1 := Aside0.mk hc1
  clear hr1 hc1
  have H : (if (l0.length : Int) = (l1.length : Int) then (vendmeterlaw_sameWords.l0 k l0 l1 0) else (some false)) = some r := h
  clear h
  by_cases c3 : (l0.length : Int) = (l1.length : Int)
  · rw [if_pos c3] at H
    have c3b0 : ((l0.length : Int) == (l1.length : Int)) = true := beq_iff_eq.mpr c3
    have c3b1 : ((l0.length : Int) != (l1.length : Int)) = false := bne_eq_false_iff_eq.mpr c3
    have c3b2 : (l0.length == l1.length) = true := by first | simpa using c3 | (simp at c3 ⊢; omega)
    clear c3
    have H' := Aside0.mk H
    clear H
    go_enter Try.func28, Try.ntmps28
    go_wp2
    repeat (go_quiet (fail); try go_wp2)
    go_loopg [5] k (fun kq v5 w' => ∃ (x5_1 : Int), v5 = .int .i64 x5_1 ∧ Aside0 (vendmeterlaw_sameWords.l0 kq l0 l1 x5_1 = some r) ∧ Aside0 (kq ≤ k) ∧ Drawn0 w w')
    case atStart => exact ⟨(0), (by first | rfl | (simp; done) | (simp [*]; done)), H', ⟨Nat.le_refl _⟩, by repeat (first | exact Drawn0.refl _ | apply Drawn0.step)⟩
    case round =>
      clear H'
      try clear c1
      try clear c2
      try clear p2
      try clear c3
      try clear c3b0
      try clear c3b1
      try clear c3b2
      obtain ⟨x5_1, rfl, HA, HK1, ⟨m1, rfl⟩⟩ := hrel
      cases gk with
      | zero => exact absurd HA.out (by simp [vendmeterlaw_sameWords.l0])
      | succ k1 =>
        have H := HA.out
        clear HA
        simp only [vendmeterlaw_sameWords.l0] at H
        by_cases c4 : x5_1 < (l0.length : Int)
        · rw [if_pos c4] at H
          have c4b0 : decide (x5_1 < (l0.length : Int)) = true := decide_eq_true c4
          clear c4
          by_cases c5 : 0 ≤ x5_1
          · rw [if_pos c5] at H
            have c5b0 : decide (0 ≤ x5_1) = true := decide_eq_true c5
            clear c5
            by_cases c6 : x5_1 < (l1.length : Int)
            · rw [if_pos c6] at H
              have c6b0 : decide (x5_1 < (l1.length : Int)) = true := decide_eq_true c6
              clear c6
              by_cases c7 : (rd l0 x5_1) = (rd l1 x5_1)
              · rw [if_pos c7] at H
                have c7b0 : ((rd l0 x5_1) == (rd l1 x5_1)) = true := beq_iff_eq.mpr c7
                have c7b1 : ((rd l0 x5_1) != (rd l1 x5_1)) = false := bne_eq_false_iff_eq.mpr c7
                clear c7
                have H' := Aside0.mk H
                clear H
                have p104 : 0 ≤ (x5_1 : Int) := of_decide_eq_true (by first | (with_reducible assumption) | assumption)
                have q104 : x5_1 < (l0.length : Int) := of_decide_eq_true (by first | (with_reducible assumption) | assumption)
                obtain ⟨ad104, e104, hx104_0⟩ := Kd.at_int HR0.out x5_1 p104 q104
                cases e104
                replace p104 := eq_true p104
                replace q104 := eq_true q104
                have p105 : 0 ≤ (x5_1 : Int) := of_decide_eq_true (by first | (with_reducible assumption) | assumption)
                have q105 : x5_1 < (l1.length : Int) := of_decide_eq_true (by first | (with_reducible assumption) | assumption)
                obtain ⟨ad105, e105, hx105_0⟩ := Kd.at_int HR1.out x5_1 p105 q105
                cases e105
                replace p105 := eq_true p105
                replace q105 := eq_true q105
                go_wp2
                repeat (go_quiet (fail); try go_wp2)
                go_roundg k1
                case measure => have := HK1.out; omega
                case rel => exact ⟨(wrap64 (x5_1 + 1)), (by first | rfl | (simp; done) | (simp [*]; done)), H', ⟨by have := HK1.out; omega⟩, by repeat (first | exact Drawn0.refl _ | apply Drawn0.step)⟩
              · rw [if_neg c7] at H
                have c7b0 : ((rd l0 x5_1) == (rd l1 x5_1)) = false := beq_eq_false_iff_ne.mpr c7
                have c7b1 : ((rd l0 x5_1) != (rd l1 x5_1)) = true := bne_iff_ne.mpr c7
                obtain rfl := Option.some.inj H
                have p104 : 0 ≤ (x5_1 : Int) := of_decide_eq_true (by first | (with_reducible assumption) | assumption)
                have q104 : x5_1 < (l0.length : Int) := of_decide_eq_true (by first | (with_reducible assumption) | assumption)
                obtain ⟨ad104, e104, hx104_0⟩ := Kd.at_int HR0.out x5_1 p104 q104
                cases e104
                replace p104 := eq_true p104
                replace q104 := eq_true q104
                have p105 : 0 ≤ (x5_1 : Int) := of_decide_eq_true (by first | (with_reducible assumption) | assumption)
                have q105 : x5_1 < (l1.length : Int) := of_decide_eq_true (by first | (with_reducible assumption) | assumption)
                obtain ⟨ad105, e105, hx105_0⟩ := Kd.at_int HR1.out x5_1 p105 q105
                cases e105
                replace p105 := eq_true p105
                replace q105 := eq_true q105
                go_wp2
                repeat (go_quiet (fail); try go_wp2)
                go_ret
                exact ⟨by first | rfl | (simp; done) | (simp [*]; done), by repeat (first | exact Drawn0.refl _ | apply Drawn0.step)⟩
            · rw [if_neg c6] at H
              exact absurd H (by simp)
          · rw [if_neg c5] at H
            exact absurd H (by simp)
        · rw [if_neg c4] at H
          have c4b0 : decide (x5_1 < (l0.length : Int)) = false := decide_eq_false c4
          clear c4
          obtain rfl := Option.some.inj H
          go_wp2
          repeat (go_quiet (fail); try go_wp2)
          go_ret
          exact ⟨by first | rfl | (simp; done) | (simp [*]; done), by repeat (first | exact Drawn0.refl _ | apply Drawn0.step)⟩
  · rw [if_neg c3] at H
    have c3b0 : ((l0.length : Int) == (l1.length : Int)) = false := beq_eq_false_iff_ne.mpr c3
    have c3b1 : ((l0.length : Int) != (l1.length : Int)) = true := bne_iff_ne.mpr c3
    have c3b2 : (l0.length == l1.length) = false := by first | simpa using c3 | (simp at c3 ⊢; omega)
    obtain rfl := Option.some.inj H
    go_enter Try.func28, Try.ntmps28
    go_wp2
    repeat (go_quiet (fail); try go_wp2)
    go_ret
    exact ⟨by first | rfl | (simp; done) | (simp [*]; done), by repeat (first | exact Drawn0.refl _ | apply Drawn0.step)⟩

/-! ### vendmeterlaw_sameWrites: function 35 -/
def vendmeterlaw_sameWrites.l0 : Nat → List (S112) → List (S112) → Int → Option (Bool)
  | 0, _, _, _ => none
  | k + 1, x0, x1, x5 => if x5 < (x0.length : Int) then (if 0 ≤ x5 then (if x5 < (x1.length : Int) then (if (!(((rd_T112 x0 x5).f0) == ((rd_T112 x1 x5).f0)) || (!(((rd_T112 x0 x5).f1) == ((rd_T112 x1 x5).f1)))) = true then (some false) else (vendmeterlaw_sameWrites.l0 k x0 x1 (wrap64 (x5 + 1)))) else (none)) else (none)) else (some true)
def vendmeterlaw_sameWrites.f (k : Nat) (l0 : List (S112)) (l1 : List (S112)) : Option (Bool) := if (l0.length : Int) = (l1.length : Int) then (vendmeterlaw_sameWrites.l0 k l0 l1 0) else (some false)
theorem vendmeterlaw_sameWrites.mono_l : ∀ k, (∀ y0 y1 y2, LeO (vendmeterlaw_sameWrites.l0 k y0 y1 y2) (vendmeterlaw_sameWrites.l0 (k + 1) y0 y1 y2))
  | 0 => fun _ _ _ r h => by simp [vendmeterlaw_sameWrites.l0] at h
  | k + 1 => by
    have ih0 := vendmeterlaw_sameWrites.mono_l k
    · intro y0 y1 y2
      unfold vendmeterlaw_sameWrites.l0
      repeat' first
      | (with_reducible exact ih0 _ _ _)
      | (with_reducible exact LeO.refl _)
      | (with_reducible exact LeO.none _)
      | (with_reducible refine LeO.ite ?_ ?_)
      | (with_reducible refine LeO.bind ?_ (fun _ => ?_))
      | exact ih0 _ _ _
      | exact LeO.none _
      | refine LeO.ite ?_ ?_
      | refine LeO.bind ?_ (fun _ => ?_)
theorem vendmeterlaw_sameWrites.mono : ∀ a0 a1 k, LeO (vendmeterlaw_sameWrites.f k a0 a1) (vendmeterlaw_sameWrites.f (k + 1) a0 a1) := by
  intro a0 a1 k
  have ih0 := vendmeterlaw_sameWrites.mono_l k
  unfold vendmeterlaw_sameWrites.f
  repeat' first
      | (with_reducible exact ih0 _ _ _)
      | (with_reducible exact LeO.refl _)
      | (with_reducible exact LeO.none _)
      | (with_reducible refine LeO.ite ?_ ?_)
      | (with_reducible refine LeO.bind ?_ (fun _ => ?_))
      | exact ih0 _ _ _
      | exact LeO.none _
      | refine LeO.ite ?_ ?_
      | refine LeO.bind ?_ (fun _ => ?_)
set_option maxHeartbeats 8000000 in
set_option maxRecDepth 100000 in
theorem vendmeterlaw_sameWrites.calls (k : Nat) (A0 : Option Addr) (c0 : Nat) (l0 : List (S112)) (A1 : Option Addr) (c1 : Nat) (l1 : List (S112)) (r : Bool) (w : World) (hr0 : Kd.C k112 w A0 l0.length l0) (hc0 : l0.length ≤ c0) (hr1 : Kd.C k112 w A1 l1.length l1) (hc1 : l1.length ≤ c1) (h : vendmeterlaw_sameWrites.f k l0 l1 = some r) :
    Calls Try.prog 35 #[.slice A0 l0.length c0, .slice A1 l1.length c1] w fun e w' => e = .returned (.bool r) ∧ Drawn0 w w' := by
  have hu112 := Try.underlying112
  have HR0 := Aside0.mk hr0
  have HC0 := Aside0.mk hc0
  clear hr0 hc0
  have HR1 := Aside0.mk hr1
  have HC1 := Aside0.mk hc1
  clear hr1 hc1
  have H : (if (l0.length : Int) = (l1.length : Int) then (vendmeterlaw_sameWrites.l0 k l0 l1 0) else (some false)) = some r := h
  clear h
  by_cases c3 : (l0.length : Int) = (l1.length : Int)
  · rw [if_pos c3] at H
    have c3b0 : ((l0.length : Int) == (l1.length : Int)) = true := beq_iff_eq.mpr c3
    have c3b1 : ((l0.length : Int) != (l1.length : Int)) = false := bne_eq_false_iff_eq.mpr c3
    have c3b2 : (l0.length == l1.length) = true := by first | simpa using c3 | (simp at c3 ⊢; omega)
    clear c3
    have H' := Aside0.mk H
    clear H
    go_enter Try.func35, Try.ntmps35
    go_wp2
    repeat (go_quiet (fail); try go_wp2)
    go_loopg [5] k (fun kq v5 w' => ∃ (x5_1 : Int), v5 = .int .i64 x5_1 ∧ Aside0 (vendmeterlaw_sameWrites.l0 kq l0 l1 x5_1 = some r) ∧ Aside0 (kq ≤ k) ∧ Drawn0 w w')
    case atStart => exact ⟨(0), (by first | rfl | (simp; done) | (simp [*]; done)), H', ⟨Nat.le_refl _⟩, by repeat (first | exact Drawn0.refl _ | apply Drawn0.step)⟩
    case round =>
      clear H'
      try clear c1
      try clear p2
      try clear c3
      try clear c3b0
      try clear c3b1
      try clear c3b2
      obtain ⟨x5_1, rfl, HA, HK1, ⟨m1, rfl⟩⟩ := hrel
      cases gk with
      | zero => exact absurd HA.out (by simp [vendmeterlaw_sameWrites.l0])
      | succ k1 =>
        have H := HA.out
        clear HA
        simp only [vendmeterlaw_sameWrites.l0] at H
        by_cases c4 : x5_1 < (l0.length : Int)
        · rw [if_pos c4] at H
          have c4b0 : decide (x5_1 < (l0.length : Int)) = true := decide_eq_true c4
          clear c4
          by_cases c5 : 0 ≤ x5_1
          · rw [if_pos c5] at H
            have c5b0 : decide (0 ≤ x5_1) = true := decide_eq_true c5
            clear c5
            by_cases c6 : x5_1 < (l1.length : Int)
            · rw [if_pos c6] at H
              have c6b0 : decide (x5_1 < (l1.length : Int)) = true := decide_eq_true c6
              clear c6
              by_cases c7 : (!(((rd_T112 l0 x5_1).f0) == ((rd_T112 l1 x5_1).f0)) || (!(((rd_T112 l0 x5_1).f1) == ((rd_T112 l1 x5_1).f1)))) = true
              · rw [if_pos c7] at H
                have c7b0 : (!(((rd_T112 l0 x5_1).f0) == ((rd_T112 l1 x5_1).f0)) || (!(((rd_T112 l0 x5_1).f1) == ((rd_T112 l1 x5_1).f1)))) = true := c7
                clear c7
                obtain rfl := Option.some.inj H
                have p106 : 0 ≤ (x5_1 : Int) := of_decide_eq_true (by first | (with_reducible assumption) | assumption)
                have q106 : x5_1 < (l0.length : Int) := of_decide_eq_true (by first | (with_reducible assumption) | assumption)
                obtain ⟨ad106, e106, hx106_0, hx106_1⟩ := at_T112 HR0.out x5_1 p106 q106
                cases e106
                replace p106 := eq_true p106
                replace q106 := eq_true q106
                have p107 : 0 ≤ (x5_1 : Int) := of_decide_eq_true (by first | (with_reducible assumption) | assumption)
                have q107 : x5_1 < (l1.length : Int) := of_decide_eq_true (by first | (with_reducible assumption) | assumption)
                obtain ⟨ad107, e107, hx107_0, hx107_1⟩ := at_T112 HR1.out x5_1 p107 q107
                cases e107
                replace p107 := eq_true p107
                replace q107 := eq_true q107
                go_wp2
                repeat (go_quiet (fail); try go_wp2)
                go_ret
                exact ⟨by first | rfl | (simp; done) | (simp [*]; done), by repeat (first | exact Drawn0.refl _ | apply Drawn0.step)⟩
              · rw [if_neg c7] at H
                have c7b0 : (!(((rd_T112 l0 x5_1).f0) == ((rd_T112 l1 x5_1).f0)) || (!(((rd_T112 l0 x5_1).f1) == ((rd_T112 l1 x5_1).f1)))) = false := by simpa using c7
                clear c7
                have H' := Aside0.mk H
                clear H
                have p106 : 0 ≤ (x5_1 : Int) := of_decide_eq_true (by first | (with_reducible assumption) | assumption)
                have q106 : x5_1 < (l0.length : Int) := of_decide_eq_true (by first | (with_reducible assumption) | assumption)
                obtain ⟨ad106, e106, hx106_0, hx106_1⟩ := at_T112 HR0.out x5_1 p106 q106
                cases e106
                replace p106 := eq_true p106
                replace q106 := eq_true q106
                have p107 : 0 ≤ (x5_1 : Int) := of_decide_eq_true (by first | (with_reducible assumption) | assumption)
                have q107 : x5_1 < (l1.length : Int) := of_decide_eq_true (by first | (with_reducible assumption) | assumption)
                obtain ⟨ad107, e107, hx107_0, hx107_1⟩ := at_T112 HR1.out x5_1 p107 q107
                cases e107
                replace p107 := eq_true p107
                replace q107 := eq_true q107
                go_wp2
                repeat (go_quiet (fail); try go_wp2)
                go_roundg k1
                case measure => have := HK1.out; omega
                case rel => exact ⟨(wrap64 (x5_1 + 1)), (by first | rfl | (simp; done) | (simp [*]; done)), H', ⟨by have := HK1.out; omega⟩, by repeat (first | exact Drawn0.refl _ | apply Drawn0.step)⟩
            · rw [if_neg c6] at H
              exact absurd H (by simp)
          · rw [if_neg c5] at H
            exact absurd H (by simp)
        · rw [if_neg c4] at H
          have c4b0 : decide (x5_1 < (l0.length : Int)) = false := decide_eq_false c4
          clear c4
          obtain rfl := Option.some.inj H
          go_wp2
          repeat (go_quiet (fail); try go_wp2)
          go_ret
          exact ⟨by first | rfl | (simp; done) | (simp [*]; done), by repeat (first | exact Drawn0.refl _ | apply Drawn0.step)⟩
  · rw [if_neg c3] at H
    have c3b0 : ((l0.length : Int) == (l1.length : Int)) = false := beq_eq_false_iff_ne.mpr c3
    have c3b1 : ((l0.length : Int) != (l1.length : Int)) = true := bne_iff_ne.mpr c3
    have c3b2 : (l0.length == l1.length) = false := by first | simpa using c3 | (simp at c3 ⊢; omega)
    obtain rfl := Option.some.inj H
    go_enter Try.func35, Try.ntmps35
    go_wp2
    repeat (go_quiet (fail); try go_wp2)
    go_ret
    exact ⟨by first | rfl | (simp; done) | (simp [*]; done), by repeat (first | exact Drawn0.refl _ | apply Drawn0.step)⟩

-- NOT PRINTED: function 74 (disk_tape_walk)

/-! ### disk_Append -/
def tape_walk.l0 : Nat → List Int → Int → Option (Int × Int)
  | 0, _, _ => none
  | k + 1, l, a => if a < (l.length : Int) then (if rd l a = 0 then some (a, 0) else (if 0 ≤ rd l a then (if rd l a > 64 then some (0, 3) else (if rd l a ≥ (l.length : Int) - a then some (0, 3) else tape_walk.l0 k l (a + 1 + rd l a))) else none)) else some (a, 0)
def tape_walk.f (k : Nat) (l : List Int) : Option (Int × Int) := if 1 ≤ l.length ∧ l.length ≤ 2048 then tape_walk.l0 k l 0 else some (0, 1)
theorem tape_walk.mono_l : ∀ k l a, LeO (tape_walk.l0 k l a) (tape_walk.l0 (k + 1) l a)
  | 0, _, _ => by intro r h; simp [tape_walk.l0] at h
  | k + 1, l, a => by
    have ih := tape_walk.mono_l k
    unfold tape_walk.l0
    repeat' first
      | (with_reducible exact ih _ _)
      | (with_reducible exact LeO.refl _)
      | (with_reducible refine LeO.ite ?_ ?_)
theorem tape_walk.mono : ∀ a0 k, LeO (tape_walk.f k a0) (tape_walk.f (k + 1) a0) := by
  intro a0 k
  unfold tape_walk.f
  exact LeO.ite (tape_walk.mono_l _ _ _) (LeO.refl _)
theorem tape_walk.wr (n : Int) (h : -9223372036854775808 ≤ n ∧ n ≤ 9223372036854775807) : wrap64 n = n := by unfold wrap64; omega
theorem tape_walk.word {w : World} {A : Option Addr} {n : Nat} {xs : List Int} (h : Kd.C (Kd.int .u32) w A n xs) (i : Nat) (h1 : i < n) : ∃ ad, A = some ad ∧ w.cell? (ad.add i) = some (.int .u32 (rd xs (i : Int))) := by
  obtain ⟨ad, c, e, hl, hK, hc⟩ := Kd.C_get h 0 (i : Int) (by omega) (by omega)
  obtain rfl : c = [.int .u32 (xs.getD (i : Int).toNat 0)] := hK
  have := hc 0 _ rfl
  simp only [show (Kd.int IntKind.u32).sz = 1 from rfl, Int.toNat_natCast, Nat.mul_one, Nat.add_zero] at this
  exact ⟨ad, e, this⟩
theorem tape_walk.nop (v : Value) (w : World) : Calls Try.prog 77 #[v] w fun e w' => e = .returned (.tuple #[]) ∧ w' = w := by
  go_enter Try.func77, Try.ntmps77
  go_wp2
  exact ⟨rfl, .tuple #[], by simp [results, Try.results77, go_sem], rfl, rfl⟩
set_option maxHeartbeats 4000000 in
set_option maxRecDepth 100000 in
theorem tape_walk.calls (k : Nat) (A0 : Option Addr) (c0 : Nat) (l0 : List Int) (r1 r2 : Int) (w : World) (hr0 : Kd.C (Kd.int .u32) w A0 l0.length l0) (hc0 : l0.length ≤ c0) (h : tape_walk.f k l0 = some (r1, r2)) :
    Calls Try.prog 74 #[.slice A0 l0.length c0, .func (.func 77) #[] #[]] w fun e w' => e = .returned (.tuple #[.int .i64 r1, .int .i64 r2]) ∧ Below w.heap.size w w' := by
  have HO0 := Aside0.mk hr0
  have HC0 := Aside0.mk hc0
  clear hr0 hc0
  unfold tape_walk.f at h
  by_cases h1 : 1 ≤ l0.length ∧ l0.length ≤ 2048
  · rw [if_pos h1] at h
    have H := Aside0.mk h
    have q1 : decide ((l0.length : Int) < 1) = false := decide_eq_false (by omega)
    have q2 : decide ((l0.length : Int) > 2048) = false := decide_eq_false (by omega)
    have HL := Aside0.mk h1
    clear h h1
    go_enter Try.func74, Try.ntmps74
    go_wp2
    go_loopg [6] k (fun kq v6 w' => ∃ a : Nat, v6 = .int .i64 (a : Int) ∧ a ≤ l0.length ∧ Aside0 (tape_walk.l0 kq l0 (a : Int) = some (r1, r2)) ∧ Aside0 (Below w.heap.size w w'))
    case atStart => exact ⟨0, rfl, by omega, H, ⟨Below.refl _ _⟩⟩
    case round =>
      obtain ⟨a, rfl, hle, HA, HBW⟩ := hrel
      clear H
      cases gk with
      | zero => exact absurd HA.out (by simp [tape_walk.l0])
      | succ k2 =>
        have H := HA.out
        clear HA
        simp only [tape_walk.l0] at H
        by_cases hlt : a < l0.length
        · rw [if_pos (by omega)] at H
          have hltb : decide ((a : Int) < (l0.length : Int)) = true := decide_eq_true (by omega)
          obtain ⟨ad, rfl, y0⟩ := tape_walk.word (Kd.C_below HO0.out HBW.out) a hlt
          obtain ⟨x, hx⟩ : ∃ x, x = rd l0 (a : Int) := ⟨_, rfl⟩
          rw [← hx] at y0 H
          clear hx
          by_cases h0 : x = 0
          · rw [if_pos h0] at H
            obtain ⟨rfl, rfl⟩ := Prod.mk.inj (Option.some.inj H)
            subst h0
            clear H
            go_wp2
            go_ret2
            exact ⟨rfl, HBW.out⟩
          · rw [if_neg h0] at H
            have q3 : (x != 0) = true := bne_iff_ne.mpr h0
            by_cases hx0 : 0 ≤ x
            · rw [if_pos hx0] at H
              by_cases h64 : x > 64
              · rw [if_pos h64] at H
                obtain ⟨rfl, rfl⟩ := Prod.mk.inj (Option.some.inj H)
                have q4 := decide_eq_true h64
                clear H
                go_wp2
                go_ret2
                exact ⟨rfl, HBW.out⟩
              · rw [if_neg h64] at H
                have q4 := decide_eq_false h64
                have hxw : wrap64 x = x := tape_walk.wr x (by omega)
                have hsub : wrap64 ((l0.length : Int) - (a : Int)) = (l0.length : Int) - (a : Int) := tape_walk.wr _ (by have := HL.out; omega)
                by_cases hge : x ≥ (l0.length : Int) - (a : Int)
                · rw [if_pos hge] at H
                  obtain ⟨rfl, rfl⟩ := Prod.mk.inj (Option.some.inj H)
                  have q5 := decide_eq_true hge
                  clear H
                  go_wp2
                  go_ret2
                  exact ⟨rfl, HBW.out⟩
                · rw [if_neg hge] at H
                  obtain ⟨m, rfl⟩ := Int.eq_ofNat_of_zero_le hx0
                  have q5 := decide_eq_false hge
                  have HN : Aside0 (a + 1 + m ≤ l0.length) := ⟨by omega⟩
                  have HM : Aside0 (m ≤ 64 ∧ a < l0.length) := ⟨by omega⟩
                  have e1 : wrap64 ((a : Int) + 1) = (a : Int) + 1 := tape_walk.wr _ (by have := HL.out; omega)
                  have e2 : wrap64 ((a : Int) + 1 + (m : Int)) = (a : Int) + 1 + (m : Int) := tape_walk.wr _ (by have := HL.out; omega)
                  have H' := Aside0.mk H
                  have hsl : ∀ W, (Instr.slice 116 (.slice (some ad) l0.length c0) (some (.int .i64 ((a : Int) + 1))) (some (.int .i64 ((a : Int) + 1 + (m : Int)))) (some (.int .i64 ((a : Int) + 1 + (m : Int))))).run Try.prog W = .ok (sliced (some ad) (a + 1) (a + 1 + m) (a + 1 + m) 1) W := fun W => by
                    rw [run_slice_lhm W 116 (some ad) l0.length c0 Try.underlying116 .i64 .i64 .i64 ((a : Int) + 1) ((a : Int) + 1 + (m : Int)) ((a : Int) + 1 + (m : Int)) (by omega) (by omega) (by omega) (by have := HC0.out; omega)]
                    rw [show ((a : Int) + 1).toNat = a + 1 by omega, show ((a : Int) + 1 + (m : Int)).toNat = a + 1 + m by omega]
                    simp [go_sem, sliced, Result.andThen]
                  clear H
                  go_wp2_with (go_at_call 77; refine (tape_walk.nop _ _).mono ?_; rintro e w1 ⟨rfl, rfl⟩)
                  go_roundg k2
                  case measure => exact Nat.lt_succ_self _
                  case rel => exact ⟨a + 1 + m, by simp, HN.out, ⟨by rw [show ((a + 1 + m : Nat) : Int) = (a : Int) + 1 + (m : Int) by omega]; exact H'.out⟩, HBW⟩
            · rw [if_neg hx0] at H; cases H
        · rw [if_neg (by omega)] at H
          have hltb : decide ((a : Int) < (l0.length : Int)) = false := decide_eq_false (by omega)
          obtain ⟨rfl, rfl⟩ := Prod.mk.inj (Option.some.inj H)
          clear H
          go_wp2
          go_ret2
          exact ⟨rfl, HBW.out⟩
  · rw [if_neg h1] at h
    obtain ⟨rfl, rfl⟩ := Prod.mk.inj (Option.some.inj h)
    clear h
    by_cases h2 : (l0.length : Int) < 1
    · have q1 := decide_eq_true h2
      go_enter Try.func74, Try.ntmps74
      go_wp2
      go_ret2
      exact ⟨rfl, Below.refl _ _⟩
    · have q1 := decide_eq_false h2
      have q2 : decide ((l0.length : Int) > 2048) = true := decide_eq_true (by omega)
      go_enter Try.func74, Try.ntmps74
      go_wp2
      go_ret2
      exact ⟨rfl, Below.refl _ _⟩
def disk_Append.ws : Int → List Int → List S112
  | _, [] => []
  | a, x :: l => ⟨a, x⟩ :: disk_Append.ws (a + 1) l
theorem disk_Append.ws_len : ∀ (a : Int) (l : List Int), (disk_Append.ws a l).length = l.length
  | _, [] => rfl
  | a, x :: l => by simp [disk_Append.ws, disk_Append.ws_len (a + 1) l]
theorem disk_Append.ws_take : ∀ (a : Int) (l : List Int) (i : Nat), i < l.length → (disk_Append.ws a l).take (i + 1) = (disk_Append.ws a l).take i ++ [⟨a + (i : Int), rd l (i : Int)⟩]
  | _, [], i, h => by simp at h
  | a, x :: l, 0, _ => by simp [disk_Append.ws, rd]
  | a, x :: l, i + 1, h => by
    have ih := disk_Append.ws_take (a + 1) l i (by simp at h; omega)
    have e : rd (x :: l) ((i + 1 : Nat) : Int) = rd l (i : Int) := by unfold rd; simp
    rw [disk_Append.ws, List.take_succ_cons, ih, List.take_succ_cons, e, show a + 1 + (i : Int) = a + ((i + 1 : Nat) : Int) by omega]
    rfl
def disk_Append.f (k : Nat) (l0 l1 : List Int) : Option (List S112 × Int) :=
  if 1 ≤ l1.length ∧ l1.length ≤ 64 then (tape_walk.f k l0).bind fun p => (if p.2 = 0 then (if (0 ≤ p.1 ∧ p.1 ≤ (l0.length : Int)) ∧ l0.length ≤ 2048 then (if p.1 + 1 + (l1.length : Int) > (l0.length : Int) then some ([], 16) else (if p.1 + 1 + (l1.length : Int) < (l0.length : Int) then some (disk_Append.ws (p.1 + 1) l1 ++ [⟨p.1 + 1 + (l1.length : Int), 0⟩] ++ [⟨p.1, (l1.length : Int)⟩], 0) else some (disk_Append.ws (p.1 + 1) l1 ++ [⟨p.1, (l1.length : Int)⟩], 0))) else none) else some ([], p.2)) else some ([], 1)
theorem disk_Append.mono : ∀ a0 a1 k, LeO (disk_Append.f k a0 a1) (disk_Append.f (k + 1) a0 a1) := by
  intro a0 a1 k
  unfold disk_Append.f
  exact LeO.ite (LeO.bind (tape_walk.mono _ _) (fun _ => LeO.refl _)) (LeO.refl _)
set_option maxHeartbeats 8000000 in
set_option maxRecDepth 100000 in
theorem disk_Append.calls (k : Nat) (A0 : Option Addr) (c0 : Nat) (l0 : List Int) (A1 : Option Addr) (c1 : Nat) (l1 : List Int) (r1 : List S112) (r2 : Int) (w : World) (hr0 : Kd.C (Kd.int .u32) w A0 l0.length l0) (hc0 : l0.length ≤ c0) (hr1 : Kd.C (Kd.int .u32) w A1 l1.length l1) (hc1 : l1.length ≤ c1) (h : disk_Append.f k l0 l1 = some (r1, r2)) :
    Calls Try.prog 42 #[.slice A0 l0.length c0, .slice A1 l1.length c1] w fun e w' => ∃ v0_ : Value, e = .returned (.tuple #[v0_, .int .i64 r2]) ∧ Kd.R k112 112 w' w.heap.size (fun _ => True) v0_ r1 ∧ Below w.heap.size w w' := by
  have hu112 := Try.underlying112
  have HO0 := Aside0.mk hr0
  have HC0 := Aside0.mk hc0
  have HO1 := Aside0.mk hr1
  clear hr0 hr1 hc0 hc1
  unfold disk_Append.f at h
  by_cases h1 : 1 ≤ l1.length ∧ l1.length ≤ 64
  · rw [if_pos h1] at h
    have HL1 := Aside0.mk h1
    have q1 : decide ((l1.length : Int) < 1) = false := decide_eq_false (by omega)
    have q2 : decide ((l1.length : Int) > 64) = false := decide_eq_false (by omega)
    clear h1
    obtain ⟨⟨a0, e0⟩, hw, h⟩ := Option.bind_eq_some_iff.mp h
    have HW := Aside0.mk hw
    clear hw
    by_cases h2 : e0 = 0
    · subst h2
      rw [if_pos rfl] at h
      by_cases h3 : (0 ≤ a0 ∧ a0 ≤ (l0.length : Int)) ∧ l0.length ≤ 2048
      · rw [if_pos h3] at h
        obtain ⟨a, rfl⟩ := Int.eq_ofNat_of_zero_le h3.1.1
        have HA : Aside0 (a ≤ l0.length ∧ l0.length ≤ 2048) := ⟨by omega⟩
        have e1 : wrap64 ((a : Int) + 1) = (a : Int) + 1 := tape_walk.wr _ (by omega)
        have e2 : ∀ i : Nat, i ≤ 64 → wrap64 ((a : Int) + 1 + (i : Int)) = (a : Int) + 1 + (i : Int) := fun i hi => tape_walk.wr _ (by omega)
        have e3 := e2 l1.length HL1.out.2
        have E2 := Aside0.mk e2
        clear h3 e2
        by_cases h4 : (a : Int) + 1 + (l1.length : Int) > (l0.length : Int)
        · rw [if_pos h4] at h
          obtain ⟨rfl, rfl⟩ := Prod.mk.inj (Option.some.inj h)
          have q4 := decide_eq_true h4
          have q4b : decide ((l0.length : Int) < (a : Int) + 1 + (l1.length : Int)) = true := decide_eq_true h4
          clear h4 h
          go_enter Try.func42, Try.ntmps42
          go_wp2_with (go_at_call 74; refine (tape_walk.calls k _ _ l0 _ _ _ HO0.out HC0.out HW.out).mono ?_; rintro e w1 ⟨rfl, hb1⟩; have HB1 := Aside0.mk hb1; clear hb1)
          go_ret2
          exact ⟨_, rfl, Kd.R_nil _ _ _ _ _, HB1.out⟩
        · rw [if_neg h4] at h
          have q4 := decide_eq_false h4
          have hcv : ((l1.length : Int)) % 4294967296 = (l1.length : Int) := by have := HL1.out; omega
          by_cases h5 : (a : Int) + 1 + (l1.length : Int) < (l0.length : Int)
          · rw [if_pos h5] at h
            obtain ⟨hr1, rfl⟩ := Prod.mk.inj (Option.some.inj h)
            have HR := Aside0.mk hr1
            have q5 := decide_eq_true h5
            clear h4 h5 h hr1
            go_enter Try.func42, Try.ntmps42
            go_wp2_with (go_at_call 74; refine (tape_walk.calls k _ _ l0 _ _ _ HO0.out HC0.out HW.out).mono ?_; rintro e w1 ⟨rfl, hb1⟩; have HB1 := Aside0.mk hb1; clear hb1)
            simp only [e1, e3]
            go_loopg [9, 39] l1.length (fun kq v9 v39 w' => ∃ i : Nat, v39 = .int .i64 (i : Int) ∧ i ≤ l1.length ∧ kq = l1.length - i ∧ Aside0 (Kd.R k112 112 w' w.heap.size (fun _ => True) v9 ((disk_Append.ws ((a : Int) + 1) l1).take i)) ∧ Aside0 (Below w.heap.size w w'))
            case atStart => exact ⟨0, rfl, by omega, rfl, ⟨Kd.R_nil _ _ _ _ _⟩, HB1⟩
            case round =>
              obtain ⟨i, rfl, hi, rfl, HRW, HBW⟩ := hrel
              by_cases hlt : i < l1.length
              · have hltb : decide ((i : Int) < (l1.length : Int)) = true := decide_eq_true (by omega)
                have HLT := Aside0.mk hlt
                obtain ⟨ad, rfl, y0⟩ := tape_walk.word (Kd.C_below HO1.out HBW.out) i hlt
                have e4 := E2.out i (by have := HL1.out; omega)
                go_wp2_with (((with_reducible refine gate_builtin (b := .append) (xs := #[.tmp 44, .tmp 51]) rfl ?_); at_builtin; refine Kd.R_append k112 (w0 := w) w.heap.size rfl (.tmp 44) (.tmp 51) 51 112 (.agg #[(.int .i64 0), (.int .u32 0)]) 16 rfl Try.underlying51 info112 rfl (by decide) (by omega) _ ((disk_Append.ws ((a : Int) + 1) l1).take i) ⟨(a : Int) + 1 + (i : Int), rd l1 (i : Int)⟩ [.int .i64 ((a : Int) + 1 + (i : Int)), .int .u32 (rd l1 (i : Int))] (fun _ => True) (fun _ => False) rfl rfl (k112_mkM _ _ _ ⟨_, _⟩) (fun _ h => h.elim) (fun _ _ => trivial) HRW.out HBW.out HBW.out.size ?aL ?_; (case aL => (have := HL1.out; simp [disk_Append.ws_len]; omega)); intro v2 w2 ho hb hg hat; have HR2 := Aside0.mk ho; have HB2 := Aside0.mk hb; clear ho hb hg hat))
                go_roundg (l1.length - (i + 1))
                case measure => omega
                case rel => exact ⟨i + 1, by first | rfl | simp, HLT.out, rfl, ⟨by rw [disk_Append.ws_take _ _ _ HLT.out]; exact HR2.out⟩, HB2⟩
              · have hltb : decide ((i : Int) < (l1.length : Int)) = false := decide_eq_false (by omega)
                have hik : i = l1.length := by omega
                subst hik
                have HRX := Aside0.mk (show Kd.R k112 112 wr w.heap.size (fun _ => True) u9 (disk_Append.ws ((a : Int) + 1) l1) from by have := HRW.out; rwa [List.take_of_length_le (by rw [disk_Append.ws_len]; exact Nat.le_refl _)] at this)
                go_wp2_with (first | ((with_reducible refine gate_builtin (b := .append) (xs := #[.tmp 58, .tmp 61]) rfl ?_); at_builtin; refine Kd.R_append k112 (w0 := w) w.heap.size rfl (.tmp 58) (.tmp 61) 51 112 (.agg #[(.int .i64 0), (.int .u32 0)]) 16 rfl Try.underlying51 info112 rfl (by decide) (by omega) u9 (disk_Append.ws ((a : Int) + 1) l1) ⟨(a : Int) + 1 + (l1.length : Int), 0⟩ [.int .i64 ((a : Int) + 1 + (l1.length : Int)), .int .u32 (0)] (fun _ => True) (fun _ => False) rfl rfl (k112_mkM _ _ _ ⟨_, _⟩) (fun _ h => h.elim) (fun _ _ => trivial) HRX.out HBW.out HBW.out.size ?aL ?_; (case aL => (have := HL1.out; simp [disk_Append.ws_len]; omega)); intro v3 w3 ho hb hg hat; have HR3 := Aside0.mk ho; have HB3 := Aside0.mk hb; clear ho hb hg hat) | ((with_reducible refine gate_builtin (b := .append) (xs := #[.tmp 63, .tmp 69]) rfl ?_); at_builtin; refine Kd.R_append k112 (w0 := w) w.heap.size rfl (.tmp 63) (.tmp 69) 51 112 (.agg #[(.int .i64 0), (.int .u32 0)]) 16 rfl Try.underlying51 info112 rfl (by decide) (by omega) v3 (disk_Append.ws ((a : Int) + 1) l1 ++ [⟨(a : Int) + 1 + (l1.length : Int), 0⟩]) ⟨(a : Int), (l1.length : Int)⟩ [.int .i64 ((a : Int)), .int .u32 ((l1.length : Int))] (fun _ => True) (fun _ => False) rfl rfl (k112_mkM _ _ _ ⟨_, _⟩) (fun _ h => h.elim) (fun _ _ => trivial) HR3.out HB3.out HB3.out.size ?aL ?_; (case aL => (have := HL1.out; simp [disk_Append.ws_len]; omega)); intro v4 w4 ho hb hg hat; have HR4 := Aside0.mk ho; have HB4 := Aside0.mk hb; clear ho hb hg hat))
                go_ret2
                exact ⟨_, rfl, by rw [← HR.out]; exact HR4.out, HB4.out⟩
          · rw [if_neg h5] at h
            obtain ⟨hr1, rfl⟩ := Prod.mk.inj (Option.some.inj h)
            have HR := Aside0.mk hr1
            have q5 := decide_eq_false h5
            clear h4 h5 h hr1
            go_enter Try.func42, Try.ntmps42
            go_wp2_with (go_at_call 74; refine (tape_walk.calls k _ _ l0 _ _ _ HO0.out HC0.out HW.out).mono ?_; rintro e w1 ⟨rfl, hb1⟩; have HB1 := Aside0.mk hb1; clear hb1)
            simp only [e1, e3]
            go_loopg [9, 39] l1.length (fun kq v9 v39 w' => ∃ i : Nat, v39 = .int .i64 (i : Int) ∧ i ≤ l1.length ∧ kq = l1.length - i ∧ Aside0 (Kd.R k112 112 w' w.heap.size (fun _ => True) v9 ((disk_Append.ws ((a : Int) + 1) l1).take i)) ∧ Aside0 (Below w.heap.size w w'))
            case atStart => exact ⟨0, rfl, by omega, rfl, ⟨Kd.R_nil _ _ _ _ _⟩, HB1⟩
            case round =>
              obtain ⟨i, rfl, hi, rfl, HRW, HBW⟩ := hrel
              by_cases hlt : i < l1.length
              · have hltb : decide ((i : Int) < (l1.length : Int)) = true := decide_eq_true (by omega)
                have HLT := Aside0.mk hlt
                obtain ⟨ad, rfl, y0⟩ := tape_walk.word (Kd.C_below HO1.out HBW.out) i hlt
                have e4 := E2.out i (by have := HL1.out; omega)
                go_wp2_with (((with_reducible refine gate_builtin (b := .append) (xs := #[.tmp 44, .tmp 51]) rfl ?_); at_builtin; refine Kd.R_append k112 (w0 := w) w.heap.size rfl (.tmp 44) (.tmp 51) 51 112 (.agg #[(.int .i64 0), (.int .u32 0)]) 16 rfl Try.underlying51 info112 rfl (by decide) (by omega) _ ((disk_Append.ws ((a : Int) + 1) l1).take i) ⟨(a : Int) + 1 + (i : Int), rd l1 (i : Int)⟩ [.int .i64 ((a : Int) + 1 + (i : Int)), .int .u32 (rd l1 (i : Int))] (fun _ => True) (fun _ => False) rfl rfl (k112_mkM _ _ _ ⟨_, _⟩) (fun _ h => h.elim) (fun _ _ => trivial) HRW.out HBW.out HBW.out.size ?aL ?_; (case aL => (have := HL1.out; simp [disk_Append.ws_len]; omega)); intro v2 w2 ho hb hg hat; have HR2 := Aside0.mk ho; have HB2 := Aside0.mk hb; clear ho hb hg hat))
                go_roundg (l1.length - (i + 1))
                case measure => omega
                case rel => exact ⟨i + 1, by first | rfl | simp, HLT.out, rfl, ⟨by rw [disk_Append.ws_take _ _ _ HLT.out]; exact HR2.out⟩, HB2⟩
              · have hltb : decide ((i : Int) < (l1.length : Int)) = false := decide_eq_false (by omega)
                have hik : i = l1.length := by omega
                subst hik
                have HRX := Aside0.mk (show Kd.R k112 112 wr w.heap.size (fun _ => True) u9 (disk_Append.ws ((a : Int) + 1) l1) from by have := HRW.out; rwa [List.take_of_length_le (by rw [disk_Append.ws_len]; exact Nat.le_refl _)] at this)
                go_wp2_with (((with_reducible refine gate_builtin (b := .append) (xs := #[.tmp 63, .tmp 69]) rfl ?_); at_builtin; refine Kd.R_append k112 (w0 := w) w.heap.size rfl (.tmp 63) (.tmp 69) 51 112 (.agg #[(.int .i64 0), (.int .u32 0)]) 16 rfl Try.underlying51 info112 rfl (by decide) (by omega) u9 (disk_Append.ws ((a : Int) + 1) l1) ⟨(a : Int), (l1.length : Int)⟩ [.int .i64 ((a : Int)), .int .u32 ((l1.length : Int))] (fun _ => True) (fun _ => False) rfl rfl (k112_mkM _ _ _ ⟨_, _⟩) (fun _ h => h.elim) (fun _ _ => trivial) HRX.out HBW.out HBW.out.size ?aL ?_; (case aL => (have := HL1.out; simp [disk_Append.ws_len]; omega)); intro v4 w4 ho hb hg hat; have HR4 := Aside0.mk ho; have HB4 := Aside0.mk hb; clear ho hb hg hat))
                go_ret2
                exact ⟨_, rfl, by rw [← HR.out]; exact HR4.out, HB4.out⟩
      · rw [if_neg h3] at h; cases h
    · rw [if_neg h2] at h
      obtain ⟨rfl, rfl⟩ := Prod.mk.inj (Option.some.inj h)
      have q3 : (e0 != 0) = true := bne_iff_ne.mpr h2
      go_enter Try.func42, Try.ntmps42
      go_wp2_with (go_at_call 74; refine (tape_walk.calls k _ _ l0 _ _ _ HO0.out HC0.out HW.out).mono ?_; rintro e w1 ⟨rfl, hb1⟩; have HB1 := Aside0.mk hb1; clear hb1)
      go_ret2
      exact ⟨_, rfl, Kd.R_nil _ _ _ _ _, HB1.out⟩
  · rw [if_neg h1] at h
    obtain ⟨rfl, rfl⟩ := Prod.mk.inj (Option.some.inj h)
    by_cases h2 : (l1.length : Int) < 1
    · have q1 := decide_eq_true h2
      clear h1 h2 h
      go_enter Try.func42, Try.ntmps42
      go_wp2
      go_ret2
      exact ⟨_, rfl, Kd.R_nil _ _ _ _ _, Below.refl _ _⟩
    · have q1 := decide_eq_false h2
      have q2 : decide ((l1.length : Int) > 64) = true := decide_eq_true (by omega)
      clear h1 h2 h
      go_enter Try.func42, Try.ntmps42
      go_wp2
      go_ret2
      exact ⟨_, rfl, Kd.R_nil _ _ _ _ _, Below.refl _ _⟩

/-! ### vendmeterref_In: function 63 -/
def vendmeterref_In.f (a0 : Int) (a1 : Int) (a2 : Int) : Option (Bool) := if a0 ≥ a1 then (some (decide (a0 ≤ a2))) else (some false)
set_option maxHeartbeats 8000000 in
set_option maxRecDepth 100000 in
theorem vendmeterref_In.calls (a0 : Int) (a1 : Int) (a2 : Int) (r : Bool) (w : World) (h : vendmeterref_In.f a0 a1 a2 = some r) :
    Calls Try.prog 63 #[.int .i64 a0, .int .i64 a1, .int .i64 a2] w fun e w' => e = .returned (.bool r) ∧ Drawn0 w w' := by
  have H : (if a0 ≥ a1 then (some (decide (a0 ≤ a2))) else (some false)) = some r := h
  clear h
  by_cases c4 : a0 ≥ a1
  · rw [if_pos c4] at H
    have c4b0 : decide (a1 ≤ a0) = true := decide_eq_true c4
    clear c4
    obtain rfl := Option.some.inj H
    go_enter Try.func63, Try.ntmps63
    go_wp2
    go_ret
    exact ⟨by first | rfl | (simp; done) | (simp [*]; done), by repeat (first | exact Drawn0.refl _ | apply Drawn0.step)⟩
  · rw [if_neg c4] at H
    have c4b0 : decide (a1 ≤ a0) = false := decide_eq_false c4
    clear c4
    obtain rfl := Option.some.inj H
    go_enter Try.func63, Try.ntmps63
    go_wp2
    go_ret
    exact ⟨by first | rfl | (simp; done) | (simp [*]; done), by repeat (first | exact Drawn0.refl _ | apply Drawn0.step)⟩

/-! ### vendmeterref_lengthAt: function 76 -/
def vendmeterref_lengthAt.j0 : Nat → List Int → Int → Bool → Option (Int)
  | 0, _, _, _ => none
  | k + 1, x0, x1, x16 => if x16 = true then (some 0) else (if 0 ≤ x1 then (if x1 < (x0.length : Int) then (if (rd x0 x1) > 64 then (some (-1)) else (if (wrap64 (x1 + (wrap64 (rd x0 x1)))) ≥ (x0.length : Int) then (some (-1)) else (some (wrap64 (rd x0 x1))))) else (none)) else (none))
def vendmeterref_lengthAt.f (k : Nat) (l0 : List Int) (a1 : Int) : Option (Int) := if a1 = (l0.length : Int) then (vendmeterref_lengthAt.j0 k l0 a1 true) else (if 0 ≤ a1 then (if a1 < (l0.length : Int) then (vendmeterref_lengthAt.j0 k l0 a1 ((rd l0 a1) == 0)) else (none)) else (none))
theorem vendmeterref_lengthAt.mono_l : ∀ k, (∀ y0 y1 y2, LeO (vendmeterref_lengthAt.j0 k y0 y1 y2) (vendmeterref_lengthAt.j0 (k + 1) y0 y1 y2))
  | 0 => fun _ _ _ r h => by simp [vendmeterref_lengthAt.j0] at h
  | k + 1 => by
    have ih0 := vendmeterref_lengthAt.mono_l k
    · intro y0 y1 y2
      unfold vendmeterref_lengthAt.j0
      repeat' first
      | (with_reducible exact ih0 _ _ _)
      | (with_reducible exact LeO.refl _)
      | (with_reducible exact LeO.none _)
      | (with_reducible refine LeO.ite ?_ ?_)
      | (with_reducible refine LeO.bind ?_ (fun _ => ?_))
      | exact ih0 _ _ _
      | exact LeO.none _
      | refine LeO.ite ?_ ?_
      | refine LeO.bind ?_ (fun _ => ?_)
theorem vendmeterref_lengthAt.mono : ∀ a0 a1 k, LeO (vendmeterref_lengthAt.f k a0 a1) (vendmeterref_lengthAt.f (k + 1) a0 a1) := by
  intro a0 a1 k
  have ih0 := vendmeterref_lengthAt.mono_l k
  unfold vendmeterref_lengthAt.f
  repeat' first
      | (with_reducible exact ih0 _ _ _)
      | (with_reducible exact LeO.refl _)
      | (with_reducible exact LeO.none _)
      | (with_reducible refine LeO.ite ?_ ?_)
      | (with_reducible refine LeO.bind ?_ (fun _ => ?_))
      | exact ih0 _ _ _
      | exact LeO.none _
      | refine LeO.ite ?_ ?_
      | refine LeO.bind ?_ (fun _ => ?_)
set_option maxHeartbeats 8000000 in
set_option maxRecDepth 100000 in
theorem vendmeterref_lengthAt.calls (k : Nat) (A0 : Option Addr) (c0 : Nat) (l0 : List Int) (a1 : Int) (r : Int) (w : World) (hr0 : Kd.C (Kd.int .u32) w A0 l0.length l0) (hc0 : l0.length ≤ c0) (h : vendmeterref_lengthAt.f k l0 a1 = some r) :
    Calls Try.prog 76 #[.slice A0 l0.length c0, .int .i64 a1] w fun e w' => e = .returned (.int .i64 r) ∧ Drawn0 w w' := by
  have HR0 := Aside0.mk hr0
  have HC0 := Aside0.mk hc0
  clear hr0 hc0
  have H : (if a1 = (l0.length : Int) then (vendmeterref_lengthAt.j0 k l0 a1 true) else (if 0 ≤ a1 then (if a1 < (l0.length : Int) then (vendmeterref_lengthAt.j0 k l0 a1 ((rd l0 a1) == 0)) else (none)) else (none))) = some r := h
  clear h
  have HC3 := Aside0.mk H
  clear H
  go_enter Try.func76, Try.ntmps76
  go_upto_region 1 with (fail)
  go_cut [16] (fun v16 wc => ∃ (kq : Nat) (x16_2 : Bool), v16 = .bool x16_2 ∧ Aside0 (vendmeterref_lengthAt.j0 kq l0 a1 x16_2 = some r) ∧ Aside0 (kq ≤ k) ∧ Drawn0 w wc)
  case first =>
    have H := HC3.out
    clear HC3
    by_cases c4 : a1 = (l0.length : Int)
    · rw [if_pos c4] at H
      have c4b0 : (a1 == (l0.length : Int)) = true := beq_iff_eq.mpr c4
      have c4b1 : (a1 != (l0.length : Int)) = false := bne_eq_false_iff_eq.mpr c4
      clear c4
      (first | rw [c4b0] | (simp only [i64_w, i32_w]; rw [c4b0]) | skip)
      have H' := Aside0.mk H
      clear H
      go_wp2
      go_meet
      case rel => exact ⟨_, (true), (by first | rfl | (simp; done) | (simp [*]; done)), H', ⟨by first | omega | exact Nat.le_refl _⟩, by repeat (first | exact Drawn0.refl _ | apply Drawn0.step)⟩
    · rw [if_neg c4] at H
      have c4b0 : (a1 == (l0.length : Int)) = false := beq_eq_false_iff_ne.mpr c4
      have c4b1 : (a1 != (l0.length : Int)) = true := bne_iff_ne.mpr c4
      (first | rw [c4b0] | (simp only [i64_w, i32_w]; rw [c4b0]) | skip)
      by_cases c5 : 0 ≤ a1
      · rw [if_pos c5] at H
        have c5b0 : decide (0 ≤ a1) = true := decide_eq_true c5
        clear c5
        by_cases c6 : a1 < (l0.length : Int)
        · rw [if_pos c6] at H
          have c6b0 : decide (a1 < (l0.length : Int)) = true := decide_eq_true c6
          clear c6
          have H' := Aside0.mk H
          clear H
          have p108 : 0 ≤ (a1 : Int) := of_decide_eq_true (by first | (with_reducible assumption) | assumption)
          have q108 : a1 < (l0.length : Int) := of_decide_eq_true (by first | (with_reducible assumption) | assumption)
          obtain ⟨ad108, e108, hx108_0⟩ := Kd.at_int HR0.out a1 p108 q108
          cases e108
          replace p108 := eq_true p108
          replace q108 := eq_true q108
          go_wp2
          go_meet
          case rel => exact ⟨_, (((rd l0 a1) == 0)), (by first | rfl | (simp; done) | (simp [*]; done)), H', ⟨by first | omega | exact Nat.le_refl _⟩, by repeat (first | exact Drawn0.refl _ | apply Drawn0.step)⟩
        · rw [if_neg c6] at H
          exact absurd H (by simp)
      · rw [if_neg c5] at H
        exact absurd H (by simp)
  case rest =>
    clear HC3
    try clear p1
    try clear q1
    try clear hx1
    try clear p2
    try clear c4
    try clear c4b0
    try clear c4b1
    try clear c5
    try clear c5b0
    try clear c6
    try clear c6b0
    try clear hx108_0
    try clear p108
    try clear q108
    obtain ⟨kq, x16_2, rfl, HA, HJ2, ⟨mc2, rfl⟩⟩ := hcut
    cases kq with
    | zero => exact absurd HA.out (by simp [vendmeterref_lengthAt.j0])
    | succ kj2 =>
      have H := HA.out
      clear HA
      simp only [vendmeterref_lengthAt.j0] at H
      by_cases c7 : x16_2 = true
      · subst c7
        have H1 : (some 0) = some r := by rw [if_pos rfl] at H; exact H
        clear H
        have H := H1
        clear H1
        obtain rfl := Option.some.inj H
        go_wp2
        go_ret
        exact ⟨by first | rfl | (simp; done) | (simp [*]; done), by repeat (first | exact Drawn0.refl _ | apply Drawn0.step)⟩
      · replace c7 := Bool.eq_false_iff.mpr c7
        subst c7
        have H1 : (if 0 ≤ a1 then (if a1 < (l0.length : Int) then (if (rd l0 a1) > 64 then (some (-1)) else (if (wrap64 (a1 + (wrap64 (rd l0 a1)))) ≥ (l0.length : Int) then (some (-1)) else (some (wrap64 (rd l0 a1))))) else (none)) else (none)) = some r := by rw [if_neg (show ¬ (false = true) by decide)] at H; exact H
        clear H
        have H := H1
        clear H1
        by_cases c8 : 0 ≤ a1
        · rw [if_pos c8] at H
          have c8b0 : decide (0 ≤ a1) = true := decide_eq_true c8
          clear c8
          by_cases c9 : a1 < (l0.length : Int)
          · rw [if_pos c9] at H
            have c9b0 : decide (a1 < (l0.length : Int)) = true := decide_eq_true c9
            clear c9
            by_cases c10 : (rd l0 a1) > 64
            · rw [if_pos c10] at H
              have c10b0 : decide (64 < (rd l0 a1)) = true := decide_eq_true c10
              clear c10
              obtain rfl := Option.some.inj H
              have p109 : 0 ≤ (a1 : Int) := of_decide_eq_true (by first | (with_reducible assumption) | assumption)
              have q109 : a1 < (l0.length : Int) := of_decide_eq_true (by first | (with_reducible assumption) | assumption)
              obtain ⟨ad109, e109, hx109_0⟩ := Kd.at_int HR0.out a1 p109 q109
              cases e109
              replace p109 := eq_true p109
              replace q109 := eq_true q109
              go_wp2
              go_ret
              exact ⟨by first | rfl | (simp; done) | (simp [*]; done), by repeat (first | exact Drawn0.refl _ | apply Drawn0.step)⟩
            · rw [if_neg c10] at H
              have c10b0 : decide (64 < (rd l0 a1)) = false := decide_eq_false c10
              clear c10
              by_cases c11 : (wrap64 (a1 + (wrap64 (rd l0 a1)))) ≥ (l0.length : Int)
              · rw [if_pos c11] at H
                have c11b0 : decide ((l0.length : Int) ≤ (wrap64 (a1 + (wrap64 (rd l0 a1))))) = true := decide_eq_true c11
                clear c11
                obtain rfl := Option.some.inj H
                have p109 : 0 ≤ (a1 : Int) := of_decide_eq_true (by first | (with_reducible assumption) | assumption)
                have q109 : a1 < (l0.length : Int) := of_decide_eq_true (by first | (with_reducible assumption) | assumption)
                obtain ⟨ad109, e109, hx109_0⟩ := Kd.at_int HR0.out a1 p109 q109
                cases e109
                replace p109 := eq_true p109
                replace q109 := eq_true q109
                have p110 : 0 ≤ (a1 : Int) := of_decide_eq_true (by first | (with_reducible assumption) | assumption)
                have q110 : a1 < (l0.length : Int) := of_decide_eq_true (by first | (with_reducible assumption) | assumption)
                obtain ⟨ad110, e110, hx110_0⟩ := Kd.at_int HR0.out a1 p110 q110
                obtain rfl : ad109 = ad110 := (by injection e110)
                replace p110 := eq_true p110
                replace q110 := eq_true q110
                go_wp2
                go_ret
                exact ⟨by first | rfl | (simp; done) | (simp [*]; done), by repeat (first | exact Drawn0.refl _ | apply Drawn0.step)⟩
              · rw [if_neg c11] at H
                have c11b0 : decide ((l0.length : Int) ≤ (wrap64 (a1 + (wrap64 (rd l0 a1))))) = false := decide_eq_false c11
                clear c11
                obtain rfl := Option.some.inj H
                have p109 : 0 ≤ (a1 : Int) := of_decide_eq_true (by first | (with_reducible assumption) | assumption)
                have q109 : a1 < (l0.length : Int) := of_decide_eq_true (by first | (with_reducible assumption) | assumption)
                obtain ⟨ad109, e109, hx109_0⟩ := Kd.at_int HR0.out a1 p109 q109
                cases e109
                replace p109 := eq_true p109
                replace q109 := eq_true q109
                have p110 : 0 ≤ (a1 : Int) := of_decide_eq_true (by first | (with_reducible assumption) | assumption)
                have q110 : a1 < (l0.length : Int) := of_decide_eq_true (by first | (with_reducible assumption) | assumption)
                obtain ⟨ad110, e110, hx110_0⟩ := Kd.at_int HR0.out a1 p110 q110
                obtain rfl : ad109 = ad110 := (by injection e110)
                replace p110 := eq_true p110
                replace q110 := eq_true q110
                go_wp2
                go_ret
                exact ⟨by first | rfl | (simp; done) | (simp [*]; done), by repeat (first | exact Drawn0.refl _ | apply Drawn0.step)⟩
          · rw [if_neg c9] at H
            exact absurd H (by simp)
        · rw [if_neg c8] at H
          exact absurd H (by simp)

end Go.Proofs.Ytgelnjcohnfmhaa.PDiskAppends
