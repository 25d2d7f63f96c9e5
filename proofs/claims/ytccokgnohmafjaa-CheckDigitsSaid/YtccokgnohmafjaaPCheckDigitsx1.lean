-- written by this session's program wip/xp/xprint.py (it drives the kit's print and adds to it)
import Derived.Test.YtccokgnohmafjaaPCheckDigitsx0
namespace Go.Proofs.Ytccokgnohmafjaa.PCheckDigits
open Go.RowKit Go.Proofs.YtccokgnohmafjaaW.PrintWords Go.Proofs.YtccokgnohmafjaaW.PrintLast Go.Proofs.YtccokgnohmafjaaW.PrintMore
attribute [local go_sem] max2_int min2_int max_two min_two max_three min_three max_four min_four   -- for this text's walks alone
set_option linter.unusedVariables false
set_option linter.unusedSimpArgs false

/-! ### check_digits: function 27 (a range over a string: by hand) -/
def check_digits.l0 : Nat → ByteArray → Nat → Option (Int)
  | 0, _, _ => none
  | k + 1, s, p => if p < s.size then (if ((Utf8.decode s p).1 : Int) < 48 then (some 7) else (if ((Utf8.decode s p).1 : Int) > 57 then (some 7) else (check_digits.l0 k s (p + (Utf8.decode s p).2)))) else (some 0)
def check_digits.f (k : Nat) (a0 : ByteArray) : Option (Int) := if a0.toList.isEmpty = true then (some 1) else (if (a0.size : Int) > 200 then (some 1) else (check_digits.l0 k a0 0))
theorem check_digits.mono_l : ∀ k s p, LeO (check_digits.l0 k s p) (check_digits.l0 (k + 1) s p)
  | 0, _, _ => by intro r h; simp [check_digits.l0] at h
  | k + 1, s, p => by
    have ih := check_digits.mono_l k
    unfold check_digits.l0
    repeat' first
      | (with_reducible exact ih _ _)
      | (with_reducible exact LeO.refl _)
      | (with_reducible refine LeO.ite ?_ ?_)
theorem check_digits.mono : ∀ a0 k, LeO (check_digits.f k a0) (check_digits.f (k + 1) a0) := by
  intro a0 k
  unfold check_digits.f
  repeat' first
    | (with_reducible exact check_digits.mono_l _ _ _)
    | (with_reducible exact LeO.refl _)
    | (with_reducible refine LeO.ite ?_ ?_)
set_option maxHeartbeats 8000000 in
set_option maxRecDepth 100000 in
theorem check_digits.calls (k : Nat) (a0 : ByteArray) (r : Int) (w : World) (h : check_digits.f k a0 = some r) :
    Calls Try.prog 27 #[.string a0] w fun e w' => e = .returned (.int .i64 r) ∧ Below w.heap.size w w' := by
  have H : (if a0.toList.isEmpty = true then (some 1) else (if (a0.size : Int) > 200 then (some 1) else (check_digits.l0 k a0 0))) = some r := h
  clear h
  by_cases c1 : a0.toList.isEmpty = true
  · rw [if_pos c1] at H
    obtain rfl := Option.some.inj H
    go_enter Try.func27, Try.ntmps27
    go_wp2
    go_ret
    exact ⟨rfl, by repeat (first | exact Below.refl _ _ | apply below_drew1 | apply pw_below_drewN)⟩
  · rw [if_neg c1] at H
    have c1b : a0.toList.isEmpty = false := Bool.eq_false_iff.mpr c1
    by_cases c2 : (a0.size : Int) > 200
    · rw [if_pos c2] at H
      obtain rfl := Option.some.inj H
      have c2b : decide ((a0.size : Int) > 200) = true := decide_eq_true c2
      go_enter Try.func27, Try.ntmps27
      go_wp2
      go_ret
      exact ⟨rfl, by repeat (first | exact Below.refl _ _ | apply below_drew1 | apply pw_below_drewN)⟩
    · rw [if_neg c2] at H
      have c2b : decide ((a0.size : Int) > 200) = false := decide_eq_false c2
      have H' := Aside0.mk H
      clear H
      go_enter Try.func27, Try.ntmps27
      go_wp2
      go_loopg [] k (fun kq w' => ∃ p : Nat, Aside0 (check_digits.l0 kq a0 p = some r) ∧ w'.heap[w.heap.size]? = some (.stringIter a0 p) ∧ Below w.heap.size w w')
      case atStart => exact ⟨0, H', World.iter_heap w a0 0, (Below.refl _ _).alloc (Nat.le_refl _) _⟩
      case round =>
        clear H'
        obtain ⟨p, HA, hit, hbw⟩ := hrel
        cases gk with
        | zero => exact absurd HA.out (by simp [check_digits.l0])
        | succ k2 =>
          have H := HA.out
          clear HA
          simp only [check_digits.l0] at H
          by_cases hp : p < a0.size
          · rw [if_pos hp] at H
            have hnx : ∀ ty, (Instr.next (.pointer (some ⟨w.heap.size, 0, none⟩)) true ty).run Try.prog wr = _ := fun ty => Lib.run_next_any_at wr w.heap.size a0 p ty hit hp
            have hit2 := Lib.iterAt_heap wr w.heap.size a0 p (p + (Utf8.decode a0 p).2) hit
            have hbw2 := Lib.below_iterAt hbw (k := w.heap.size) (Nat.le_refl _) a0 (p + (Utf8.decode a0 p).2)
            obtain ⟨W1, hW1⟩ : ∃ W1, W1 = wr.iterAt w.heap.size a0 (p + (Utf8.decode a0 p).2) := ⟨_, rfl⟩
            rw [← hW1] at hnx hit2 hbw2
            clear hW1 hit hbw
            by_cases d1 : ((Utf8.decode a0 p).1 : Int) < 48
            · rw [if_pos d1] at H
              obtain rfl := Option.some.inj H
              have d1b : decide (((Utf8.decode a0 p).1 : Int) < 48) = true := decide_eq_true d1
              go_wp2
              go_ret
              exact ⟨rfl, by repeat (first | exact hbw2 | apply below_drew1 | apply pw_below_drewN)⟩
            · rw [if_neg d1] at H
              have d1b : decide (((Utf8.decode a0 p).1 : Int) < 48) = false := decide_eq_false d1
              by_cases d2 : ((Utf8.decode a0 p).1 : Int) > 57
              · rw [if_pos d2] at H
                obtain rfl := Option.some.inj H
                have d2b : decide (((Utf8.decode a0 p).1 : Int) > 57) = true := decide_eq_true d2
                go_wp2
                go_ret
                exact ⟨rfl, by repeat (first | exact hbw2 | apply below_drew1 | apply pw_below_drewN)⟩
              · rw [if_neg d2] at H
                have d2b : decide (((Utf8.decode a0 p).1 : Int) > 57) = false := decide_eq_false d2
                have H' := Aside0.mk H
                clear H
                go_wp2
                go_roundg k2
                case measure => exact Nat.lt_succ_self _
                case rel => exact ⟨_, H', hit2, hbw2⟩
          · rw [if_neg hp] at H
            obtain rfl := Option.some.inj H
            have hnx : ∀ ty, (Instr.next (.pointer (some ⟨w.heap.size, 0, none⟩)) true ty).run Try.prog wr = _ := fun ty => Lib.run_next_end_at wr w.heap.size a0 p ty hit hp
            go_wp2
            go_ret
            exact ⟨rfl, by repeat (first | exact hbw | apply below_drew1 | apply pw_below_drewN)⟩

/-! ### check_turn_then: function 34 -/
def check_turn_then.f (a0 : Int) (a1 : Int) : Option (Int) := if a0 ≥ 5 then (if (wrap64 (Int.tdiv a1 5)) = 1 then (some (Int.tmod (wrap64 ((Int.tmod (wrap64 ((wrap64 ((wrap64 (a0 - 5)) - (Int.tmod a1 5))) + (wrap64 (5 * (wrap64 (Int.tdiv a1 5)))))) 5) + 5)) 5)) else (some (wrap64 (5 + (Int.tmod (wrap64 ((Int.tmod (wrap64 ((wrap64 ((wrap64 (a0 - 5)) - (Int.tmod a1 5))) + (wrap64 (5 * (wrap64 (Int.tdiv a1 5)))))) 5) + 5)) 5))))) else (some (wrap64 ((wrap64 (5 * (wrap64 (Int.tdiv a1 5)))) + (Int.tmod (wrap64 (a0 + (Int.tmod a1 5))) 5))))
set_option maxHeartbeats 8000000 in
set_option maxRecDepth 100000 in
theorem check_turn_then.calls (a0 : Int) (a1 : Int) (r : Int) (w : World) (h : check_turn_then.f a0 a1 = some r) :
    Calls Try.prog 34 #[.int .i64 a0, .int .i64 a1] w fun e w' => e = .returned (.int .i64 r) ∧ Drawn0 w w' := by
  have H : (if a0 ≥ 5 then (if (wrap64 (Int.tdiv a1 5)) = 1 then (some (Int.tmod (wrap64 ((Int.tmod (wrap64 ((wrap64 ((wrap64 (a0 - 5)) - (Int.tmod a1 5))) + (wrap64 (5 * (wrap64 (Int.tdiv a1 5)))))) 5) + 5)) 5)) else (some (wrap64 (5 + (Int.tmod (wrap64 ((Int.tmod (wrap64 ((wrap64 ((wrap64 (a0 - 5)) - (Int.tmod a1 5))) + (wrap64 (5 * (wrap64 (Int.tdiv a1 5)))))) 5) + 5)) 5))))) else (some (wrap64 ((wrap64 (5 * (wrap64 (Int.tdiv a1 5)))) + (Int.tmod (wrap64 (a0 + (Int.tmod a1 5))) 5))))) = some r := h
  clear h
  by_cases c3 : a0 ≥ 5
  · rw [if_pos c3] at H
    have c3b0 : decide (5 ≤ a0) = true := decide_eq_true c3
    clear c3
    by_cases c4 : (wrap64 (Int.tdiv a1 5)) = 1
    · rw [if_pos c4] at H
      have c4b0 : ((wrap64 (Int.tdiv a1 5)) == 1) = true := beq_iff_eq.mpr c4
      have c4b1 : ((wrap64 (Int.tdiv a1 5)) != 1) = false := bne_eq_false_iff_eq.mpr c4
      clear c4
      obtain rfl := Option.some.inj H
      go_enter Try.func34, Try.ntmps34
      go_wp2
      go_ret
      exact ⟨by first | rfl | (simp; done) | (simp [*]; done), by repeat (first | exact Drawn0.refl _ | apply Drawn0.step)⟩
    · rw [if_neg c4] at H
      have c4b0 : ((wrap64 (Int.tdiv a1 5)) == 1) = false := beq_eq_false_iff_ne.mpr c4
      have c4b1 : ((wrap64 (Int.tdiv a1 5)) != 1) = true := bne_iff_ne.mpr c4
      obtain rfl := Option.some.inj H
      go_enter Try.func34, Try.ntmps34
      go_wp2
      go_ret
      exact ⟨by first | rfl | (simp; done) | (simp [*]; done), by repeat (first | exact Drawn0.refl _ | apply Drawn0.step)⟩
  · rw [if_neg c3] at H
    have c3b0 : decide (5 ≤ a0) = false := decide_eq_false c3
    clear c3
    obtain rfl := Option.some.inj H
    go_enter Try.func34, Try.ntmps34
    go_wp2
    go_ret
    exact ⟨by first | rfl | (simp; done) | (simp [*]; done), by repeat (first | exact Drawn0.refl _ | apply Drawn0.step)⟩

/-! ### check_moved: function 44 (a table laid as an array: by hand) -/
def check_moved.tab (d : Int) : Int := if d = 0 then 1 else if d = 1 then 5 else if d = 2 then 7 else if d = 3 then 6 else if d = 4 then 2 else if d = 5 then 8 else if d = 6 then 3 else if d = 7 then 0 else if d = 8 then 9 else 4
def check_moved.l0 : Nat → Int → Int → Int → Option (Int)
  | 0, _, _, _ => none
  | k + 1, d, n, i => if i < n then (if 0 ≤ d then (if d < 10 then (check_moved.l0 k (check_moved.tab d) n (wrap64 (i + 1))) else (none)) else (none)) else (some d)
def check_moved.f (k : Nat) (a0 : Int) (a1 : Int) : Option (Int) := check_moved.l0 k a0 (Int.tmod a1 8) 0
theorem check_moved.mono_l : ∀ k d n i, LeO (check_moved.l0 k d n i) (check_moved.l0 (k + 1) d n i)
  | 0, _, _, _ => by intro r h; simp [check_moved.l0] at h
  | k + 1, d, n, i => by
    have ih := check_moved.mono_l k
    unfold check_moved.l0
    repeat' first
      | (with_reducible exact ih _ _ _)
      | (with_reducible exact LeO.refl _)
      | (with_reducible refine LeO.ite ?_ ?_)
theorem check_moved.mono : ∀ a0 a1 k, LeO (check_moved.f k a0 a1) (check_moved.f (k + 1) a0 a1) := by
  intro a0 a1 k
  unfold check_moved.f
  exact check_moved.mono_l _ _ _ _
set_option maxHeartbeats 8000000 in
set_option maxRecDepth 100000 in
theorem check_moved.calls (k : Nat) (a0 : Int) (a1 : Int) (r : Int) (w : World) (h : check_moved.f k a0 a1 = some r) :
    Calls Try.prog 44 #[.int .i64 a0, .int .i64 a1] w fun e w' => e = .returned (.int .i64 r) ∧ Below w.heap.size w w' := by
  have H' := Aside0.mk (show check_moved.l0 k a0 (Int.tmod a1 8) 0 = some r from h)
  clear h
  have hu := Try.underlying53
  go_enter Try.func44, Try.ntmps44
  go_wp2
  go_loopg [0, 9] k (fun kq v0 v9 w' => ∃ (d : Int) (i : Int), v0 = .int .i64 d ∧ v9 = .int .i64 i ∧ Aside0 (check_moved.l0 kq d (Int.tmod a1 8) i = some r) ∧ w'.heap[w.heap.size]? = some (.cells #[.int .i64 1, .int .i64 5, .int .i64 7, .int .i64 6, .int .i64 2, .int .i64 8, .int .i64 3, .int .i64 0, .int .i64 9, .int .i64 4] 53 (0, 0)) ∧ Below w.heap.size w w')
  case atStart => exact ⟨a0, 0, rfl, rfl, H', blk_new w _, (Below.refl _ _).alloc (Nat.le_refl _) _⟩
  case round =>
    clear H'
    obtain ⟨d, i, rfl, rfl, HA, hit, hbw⟩ := hrel
    cases gk with
    | zero => exact absurd HA.out (by simp [check_moved.l0])
    | succ k2 =>
      have H := HA.out
      clear HA
      simp only [check_moved.l0] at H
      by_cases hi : i < Int.tmod a1 8
      · rw [if_pos hi] at H
        have hib : decide (i < Int.tmod a1 8) = true := decide_eq_true hi
        by_cases h0 : 0 ≤ d
        · rw [if_pos h0] at H
          by_cases h10 : d < 10
          · rw [if_pos h10] at H
            have hd : d = 0 ∨ d = 1 ∨ d = 2 ∨ d = 3 ∨ d = 4 ∨ d = 5 ∨ d = 6 ∨ d = 7 ∨ d = 8 ∨ d = 9 := by omega
            have H' := Aside0.mk H
            clear H hi
            have hc0 : wr.cell? ⟨w.heap.size, 0, none⟩ = some (.int .i64 1) := (blk_cell hit 0).trans rfl
            have hf0 := blk_frozen hit 0
            have hc1 : wr.cell? ⟨w.heap.size, 1, none⟩ = some (.int .i64 5) := (blk_cell hit 1).trans rfl
            have hf1 := blk_frozen hit 1
            have hc2 : wr.cell? ⟨w.heap.size, 2, none⟩ = some (.int .i64 7) := (blk_cell hit 2).trans rfl
            have hf2 := blk_frozen hit 2
            have hc3 : wr.cell? ⟨w.heap.size, 3, none⟩ = some (.int .i64 6) := (blk_cell hit 3).trans rfl
            have hf3 := blk_frozen hit 3
            have hc4 : wr.cell? ⟨w.heap.size, 4, none⟩ = some (.int .i64 2) := (blk_cell hit 4).trans rfl
            have hf4 := blk_frozen hit 4
            have hc5 : wr.cell? ⟨w.heap.size, 5, none⟩ = some (.int .i64 8) := (blk_cell hit 5).trans rfl
            have hf5 := blk_frozen hit 5
            have hc6 : wr.cell? ⟨w.heap.size, 6, none⟩ = some (.int .i64 3) := (blk_cell hit 6).trans rfl
            have hf6 := blk_frozen hit 6
            have hc7 : wr.cell? ⟨w.heap.size, 7, none⟩ = some (.int .i64 0) := (blk_cell hit 7).trans rfl
            have hf7 := blk_frozen hit 7
            have hc8 : wr.cell? ⟨w.heap.size, 8, none⟩ = some (.int .i64 9) := (blk_cell hit 8).trans rfl
            have hf8 := blk_frozen hit 8
            have hc9 : wr.cell? ⟨w.heap.size, 9, none⟩ = some (.int .i64 4) := (blk_cell hit 9).trans rfl
            have hf9 := blk_frozen hit 9
            generalize Int.tmod a1 8 = n at *
            rcases hd with rfl | rfl | rfl | rfl | rfl | rfl | rfl | rfl | rfl | rfl
            all_goals (
              go_wp2
              go_roundg k2
              case measure => exact Nat.lt_succ_self _
              case rel => exact ⟨_, _, rfl, rfl, H', hit, hbw⟩)
          · rw [if_neg h10] at H
            simp at H
        · rw [if_neg h0] at H
          simp at H
      · rw [if_neg hi] at H
        have hib : decide (i < Int.tmod a1 8) = false := decide_eq_false hi
        obtain rfl := Option.some.inj H
        go_wp2
        go_ret
        exact ⟨rfl, by repeat (first | exact hbw | apply below_drew1 | apply pw_below_drewN)⟩

/-! ### check_all: function 29 -/
def check_all.l0 : Nat → ByteArray → Int → Int → Int → Int → Option (Int)
  | 0, _, _, _, _, _ => none
  | k + 1, x0, x1, x5, x8, x9 => if x9 < x8 then (if 0 ≤ (wrap64 ((wrap64 ((x0.size : Int) - 1)) - x9)) then (if (wrap64 ((wrap64 ((x0.size : Int) - 1)) - x9)) < (x0.size : Int) then ((check_moved.f k (((bt x0 (wrap64 ((wrap64 ((x0.size : Int) - 1)) - x9))) - 48) % 256) (wrap64 (x1 + x9))).bind fun t101 => ((check_turn_then.f x5 t101).bind fun t102 => (check_all.l0 k x0 x1 t102 x8 (wrap64 (x9 + 1))))) else (none)) else (none)) else (some x5)
def check_all.f (k : Nat) (a0 : ByteArray) (a1 : Int) : Option (Int) := check_all.l0 k a0 a1 0 (a0.size : Int) 0
theorem check_all.mono_l : ∀ k, (∀ y0 y1 y2 y3 y4, LeO (check_all.l0 k y0 y1 y2 y3 y4) (check_all.l0 (k + 1) y0 y1 y2 y3 y4))
  | 0 => fun _ _ _ _ _ r h => by simp [check_all.l0] at h
  | k + 1 => by
    have ih0 := check_all.mono_l k
    · intro y0 y1 y2 y3 y4
      unfold check_all.l0
      repeat' first
      | (with_reducible exact ih0 _ _ _ _ _)
      | (with_reducible exact check_moved.mono _ _ _)
      | (with_reducible exact LeO.refl _)
      | (with_reducible exact LeO.none _)
      | (with_reducible refine LeO.ite ?_ ?_)
      | (with_reducible refine LeO.bind ?_ (fun _ => ?_))
      | exact ih0 _ _ _ _ _
      | exact check_moved.mono _ _ _
      | exact LeO.none _
      | refine LeO.ite ?_ ?_
      | refine LeO.bind ?_ (fun _ => ?_)
theorem check_all.mono : ∀ a0 a1 k, LeO (check_all.f k a0 a1) (check_all.f (k + 1) a0 a1) := by
  intro a0 a1 k
  have ih0 := check_all.mono_l k
  unfold check_all.f
  repeat' first
      | (with_reducible exact ih0 _ _ _ _ _)
      | (with_reducible exact check_moved.mono _ _ _)
      | (with_reducible exact LeO.refl _)
      | (with_reducible exact LeO.none _)
      | (with_reducible refine LeO.ite ?_ ?_)
      | (with_reducible refine LeO.bind ?_ (fun _ => ?_))
      | exact ih0 _ _ _ _ _
      | exact check_moved.mono _ _ _
      | exact LeO.none _
      | refine LeO.ite ?_ ?_
      | refine LeO.bind ?_ (fun _ => ?_)
set_option maxHeartbeats 8000000 in
set_option maxRecDepth 100000 in
theorem check_all.calls (k : Nat) (a0 : ByteArray) (a1 : Int) (r : Int) (w : World) (h : check_all.f k a0 a1 = some r) :
    Calls Try.prog 29 #[.string a0, .int .i64 a1] w fun e w' => e = .returned (.int .i64 r) ∧ Below w.heap.size w w' := by
  have HB := Aside0.mk (Below.refl w.heap.size w)
  have H : (check_all.l0 k a0 a1 0 (a0.size : Int) 0) = some r := h
  clear h
  have H' := Aside0.mk H
  clear H
  go_enter Try.func29, Try.ntmps29
  go_wp2
  go_loopg [5, 9] k (fun kq v5 v9 w' => ∃ (x5_1 : Int) (x9_1 : Int), v5 = .int .i64 x5_1 ∧ v9 = .int .i64 x9_1 ∧ Aside0 (check_all.l0 kq a0 a1 x5_1 (a0.size : Int) x9_1 = some r) ∧ Aside0 (kq ≤ k) ∧ Aside0 (Below w.heap.size w w'))
  case atStart => exact ⟨(0), (0), (by first | rfl | (simp; done) | (simp [*]; done)), (by first | rfl | (simp; done) | (simp [*]; done)), H', ⟨Nat.le_refl _⟩, ⟨by repeat (first | (with_reducible first | exact HB.out | apply below_alloc | apply pw_below_drewN | apply below_drew1) | exact HB.out)⟩⟩
  case round =>
    clear H'
    try clear c2
    try clear p2
    obtain ⟨x5_1, x9_1, rfl, rfl, HA, HK1, HB⟩ := hrel
    cases gk with
    | zero => exact absurd HA.out (by simp [check_all.l0])
    | succ k1 =>
      have H := HA.out
      clear HA
      simp only [check_all.l0] at H
      by_cases c3 : x9_1 < (a0.size : Int)
      · rw [if_pos c3] at H
        have c3b0 : decide (x9_1 < (a0.size : Int)) = true := decide_eq_true c3
        clear c3
        obtain ⟨ji4, hji4⟩ : ∃ j_ : Int, (wrap64 ((wrap64 ((a0.size : Int) - 1)) - x9_1)) = j_ := ⟨_, rfl⟩
        replace H : (if 0 ≤ (ji4) then (if (ji4) < (a0.size : Int) then ((check_moved.f k1 (((bt a0 (ji4)) - 48) % 256) (wrap64 (a1 + x9_1))).bind fun t101 => ((check_turn_then.f x5_1 t101).bind fun t102 => (check_all.l0 k1 a0 a1 t102 (a0.size : Int) (wrap64 (x9_1 + 1))))) else (none)) else (none)) = some r := by first | (rw [hji4] at H; exact H) | (simp only [hji4] at H ⊢; exact H)
        have hji4w : (IntKind.i64.wrap ((wrap64 ((a0.size : Int) - 1)) - x9_1)) = ji4 := (i64_w _).trans hji4
        by_cases c5 : 0 ≤ (ji4)
        · rw [if_pos c5] at H
          have c5b0 : decide (0 ≤ (ji4)) = true := decide_eq_true c5
          clear c5
          by_cases c6 : (ji4) < (a0.size : Int)
          · rw [if_pos c6] at H
            have c6b0 : decide ((ji4) < (a0.size : Int)) = true := decide_eq_true c6
            clear c6
            replace H := Option.bind_eq_some_iff.mp H
            obtain ⟨t101, A80, H⟩ := H
            replace H : ((check_turn_then.f x5_1 t101).bind fun t102 => (check_all.l0 k1 a0 a1 t102 (a0.size : Int) (wrap64 (x9_1 + 1)))) = some r := H
            have A8 := Aside0.mk A80
            clear A80
            replace H := Option.bind_eq_some_iff.mp H
            obtain ⟨t102, A90, H⟩ := H
            replace H : (check_all.l0 k1 a0 a1 t102 (a0.size : Int) (wrap64 (x9_1 + 1))) = some r := H
            have A9 := Aside0.mk A90
            clear A90
            have H' := Aside0.mk H
            clear H
            have p7 : 0 ≤ ((ji4) : Int) := of_decide_eq_true (by first | (with_reducible assumption) | assumption)
            have q7 : (ji4) < (a0.size : Int) := of_decide_eq_true (by first | (with_reducible assumption) | assumption)
            have hx7 := bt_at a0 (ji4)
            replace p7 := eq_true p7
            replace q7 := eq_true q7
            go_wp2_with (first | ((with_reducible refine gate_callee (f := 44) rfl ?_); refine goesL_ (some 25) rfl rfl Try.func44 (by kernel_rfl) rfl #[.int .i64 (((bt a0 (ji4)) - 48) % 256), .int .i64 (wrap64 (a1 + x9_1))] rfl (by (try simp only [List.map_toArray, List.map_cons, List.map_nil]); first | done | (simp only [hji4]; rfl) | rfl | (simp only [List.length_drop, List.length_take]; rfl)) ?_; (with_reducible refine (check_moved.calls k1 (((bt a0 (ji4)) - 48) % 256) (wrap64 (a1 + x9_1)) t101 _ A8.out).mono ?_); rintro e w10 ⟨rfl, hb⟩; refine ⟨_, rfl, ?_⟩; have n0_ := Aside0.mk (below_step (by repeat (first | (with_reducible first | exact HB.out | apply below_alloc | apply pw_below_drewN | apply below_drew1) | exact HB.out)) hb); clear HB; have HB := n0_; clear n0_; (try clear hb); (try clear hb2); (try clear hk); (try clear hi)) | ((with_reducible refine gate_callee (f := 34) rfl ?_); refine goesL_ (some 26) rfl rfl Try.func34 (by kernel_rfl) rfl #[.int .i64 x5_1, .int .i64 t101] rfl (by (try simp only [List.map_toArray, List.map_cons, List.map_nil]); first | done | rfl | (simp only [List.length_drop, List.length_take]; rfl)) ?_; (with_reducible refine (check_turn_then.calls x5_1 t101 t102 _ A9.out).mono ?_); rintro e w' ⟨rfl, ⟨nd, rfl⟩⟩; refine ⟨_, rfl, ?_⟩))
            go_roundg k1
            case measure => have := HK1.out; omega
            case rel => exact ⟨(t102), (wrap64 (x9_1 + 1)), (by first | rfl | (simp; done) | (simp [*]; done)), (by first | rfl | (simp; done) | (simp [*]; done)), H', ⟨by have := HK1.out; omega⟩, ⟨by repeat (first | (with_reducible first | exact HB.out | apply below_alloc | apply pw_below_drewN | apply below_drew1) | exact HB.out)⟩⟩
          · rw [if_neg c6] at H
            exact absurd H (by simp)
        · rw [if_neg c5] at H
          exact absurd H (by simp)
      · rw [if_neg c3] at H
        have c3b0 : decide (x9_1 < (a0.size : Int)) = false := decide_eq_false c3
        clear c3
        obtain rfl := Option.some.inj H
        go_wp2
        go_ret
        exact ⟨by first | rfl | (simp [errW_none, errW_some] <;> rfl) | (simp [*, errW_none, errW_some] <;> rfl), by repeat (first | (with_reducible first | exact HB.out | apply below_alloc | apply pw_below_drewN | apply below_drew1) | exact HB.out)⟩

/-! ### check_turn_back: function 31 -/
def check_turn_back.f (a0 : Int) : Option (Int) := if a0 ≥ 5 then (some a0) else (some (Int.tmod (wrap64 (5 - a0)) 5))
set_option maxHeartbeats 8000000 in
set_option maxRecDepth 100000 in
theorem check_turn_back.calls (a0 : Int) (r : Int) (w : World) (h : check_turn_back.f a0 = some r) :
    Calls Try.prog 31 #[.int .i64 a0] w fun e w' => e = .returned (.int .i64 r) ∧ Drawn0 w w' := by
  have H : (if a0 ≥ 5 then (some a0) else (some (Int.tmod (wrap64 (5 - a0)) 5))) = some r := h
  clear h
  by_cases c2 : a0 ≥ 5
  · rw [if_pos c2] at H
    have c2b0 : decide (5 ≤ a0) = true := decide_eq_true c2
    clear c2
    obtain rfl := Option.some.inj H
    go_enter Try.func31, Try.ntmps31
    go_wp2
    go_ret
    exact ⟨by first | rfl | (simp; done) | (simp [*]; done), by repeat (first | exact Drawn0.refl _ | apply Drawn0.step)⟩
  · rw [if_neg c2] at H
    have c2b0 : decide (5 ≤ a0) = false := decide_eq_false c2
    clear c2
    obtain rfl := Option.some.inj H
    go_enter Try.func31, Try.ntmps31
    go_wp2
    go_ret
    exact ⟨by first | rfl | (simp; done) | (simp [*]; done), by repeat (first | exact Drawn0.refl _ | apply Drawn0.step)⟩

/-! ### check_Digit: function 15 -/
def check_Digit.f (k : Nat) (a0 : ByteArray) : Option (Int × Int) := (check_digits.f k a0).bind fun t103 => (if t103 = 0 then ((check_all.f k a0 1).bind fun t104 => ((check_turn_back.f t104).bind fun t105 => (some (t105, 0)))) else (some (0, t103)))
theorem check_Digit.mono : ∀ a0 k, LeO (check_Digit.f k a0) (check_Digit.f (k + 1) a0) := by
  intro a0 k
  unfold check_Digit.f
  repeat' first
      | (with_reducible exact check_all.mono _ _ _)
      | (with_reducible exact check_digits.mono _ _)
      | (with_reducible exact LeO.refl _)
      | (with_reducible exact LeO.none _)
      | (with_reducible refine LeO.ite ?_ ?_)
      | (with_reducible refine LeO.bind ?_ (fun _ => ?_))
      | exact check_all.mono _ _ _
      | exact check_digits.mono _ _
      | exact LeO.none _
      | refine LeO.ite ?_ ?_
      | refine LeO.bind ?_ (fun _ => ?_)
set_option maxHeartbeats 8000000 in
set_option maxRecDepth 100000 in
theorem check_Digit.calls (k : Nat) (a0 : ByteArray) (r1 : Int) (r2 : Int) (w : World) (h : check_Digit.f k a0 = some (r1, r2)) :
    Calls Try.prog 15 #[.string a0] w fun e w' => e = .returned (.tuple #[.int .i64 r1, .int .i64 r2]) ∧ Below w.heap.size w w' := by
  have HB := Aside0.mk (Below.refl w.heap.size w)
  have H : ((check_digits.f k a0).bind fun t103 => (if t103 = 0 then ((check_all.f k a0 1).bind fun t104 => ((check_turn_back.f t104).bind fun t105 => (some (t105, 0)))) else (some (0, t103)))) = some (r1, r2) := h
  clear h
  replace H := Option.bind_eq_some_iff.mp H
  obtain ⟨t103, A20, H⟩ := H
  replace H : (if t103 = 0 then ((check_all.f k a0 1).bind fun t104 => ((check_turn_back.f t104).bind fun t105 => (some (t105, 0)))) else (some (0, t103))) = some (r1, r2) := H
  have A2 := Aside0.mk A20
  clear A20
  by_cases c3 : t103 = 0
  · rw [if_pos c3] at H
    have c3b0 : (t103 == 0) = true := beq_iff_eq.mpr c3
    have c3b1 : (t103 != 0) = false := bne_eq_false_iff_eq.mpr c3
    clear c3
    replace H := Option.bind_eq_some_iff.mp H
    obtain ⟨t104, A40, H⟩ := H
    replace H : ((check_turn_back.f t104).bind fun t105 => (some (t105, 0))) = some (r1, r2) := H
    have A4 := Aside0.mk A40
    clear A40
    replace H := Option.bind_eq_some_iff.mp H
    obtain ⟨t105, A50, H⟩ := H
    replace H : (some (t105, 0)) = some (r1, r2) := H
    have A5 := Aside0.mk A50
    clear A50
    simp only [Option.some.injEq, Prod.mk.injEq] at H
    obtain ⟨rfl, rfl⟩ := H
    go_enter Try.func15, Try.ntmps15
    go_wp2_with (first | ((with_reducible refine gate_callee (f := 27) rfl ?_); refine goesL_ (some 6) rfl rfl Try.func27 (by kernel_rfl) rfl #[.string a0] rfl (by (try simp only [List.map_toArray, List.map_cons, List.map_nil]); first | done | rfl | (simp only [List.length_drop, List.length_take]; rfl)) ?_; (with_reducible refine (check_digits.calls k a0 t103 _ A2.out).mono ?_); rintro e w6 ⟨rfl, hb⟩; refine ⟨_, rfl, ?_⟩; have n0_ := Aside0.mk (below_step (by repeat (first | (with_reducible first | exact HB.out | apply below_alloc | apply pw_below_drewN | apply below_drew1) | exact HB.out)) hb); clear HB; have HB := n0_; clear n0_; (try clear hb); (try clear hb2); (try clear hk); (try clear hi)) | ((with_reducible refine gate_callee (f := 29) rfl ?_); refine goesL_ (some 11) rfl rfl Try.func29 (by kernel_rfl) rfl #[.string a0, .int .i64 1] rfl (by (try simp only [List.map_toArray, List.map_cons, List.map_nil]); first | done | rfl | (simp only [List.length_drop, List.length_take]; rfl)) ?_; (with_reducible refine (check_all.calls k a0 1 t104 _ A4.out).mono ?_); rintro e w7 ⟨rfl, hb⟩; refine ⟨_, rfl, ?_⟩; have n0_ := Aside0.mk (below_step (by repeat (first | (with_reducible first | exact HB.out | apply below_alloc | apply pw_below_drewN | apply below_drew1) | exact HB.out)) hb); clear HB; have HB := n0_; clear n0_; (try clear hb); (try clear hb2); (try clear hk); (try clear hi)) | ((with_reducible refine gate_callee (f := 31) rfl ?_); refine goesL_ (some 12) rfl rfl Try.func31 (by kernel_rfl) rfl #[.int .i64 t104] rfl (by (try simp only [List.map_toArray, List.map_cons, List.map_nil]); first | done | rfl | (simp only [List.length_drop, List.length_take]; rfl)) ?_; (with_reducible refine (check_turn_back.calls t104 t105 _ A5.out).mono ?_); rintro e w' ⟨rfl, ⟨nd, rfl⟩⟩; refine ⟨_, rfl, ?_⟩))
    go_ret2
    exact ⟨by first | rfl | (simp [errW_none, errW_some] <;> rfl) | (simp [*, errW_none, errW_some] <;> rfl), by repeat (first | (with_reducible first | exact HB.out | apply below_alloc | apply pw_below_drewN | apply below_drew1) | exact HB.out)⟩
  · rw [if_neg c3] at H
    have c3b0 : (t103 == 0) = false := beq_eq_false_iff_ne.mpr c3
    have c3b1 : (t103 != 0) = true := bne_iff_ne.mpr c3
    simp only [Option.some.injEq, Prod.mk.injEq] at H
    obtain ⟨rfl, rfl⟩ := H
    go_enter Try.func15, Try.ntmps15
    go_wp2_with (first | ((with_reducible refine gate_callee (f := 27) rfl ?_); refine goesL_ (some 6) rfl rfl Try.func27 (by kernel_rfl) rfl #[.string a0] rfl (by (try simp only [List.map_toArray, List.map_cons, List.map_nil]); first | done | rfl | (simp only [List.length_drop, List.length_take]; rfl)) ?_; (with_reducible refine (check_digits.calls k a0 t103 _ A2.out).mono ?_); rintro e w8 ⟨rfl, hb⟩; refine ⟨_, rfl, ?_⟩; have n0_ := Aside0.mk (below_step (by repeat (first | (with_reducible first | exact HB.out | apply below_alloc | apply pw_below_drewN | apply below_drew1) | exact HB.out)) hb); clear HB; have HB := n0_; clear n0_; (try clear hb); (try clear hb2); (try clear hk); (try clear hi)))
    go_ret2
    exact ⟨by first | rfl | (simp [errW_none, errW_some] <;> rfl) | (simp [*, errW_none, errW_some] <;> rfl), by repeat (first | (with_reducible first | exact HB.out | apply below_alloc | apply pw_below_drewN | apply below_drew1) | exact HB.out)⟩

/-! ### vendmeterref_Digit: function 43 -/
def vendmeterref_Digit.f (a0 : Int) : Option (Bool) := if a0 ≥ 48 then (some (decide (a0 ≤ 57))) else (some false)
set_option maxHeartbeats 8000000 in
set_option maxRecDepth 100000 in
theorem vendmeterref_Digit.calls (a0 : Int) (r : Bool) (w : World) (h : vendmeterref_Digit.f a0 = some r) :
    Calls Try.prog 43 #[.int .u8 a0] w fun e w' => e = .returned (.bool r) ∧ Drawn0 w w' := by
  have H : (if a0 ≥ 48 then (some (decide (a0 ≤ 57))) else (some false)) = some r := h
  clear h
  by_cases c2 : a0 ≥ 48
  · rw [if_pos c2] at H
    have c2b0 : decide (48 ≤ a0) = true := decide_eq_true c2
    clear c2
    obtain rfl := Option.some.inj H
    go_enter Try.func43, Try.ntmps43
    go_wp2
    go_ret
    exact ⟨by first | rfl | (simp; done) | (simp [*]; done), by repeat (first | exact Drawn0.refl _ | apply Drawn0.step)⟩
  · rw [if_neg c2] at H
    have c2b0 : decide (48 ≤ a0) = false := decide_eq_false c2
    clear c2
    obtain rfl := Option.some.inj H
    go_enter Try.func43, Try.ntmps43
    go_wp2
    go_ret
    exact ⟨by first | rfl | (simp; done) | (simp [*]; done), by repeat (first | exact Drawn0.refl _ | apply Drawn0.step)⟩

/-! ### vendmeterref_DigitsMay: function 28 -/
mutual
def vendmeterref_DigitsMay.j0 : Nat → ByteArray → Bool → Option (Int)
  | 0, _, _ => none
  | k + 1, x0, x11 => if x11 = true then (some 1) else (vendmeterref_DigitsMay.l0 k x0 0)
def vendmeterref_DigitsMay.l0 : Nat → ByteArray → Int → Option (Int)
  | 0, _, _ => none
  | k + 1, x0, x3 => if x3 < (x0.size : Int) then (if 0 ≤ x3 then ((vendmeterref_Digit.f (bt x0 x3)).bind fun t106 => (if t106 = true then (vendmeterref_DigitsMay.l0 k x0 (wrap64 (x3 + 1))) else (some 7))) else (none)) else (some 0)
end
def vendmeterref_DigitsMay.f (k : Nat) (a0 : ByteArray) : Option (Int) := if (a0.size : Int) < 1 then (vendmeterref_DigitsMay.j0 k a0 true) else (vendmeterref_DigitsMay.j0 k a0 (decide ((a0.size : Int) > 200)))
theorem vendmeterref_DigitsMay.mono_l : ∀ k, (∀ y0 y1, LeO (vendmeterref_DigitsMay.j0 k y0 y1) (vendmeterref_DigitsMay.j0 (k + 1) y0 y1)) ∧ (∀ y0 y1, LeO (vendmeterref_DigitsMay.l0 k y0 y1) (vendmeterref_DigitsMay.l0 (k + 1) y0 y1))
  | 0 => ⟨fun _ _ r h => by simp [vendmeterref_DigitsMay.j0] at h, fun _ _ r h => by simp [vendmeterref_DigitsMay.l0] at h⟩
  | k + 1 => by
    obtain ⟨ih0, ih1⟩ := vendmeterref_DigitsMay.mono_l k
    refine ⟨?_, ?_⟩
    · intro y0 y1
      unfold vendmeterref_DigitsMay.j0
      repeat' first
      | (with_reducible exact ih0 _ _)
      | (with_reducible exact ih1 _ _)
      | (with_reducible exact LeO.refl _)
      | (with_reducible exact LeO.none _)
      | (with_reducible refine LeO.ite ?_ ?_)
      | (with_reducible refine LeO.bind ?_ (fun _ => ?_))
      | exact ih0 _ _
      | exact ih1 _ _
      | exact LeO.none _
      | refine LeO.ite ?_ ?_
      | refine LeO.bind ?_ (fun _ => ?_)
    · intro y0 y1
      unfold vendmeterref_DigitsMay.l0
      repeat' first
      | (with_reducible exact ih0 _ _)
      | (with_reducible exact ih1 _ _)
      | (with_reducible exact LeO.refl _)
      | (with_reducible exact LeO.none _)
      | (with_reducible refine LeO.ite ?_ ?_)
      | (with_reducible refine LeO.bind ?_ (fun _ => ?_))
      | exact ih0 _ _
      | exact ih1 _ _
      | exact LeO.none _
      | refine LeO.ite ?_ ?_
      | refine LeO.bind ?_ (fun _ => ?_)
theorem vendmeterref_DigitsMay.mono : ∀ a0 k, LeO (vendmeterref_DigitsMay.f k a0) (vendmeterref_DigitsMay.f (k + 1) a0) := by
  intro a0 k
  obtain ⟨ih0, ih1⟩ := vendmeterref_DigitsMay.mono_l k
  unfold vendmeterref_DigitsMay.f
  repeat' first
      | (with_reducible exact ih0 _ _)
      | (with_reducible exact ih1 _ _)
      | (with_reducible exact LeO.refl _)
      | (with_reducible exact LeO.none _)
      | (with_reducible refine LeO.ite ?_ ?_)
      | (with_reducible refine LeO.bind ?_ (fun _ => ?_))
      | exact ih0 _ _
      | exact ih1 _ _
      | exact LeO.none _
      | refine LeO.ite ?_ ?_
      | refine LeO.bind ?_ (fun _ => ?_)
set_option maxHeartbeats 8000000 in
set_option maxRecDepth 100000 in
theorem vendmeterref_DigitsMay.calls (k : Nat) (a0 : ByteArray) (r : Int) (w : World) (h : vendmeterref_DigitsMay.f k a0 = some r) :
    Calls Try.prog 28 #[.string a0] w fun e w' => e = .returned (.int .i64 r) ∧ Drawn0 w w' := by
  have H : (if (a0.size : Int) < 1 then (vendmeterref_DigitsMay.j0 k a0 true) else (vendmeterref_DigitsMay.j0 k a0 (decide ((a0.size : Int) > 200)))) = some r := h
  clear h
  have HC2 := Aside0.mk H
  clear H
  go_enter Try.func28, Try.ntmps28
  go_upto_region 1 with (fail)
  go_cut [11] (fun v11 wc => ∃ (kq : Nat) (x11_1 : Bool), v11 = .bool x11_1 ∧ Aside0 (vendmeterref_DigitsMay.j0 kq a0 x11_1 = some r) ∧ Aside0 (kq ≤ k) ∧ Drawn0 w wc)
  case first =>
    have H := HC2.out
    clear HC2
    by_cases c3 : (a0.size : Int) < 1
    · rw [if_pos c3] at H
      have c3b0 : decide ((a0.size : Int) < 1) = true := decide_eq_true c3
      have c3b1 : decide (a0.size < 1) = true := decide_eq_true (by omega)
      clear c3
      (first | rw [c3b0] | (simp only [i64_w, i32_w]; rw [c3b0]) | skip)
      have H' := Aside0.mk H
      clear H
      go_wp2
      go_meet
      case rel => exact ⟨_, (true), (by first | rfl | (simp; done) | (simp [*]; done)), H', ⟨by first | omega | exact Nat.le_refl _⟩, by repeat (first | exact Drawn0.refl _ | apply Drawn0.step)⟩
    · rw [if_neg c3] at H
      have c3b0 : decide ((a0.size : Int) < 1) = false := decide_eq_false c3
      have c3b1 : decide (a0.size < 1) = false := decide_eq_false (by omega)
      clear c3
      (first | rw [c3b0] | (simp only [i64_w, i32_w]; rw [c3b0]) | skip)
      have H' := Aside0.mk H
      clear H
      go_wp2
      go_meet
      case rel => exact ⟨_, (decide ((a0.size : Int) > 200)), (by first | rfl | (simp; done) | (simp [*]; done)), H', ⟨by first | omega | exact Nat.le_refl _⟩, by repeat (first | exact Drawn0.refl _ | apply Drawn0.step)⟩
  case rest =>
    clear HC2
    try clear c2
    try clear p2
    try clear c3
    try clear c3b0
    try clear c3b1
    obtain ⟨kq, x11_1, rfl, HA, HJ1, ⟨mc1, rfl⟩⟩ := hcut
    cases kq with
    | zero => exact absurd HA.out (by simp [vendmeterref_DigitsMay.j0])
    | succ kj1 =>
      have H := HA.out
      clear HA
      simp only [vendmeterref_DigitsMay.j0] at H
      by_cases c4 : x11_1 = true
      · subst c4
        have H1 : (some 1) = some r := by rw [if_pos rfl] at H; exact H
        clear H
        have H := H1
        clear H1
        obtain rfl := Option.some.inj H
        go_wp2
        go_ret
        exact ⟨by first | rfl | (simp; done) | (simp [*]; done), by repeat (first | exact Drawn0.refl _ | apply Drawn0.step)⟩
      · replace c4 := Bool.eq_false_iff.mpr c4
        subst c4
        have H1 : (vendmeterref_DigitsMay.l0 kj1 a0 0) = some r := by rw [if_neg (show ¬ (false = true) by decide)] at H; exact H
        clear H
        have H := H1
        clear H1
        have H' := Aside0.mk H
        clear H
        go_wp2
        go_loopg [3] kj1 (fun kq v3 w' => ∃ (x3_2 : Int), v3 = .int .i64 x3_2 ∧ Aside0 (vendmeterref_DigitsMay.l0 kq a0 x3_2 = some r) ∧ Aside0 (kq ≤ kj1) ∧ Drawn0 w w')
        case atStart => exact ⟨(0), (by first | rfl | (simp; done) | (simp [*]; done)), H', ⟨Nat.le_refl _⟩, by repeat (first | exact Drawn0.refl _ | apply Drawn0.step)⟩
        case round =>
          clear H'
          try clear c1
          try clear c2
          try clear p2
          try clear c3
          try clear c3b0
          try clear c3b1
          try clear c4
          try clear p2
          obtain ⟨x3_2, rfl, HA, HK2, ⟨m2, rfl⟩⟩ := hrel
          cases gk with
          | zero => exact absurd HA.out (by simp [vendmeterref_DigitsMay.l0])
          | succ k2 =>
            have H := HA.out
            clear HA
            simp only [vendmeterref_DigitsMay.l0] at H
            by_cases c5 : x3_2 < (a0.size : Int)
            · rw [if_pos c5] at H
              have c5b0 : decide (x3_2 < (a0.size : Int)) = true := decide_eq_true c5
              clear c5
              by_cases c6 : 0 ≤ x3_2
              · rw [if_pos c6] at H
                have c6b0 : decide (0 ≤ x3_2) = true := decide_eq_true c6
                clear c6
                replace H := Option.bind_eq_some_iff.mp H
                obtain ⟨t106, A80, H⟩ := H
                replace H : (if t106 = true then (vendmeterref_DigitsMay.l0 k2 a0 (wrap64 (x3_2 + 1))) else (some 7)) = some r := H
                have A8 := Aside0.mk A80
                clear A80
                by_cases c9 : t106 = true
                · subst c9
                  have H1 : (vendmeterref_DigitsMay.l0 k2 a0 (wrap64 (x3_2 + 1))) = some r := by rw [if_pos rfl] at H; exact H
                  clear H
                  have H := H1
                  clear H1
                  have H' := Aside0.mk H
                  clear H
                  have p7 : 0 ≤ (x3_2 : Int) := of_decide_eq_true (by first | (with_reducible assumption) | assumption)
                  have q7 : x3_2 < (a0.size : Int) := of_decide_eq_true (by first | (with_reducible assumption) | assumption)
                  have hx7 := bt_at a0 x3_2
                  replace p7 := eq_true p7
                  replace q7 := eq_true q7
                  go_wp2_with (first | ((with_reducible refine gate_callee (f := 43) rfl ?_); refine goesL_ (some 21) rfl rfl Try.func43 (by kernel_rfl) rfl #[.int .u8 (bt a0 x3_2)] rfl (by (try simp only [List.map_toArray, List.map_cons, List.map_nil]); first | done | rfl | (simp only [List.length_drop, List.length_take]; rfl)) ?_; (with_reducible refine (vendmeterref_Digit.calls (bt a0 x3_2) true _ A8.out).mono ?_); rintro e w' ⟨rfl, ⟨nd, rfl⟩⟩; refine ⟨_, rfl, ?_⟩))
                  go_roundg k2
                  case measure => have := HJ1.out; have := HK2.out; omega
                  case rel => exact ⟨(wrap64 (x3_2 + 1)), (by first | rfl | (simp; done) | (simp [*]; done)), H', ⟨by have := HJ1.out; have := HK2.out; omega⟩, by repeat (first | exact Drawn0.refl _ | apply Drawn0.step)⟩
                · replace c9 := Bool.eq_false_iff.mpr c9
                  subst c9
                  have H1 : (some 7) = some r := by rw [if_neg (show ¬ (false = true) by decide)] at H; exact H
                  clear H
                  have H := H1
                  clear H1
                  obtain rfl := Option.some.inj H
                  have p7 : 0 ≤ (x3_2 : Int) := of_decide_eq_true (by first | (with_reducible assumption) | assumption)
                  have q7 : x3_2 < (a0.size : Int) := of_decide_eq_true (by first | (with_reducible assumption) | assumption)
                  have hx7 := bt_at a0 x3_2
                  replace p7 := eq_true p7
                  replace q7 := eq_true q7
                  go_wp2_with (first | ((with_reducible refine gate_callee (f := 43) rfl ?_); refine goesL_ (some 21) rfl rfl Try.func43 (by kernel_rfl) rfl #[.int .u8 (bt a0 x3_2)] rfl (by (try simp only [List.map_toArray, List.map_cons, List.map_nil]); first | done | rfl | (simp only [List.length_drop, List.length_take]; rfl)) ?_; (with_reducible refine (vendmeterref_Digit.calls (bt a0 x3_2) false _ A8.out).mono ?_); rintro e w' ⟨rfl, ⟨nd, rfl⟩⟩; refine ⟨_, rfl, ?_⟩))
                  go_ret
                  exact ⟨by first | rfl | (simp; done) | (simp [*]; done), by repeat (first | exact Drawn0.refl _ | apply Drawn0.step)⟩
              · rw [if_neg c6] at H
                exact absurd H (by simp)
            · rw [if_neg c5] at H
              have c5b0 : decide (x3_2 < (a0.size : Int)) = false := decide_eq_false c5
              clear c5
              obtain rfl := Option.some.inj H
              go_wp2
              go_ret
              exact ⟨by first | rfl | (simp; done) | (simp [*]; done), by repeat (first | exact Drawn0.refl _ | apply Drawn0.step)⟩

/-! ### vendmeterref_In: function 35 -/
def vendmeterref_In.f (a0 : Int) (a1 : Int) (a2 : Int) : Option (Bool) := if a0 ≥ a1 then (some (decide (a0 ≤ a2))) else (some false)
set_option maxHeartbeats 8000000 in
set_option maxRecDepth 100000 in
theorem vendmeterref_In.calls (a0 : Int) (a1 : Int) (a2 : Int) (r : Bool) (w : World) (h : vendmeterref_In.f a0 a1 a2 = some r) :
    Calls Try.prog 35 #[.int .i64 a0, .int .i64 a1, .int .i64 a2] w fun e w' => e = .returned (.bool r) ∧ Drawn0 w w' := by
  have H : (if a0 ≥ a1 then (some (decide (a0 ≤ a2))) else (some false)) = some r := h
  clear h
  by_cases c4 : a0 ≥ a1
  · rw [if_pos c4] at H
    have c4b0 : decide (a1 ≤ a0) = true := decide_eq_true c4
    clear c4
    obtain rfl := Option.some.inj H
    go_enter Try.func35, Try.ntmps35
    go_wp2
    go_ret
    exact ⟨by first | rfl | (simp; done) | (simp [*]; done), by repeat (first | exact Drawn0.refl _ | apply Drawn0.step)⟩
  · rw [if_neg c4] at H
    have c4b0 : decide (a1 ≤ a0) = false := decide_eq_false c4
    clear c4
    obtain rfl := Option.some.inj H
    go_enter Try.func35, Try.ntmps35
    go_wp2
    go_ret
    exact ⟨by first | rfl | (simp; done) | (simp [*]; done), by repeat (first | exact Drawn0.refl _ | apply Drawn0.step)⟩

/-! ### vendmeterref_corner: function 36 -/
def vendmeterref_corner.f (a0 : Int) (a1 : Int) : Option (Int) := if a0 < 5 then (some (Int.tmod (wrap64 (a1 + a0)) 5)) else (some (Int.tmod (wrap64 (a0 - a1)) 5))
set_option maxHeartbeats 8000000 in
set_option maxRecDepth 100000 in
theorem vendmeterref_corner.calls (a0 : Int) (a1 : Int) (r : Int) (w : World) (h : vendmeterref_corner.f a0 a1 = some r) :
    Calls Try.prog 36 #[.int .i64 a0, .int .i64 a1] w fun e w' => e = .returned (.int .i64 r) ∧ Drawn0 w w' := by
  have H : (if a0 < 5 then (some (Int.tmod (wrap64 (a1 + a0)) 5)) else (some (Int.tmod (wrap64 (a0 - a1)) 5))) = some r := h
  clear h
  by_cases c3 : a0 < 5
  · rw [if_pos c3] at H
    have c3b0 : decide (a0 < 5) = true := decide_eq_true c3
    clear c3
    obtain rfl := Option.some.inj H
    go_enter Try.func36, Try.ntmps36
    go_wp2
    go_ret
    exact ⟨by first | rfl | (simp; done) | (simp [*]; done), by repeat (first | exact Drawn0.refl _ | apply Drawn0.step)⟩
  · rw [if_neg c3] at H
    have c3b0 : decide (a0 < 5) = false := decide_eq_false c3
    clear c3
    obtain rfl := Option.some.inj H
    go_enter Try.func36, Try.ntmps36
    go_wp2
    go_ret
    exact ⟨by first | rfl | (simp; done) | (simp [*]; done), by repeat (first | exact Drawn0.refl _ | apply Drawn0.step)⟩

end Go.Proofs.Ytccokgnohmafjaa.PCheckDigits
