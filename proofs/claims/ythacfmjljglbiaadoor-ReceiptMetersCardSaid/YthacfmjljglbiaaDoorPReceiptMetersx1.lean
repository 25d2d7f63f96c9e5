-- written by this session's program wip/xp/xprint.py (it drives the kit's print and adds to it)
import Derived.Test.YthacfmjljglbiaaDoorPReceiptMetersx0
namespace Go.Proofs.YthacfmjljglbiaaDoor.PReceiptMeters
open Go.RowKit Go.Proofs.YthacfmjljglbiaaDoorW.PrintWords Go.Proofs.YthacfmjljglbiaaDoorW.PrintLast Go.Proofs.YthacfmjljglbiaaDoorW.PrintMore
attribute [local go_sem] max2_int min2_int max_two min_two max_three min_three max_four min_four   -- for this text's walks alone
set_option linter.unusedVariables false
set_option linter.unusedSimpArgs false

/-! ### check_digits: function 39 (a range over a string: by hand) -/
def check_digits.l0 : Nat → ByteArray → Nat → Option (Int)
  | 0, _, _ => none
  | k + 1, s, p => if p < s.size then (if ((Utf8.decode s p).1 : Int) < 48 then (some 7) else (if ((Utf8.decode s p).1 : Int) > 57 then (some 7) else (check_digits.l0 k s (p + (Utf8.decode s p).2)))) else (some 0)
def check_digits.f (k : Nat) (a0 : ByteArray) : Option (Int) := if a0.toList.isEmpty = true then (some 1) else (if (a0.size : Int) > 200 then (some 1) else (check_digits.l0 k a0 0))
theorem check_digits.mono_l : ∀ k s p, LeO (check_digits.l0 k s p) (check_digits.l0 (k + 1) s p)
  | 0, _, _ => by intro r h; simp [check_digits.l0] at h
  | k + 1, s, p => by
    have ih := check_digits.mono_l k
    unfold check_digits.l0
    repeat' first
      | (with_reducible exact ih _ _)
      | (with_reducible exact LeO.refl _)
      | (with_reducible refine LeO.ite ?_ ?_)
theorem check_digits.mono : ∀ a0 k, LeO (check_digits.f k a0) (check_digits.f (k + 1) a0) := by
  intro a0 k
  unfold check_digits.f
  repeat' first
    | (with_reducible exact check_digits.mono_l _ _ _)
    | (with_reducible exact LeO.refl _)
    | (with_reducible refine LeO.ite ?_ ?_)
set_option maxHeartbeats 8000000 in
set_option maxRecDepth 100000 in
theorem check_digits.calls (k : Nat) (a0 : ByteArray) (r : Int) (w : World) (h : check_digits.f k a0 = some r) :
    Calls Tryd.prog 39 #[.string a0] w fun e w' => e = .returned (.int .i64 r) ∧ Below w.heap.size w w' := by
  have H : (if a0.toList.isEmpty = true then (some 1) else (if (a0.size : Int) > 200 then (some 1) else (check_digits.l0 k a0 0))) = some r := h
  clear h
  by_cases c1 : a0.toList.isEmpty = true
  · rw [if_pos c1] at H
    obtain rfl := Option.some.inj H
    go_enter Tryd.func39, Tryd.ntmps39
    go_wp2
    go_ret
    exact ⟨rfl, by repeat (first | exact Below.refl _ _ | apply below_drew1 | apply pw_below_drewN)⟩
  · rw [if_neg c1] at H
    have c1b : a0.toList.isEmpty = false := Bool.eq_false_iff.mpr c1
    by_cases c2 : (a0.size : Int) > 200
    · rw [if_pos c2] at H
      obtain rfl := Option.some.inj H
      have c2b : decide ((a0.size : Int) > 200) = true := decide_eq_true c2
      go_enter Tryd.func39, Tryd.ntmps39
      go_wp2
      go_ret
      exact ⟨rfl, by repeat (first | exact Below.refl _ _ | apply below_drew1 | apply pw_below_drewN)⟩
    · rw [if_neg c2] at H
      have c2b : decide ((a0.size : Int) > 200) = false := decide_eq_false c2
      have H' := Aside0.mk H
      clear H
      go_enter Tryd.func39, Tryd.ntmps39
      go_wp2
      go_loopg [] k (fun kq w' => ∃ p : Nat, Aside0 (check_digits.l0 kq a0 p = some r) ∧ w'.heap[w.heap.size]? = some (.stringIter a0 p) ∧ Below w.heap.size w w')
      case atStart => exact ⟨0, H', World.iter_heap w a0 0, (Below.refl _ _).alloc (Nat.le_refl _) _⟩
      case round =>
        clear H'
        obtain ⟨p, HA, hit, hbw⟩ := hrel
        cases gk with
        | zero => exact absurd HA.out (by simp [check_digits.l0])
        | succ k2 =>
          have H := HA.out
          clear HA
          simp only [check_digits.l0] at H
          by_cases hp : p < a0.size
          · rw [if_pos hp] at H
            have hnx : ∀ ty, (Instr.next (.pointer (some ⟨w.heap.size, 0, none⟩)) true ty).run Tryd.prog wr = _ := fun ty => Lib.run_next_any_at wr w.heap.size a0 p ty hit hp
            have hit2 := Lib.iterAt_heap wr w.heap.size a0 p (p + (Utf8.decode a0 p).2) hit
            have hbw2 := Lib.below_iterAt hbw (k := w.heap.size) (Nat.le_refl _) a0 (p + (Utf8.decode a0 p).2)
            obtain ⟨W1, hW1⟩ : ∃ W1, W1 = wr.iterAt w.heap.size a0 (p + (Utf8.decode a0 p).2) := ⟨_, rfl⟩
            rw [← hW1] at hnx hit2 hbw2
            clear hW1 hit hbw
            by_cases d1 : ((Utf8.decode a0 p).1 : Int) < 48
            · rw [if_pos d1] at H
              obtain rfl := Option.some.inj H
              have d1b : decide (((Utf8.decode a0 p).1 : Int) < 48) = true := decide_eq_true d1
              go_wp2
              go_ret
              exact ⟨rfl, by repeat (first | exact hbw2 | apply below_drew1 | apply pw_below_drewN)⟩
            · rw [if_neg d1] at H
              have d1b : decide (((Utf8.decode a0 p).1 : Int) < 48) = false := decide_eq_false d1
              by_cases d2 : ((Utf8.decode a0 p).1 : Int) > 57
              · rw [if_pos d2] at H
                obtain rfl := Option.some.inj H
                have d2b : decide (((Utf8.decode a0 p).1 : Int) > 57) = true := decide_eq_true d2
                go_wp2
                go_ret
                exact ⟨rfl, by repeat (first | exact hbw2 | apply below_drew1 | apply pw_below_drewN)⟩
              · rw [if_neg d2] at H
                have d2b : decide (((Utf8.decode a0 p).1 : Int) > 57) = false := decide_eq_false d2
                have H' := Aside0.mk H
                clear H
                go_wp2
                go_roundg k2
                case measure => exact Nat.lt_succ_self _
                case rel => exact ⟨_, H', hit2, hbw2⟩
          · rw [if_neg hp] at H
            obtain rfl := Option.some.inj H
            have hnx : ∀ ty, (Instr.next (.pointer (some ⟨w.heap.size, 0, none⟩)) true ty).run Tryd.prog wr = _ := fun ty => Lib.run_next_end_at wr w.heap.size a0 p ty hit hp
            go_wp2
            go_ret
            exact ⟨rfl, by repeat (first | exact hbw | apply below_drew1 | apply pw_below_drewN)⟩

/-! ### check_Rest: function 15 (a range over a string: by hand) -/
def check_Rest.l0 : Nat → ByteArray → Nat → Int → Option (Int × Int)
  | 0, _, _, _ => none
  | k + 1, s, p, n => if p < s.size then (check_Rest.l0 k s (p + (Utf8.decode s p).2) (Int.tmod (wrap64 (wrap64 (n * 10) + wrap64 (wrap32 (((Utf8.decode s p).1 : Int) - 48)))) 97)) else (some (n, 0))
def check_Rest.f (k : Nat) (a0 : ByteArray) : Option (Int × Int) := (check_digits.f k a0).bind fun t => (if t = 0 then (check_Rest.l0 k a0 0 0) else (some (0, t)))
theorem check_Rest.mono_l : ∀ k s p n, LeO (check_Rest.l0 k s p n) (check_Rest.l0 (k + 1) s p n)
  | 0, _, _, _ => by intro r h; simp [check_Rest.l0] at h
  | k + 1, s, p, n => by
    have ih := check_Rest.mono_l k
    unfold check_Rest.l0
    repeat' first
      | (with_reducible exact ih _ _ _)
      | (with_reducible exact LeO.refl _)
      | (with_reducible refine LeO.ite ?_ ?_)
theorem check_Rest.mono : ∀ a0 k, LeO (check_Rest.f k a0) (check_Rest.f (k + 1) a0) := by
  intro a0 k
  unfold check_Rest.f
  repeat' first
    | (with_reducible exact check_digits.mono _ _)
    | (with_reducible exact check_Rest.mono_l _ _ _ _)
    | (with_reducible exact LeO.refl _)
    | (with_reducible refine LeO.ite ?_ ?_)
    | (with_reducible refine LeO.bind ?_ (fun _ => ?_))
set_option maxHeartbeats 8000000 in
set_option maxRecDepth 100000 in
theorem check_Rest.calls (k : Nat) (a0 : ByteArray) (r1 : Int) (r2 : Int) (w : World) (h : check_Rest.f k a0 = some (r1, r2)) :
    Calls Tryd.prog 15 #[.string a0] w fun e w' => e = .returned (.tuple #[.int .i64 r1, .int .i64 r2]) ∧ Below w.heap.size w w' := by
  have H : ((check_digits.f k a0).bind fun t => (if t = 0 then (check_Rest.l0 k a0 0 0) else (some (0, t)))) = some (r1, r2) := h
  clear h
  replace H := Option.bind_eq_some_iff.mp H
  obtain ⟨t1, A1, H⟩ := H
  have A2 := Aside0.mk A1
  clear A1
  by_cases c1 : t1 = 0
  · subst c1
    rw [if_pos rfl] at H
    have H' := Aside0.mk H
    clear H
    go_enter Tryd.func15, Tryd.ntmps15
    go_wp2_with (go_at_call 39; refine (check_digits.calls k a0 0 _ A2.out).mono ?_; rintro e w1 ⟨rfl, hb1⟩)
    have hb2 : Below w.heap.size w (w1.iter a0 0) := hb1.alloc hb1.size _
    have hit0 := World.iter_heap w1 a0 0
    have hle : w.heap.size ≤ w1.heap.size := hb1.size
    go_loopg [5] k (fun kq v5 w' => ∃ (p : Nat) (n : Int), v5 = .int .i64 n ∧ Aside0 (check_Rest.l0 kq a0 p n = some (r1, r2)) ∧ w'.heap[w1.heap.size]? = some (.stringIter a0 p) ∧ Below w.heap.size w w')
    case atStart => exact ⟨0, 0, rfl, H', hit0, hb2⟩
    case round =>
      clear H' hit0 hb2 hb1
      obtain ⟨p, n, rfl, HA, hit, hbw⟩ := hrel
      cases gk with
      | zero => exact absurd HA.out (by simp [check_Rest.l0])
      | succ k2 =>
        have H := HA.out
        clear HA
        simp only [check_Rest.l0] at H
        by_cases hp : p < a0.size
        · rw [if_pos hp] at H
          have hnx : ∀ ty, (Instr.next (.pointer (some ⟨w1.heap.size, 0, none⟩)) true ty).run Tryd.prog wr = _ := fun ty => Lib.run_next_any_at wr w1.heap.size a0 p ty hit hp
          have hit2 := Lib.iterAt_heap wr w1.heap.size a0 p (p + (Utf8.decode a0 p).2) hit
          have hbw2 := Lib.below_iterAt hbw (k := w1.heap.size) hle a0 (p + (Utf8.decode a0 p).2)
          obtain ⟨W1, hW1⟩ : ∃ W1, W1 = wr.iterAt w1.heap.size a0 (p + (Utf8.decode a0 p).2) := ⟨_, rfl⟩
          rw [← hW1] at hnx hit2 hbw2
          clear hW1 hit hbw
          have H' := Aside0.mk H
          clear H
          go_wp2
          go_roundg k2
          case measure => exact Nat.lt_succ_self _
          case rel => exact ⟨_, _, rfl, H', hit2, hbw2⟩
        · rw [if_neg hp] at H
          obtain ⟨rfl, rfl⟩ : n = r1 ∧ 0 = r2 := by simpa using H
          have hnx : ∀ ty, (Instr.next (.pointer (some ⟨w1.heap.size, 0, none⟩)) true ty).run Tryd.prog wr = _ := fun ty => Lib.run_next_end_at wr w1.heap.size a0 p ty hit hp
          go_wp2
          go_ret2
          exact ⟨rfl, by repeat (first | exact hbw | apply below_drew1 | apply pw_below_drewN)⟩
  · rw [if_neg c1] at H
    obtain ⟨rfl, rfl⟩ : 0 = r1 ∧ t1 = r2 := by simpa using H
    have c1b : (t1 != 0) = true := bne_iff_ne.mpr c1
    have c1c : (t1 == 0) = false := beq_eq_false_iff_ne.mpr c1
    go_enter Tryd.func15, Tryd.ntmps15
    go_wp2_with (go_at_call 39; refine (check_digits.calls k a0 t1 _ A2.out).mono ?_; rintro e w1 ⟨rfl, hb1⟩)
    go_ret2
    exact ⟨rfl, by repeat (first | exact hb1 | apply below_drew1 | apply pw_below_drewN)⟩

/-! ### check_turn_then: function 68 -/
def check_turn_then.f (a0 : Int) (a1 : Int) : Option (Int) := if a0 ≥ 5 then (if (wrap64 (Int.tdiv a1 5)) = 1 then (some (Int.tmod (wrap64 ((Int.tmod (wrap64 ((wrap64 ((wrap64 (a0 - 5)) - (Int.tmod a1 5))) + (wrap64 (5 * (wrap64 (Int.tdiv a1 5)))))) 5) + 5)) 5)) else (some (wrap64 (5 + (Int.tmod (wrap64 ((Int.tmod (wrap64 ((wrap64 ((wrap64 (a0 - 5)) - (Int.tmod a1 5))) + (wrap64 (5 * (wrap64 (Int.tdiv a1 5)))))) 5) + 5)) 5))))) else (some (wrap64 ((wrap64 (5 * (wrap64 (Int.tdiv a1 5)))) + (Int.tmod (wrap64 (a0 + (Int.tmod a1 5))) 5))))
set_option maxHeartbeats 8000000 in
set_option maxRecDepth 100000 in
theorem check_turn_then.calls (a0 : Int) (a1 : Int) (r : Int) (w : World) (h : check_turn_then.f a0 a1 = some r) :
    Calls Tryd.prog 68 #[.int .i64 a0, .int .i64 a1] w fun e w' => e = .returned (.int .i64 r) ∧ Drawn0 w w' := by
  have H : (if a0 ≥ 5 then (if (wrap64 (Int.tdiv a1 5)) = 1 then (some (Int.tmod (wrap64 ((Int.tmod (wrap64 ((wrap64 ((wrap64 (a0 - 5)) - (Int.tmod a1 5))) + (wrap64 (5 * (wrap64 (Int.tdiv a1 5)))))) 5) + 5)) 5)) else (some (wrap64 (5 + (Int.tmod (wrap64 ((Int.tmod (wrap64 ((wrap64 ((wrap64 (a0 - 5)) - (Int.tmod a1 5))) + (wrap64 (5 * (wrap64 (Int.tdiv a1 5)))))) 5) + 5)) 5))))) else (some (wrap64 ((wrap64 (5 * (wrap64 (Int.tdiv a1 5)))) + (Int.tmod (wrap64 (a0 + (Int.tmod a1 5))) 5))))) = some r := h
  clear h
  by_cases c3 : a0 ≥ 5
  · rw [if_pos c3] at H
    have c3b0 : decide (5 ≤ a0) = true := decide_eq_true c3
    clear c3
    by_cases c4 : (wrap64 (Int.tdiv a1 5)) = 1
    · rw [if_pos c4] at H
      have c4b0 : ((wrap64 (Int.tdiv a1 5)) == 1) = true := beq_iff_eq.mpr c4
      have c4b1 : ((wrap64 (Int.tdiv a1 5)) != 1) = false := bne_eq_false_iff_eq.mpr c4
      clear c4
      obtain rfl := Option.some.inj H
      go_enter Tryd.func68, Tryd.ntmps68
      go_wp2
      go_ret
      exact ⟨by first | rfl | (simp; done) | (simp [*]; done), by repeat (first | exact Drawn0.refl _ | apply Drawn0.step)⟩
    · rw [if_neg c4] at H
      have c4b0 : ((wrap64 (Int.tdiv a1 5)) == 1) = false := beq_eq_false_iff_ne.mpr c4
      have c4b1 : ((wrap64 (Int.tdiv a1 5)) != 1) = true := bne_iff_ne.mpr c4
      obtain rfl := Option.some.inj H
      go_enter Tryd.func68, Tryd.ntmps68
      go_wp2
      go_ret
      exact ⟨by first | rfl | (simp; done) | (simp [*]; done), by repeat (first | exact Drawn0.refl _ | apply Drawn0.step)⟩
  · rw [if_neg c3] at H
    have c3b0 : decide (5 ≤ a0) = false := decide_eq_false c3
    clear c3
    obtain rfl := Option.some.inj H
    go_enter Tryd.func68, Tryd.ntmps68
    go_wp2
    go_ret
    exact ⟨by first | rfl | (simp; done) | (simp [*]; done), by repeat (first | exact Drawn0.refl _ | apply Drawn0.step)⟩

/-! ### check_moved: function 69 (a table laid as an array: by hand) -/
def check_moved.tab (d : Int) : Int := if d = 0 then 1 else if d = 1 then 5 else if d = 2 then 7 else if d = 3 then 6 else if d = 4 then 2 else if d = 5 then 8 else if d = 6 then 3 else if d = 7 then 0 else if d = 8 then 9 else 4
def check_moved.l0 : Nat → Int → Int → Int → Option (Int)
  | 0, _, _, _ => none
  | k + 1, d, n, i => if i < n then (if 0 ≤ d then (if d < 10 then (check_moved.l0 k (check_moved.tab d) n (wrap64 (i + 1))) else (none)) else (none)) else (some d)
def check_moved.f (k : Nat) (a0 : Int) (a1 : Int) : Option (Int) := check_moved.l0 k a0 (Int.tmod a1 8) 0
theorem check_moved.mono_l : ∀ k d n i, LeO (check_moved.l0 k d n i) (check_moved.l0 (k + 1) d n i)
  | 0, _, _, _ => by intro r h; simp [check_moved.l0] at h
  | k + 1, d, n, i => by
    have ih := check_moved.mono_l k
    unfold check_moved.l0
    repeat' first
      | (with_reducible exact ih _ _ _)
      | (with_reducible exact LeO.refl _)
      | (with_reducible refine LeO.ite ?_ ?_)
theorem check_moved.mono : ∀ a0 a1 k, LeO (check_moved.f k a0 a1) (check_moved.f (k + 1) a0 a1) := by
  intro a0 a1 k
  unfold check_moved.f
  exact check_moved.mono_l _ _ _ _
set_option maxHeartbeats 8000000 in
set_option maxRecDepth 100000 in
theorem check_moved.calls (k : Nat) (a0 : Int) (a1 : Int) (r : Int) (w : World) (h : check_moved.f k a0 a1 = some r) :
    Calls Tryd.prog 69 #[.int .i64 a0, .int .i64 a1] w fun e w' => e = .returned (.int .i64 r) ∧ Below w.heap.size w w' := by
  have H' := Aside0.mk (show check_moved.l0 k a0 (Int.tmod a1 8) 0 = some r from h)
  clear h
  have hu := Tryd.underlying53
  go_enter Tryd.func69, Tryd.ntmps69
  go_wp2
  go_loopg [0, 9] k (fun kq v0 v9 w' => ∃ (d : Int) (i : Int), v0 = .int .i64 d ∧ v9 = .int .i64 i ∧ Aside0 (check_moved.l0 kq d (Int.tmod a1 8) i = some r) ∧ w'.heap[w.heap.size]? = some (.cells #[.int .i64 1, .int .i64 5, .int .i64 7, .int .i64 6, .int .i64 2, .int .i64 8, .int .i64 3, .int .i64 0, .int .i64 9, .int .i64 4] 151 (0, 0)) ∧ Below w.heap.size w w')
  case atStart => exact ⟨a0, 0, rfl, rfl, H', blk_new w _, (Below.refl _ _).alloc (Nat.le_refl _) _⟩
  case round =>
    clear H'
    obtain ⟨d, i, rfl, rfl, HA, hit, hbw⟩ := hrel
    cases gk with
    | zero => exact absurd HA.out (by simp [check_moved.l0])
    | succ k2 =>
      have H := HA.out
      clear HA
      simp only [check_moved.l0] at H
      by_cases hi : i < Int.tmod a1 8
      · rw [if_pos hi] at H
        have hib : decide (i < Int.tmod a1 8) = true := decide_eq_true hi
        by_cases h0 : 0 ≤ d
        · rw [if_pos h0] at H
          by_cases h10 : d < 10
          · rw [if_pos h10] at H
            have hd : d = 0 ∨ d = 1 ∨ d = 2 ∨ d = 3 ∨ d = 4 ∨ d = 5 ∨ d = 6 ∨ d = 7 ∨ d = 8 ∨ d = 9 := by omega
            have H' := Aside0.mk H
            clear H hi
            have hc0 : wr.cell? ⟨w.heap.size, 0, none⟩ = some (.int .i64 1) := (blk_cell hit 0).trans rfl
            have hf0 := blk_frozen hit 0
            have hc1 : wr.cell? ⟨w.heap.size, 1, none⟩ = some (.int .i64 5) := (blk_cell hit 1).trans rfl
            have hf1 := blk_frozen hit 1
            have hc2 : wr.cell? ⟨w.heap.size, 2, none⟩ = some (.int .i64 7) := (blk_cell hit 2).trans rfl
            have hf2 := blk_frozen hit 2
            have hc3 : wr.cell? ⟨w.heap.size, 3, none⟩ = some (.int .i64 6) := (blk_cell hit 3).trans rfl
            have hf3 := blk_frozen hit 3
            have hc4 : wr.cell? ⟨w.heap.size, 4, none⟩ = some (.int .i64 2) := (blk_cell hit 4).trans rfl
            have hf4 := blk_frozen hit 4
            have hc5 : wr.cell? ⟨w.heap.size, 5, none⟩ = some (.int .i64 8) := (blk_cell hit 5).trans rfl
            have hf5 := blk_frozen hit 5
            have hc6 : wr.cell? ⟨w.heap.size, 6, none⟩ = some (.int .i64 3) := (blk_cell hit 6).trans rfl
            have hf6 := blk_frozen hit 6
            have hc7 : wr.cell? ⟨w.heap.size, 7, none⟩ = some (.int .i64 0) := (blk_cell hit 7).trans rfl
            have hf7 := blk_frozen hit 7
            have hc8 : wr.cell? ⟨w.heap.size, 8, none⟩ = some (.int .i64 9) := (blk_cell hit 8).trans rfl
            have hf8 := blk_frozen hit 8
            have hc9 : wr.cell? ⟨w.heap.size, 9, none⟩ = some (.int .i64 4) := (blk_cell hit 9).trans rfl
            have hf9 := blk_frozen hit 9
            generalize Int.tmod a1 8 = n at *
            rcases hd with rfl | rfl | rfl | rfl | rfl | rfl | rfl | rfl | rfl | rfl
            all_goals (
              go_wp2
              go_roundg k2
              case measure => exact Nat.lt_succ_self _
              case rel => exact ⟨_, _, rfl, rfl, H', hit, hbw⟩)
          · rw [if_neg h10] at H
            simp at H
        · rw [if_neg h0] at H
          simp at H
      · rw [if_neg hi] at H
        have hib : decide (i < Int.tmod a1 8) = false := decide_eq_false hi
        obtain rfl := Option.some.inj H
        go_wp2
        go_ret
        exact ⟨rfl, by repeat (first | exact hbw | apply below_drew1 | apply pw_below_drewN)⟩

/-! ### check_all: function 40 -/
theorem xa40 {w : World} {g : Nat} {o : Obj} (h : w.heap[g]? = some o) (o' : Obj) : (w.alloc o').heap[g]? = some o := blk_alloc h o'
theorem xd40 {w : World} {g : Nat} {o : Obj} (h : w.heap[g]? = some o) : w.drew.heap[g]? = some o := blk_drew h
theorem xn40 {w : World} {g : Nat} {o : Obj} (h : w.heap[g]? = some o) (n : Nat) : (w.drewN n).heap[g]? = some o := blk_drewN h n
theorem ya40 {w W : World} (h : Below w.heap.size w W) (o : Obj) : Below w.heap.size w (W.alloc o) := below_alloc h o
theorem yn40 {B : Nat} {w W : World} (h : Below B w W) (n : Nat) : Below B w (W.drewN n) := pw_below_drewN h n
theorem yd40 {B : Nat} {w W : World} (h : Below B w W) : Below B w W.drew := below_drew1 h
def check_all.l0 : Nat → ByteArray → Int → Int → Int → Int → Option (Int)
  | 0, _, _, _, _, _ => none
  | k + 1, x0, x1, x5, x8, x9 => if x9 < x8 then (if 0 ≤ (wrap64 ((wrap64 ((x0.size : Int) - 1)) - x9)) then (if (wrap64 ((wrap64 ((x0.size : Int) - 1)) - x9)) < (x0.size : Int) then ((check_moved.f k (((bt x0 (wrap64 ((wrap64 ((x0.size : Int) - 1)) - x9))) - 48) % 256) (wrap64 (x1 + x9))).bind fun t101 => ((check_turn_then.f x5 t101).bind fun t102 => (check_all.l0 k x0 x1 t102 x8 (wrap64 (x9 + 1))))) else (none)) else (none)) else (some x5)
def check_all.f (k : Nat) (a0 : ByteArray) (a1 : Int) : Option (Int) := check_all.l0 k a0 a1 0 (a0.size : Int) 0
theorem check_all.mono_l : ∀ k, (∀ y0 y1 y2 y3 y4, LeO (check_all.l0 k y0 y1 y2 y3 y4) (check_all.l0 (k + 1) y0 y1 y2 y3 y4))
  | 0 => fun _ _ _ _ _ r h => by simp [check_all.l0] at h
  | k + 1 => by
    have ih0 := check_all.mono_l k
    · intro y0 y1 y2 y3 y4
      unfold check_all.l0
      repeat' first
      | (with_reducible exact ih0 _ _ _ _ _)
      | (with_reducible exact check_moved.mono _ _ _)
      | (with_reducible exact LeO.refl _)
      | (with_reducible exact LeO.none _)
      | (with_reducible refine LeO.ite ?_ ?_)
      | (with_reducible refine LeO.bind ?_ (fun _ => ?_))
      | exact ih0 _ _ _ _ _
      | exact check_moved.mono _ _ _
      | exact LeO.none _
      | refine LeO.ite ?_ ?_
      | refine LeO.bind ?_ (fun _ => ?_)
theorem check_all.mono : ∀ a0 a1 k, LeO (check_all.f k a0 a1) (check_all.f (k + 1) a0 a1) := by
  intro a0 a1 k
  have ih0 := check_all.mono_l k
  unfold check_all.f
  repeat' first
      | (with_reducible exact ih0 _ _ _ _ _)
      | (with_reducible exact check_moved.mono _ _ _)
      | (with_reducible exact LeO.refl _)
      | (with_reducible exact LeO.none _)
      | (with_reducible refine LeO.ite ?_ ?_)
      | (with_reducible refine LeO.bind ?_ (fun _ => ?_))
      | exact ih0 _ _ _ _ _
      | exact check_moved.mono _ _ _
      | exact LeO.none _
      | refine LeO.ite ?_ ?_
      | refine LeO.bind ?_ (fun _ => ?_)
set_option maxHeartbeats 8000000 in
set_option maxRecDepth 100000 in
theorem check_all.calls (k : Nat) (a0 : ByteArray) (a1 : Int) (r : Int) (w : World) (h : check_all.f k a0 a1 = some r) :
    Calls Tryd.prog 40 #[.string a0, .int .i64 a1] w fun e w' => e = .returned (.int .i64 r) ∧ Below w.heap.size w w' := by
  have HB := Aside0.mk (Below.refl w.heap.size w)
  have H : (check_all.l0 k a0 a1 0 (a0.size : Int) 0) = some r := h
  clear h
  have H' := Aside0.mk H
  clear H
  go_enter Tryd.func40, Tryd.ntmps40
  go_wp2
  go_loopg [5, 9] k (fun kq v5 v9 w' => ∃ (x5_1 : Int) (x9_1 : Int), v5 = .int .i64 x5_1 ∧ v9 = .int .i64 x9_1 ∧ Aside0 (check_all.l0 kq a0 a1 x5_1 (a0.size : Int) x9_1 = some r) ∧ Aside0 (kq ≤ k) ∧ Aside0 (Below w.heap.size w w'))
  case atStart => exact ⟨(0), (0), (by first | rfl | (simp; done) | (simp [*]; done)), (by first | rfl | (simp; done) | (simp [*]; done)), H', ⟨Nat.le_refl _⟩, ⟨by repeat (first | (with_reducible first | exact HB.1 | apply below_alloc | apply pw_below_drewN | apply below_drew1) | exact HB.1)⟩⟩
  case round =>
    clear H'
    try clear p2
    obtain ⟨x5_1, x9_1, rfl, rfl, HA, HK1, HB⟩ := hrel
    cases gk with
    | zero => exact absurd HA.out (by simp [check_all.l0])
    | succ k1 =>
      have H := HA.out
      clear HA
      simp only [check_all.l0] at H
      by_cases c3 : x9_1 < (a0.size : Int)
      · rw [if_pos c3] at H
        have c3b0 : decide (x9_1 < (a0.size : Int)) = true := decide_eq_true c3
        clear c3
        obtain ⟨ji4, hji4⟩ : ∃ j_ : Int, (wrap64 ((wrap64 ((a0.size : Int) - 1)) - x9_1)) = j_ := ⟨_, rfl⟩
        replace H : (if 0 ≤ (ji4) then (if (ji4) < (a0.size : Int) then ((check_moved.f k1 (((bt a0 (ji4)) - 48) % 256) (wrap64 (a1 + x9_1))).bind fun t101 => ((check_turn_then.f x5_1 t101).bind fun t102 => (check_all.l0 k1 a0 a1 t102 (a0.size : Int) (wrap64 (x9_1 + 1))))) else (none)) else (none)) = some r := by first | (rw [hji4] at H; exact H) | (simp only [hji4] at H ⊢; exact H)
        have hji4w : (IntKind.i64.wrap ((wrap64 ((a0.size : Int) - 1)) - x9_1)) = ji4 := (i64_w _).trans hji4
        by_cases c5 : 0 ≤ (ji4)
        · rw [if_pos c5] at H
          have c5b0 : decide (0 ≤ (ji4)) = true := decide_eq_true c5
          clear c5
          by_cases c6 : (ji4) < (a0.size : Int)
          · rw [if_pos c6] at H
            have c6b0 : decide ((ji4) < (a0.size : Int)) = true := decide_eq_true c6
            clear c6
            replace H := Option.bind_eq_some_iff.mp H
            obtain ⟨t101, A80, H⟩ := H
            replace H : ((check_turn_then.f x5_1 t101).bind fun t102 => (check_all.l0 k1 a0 a1 t102 (a0.size : Int) (wrap64 (x9_1 + 1)))) = some r := H
            have A8 := Aside0.mk A80
            clear A80
            replace H := Option.bind_eq_some_iff.mp H
            obtain ⟨t102, A90, H⟩ := H
            replace H : (check_all.l0 k1 a0 a1 t102 (a0.size : Int) (wrap64 (x9_1 + 1))) = some r := H
            have A9 := Aside0.mk A90
            clear A90
            have H' := Aside0.mk H
            clear H
            have p7 : 0 ≤ ((ji4) : Int) := of_decide_eq_true (by first | (with_reducible assumption) | assumption)
            have q7 : (ji4) < (a0.size : Int) := of_decide_eq_true (by first | (with_reducible assumption) | assumption)
            have hx7 := bt_at a0 (ji4)
            replace p7 := eq_true p7
            replace q7 := eq_true q7
            go_wp2_with (first | ((with_reducible refine gate_callee (f := 69) rfl ?_); refine goesL_ (some 25) rfl rfl Tryd.func69 (by kernel_rfl) rfl #[.int .i64 (((bt a0 (ji4)) - 48) % 256), .int .i64 (wrap64 (a1 + x9_1))] rfl (by (try simp only [List.map_toArray, List.map_cons, List.map_nil]); first | done | (simp only [hji4]; rfl) | rfl | (simp only [List.length_drop, List.length_take]; rfl)) ?_; (with_reducible refine (check_moved.calls k1 (((bt a0 (ji4)) - 48) % 256) (wrap64 (a1 + x9_1)) t101 _ A8.out).mono ?_); rintro e w10 ⟨rfl, hb⟩; refine ⟨_, rfl, ?_⟩; have n0_ := Aside0.mk (below_step (by with_reducible repeat (first | exact HB.1 | apply ya40 | apply yn40 | apply yd40)) hb); clear HB; have HB := n0_; clear n0_; (try clear hb); (try clear hb2); (try clear hk); (try clear hi)) | ((with_reducible refine gate_callee (f := 68) rfl ?_); refine goesL_ (some 26) rfl rfl Tryd.func68 (by kernel_rfl) rfl #[.int .i64 x5_1, .int .i64 t101] rfl (by (try simp only [List.map_toArray, List.map_cons, List.map_nil]); first | done | rfl | (simp only [List.length_drop, List.length_take]; rfl)) ?_; (with_reducible refine (check_turn_then.calls x5_1 t101 t102 _ A9.out).mono ?_); rintro e w' ⟨rfl, ⟨nd, rfl⟩⟩; refine ⟨_, rfl, ?_⟩))
            go_roundg k1
            case measure => have := HK1.out; omega
            case rel => exact ⟨(t102), (wrap64 (x9_1 + 1)), (by first | rfl | (simp; done) | (simp [*]; done)), (by first | rfl | (simp; done) | (simp [*]; done)), H', ⟨by have := HK1.out; omega⟩, ⟨by repeat (first | (with_reducible first | exact HB.1 | apply below_alloc | apply pw_below_drewN | apply below_drew1) | exact HB.1)⟩⟩
          · rw [if_neg c6] at H
            exact absurd H (by simp)
        · rw [if_neg c5] at H
          exact absurd H (by simp)
      · rw [if_neg c3] at H
        have c3b0 : decide (x9_1 < (a0.size : Int)) = false := decide_eq_false c3
        clear c3
        obtain rfl := Option.some.inj H
        go_wp2
        go_ret
        exact ⟨by first | rfl | (simp [errW_none, errW_some] <;> rfl) | (simp [*, errW_none, errW_some] <;> rfl), by repeat (first | (with_reducible first | exact HB.1 | apply below_alloc | apply pw_below_drewN | apply below_drew1) | exact HB.1)⟩

/-! ### check_Good: function 16 -/
theorem xa16 {w : World} {g : Nat} {o : Obj} (h : w.heap[g]? = some o) (o' : Obj) : (w.alloc o').heap[g]? = some o := blk_alloc h o'
theorem xd16 {w : World} {g : Nat} {o : Obj} (h : w.heap[g]? = some o) : w.drew.heap[g]? = some o := blk_drew h
theorem xn16 {w : World} {g : Nat} {o : Obj} (h : w.heap[g]? = some o) (n : Nat) : (w.drewN n).heap[g]? = some o := blk_drewN h n
theorem ya16 {w W : World} (h : Below w.heap.size w W) (o : Obj) : Below w.heap.size w (W.alloc o) := below_alloc h o
theorem yn16 {B : Nat} {w W : World} (h : Below B w W) (n : Nat) : Below B w (W.drewN n) := pw_below_drewN h n
theorem yd16 {B : Nat} {w W : World} (h : Below B w W) : Below B w W.drew := below_drew1 h
def check_Good.f (k : Nat) (a0 : ByteArray) : Option (Bool) := (check_digits.f k a0).bind fun t103 => (if t103 = 0 then (if (a0.size : Int) > 1 then ((check_all.f k a0 0).bind fun t104 => (some (t104 == 0))) else (some false)) else (some false))
theorem check_Good.mono : ∀ a0 k, LeO (check_Good.f k a0) (check_Good.f (k + 1) a0) := by
  intro a0 k
  unfold check_Good.f
  repeat' first
      | (with_reducible exact check_all.mono _ _ _)
      | (with_reducible exact check_digits.mono _ _)
      | (with_reducible exact LeO.refl _)
      | (with_reducible exact LeO.none _)
      | (with_reducible refine LeO.ite ?_ ?_)
      | (with_reducible refine LeO.bind ?_ (fun _ => ?_))
      | exact check_all.mono _ _ _
      | exact check_digits.mono _ _
      | exact LeO.none _
      | refine LeO.ite ?_ ?_
      | refine LeO.bind ?_ (fun _ => ?_)
set_option maxHeartbeats 8000000 in
set_option maxRecDepth 100000 in
theorem check_Good.calls (k : Nat) (a0 : ByteArray) (r : Bool) (w : World) (h : check_Good.f k a0 = some r) :
    Calls Tryd.prog 16 #[.string a0] w fun e w' => e = .returned (.bool r) ∧ Below w.heap.size w w' := by
  have HB := Aside0.mk (Below.refl w.heap.size w)
  have H : ((check_digits.f k a0).bind fun t103 => (if t103 = 0 then (if (a0.size : Int) > 1 then ((check_all.f k a0 0).bind fun t104 => (some (t104 == 0))) else (some false)) else (some false))) = some r := h
  clear h
  replace H := Option.bind_eq_some_iff.mp H
  obtain ⟨t103, A20, H⟩ := H
  replace H : (if t103 = 0 then (if (a0.size : Int) > 1 then ((check_all.f k a0 0).bind fun t104 => (some (t104 == 0))) else (some false)) else (some false)) = some r := H
  have A2 := Aside0.mk A20
  clear A20
  by_cases c3 : t103 = 0
  · rw [if_pos c3] at H
    have c3b0 : (t103 == 0) = true := beq_iff_eq.mpr c3
    have c3b1 : (t103 != 0) = false := bne_eq_false_iff_eq.mpr c3
    clear c3
    by_cases c4 : (a0.size : Int) > 1
    · rw [if_pos c4] at H
      have c4b0 : decide (1 < (a0.size : Int)) = true := decide_eq_true c4
      have c4b1 : decide (1 < a0.size) = true := decide_eq_true (by omega)
      clear c4
      replace H := Option.bind_eq_some_iff.mp H
      obtain ⟨t104, A50, H⟩ := H
      replace H : (some (t104 == 0)) = some r := H
      have A5 := Aside0.mk A50
      clear A50
      obtain rfl := Option.some.inj H
      go_enter Tryd.func16, Tryd.ntmps16
      go_wp2_with (first | ((with_reducible refine gate_callee (f := 39) rfl ?_); refine goesL_ (some 4) rfl rfl Tryd.func39 (by kernel_rfl) rfl #[.string a0] rfl (by (try simp only [List.map_toArray, List.map_cons, List.map_nil]); first | done | rfl | (simp only [List.length_drop, List.length_take]; rfl)) ?_; (with_reducible refine (check_digits.calls k a0 t103 _ A2.out).mono ?_); rintro e w6 ⟨rfl, hb⟩; refine ⟨_, rfl, ?_⟩; have n0_ := Aside0.mk (below_step (by with_reducible repeat (first | exact HB.1 | apply ya16 | apply yn16 | apply yd16)) hb); clear HB; have HB := n0_; clear n0_; (try clear hb); (try clear hb2); (try clear hk); (try clear hi)) | (go_at_call 40; (with_reducible refine (check_all.calls k a0 0 t104 _ A5.out).mono ?_); rintro e w7 ⟨rfl, hb⟩; have n0_ := Aside0.mk (below_step (by with_reducible repeat (first | exact HB.1 | apply ya16 | apply yn16 | apply yd16)) hb); clear HB; have HB := n0_; clear n0_; (try clear hb); (try clear hb2); (try clear hk); (try clear hi)))
      go_ret
      exact ⟨by first | rfl | (simp [errW_none, errW_some] <;> rfl) | (simp [*, errW_none, errW_some] <;> rfl), by repeat (first | (with_reducible first | exact HB.1 | apply below_alloc | apply pw_below_drewN | apply below_drew1) | exact HB.1)⟩
    · rw [if_neg c4] at H
      have c4b0 : decide (1 < (a0.size : Int)) = false := decide_eq_false c4
      have c4b1 : decide (1 < a0.size) = false := decide_eq_false (by omega)
      clear c4
      obtain rfl := Option.some.inj H
      go_enter Tryd.func16, Tryd.ntmps16
      go_wp2_with (first | ((with_reducible refine gate_callee (f := 39) rfl ?_); refine goesL_ (some 4) rfl rfl Tryd.func39 (by kernel_rfl) rfl #[.string a0] rfl (by (try simp only [List.map_toArray, List.map_cons, List.map_nil]); first | done | rfl | (simp only [List.length_drop, List.length_take]; rfl)) ?_; (with_reducible refine (check_digits.calls k a0 t103 _ A2.out).mono ?_); rintro e w8 ⟨rfl, hb⟩; refine ⟨_, rfl, ?_⟩; have n0_ := Aside0.mk (below_step (by with_reducible repeat (first | exact HB.1 | apply ya16 | apply yn16 | apply yd16)) hb); clear HB; have HB := n0_; clear n0_; (try clear hb); (try clear hb2); (try clear hk); (try clear hi)))
      go_ret
      exact ⟨by first | rfl | (simp [errW_none, errW_some] <;> rfl) | (simp [*, errW_none, errW_some] <;> rfl), by repeat (first | (with_reducible first | exact HB.1 | apply below_alloc | apply pw_below_drewN | apply below_drew1) | exact HB.1)⟩
  · rw [if_neg c3] at H
    have c3b0 : (t103 == 0) = false := beq_eq_false_iff_ne.mpr c3
    have c3b1 : (t103 != 0) = true := bne_iff_ne.mpr c3
    obtain rfl := Option.some.inj H
    go_enter Tryd.func16, Tryd.ntmps16
    go_wp2_with (first | ((with_reducible refine gate_callee (f := 39) rfl ?_); refine goesL_ (some 4) rfl rfl Tryd.func39 (by kernel_rfl) rfl #[.string a0] rfl (by (try simp only [List.map_toArray, List.map_cons, List.map_nil]); first | done | rfl | (simp only [List.length_drop, List.length_take]; rfl)) ?_; (with_reducible refine (check_digits.calls k a0 t103 _ A2.out).mono ?_); rintro e w9 ⟨rfl, hb⟩; refine ⟨_, rfl, ?_⟩; have n0_ := Aside0.mk (below_step (by with_reducible repeat (first | exact HB.1 | apply ya16 | apply yn16 | apply yd16)) hb); clear HB; have HB := n0_; clear n0_; (try clear hb); (try clear hb2); (try clear hk); (try clear hi)))
    go_ret
    exact ⟨by first | rfl | (simp [errW_none, errW_some] <;> rfl) | (simp [*, errW_none, errW_some] <;> rfl), by repeat (first | (with_reducible first | exact HB.1 | apply below_alloc | apply pw_below_drewN | apply below_drew1) | exact HB.1)⟩

-- NOT PRINTED: function 130 (strconv_lower)

-- NOT PRINTED: function 131 (strconv_underscoreOK)

-- NOT PRINTED: function 98 (strconv_ParseUint)

-- NOT PRINTED: function 70 (strconv_ParseInt)

-- NOT PRINTED: function 41 (strconv_Atoi_41)

-- NOT PRINTED: function 99 (stringslite_Clone)

-- NOT PRINTED: function 71 (strconv_syntaxError)

-- NOT PRINTED: function 72 (strconv_rangeError)

-- NOT PRINTED: function 120 (strconv_small)

-- NOT PRINTED: function 134 (strconv_log10Pow2)

-- NOT PRINTED: function 135 (bits_Len64)

-- NOT PRINTED: function 136 (strconv_bool2_int)

-- NOT PRINTED: function 121 (strconv_numDigits)

-- NOT PRINTED: function 122 (strconv_formatBase10)

-- NOT PRINTED: function 137 (strconv_isPowerOfTwo)

-- NOT PRINTED: function 143 (bits_TrailingZeros32)

-- NOT PRINTED: function 144 (bits_TrailingZeros64)

-- NOT PRINTED: function 138 (bits_TrailingZeros)

-- NOT PRINTED: function 123 (strconv_formatBits)

-- NOT PRINTED: function 93 (strconv_FormatInt)

-- NOT PRINTED: function 61 (strconv_Itoa_61)

-- NOT PRINTED: function 26 (strconv_Itoa_26)

-- NOT PRINTED: function 100 (errors_New)

-- NOT PRINTED: function 73 (strconv_baseError)

-- NOT PRINTED: function 74 (strconv_bitSizeError)

-- NOT PRINTED: function 42 (strconv_toError)

/-! ### strconv_Atoi_17: function 17 (the kit's contract at a decimal numeral, in the print's shape) -/
def strconv_Atoi_17.f (a0 : ByteArray) : Option (Int × Option Int) := if a0.size ≤ 1000000 then (match Lib.atoiAll a0.data.toList with | .ok v => some (v, none) | _ => none) else none
theorem strconv_Atoi_17.calls (a0 : ByteArray) (r1 : Int) (r2 : Option Int) (w : World) (h : strconv_Atoi_17.f a0 = some (r1, r2)) :
    Calls Tryd.prog 17 #[.string a0] w fun e w' => e = .returned (.tuple #[.int .i64 r1, errW r2]) ∧ Below w.heap.size w w' := by
  unfold strconv_Atoi_17.f at h
  split at h
  · rename_i hs
    split at h
    · rename_i v hv
      obtain ⟨rfl, rfl⟩ := Prod.mk.inj (Option.some.inj h)
      refine (Tryd.strconv_Atoi_ok a0 (by omega) v hv w).mono (fun e w' hh => ⟨hh.1, ?_⟩)
      rcases hh.2 with rfl | ⟨t, rfl⟩
      · exact Below.refl _ _
      · exact Lib.bytesWorld_below w _ _
    · cases h
  · cases h

/-! ### receipt_Meter: function 7 -/
theorem xa7 {w : World} {g : Nat} {o : Obj} (h : w.heap[g]? = some o) (o' : Obj) : (w.alloc o').heap[g]? = some o := blk_alloc h o'
theorem xd7 {w : World} {g : Nat} {o : Obj} (h : w.heap[g]? = some o) : w.drew.heap[g]? = some o := blk_drew h
theorem xn7 {w : World} {g : Nat} {o : Obj} (h : w.heap[g]? = some o) (n : Nat) : (w.drewN n).heap[g]? = some o := blk_drewN h n
theorem ya7 {w W : World} (h : Below w.heap.size w W) (o : Obj) : Below w.heap.size w (W.alloc o) := below_alloc h o
theorem yn7 {B : Nat} {w W : World} (h : Below B w W) (n : Nat) : Below B w (W.drewN n) := pw_below_drewN h n
theorem yd7 {B : Nat} {w W : World} (h : Below B w W) : Below B w W.drew := below_drew1 h
def receipt_Meter.f (k : Nat) (a0 : ByteArray) : Option (Int × Int) := if (a0.size : Int) = 11 then ((check_Rest.f k a0).bind fun bt106 => (if bt106.2 = 0 then ((check_Good.f k a0).bind fun t108 => (if t108 = true then (if 0 ≤ 10 then (if 10 ≤ (a0.size : Int) then ((strconv_Atoi_17.f (a0.extract 0 10)).bind fun bt109 => (if bt109.2.isNone = true then (if bt109.1 ≥ 50 then (some (0, 18)) else (some (bt109.1, 0))) else (some (0, 18)))) else (none)) else (none)) else (some (0, 8)))) else (some (0, bt106.2)))) else (some (0, 6))
theorem receipt_Meter.mono : ∀ a0 k, LeO (receipt_Meter.f k a0) (receipt_Meter.f (k + 1) a0) := by
  intro a0 k
  unfold receipt_Meter.f
  repeat' first
      | (with_reducible exact check_Good.mono _ _)
      | (with_reducible exact check_Rest.mono _ _)
      | (with_reducible exact LeO.refl _)
      | (with_reducible exact LeO.none _)
      | (with_reducible refine LeO.ite ?_ ?_)
      | (with_reducible refine LeO.bind ?_ (fun _ => ?_))
      | exact check_Good.mono _ _
      | exact check_Rest.mono _ _
      | exact LeO.none _
      | refine LeO.ite ?_ ?_
      | refine LeO.bind ?_ (fun _ => ?_)
set_option maxHeartbeats 8000000 in
set_option maxRecDepth 100000 in
theorem receipt_Meter.calls (k : Nat) (a0 : ByteArray) (r1 : Int) (r2 : Int) (w : World) (h : receipt_Meter.f k a0 = some (r1, r2)) :
    Calls Tryd.prog 7 #[.string a0] w fun e w' => e = .returned (.tuple #[.int .i64 r1, .int .i64 r2]) ∧ Below w.heap.size w w' := by
  have hu40 := Tryd.underlying40
  have hu120 := Tryd.underlying120
  have HB := Aside0.mk (Below.refl w.heap.size w)
  have H : (if (a0.size : Int) = 11 then ((check_Rest.f k a0).bind fun bt106 => (if bt106.2 = 0 then ((check_Good.f k a0).bind fun t108 => (if t108 = true then (if 0 ≤ 10 then (if 10 ≤ (a0.size : Int) then ((strconv_Atoi_17.f (a0.extract 0 10)).bind fun bt109 => (if bt109.2.isNone = true then (if bt109.1 ≥ 50 then (some (0, 18)) else (some (bt109.1, 0))) else (some (0, 18)))) else (none)) else (none)) else (some (0, 8)))) else (some (0, bt106.2)))) else (some (0, 6))) = some (r1, r2) := h
  clear h
  by_cases c2 : (a0.size : Int) = 11
  · rw [if_pos c2] at H
    have c2b0 : ((a0.size : Int) == 11) = true := beq_iff_eq.mpr c2
    have c2b1 : ((a0.size : Int) != 11) = false := bne_eq_false_iff_eq.mpr c2
    clear c2
    replace H := Option.bind_eq_some_iff.mp H
    obtain ⟨⟨t106, t107⟩, A30, H⟩ := H
    replace H : (if t107 = 0 then ((check_Good.f k a0).bind fun t108 => (if t108 = true then (if 0 ≤ 10 then (if 10 ≤ (a0.size : Int) then ((strconv_Atoi_17.f (a0.extract 0 10)).bind fun bt109 => (if bt109.2.isNone = true then (if bt109.1 ≥ 50 then (some (0, 18)) else (some (bt109.1, 0))) else (some (0, 18)))) else (none)) else (none)) else (some (0, 8)))) else (some (0, t107))) = some (r1, r2) := H
    have A3 := Aside0.mk A30
    clear A30
    by_cases c4 : t107 = 0
    · rw [if_pos c4] at H
      have c4b0 : (t107 == 0) = true := beq_iff_eq.mpr c4
      have c4b1 : (t107 != 0) = false := bne_eq_false_iff_eq.mpr c4
      clear c4
      replace H := Option.bind_eq_some_iff.mp H
      obtain ⟨t108, A50, H⟩ := H
      replace H : (if t108 = true then (if 0 ≤ 10 then (if 10 ≤ (a0.size : Int) then ((strconv_Atoi_17.f (a0.extract 0 10)).bind fun bt109 => (if bt109.2.isNone = true then (if bt109.1 ≥ 50 then (some (0, 18)) else (some (bt109.1, 0))) else (some (0, 18)))) else (none)) else (none)) else (some (0, 8))) = some (r1, r2) := H
      have A5 := Aside0.mk A50
      clear A50
      by_cases c6 : t108 = true
      · subst c6
        have H1 : (if 0 ≤ 10 then (if 10 ≤ (a0.size : Int) then ((strconv_Atoi_17.f (a0.extract 0 10)).bind fun bt109 => (if bt109.2.isNone = true then (if bt109.1 ≥ 50 then (some (0, 18)) else (some (bt109.1, 0))) else (some (0, 18)))) else (none)) else (none)) = some (r1, r2) := by rw [if_pos rfl] at H; exact H
        clear H
        have H := H1
        clear H1
        by_cases c7 : 0 ≤ 10
        · rw [if_pos c7] at H
          have c7b0 := eq_true c7
          have c7b1 : decide (0 ≤ 10) = true := decide_eq_true c7
          clear c7
          by_cases c8 : 10 ≤ (a0.size : Int)
          · rw [if_pos c8] at H
            have c8b0 := eq_true c8
            have c8b1 : decide (10 ≤ (a0.size : Int)) = true := decide_eq_true c8
            clear c8
            replace H := Option.bind_eq_some_iff.mp H
            obtain ⟨⟨t109, t110⟩, A90, H⟩ := H
            replace H : (if t110.isNone = true then (if t109 ≥ 50 then (some (0, 18)) else (some (t109, 0))) else (some (0, 18))) = some (r1, r2) := H
            have A9 := Aside0.mk A90
            clear A90
            rcases t110 with _ | q111
            · have H1 : (if t109 ≥ 50 then (some (0, 18)) else (some (t109, 0))) = some (r1, r2) := by rw [if_pos (show (none : Option Int).isNone = true by rfl)] at H; exact H
              clear H
              have H := H1
              clear H1
              try simp only [errW_none, errW_some]
              by_cases c10 : t109 ≥ 50
              · rw [if_pos c10] at H
                have c10b0 : decide (50 ≤ t109) = true := decide_eq_true c10
                clear c10
                simp only [Option.some.injEq, Prod.mk.injEq] at H
                obtain ⟨rfl, rfl⟩ := H
                go_enter Tryd.func7, Tryd.ntmps7
                go_wp2_with (first | ((with_reducible refine gate_callee (f := 15) rfl ?_); refine goesL_ (some 13) rfl rfl Tryd.func15 (by kernel_rfl) rfl #[.string a0] rfl (by (try simp only [List.map_toArray, List.map_cons, List.map_nil]); first | done | rfl | (simp only [List.length_drop, List.length_take]; rfl)) ?_; (with_reducible refine (check_Rest.calls k a0 t106 t107 _ A3.out).mono ?_); rintro e w11 ⟨rfl, hb⟩; refine ⟨_, rfl, ?_⟩; have n0_ := Aside0.mk (below_step (by with_reducible repeat (first | exact HB.1 | apply ya7 | apply yn7 | apply yd7)) hb); clear HB; have HB := n0_; clear n0_; (try clear hb); (try clear hb2); (try clear hk); (try clear hi)) | ((with_reducible refine gate_callee (f := 16) rfl ?_); refine goesL_ (some 20) rfl rfl Tryd.func16 (by kernel_rfl) rfl #[.string a0] rfl (by (try simp only [List.map_toArray, List.map_cons, List.map_nil]); first | done | rfl | (simp only [List.length_drop, List.length_take]; rfl)) ?_; (with_reducible refine (check_Good.calls k a0 true _ A5.out).mono ?_); rintro e w12 ⟨rfl, hb⟩; refine ⟨_, rfl, ?_⟩; have n0_ := Aside0.mk (below_step (by with_reducible repeat (first | exact HB.1 | apply ya7 | apply yn7 | apply yd7)) hb); clear HB; have HB := n0_; clear n0_; (try clear hb); (try clear hb2); (try clear hk); (try clear hi)) | ((with_reducible refine gate_callee (f := 17) rfl ?_); refine goesL_ (some 25) rfl rfl Tryd.func17 (by kernel_rfl) rfl #[.string (a0.extract 0 10)] rfl (by (try simp only [List.map_toArray, List.map_cons, List.map_nil]); first | done | rfl | (simp only [List.length_drop, List.length_take]; rfl)) ?_; (with_reducible refine (strconv_Atoi_17.calls (a0.extract 0 10) t109 none _ A9.out).mono ?_); rintro e w13 ⟨rfl, hb⟩; refine ⟨_, rfl, ?_⟩; have n0_ := Aside0.mk (below_step (by with_reducible repeat (first | exact HB.1 | apply ya7 | apply yn7 | apply yd7)) hb); clear HB; have HB := n0_; clear n0_; (try clear hb); (try clear hb2); (try clear hk); (try clear hi); (try simp only [errW_none, errW_some])))
                go_ret2
                exact ⟨by first | rfl | (simp [errW_none, errW_some] <;> rfl) | (simp [*, errW_none, errW_some] <;> rfl), by repeat (first | (with_reducible first | exact HB.1 | apply below_alloc | apply pw_below_drewN | apply below_drew1) | exact HB.1)⟩
              · rw [if_neg c10] at H
                have c10b0 : decide (50 ≤ t109) = false := decide_eq_false c10
                clear c10
                simp only [Option.some.injEq, Prod.mk.injEq] at H
                obtain ⟨rfl, rfl⟩ := H
                go_enter Tryd.func7, Tryd.ntmps7
                go_wp2_with (first | ((with_reducible refine gate_callee (f := 15) rfl ?_); refine goesL_ (some 13) rfl rfl Tryd.func15 (by kernel_rfl) rfl #[.string a0] rfl (by (try simp only [List.map_toArray, List.map_cons, List.map_nil]); first | done | rfl | (simp only [List.length_drop, List.length_take]; rfl)) ?_; (with_reducible refine (check_Rest.calls k a0 t106 t107 _ A3.out).mono ?_); rintro e w14 ⟨rfl, hb⟩; refine ⟨_, rfl, ?_⟩; have n0_ := Aside0.mk (below_step (by with_reducible repeat (first | exact HB.1 | apply ya7 | apply yn7 | apply yd7)) hb); clear HB; have HB := n0_; clear n0_; (try clear hb); (try clear hb2); (try clear hk); (try clear hi)) | ((with_reducible refine gate_callee (f := 16) rfl ?_); refine goesL_ (some 20) rfl rfl Tryd.func16 (by kernel_rfl) rfl #[.string a0] rfl (by (try simp only [List.map_toArray, List.map_cons, List.map_nil]); first | done | rfl | (simp only [List.length_drop, List.length_take]; rfl)) ?_; (with_reducible refine (check_Good.calls k a0 true _ A5.out).mono ?_); rintro e w15 ⟨rfl, hb⟩; refine ⟨_, rfl, ?_⟩; have n0_ := Aside0.mk (below_step (by with_reducible repeat (first | exact HB.1 | apply ya7 | apply yn7 | apply yd7)) hb); clear HB; have HB := n0_; clear n0_; (try clear hb); (try clear hb2); (try clear hk); (try clear hi)) | ((with_reducible refine gate_callee (f := 17) rfl ?_); refine goesL_ (some 25) rfl rfl Tryd.func17 (by kernel_rfl) rfl #[.string (a0.extract 0 10)] rfl (by (try simp only [List.map_toArray, List.map_cons, List.map_nil]); first | done | rfl | (simp only [List.length_drop, List.length_take]; rfl)) ?_; (with_reducible refine (strconv_Atoi_17.calls (a0.extract 0 10) t109 none _ A9.out).mono ?_); rintro e w16 ⟨rfl, hb⟩; refine ⟨_, rfl, ?_⟩; have n0_ := Aside0.mk (below_step (by with_reducible repeat (first | exact HB.1 | apply ya7 | apply yn7 | apply yd7)) hb); clear HB; have HB := n0_; clear n0_; (try clear hb); (try clear hb2); (try clear hk); (try clear hi); (try simp only [errW_none, errW_some])))
                go_ret2
                exact ⟨by first | rfl | (simp [errW_none, errW_some] <;> rfl) | (simp [*, errW_none, errW_some] <;> rfl), by repeat (first | (with_reducible first | exact HB.1 | apply below_alloc | apply pw_below_drewN | apply below_drew1) | exact HB.1)⟩
            · have H1 : (some (0, 18)) = some (r1, r2) := by rw [if_neg (show ¬ (some q111).isNone = true by simp)] at H; exact H
              clear H
              have H := H1
              clear H1
              try simp only [errW_none, errW_some]
              simp only [Option.some.injEq, Prod.mk.injEq] at H
              obtain ⟨rfl, rfl⟩ := H
              go_enter Tryd.func7, Tryd.ntmps7
              go_wp2_with (first | ((with_reducible refine gate_callee (f := 15) rfl ?_); refine goesL_ (some 13) rfl rfl Tryd.func15 (by kernel_rfl) rfl #[.string a0] rfl (by (try simp only [List.map_toArray, List.map_cons, List.map_nil]); first | done | rfl | (simp only [List.length_drop, List.length_take]; rfl)) ?_; (with_reducible refine (check_Rest.calls k a0 t106 t107 _ A3.out).mono ?_); rintro e w17 ⟨rfl, hb⟩; refine ⟨_, rfl, ?_⟩; have n0_ := Aside0.mk (below_step (by with_reducible repeat (first | exact HB.1 | apply ya7 | apply yn7 | apply yd7)) hb); clear HB; have HB := n0_; clear n0_; (try clear hb); (try clear hb2); (try clear hk); (try clear hi)) | ((with_reducible refine gate_callee (f := 16) rfl ?_); refine goesL_ (some 20) rfl rfl Tryd.func16 (by kernel_rfl) rfl #[.string a0] rfl (by (try simp only [List.map_toArray, List.map_cons, List.map_nil]); first | done | rfl | (simp only [List.length_drop, List.length_take]; rfl)) ?_; (with_reducible refine (check_Good.calls k a0 true _ A5.out).mono ?_); rintro e w18 ⟨rfl, hb⟩; refine ⟨_, rfl, ?_⟩; have n0_ := Aside0.mk (below_step (by with_reducible repeat (first | exact HB.1 | apply ya7 | apply yn7 | apply yd7)) hb); clear HB; have HB := n0_; clear n0_; (try clear hb); (try clear hb2); (try clear hk); (try clear hi)) | ((with_reducible refine gate_callee (f := 17) rfl ?_); refine goesL_ (some 25) rfl rfl Tryd.func17 (by kernel_rfl) rfl #[.string (a0.extract 0 10)] rfl (by (try simp only [List.map_toArray, List.map_cons, List.map_nil]); first | done | rfl | (simp only [List.length_drop, List.length_take]; rfl)) ?_; (with_reducible refine (strconv_Atoi_17.calls (a0.extract 0 10) t109 (some q111) _ A9.out).mono ?_); rintro e w19 ⟨rfl, hb⟩; refine ⟨_, rfl, ?_⟩; have n0_ := Aside0.mk (below_step (by with_reducible repeat (first | exact HB.1 | apply ya7 | apply yn7 | apply yd7)) hb); clear HB; have HB := n0_; clear n0_; (try clear hb); (try clear hb2); (try clear hk); (try clear hi); (try simp only [errW_none, errW_some])))
              go_ret2
              exact ⟨by first | rfl | (simp [errW_none, errW_some] <;> rfl) | (simp [*, errW_none, errW_some] <;> rfl), by repeat (first | (with_reducible first | exact HB.1 | apply below_alloc | apply pw_below_drewN | apply below_drew1) | exact HB.1)⟩
          · rw [if_neg c8] at H
            exact absurd H (by simp)
        · rw [if_neg c7] at H
          exact absurd H (by simp)
      · replace c6 := Bool.eq_false_iff.mpr c6
        subst c6
        have H1 : (some (0, 8)) = some (r1, r2) := by rw [if_neg (show ¬ (false = true) by decide)] at H; exact H
        clear H
        have H := H1
        clear H1
        simp only [Option.some.injEq, Prod.mk.injEq] at H
        obtain ⟨rfl, rfl⟩ := H
        go_enter Tryd.func7, Tryd.ntmps7
        go_wp2_with (first | ((with_reducible refine gate_callee (f := 15) rfl ?_); refine goesL_ (some 13) rfl rfl Tryd.func15 (by kernel_rfl) rfl #[.string a0] rfl (by (try simp only [List.map_toArray, List.map_cons, List.map_nil]); first | done | rfl | (simp only [List.length_drop, List.length_take]; rfl)) ?_; (with_reducible refine (check_Rest.calls k a0 t106 t107 _ A3.out).mono ?_); rintro e w20 ⟨rfl, hb⟩; refine ⟨_, rfl, ?_⟩; have n0_ := Aside0.mk (below_step (by with_reducible repeat (first | exact HB.1 | apply ya7 | apply yn7 | apply yd7)) hb); clear HB; have HB := n0_; clear n0_; (try clear hb); (try clear hb2); (try clear hk); (try clear hi)) | ((with_reducible refine gate_callee (f := 16) rfl ?_); refine goesL_ (some 20) rfl rfl Tryd.func16 (by kernel_rfl) rfl #[.string a0] rfl (by (try simp only [List.map_toArray, List.map_cons, List.map_nil]); first | done | rfl | (simp only [List.length_drop, List.length_take]; rfl)) ?_; (with_reducible refine (check_Good.calls k a0 false _ A5.out).mono ?_); rintro e w21 ⟨rfl, hb⟩; refine ⟨_, rfl, ?_⟩; have n0_ := Aside0.mk (below_step (by with_reducible repeat (first | exact HB.1 | apply ya7 | apply yn7 | apply yd7)) hb); clear HB; have HB := n0_; clear n0_; (try clear hb); (try clear hb2); (try clear hk); (try clear hi)))
        go_ret2
        exact ⟨by first | rfl | (simp [errW_none, errW_some] <;> rfl) | (simp [*, errW_none, errW_some] <;> rfl), by repeat (first | (with_reducible first | exact HB.1 | apply below_alloc | apply pw_below_drewN | apply below_drew1) | exact HB.1)⟩
    · rw [if_neg c4] at H
      have c4b0 : (t107 == 0) = false := beq_eq_false_iff_ne.mpr c4
      have c4b1 : (t107 != 0) = true := bne_iff_ne.mpr c4
      simp only [Option.some.injEq, Prod.mk.injEq] at H
      obtain ⟨rfl, rfl⟩ := H
      go_enter Tryd.func7, Tryd.ntmps7
      go_wp2_with (first | ((with_reducible refine gate_callee (f := 15) rfl ?_); refine goesL_ (some 13) rfl rfl Tryd.func15 (by kernel_rfl) rfl #[.string a0] rfl (by (try simp only [List.map_toArray, List.map_cons, List.map_nil]); first | done | rfl | (simp only [List.length_drop, List.length_take]; rfl)) ?_; (with_reducible refine (check_Rest.calls k a0 t106 t107 _ A3.out).mono ?_); rintro e w22 ⟨rfl, hb⟩; refine ⟨_, rfl, ?_⟩; have n0_ := Aside0.mk (below_step (by with_reducible repeat (first | exact HB.1 | apply ya7 | apply yn7 | apply yd7)) hb); clear HB; have HB := n0_; clear n0_; (try clear hb); (try clear hb2); (try clear hk); (try clear hi)))
      go_ret2
      exact ⟨by first | rfl | (simp [errW_none, errW_some] <;> rfl) | (simp [*, errW_none, errW_some] <;> rfl), by repeat (first | (with_reducible first | exact HB.1 | apply below_alloc | apply pw_below_drewN | apply below_drew1) | exact HB.1)⟩
  · rw [if_neg c2] at H
    have c2b0 : ((a0.size : Int) == 11) = false := beq_eq_false_iff_ne.mpr c2
    have c2b1 : ((a0.size : Int) != 11) = true := bne_iff_ne.mpr c2
    simp only [Option.some.injEq, Prod.mk.injEq] at H
    obtain ⟨rfl, rfl⟩ := H
    go_enter Tryd.func7, Tryd.ntmps7
    go_wp2
    go_ret2
    exact ⟨by first | rfl | (simp [errW_none, errW_some] <;> rfl) | (simp [*, errW_none, errW_some] <;> rfl), by repeat (first | (with_reducible first | exact HB.1 | apply below_alloc | apply pw_below_drewN | apply below_drew1) | exact HB.1)⟩

/-! ### vendmeterref_Digit: function 43 -/
def vendmeterref_Digit.f (a0 : Int) : Option (Bool) := if a0 ≥ 48 then (some (decide (a0 ≤ 57))) else (some false)
set_option maxHeartbeats 8000000 in
set_option maxRecDepth 100000 in
theorem vendmeterref_Digit.calls (a0 : Int) (r : Bool) (w : World) (h : vendmeterref_Digit.f a0 = some r) :
    Calls Tryd.prog 43 #[.int .u8 a0] w fun e w' => e = .returned (.bool r) ∧ Drawn0 w w' := by
  have H : (if a0 ≥ 48 then (some (decide (a0 ≤ 57))) else (some false)) = some r := h
  clear h
  by_cases c2 : a0 ≥ 48
  · rw [if_pos c2] at H
    have c2b0 : decide (48 ≤ a0) = true := decide_eq_true c2
    clear c2
    obtain rfl := Option.some.inj H
    go_enter Tryd.func43, Tryd.ntmps43
    go_wp2
    go_ret
    exact ⟨by first | rfl | (simp; done) | (simp [*]; done), by repeat (first | exact Drawn0.refl _ | apply Drawn0.step)⟩
  · rw [if_neg c2] at H
    have c2b0 : decide (48 ≤ a0) = false := decide_eq_false c2
    clear c2
    obtain rfl := Option.some.inj H
    go_enter Tryd.func43, Tryd.ntmps43
    go_wp2
    go_ret
    exact ⟨by first | rfl | (simp; done) | (simp [*]; done), by repeat (first | exact Drawn0.refl _ | apply Drawn0.step)⟩

end Go.Proofs.YthacfmjljglbiaaDoor.PReceiptMeters
