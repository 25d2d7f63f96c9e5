-- written by this session's program wip/xp/xprint.py (it drives the kit's print and adds to it)
import Derived.Test.YtoookcmablnjfaaDoorPReceiptNumbersx0
namespace Go.Proofs.YtoookcmablnjfaaDoor.PReceiptNumbers
open Go.RowKit Go.Proofs.YtoookcmablnjfaaDoorW.PrintWords Go.Proofs.YtoookcmablnjfaaDoorW.PrintLast Go.Proofs.YtoookcmablnjfaaDoorW.PrintMore
attribute [local go_sem] max2_int min2_int max_two min_two max_three min_three max_four min_four   -- for this text's walks alone
set_option linter.unusedVariables false
set_option linter.unusedSimpArgs false

-- NOT PRINTED: function 128 (strconv_small)

-- NOT PRINTED: function 134 (bits_Len64)

-- NOT PRINTED: function 146 (strconv_log10Pow2)

-- NOT PRINTED: function 147 (strconv_bool2_int)

-- NOT PRINTED: function 129 (strconv_numDigits)

-- NOT PRINTED: function 130 (strconv_formatBase10)

-- NOT PRINTED: function 148 (strconv_isPowerOfTwo)

-- NOT PRINTED: function 151 (bits_TrailingZeros32)

-- NOT PRINTED: function 152 (bits_TrailingZeros64)

-- NOT PRINTED: function 149 (bits_TrailingZeros)

-- NOT PRINTED: function 131 (strconv_formatBits)

-- NOT PRINTED: function 109 (strconv_FormatInt)

-- NOT PRINTED: function 73 (strconv_Itoa_73)

/-- The table of the powers of ten lies in this world. -/
structure LaidW (w : World) : Prop where
  tab : Lib.TabIs Tryd.prog w "internal/strconv.uint64pow10" .u64 Lib.pow10Tab
theorem LaidW.go {w W : World} (h : LaidW w) (hb : Below w.heap.size w W) : LaidW W := by
  have ht := h.tab
  refine ⟨?_⟩
  unfold Lib.TabIs World.var? at *
  cases hg : Tryd.prog.globalNamed "internal/strconv.uint64pow10" with
  | none => simp [hg] at ht
  | some g =>
    simp only [hg, Option.bind_some] at ht ⊢
    have hlt : g < w.heap.size := by
      rcases Nat.lt_or_ge g w.heap.size with h' | h'
      · exact h'
      · rw [Array.getElem?_eq_none h'] at ht; simp at ht
    rw [hb.block g hlt]
    exact ht
theorem grow_below {w : World} : ∀ (l : List Obj) (W : World), Below w.heap.size w W → Below w.heap.size w (Sort.grow W l.toArray)
  | [], W, h => by simpa using h
  | o :: l, W, h => by
    have e : Sort.grow W (o :: l).toArray = Sort.grow (W.alloc o) l.toArray := by rw [Sort.alloc_eq_grow, Sort.grow_grow]; simp
    rw [e]
    exact grow_below l _ (below_alloc h o)
/-! ### strconv_Itoa_41: function 41 (the kit's contract, in the print's shape; its table lies in the world) -/
def strconv_Itoa_41.f (a0 : Int) : Option ByteArray := if -9223372036854775808 ≤ a0 ∧ a0 ≤ 9223372036854775807 then some ⟨(Lib.itoa a0).toArray⟩ else none
theorem strconv_Itoa_41.calls (a0 : Int) (r : ByteArray) (w : World) (HTAB : LaidW w) (h : strconv_Itoa_41.f a0 = some r) :
    Calls Tryd.prog 41 #[.int .i64 a0] w fun e w' => e = .returned (.string r) ∧ Below w.heap.size w w' := by
  unfold strconv_Itoa_41.f at h
  split at h
  · rename_i hc
    obtain rfl := Option.some.inj h
    refine (Tryd.strconv_Itoa a0 hc.1 hc.2 w HTAB.tab).mono (fun e w' hh => ⟨hh.1, ?_⟩)
    obtain ⟨k, os, rfl⟩ := hh.2
    have hg := grow_below os.toList (w.drewN k) (pw_below_drewN (Below.refl w.heap.size w) k)
    rwa [Array.toArray_toList] at hg
  · cases h

/-! ### check_digits: function 77 (a range over a string: by hand) -/
def check_digits.l0 : Nat → ByteArray → Nat → Option (Int)
  | 0, _, _ => none
  | k + 1, s, p => if p < s.size then (if ((Utf8.decode s p).1 : Int) < 48 then (some 7) else (if ((Utf8.decode s p).1 : Int) > 57 then (some 7) else (check_digits.l0 k s (p + (Utf8.decode s p).2)))) else (some 0)
def check_digits.f (k : Nat) (a0 : ByteArray) : Option (Int) := if a0.toList.isEmpty = true then (some 1) else (if (a0.size : Int) > 200 then (some 1) else (check_digits.l0 k a0 0))
theorem check_digits.mono_l : ∀ k s p, LeO (check_digits.l0 k s p) (check_digits.l0 (k + 1) s p)
  | 0, _, _ => by intro r h; simp [check_digits.l0] at h
  | k + 1, s, p => by
    have ih := check_digits.mono_l k
    unfold check_digits.l0
    repeat' first
      | (with_reducible exact ih _ _)
      | (with_reducible exact LeO.refl _)
      | (with_reducible refine LeO.ite ?_ ?_)
theorem check_digits.mono : ∀ a0 k, LeO (check_digits.f k a0) (check_digits.f (k + 1) a0) := by
  intro a0 k
  unfold check_digits.f
  repeat' first
    | (with_reducible exact check_digits.mono_l _ _ _)
    | (with_reducible exact LeO.refl _)
    | (with_reducible refine LeO.ite ?_ ?_)
set_option maxHeartbeats 8000000 in
set_option maxRecDepth 100000 in
theorem check_digits.calls (k : Nat) (a0 : ByteArray) (r : Int) (w : World) (h : check_digits.f k a0 = some r) :
    Calls Tryd.prog 77 #[.string a0] w fun e w' => e = .returned (.int .i64 r) ∧ Below w.heap.size w w' := by
  have H : (if a0.toList.isEmpty = true then (some 1) else (if (a0.size : Int) > 200 then (some 1) else (check_digits.l0 k a0 0))) = some r := h
  clear h
  by_cases c1 : a0.toList.isEmpty = true
  · rw [if_pos c1] at H
    obtain rfl := Option.some.inj H
    go_enter Tryd.func77, Tryd.ntmps77
    go_wp2
    go_ret
    exact ⟨rfl, by repeat (first | exact Below.refl _ _ | apply below_drew1 | apply pw_below_drewN)⟩
  · rw [if_neg c1] at H
    have c1b : a0.toList.isEmpty = false := Bool.eq_false_iff.mpr c1
    by_cases c2 : (a0.size : Int) > 200
    · rw [if_pos c2] at H
      obtain rfl := Option.some.inj H
      have c2b : decide ((a0.size : Int) > 200) = true := decide_eq_true c2
      go_enter Tryd.func77, Tryd.ntmps77
      go_wp2
      go_ret
      exact ⟨rfl, by repeat (first | exact Below.refl _ _ | apply below_drew1 | apply pw_below_drewN)⟩
    · rw [if_neg c2] at H
      have c2b : decide ((a0.size : Int) > 200) = false := decide_eq_false c2
      have H' := Aside0.mk H
      clear H
      go_enter Tryd.func77, Tryd.ntmps77
      go_wp2
      go_loopg [] k (fun kq w' => ∃ p : Nat, Aside0 (check_digits.l0 kq a0 p = some r) ∧ w'.heap[w.heap.size]? = some (.stringIter a0 p) ∧ Below w.heap.size w w')
      case atStart => exact ⟨0, H', World.iter_heap w a0 0, (Below.refl _ _).alloc (Nat.le_refl _) _⟩
      case round =>
        clear H'
        obtain ⟨p, HA, hit, hbw⟩ := hrel
        cases gk with
        | zero => exact absurd HA.out (by simp [check_digits.l0])
        | succ k2 =>
          have H := HA.out
          clear HA
          simp only [check_digits.l0] at H
          by_cases hp : p < a0.size
          · rw [if_pos hp] at H
            have hnx : ∀ ty, (Instr.next (.pointer (some ⟨w.heap.size, 0, none⟩)) true ty).run Tryd.prog wr = _ := fun ty => Lib.run_next_any_at wr w.heap.size a0 p ty hit hp
            have hit2 := Lib.iterAt_heap wr w.heap.size a0 p (p + (Utf8.decode a0 p).2) hit
            have hbw2 := Lib.below_iterAt hbw (k := w.heap.size) (Nat.le_refl _) a0 (p + (Utf8.decode a0 p).2)
            obtain ⟨W1, hW1⟩ : ∃ W1, W1 = wr.iterAt w.heap.size a0 (p + (Utf8.decode a0 p).2) := ⟨_, rfl⟩
            rw [← hW1] at hnx hit2 hbw2
            clear hW1 hit hbw
            by_cases d1 : ((Utf8.decode a0 p).1 : Int) < 48
            · rw [if_pos d1] at H
              obtain rfl := Option.some.inj H
              have d1b : decide (((Utf8.decode a0 p).1 : Int) < 48) = true := decide_eq_true d1
              go_wp2
              go_ret
              exact ⟨rfl, by repeat (first | exact hbw2 | apply below_drew1 | apply pw_below_drewN)⟩
            · rw [if_neg d1] at H
              have d1b : decide (((Utf8.decode a0 p).1 : Int) < 48) = false := decide_eq_false d1
              by_cases d2 : ((Utf8.decode a0 p).1 : Int) > 57
              · rw [if_pos d2] at H
                obtain rfl := Option.some.inj H
                have d2b : decide (((Utf8.decode a0 p).1 : Int) > 57) = true := decide_eq_true d2
                go_wp2
                go_ret
                exact ⟨rfl, by repeat (first | exact hbw2 | apply below_drew1 | apply pw_below_drewN)⟩
              · rw [if_neg d2] at H
                have d2b : decide (((Utf8.decode a0 p).1 : Int) > 57) = false := decide_eq_false d2
                have H' := Aside0.mk H
                clear H
                go_wp2
                go_roundg k2
                case measure => exact Nat.lt_succ_self _
                case rel => exact ⟨_, H', hit2, hbw2⟩
          · rw [if_neg hp] at H
            obtain rfl := Option.some.inj H
            have hnx : ∀ ty, (Instr.next (.pointer (some ⟨w.heap.size, 0, none⟩)) true ty).run Tryd.prog wr = _ := fun ty => Lib.run_next_end_at wr w.heap.size a0 p ty hit hp
            go_wp2
            go_ret
            exact ⟨rfl, by repeat (first | exact hbw | apply below_drew1 | apply pw_below_drewN)⟩

/-! ### check_turn_then: function 112 -/
def check_turn_then.f (a0 : Int) (a1 : Int) : Option (Int) := if a0 ≥ 5 then (if (wrap64 (Int.tdiv a1 5)) = 1 then (some (Int.tmod (wrap64 ((Int.tmod (wrap64 ((wrap64 ((wrap64 (a0 - 5)) - (Int.tmod a1 5))) + (wrap64 (5 * (wrap64 (Int.tdiv a1 5)))))) 5) + 5)) 5)) else (some (wrap64 (5 + (Int.tmod (wrap64 ((Int.tmod (wrap64 ((wrap64 ((wrap64 (a0 - 5)) - (Int.tmod a1 5))) + (wrap64 (5 * (wrap64 (Int.tdiv a1 5)))))) 5) + 5)) 5))))) else (some (wrap64 ((wrap64 (5 * (wrap64 (Int.tdiv a1 5)))) + (Int.tmod (wrap64 (a0 + (Int.tmod a1 5))) 5))))
set_option maxHeartbeats 8000000 in
set_option maxRecDepth 100000 in
theorem check_turn_then.calls (a0 : Int) (a1 : Int) (r : Int) (w : World) (h : check_turn_then.f a0 a1 = some r) :
    Calls Tryd.prog 112 #[.int .i64 a0, .int .i64 a1] w fun e w' => e = .returned (.int .i64 r) ∧ Drawn0 w w' := by
  have H : (if a0 ≥ 5 then (if (wrap64 (Int.tdiv a1 5)) = 1 then (some (Int.tmod (wrap64 ((Int.tmod (wrap64 ((wrap64 ((wrap64 (a0 - 5)) - (Int.tmod a1 5))) + (wrap64 (5 * (wrap64 (Int.tdiv a1 5)))))) 5) + 5)) 5)) else (some (wrap64 (5 + (Int.tmod (wrap64 ((Int.tmod (wrap64 ((wrap64 ((wrap64 (a0 - 5)) - (Int.tmod a1 5))) + (wrap64 (5 * (wrap64 (Int.tdiv a1 5)))))) 5) + 5)) 5))))) else (some (wrap64 ((wrap64 (5 * (wrap64 (Int.tdiv a1 5)))) + (Int.tmod (wrap64 (a0 + (Int.tmod a1 5))) 5))))) = some r := h
  clear h
  by_cases c3 : a0 ≥ 5
  · rw [if_pos c3] at H
    have c3b0 : decide (5 ≤ a0) = true := decide_eq_true c3
    clear c3
    by_cases c4 : (wrap64 (Int.tdiv a1 5)) = 1
    · rw [if_pos c4] at H
      have c4b0 : ((wrap64 (Int.tdiv a1 5)) == 1) = true := beq_iff_eq.mpr c4
      have c4b1 : ((wrap64 (Int.tdiv a1 5)) != 1) = false := bne_eq_false_iff_eq.mpr c4
      clear c4
      obtain rfl := Option.some.inj H
      go_enter Tryd.func112, Tryd.ntmps112
      go_wp2
      go_ret
      exact ⟨by first | rfl | (simp; done) | (simp [*]; done), by repeat (first | exact Drawn0.refl _ | apply Drawn0.step)⟩
    · rw [if_neg c4] at H
      have c4b0 : ((wrap64 (Int.tdiv a1 5)) == 1) = false := beq_eq_false_iff_ne.mpr c4
      have c4b1 : ((wrap64 (Int.tdiv a1 5)) != 1) = true := bne_iff_ne.mpr c4
      obtain rfl := Option.some.inj H
      go_enter Tryd.func112, Tryd.ntmps112
      go_wp2
      go_ret
      exact ⟨by first | rfl | (simp; done) | (simp [*]; done), by repeat (first | exact Drawn0.refl _ | apply Drawn0.step)⟩
  · rw [if_neg c3] at H
    have c3b0 : decide (5 ≤ a0) = false := decide_eq_false c3
    clear c3
    obtain rfl := Option.some.inj H
    go_enter Tryd.func112, Tryd.ntmps112
    go_wp2
    go_ret
    exact ⟨by first | rfl | (simp; done) | (simp [*]; done), by repeat (first | exact Drawn0.refl _ | apply Drawn0.step)⟩

/-! ### check_moved: function 113 (a table laid as an array: by hand) -/
def check_moved.tab (d : Int) : Int := if d = 0 then 1 else if d = 1 then 5 else if d = 2 then 7 else if d = 3 then 6 else if d = 4 then 2 else if d = 5 then 8 else if d = 6 then 3 else if d = 7 then 0 else if d = 8 then 9 else 4
def check_moved.l0 : Nat → Int → Int → Int → Option (Int)
  | 0, _, _, _ => none
  | k + 1, d, n, i => if i < n then (if 0 ≤ d then (if d < 10 then (check_moved.l0 k (check_moved.tab d) n (wrap64 (i + 1))) else (none)) else (none)) else (some d)
def check_moved.f (k : Nat) (a0 : Int) (a1 : Int) : Option (Int) := check_moved.l0 k a0 (Int.tmod a1 8) 0
theorem check_moved.mono_l : ∀ k d n i, LeO (check_moved.l0 k d n i) (check_moved.l0 (k + 1) d n i)
  | 0, _, _, _ => by intro r h; simp [check_moved.l0] at h
  | k + 1, d, n, i => by
    have ih := check_moved.mono_l k
    unfold check_moved.l0
    repeat' first
      | (with_reducible exact ih _ _ _)
      | (with_reducible exact LeO.refl _)
      | (with_reducible refine LeO.ite ?_ ?_)
theorem check_moved.mono : ∀ a0 a1 k, LeO (check_moved.f k a0 a1) (check_moved.f (k + 1) a0 a1) := by
  intro a0 a1 k
  unfold check_moved.f
  exact check_moved.mono_l _ _ _ _
set_option maxHeartbeats 8000000 in
set_option maxRecDepth 100000 in
theorem check_moved.calls (k : Nat) (a0 : Int) (a1 : Int) (r : Int) (w : World) (h : check_moved.f k a0 a1 = some r) :
    Calls Tryd.prog 113 #[.int .i64 a0, .int .i64 a1] w fun e w' => e = .returned (.int .i64 r) ∧ Below w.heap.size w w' := by
  have H' := Aside0.mk (show check_moved.l0 k a0 (Int.tmod a1 8) 0 = some r from h)
  clear h
  have hu := Tryd.underlying53
  go_enter Tryd.func113, Tryd.ntmps113
  go_wp2
  go_loopg [0, 9] k (fun kq v0 v9 w' => ∃ (d : Int) (i : Int), v0 = .int .i64 d ∧ v9 = .int .i64 i ∧ Aside0 (check_moved.l0 kq d (Int.tmod a1 8) i = some r) ∧ w'.heap[w.heap.size]? = some (.cells #[.int .i64 1, .int .i64 5, .int .i64 7, .int .i64 6, .int .i64 2, .int .i64 8, .int .i64 3, .int .i64 0, .int .i64 9, .int .i64 4] 177 (0, 0)) ∧ Below w.heap.size w w')
  case atStart => exact ⟨a0, 0, rfl, rfl, H', blk_new w _, (Below.refl _ _).alloc (Nat.le_refl _) _⟩
  case round =>
    clear H'
    obtain ⟨d, i, rfl, rfl, HA, hit, hbw⟩ := hrel
    cases gk with
    | zero => exact absurd HA.out (by simp [check_moved.l0])
    | succ k2 =>
      have H := HA.out
      clear HA
      simp only [check_moved.l0] at H
      by_cases hi : i < Int.tmod a1 8
      · rw [if_pos hi] at H
        have hib : decide (i < Int.tmod a1 8) = true := decide_eq_true hi
        by_cases h0 : 0 ≤ d
        · rw [if_pos h0] at H
          by_cases h10 : d < 10
          · rw [if_pos h10] at H
            have hd : d = 0 ∨ d = 1 ∨ d = 2 ∨ d = 3 ∨ d = 4 ∨ d = 5 ∨ d = 6 ∨ d = 7 ∨ d = 8 ∨ d = 9 := by omega
            have H' := Aside0.mk H
            clear H hi
            have hc0 : wr.cell? ⟨w.heap.size, 0, none⟩ = some (.int .i64 1) := (blk_cell hit 0).trans rfl
            have hf0 := blk_frozen hit 0
            have hc1 : wr.cell? ⟨w.heap.size, 1, none⟩ = some (.int .i64 5) := (blk_cell hit 1).trans rfl
            have hf1 := blk_frozen hit 1
            have hc2 : wr.cell? ⟨w.heap.size, 2, none⟩ = some (.int .i64 7) := (blk_cell hit 2).trans rfl
            have hf2 := blk_frozen hit 2
            have hc3 : wr.cell? ⟨w.heap.size, 3, none⟩ = some (.int .i64 6) := (blk_cell hit 3).trans rfl
            have hf3 := blk_frozen hit 3
            have hc4 : wr.cell? ⟨w.heap.size, 4, none⟩ = some (.int .i64 2) := (blk_cell hit 4).trans rfl
            have hf4 := blk_frozen hit 4
            have hc5 : wr.cell? ⟨w.heap.size, 5, none⟩ = some (.int .i64 8) := (blk_cell hit 5).trans rfl
            have hf5 := blk_frozen hit 5
            have hc6 : wr.cell? ⟨w.heap.size, 6, none⟩ = some (.int .i64 3) := (blk_cell hit 6).trans rfl
            have hf6 := blk_frozen hit 6
            have hc7 : wr.cell? ⟨w.heap.size, 7, none⟩ = some (.int .i64 0) := (blk_cell hit 7).trans rfl
            have hf7 := blk_frozen hit 7
            have hc8 : wr.cell? ⟨w.heap.size, 8, none⟩ = some (.int .i64 9) := (blk_cell hit 8).trans rfl
            have hf8 := blk_frozen hit 8
            have hc9 : wr.cell? ⟨w.heap.size, 9, none⟩ = some (.int .i64 4) := (blk_cell hit 9).trans rfl
            have hf9 := blk_frozen hit 9
            generalize Int.tmod a1 8 = n at *
            rcases hd with rfl | rfl | rfl | rfl | rfl | rfl | rfl | rfl | rfl | rfl
            all_goals (
              go_wp2
              go_roundg k2
              case measure => exact Nat.lt_succ_self _
              case rel => exact ⟨_, _, rfl, rfl, H', hit, hbw⟩)
          · rw [if_neg h10] at H
            simp at H
        · rw [if_neg h0] at H
          simp at H
      · rw [if_neg hi] at H
        have hib : decide (i < Int.tmod a1 8) = false := decide_eq_false hi
        obtain rfl := Option.some.inj H
        go_wp2
        go_ret
        exact ⟨rfl, by repeat (first | exact hbw | apply below_drew1 | apply pw_below_drewN)⟩

/-! ### check_all: function 78 -/
theorem xa78 {w : World} {g : Nat} {o : Obj} (h : w.heap[g]? = some o) (o' : Obj) : (w.alloc o').heap[g]? = some o := blk_alloc h o'
theorem xd78 {w : World} {g : Nat} {o : Obj} (h : w.heap[g]? = some o) : w.drew.heap[g]? = some o := blk_drew h
theorem xn78 {w : World} {g : Nat} {o : Obj} (h : w.heap[g]? = some o) (n : Nat) : (w.drewN n).heap[g]? = some o := blk_drewN h n
theorem ya78 {w W : World} (h : Below w.heap.size w W) (o : Obj) : Below w.heap.size w (W.alloc o) := below_alloc h o
theorem yn78 {B : Nat} {w W : World} (h : Below B w W) (n : Nat) : Below B w (W.drewN n) := pw_below_drewN h n
theorem yd78 {B : Nat} {w W : World} (h : Below B w W) : Below B w W.drew := below_drew1 h
def check_all.l0 : Nat → ByteArray → Int → Int → Int → Int → Option (Int)
  | 0, _, _, _, _, _ => none
  | k + 1, x0, x1, x5, x8, x9 => if x9 < x8 then (if 0 ≤ (wrap64 ((wrap64 ((x0.size : Int) - 1)) - x9)) then (if (wrap64 ((wrap64 ((x0.size : Int) - 1)) - x9)) < (x0.size : Int) then ((check_moved.f k (((bt x0 (wrap64 ((wrap64 ((x0.size : Int) - 1)) - x9))) - 48) % 256) (wrap64 (x1 + x9))).bind fun t101 => ((check_turn_then.f x5 t101).bind fun t102 => (check_all.l0 k x0 x1 t102 x8 (wrap64 (x9 + 1))))) else (none)) else (none)) else (some x5)
def check_all.f (k : Nat) (a0 : ByteArray) (a1 : Int) : Option (Int) := check_all.l0 k a0 a1 0 (a0.size : Int) 0
theorem check_all.mono_l : ∀ k, (∀ y0 y1 y2 y3 y4, LeO (check_all.l0 k y0 y1 y2 y3 y4) (check_all.l0 (k + 1) y0 y1 y2 y3 y4))
  | 0 => fun _ _ _ _ _ r h => by simp [check_all.l0] at h
  | k + 1 => by
    have ih0 := check_all.mono_l k
    · intro y0 y1 y2 y3 y4
      unfold check_all.l0
      repeat' first
      | (with_reducible exact ih0 _ _ _ _ _)
      | (with_reducible exact check_moved.mono _ _ _)
      | (with_reducible exact LeO.refl _)
      | (with_reducible exact LeO.none _)
      | (with_reducible refine LeO.ite ?_ ?_)
      | (with_reducible refine LeO.bind ?_ (fun _ => ?_))
      | exact ih0 _ _ _ _ _
      | exact check_moved.mono _ _ _
      | exact LeO.none _
      | refine LeO.ite ?_ ?_
      | refine LeO.bind ?_ (fun _ => ?_)
theorem check_all.mono : ∀ a0 a1 k, LeO (check_all.f k a0 a1) (check_all.f (k + 1) a0 a1) := by
  intro a0 a1 k
  have ih0 := check_all.mono_l k
  unfold check_all.f
  repeat' first
      | (with_reducible exact ih0 _ _ _ _ _)
      | (with_reducible exact check_moved.mono _ _ _)
      | (with_reducible exact LeO.refl _)
      | (with_reducible exact LeO.none _)
      | (with_reducible refine LeO.ite ?_ ?_)
      | (with_reducible refine LeO.bind ?_ (fun _ => ?_))
      | exact ih0 _ _ _ _ _
      | exact check_moved.mono _ _ _
      | exact LeO.none _
      | refine LeO.ite ?_ ?_
      | refine LeO.bind ?_ (fun _ => ?_)
set_option maxHeartbeats 8000000 in
set_option maxRecDepth 100000 in
theorem check_all.calls (k : Nat) (a0 : ByteArray) (a1 : Int) (r : Int) (w : World) (h : check_all.f k a0 a1 = some r) :
    Calls Tryd.prog 78 #[.string a0, .int .i64 a1] w fun e w' => e = .returned (.int .i64 r) ∧ Below w.heap.size w w' := by
  have HB := Aside0.mk (Below.refl w.heap.size w)
  have H : (check_all.l0 k a0 a1 0 (a0.size : Int) 0) = some r := h
  clear h
  have H' := Aside0.mk H
  clear H
  go_enter Tryd.func78, Tryd.ntmps78
  go_wp2
  go_loopg [5, 9] k (fun kq v5 v9 w' => ∃ (x5_1 : Int) (x9_1 : Int), v5 = .int .i64 x5_1 ∧ v9 = .int .i64 x9_1 ∧ Aside0 (check_all.l0 kq a0 a1 x5_1 (a0.size : Int) x9_1 = some r) ∧ Aside0 (kq ≤ k) ∧ Aside0 (Below w.heap.size w w'))
  case atStart => exact ⟨(0), (0), (by first | rfl | (simp; done) | (simp [*]; done)), (by first | rfl | (simp; done) | (simp [*]; done)), H', ⟨Nat.le_refl _⟩, ⟨by repeat (first | (with_reducible first | exact HB.1 | apply below_alloc | apply pw_below_drewN | apply below_drew1) | exact HB.1)⟩⟩
  case round =>
    clear H'
    try clear p2
    obtain ⟨x5_1, x9_1, rfl, rfl, HA, HK1, HB⟩ := hrel
    cases gk with
    | zero => exact absurd HA.out (by simp [check_all.l0])
    | succ k1 =>
      have H := HA.out
      clear HA
      simp only [check_all.l0] at H
      by_cases c3 : x9_1 < (a0.size : Int)
      · rw [if_pos c3] at H
        have c3b0 : decide (x9_1 < (a0.size : Int)) = true := decide_eq_true c3
        clear c3
        obtain ⟨ji4, hji4⟩ : ∃ j_ : Int, (wrap64 ((wrap64 ((a0.size : Int) - 1)) - x9_1)) = j_ := ⟨_, rfl⟩
        replace H : (if 0 ≤ (ji4) then (if (ji4) < (a0.size : Int) then ((check_moved.f k1 (((bt a0 (ji4)) - 48) % 256) (wrap64 (a1 + x9_1))).bind fun t101 => ((check_turn_then.f x5_1 t101).bind fun t102 => (check_all.l0 k1 a0 a1 t102 (a0.size : Int) (wrap64 (x9_1 + 1))))) else (none)) else (none)) = some r := by first | (rw [hji4] at H; exact H) | (simp only [hji4] at H ⊢; exact H)
        have hji4w : (IntKind.i64.wrap ((wrap64 ((a0.size : Int) - 1)) - x9_1)) = ji4 := (i64_w _).trans hji4
        by_cases c5 : 0 ≤ (ji4)
        · rw [if_pos c5] at H
          have c5b0 : decide (0 ≤ (ji4)) = true := decide_eq_true c5
          clear c5
          by_cases c6 : (ji4) < (a0.size : Int)
          · rw [if_pos c6] at H
            have c6b0 : decide ((ji4) < (a0.size : Int)) = true := decide_eq_true c6
            clear c6
            replace H := Option.bind_eq_some_iff.mp H
            obtain ⟨t101, A80, H⟩ := H
            replace H : ((check_turn_then.f x5_1 t101).bind fun t102 => (check_all.l0 k1 a0 a1 t102 (a0.size : Int) (wrap64 (x9_1 + 1)))) = some r := H
            have A8 := Aside0.mk A80
            clear A80
            replace H := Option.bind_eq_some_iff.mp H
            obtain ⟨t102, A90, H⟩ := H
            replace H : (check_all.l0 k1 a0 a1 t102 (a0.size : Int) (wrap64 (x9_1 + 1))) = some r := H
            have A9 := Aside0.mk A90
            clear A90
            have H' := Aside0.mk H
            clear H
            have p7 : 0 ≤ ((ji4) : Int) := of_decide_eq_true (by first | (with_reducible assumption) | assumption)
            have q7 : (ji4) < (a0.size : Int) := of_decide_eq_true (by first | (with_reducible assumption) | assumption)
            have hx7 := bt_at a0 (ji4)
            replace p7 := eq_true p7
            replace q7 := eq_true q7
            go_wp2_with (first | ((with_reducible refine gate_callee (f := 113) rfl ?_); refine goesL_ (some 25) rfl rfl Tryd.func113 (by kernel_rfl) rfl #[.int .i64 (((bt a0 (ji4)) - 48) % 256), .int .i64 (wrap64 (a1 + x9_1))] rfl (by (try simp only [List.map_toArray, List.map_cons, List.map_nil]); first | done | (simp only [hji4]; rfl) | rfl | (simp only [List.length_drop, List.length_take]; rfl)) ?_; (with_reducible refine (check_moved.calls k1 (((bt a0 (ji4)) - 48) % 256) (wrap64 (a1 + x9_1)) t101 _ A8.out).mono ?_); rintro e w10 ⟨rfl, hb⟩; refine ⟨_, rfl, ?_⟩; have n0_ := Aside0.mk (below_step (by with_reducible repeat (first | exact HB.1 | apply ya78 | apply yn78 | apply yd78)) hb); clear HB; have HB := n0_; clear n0_; (try clear hb); (try clear hb2); (try clear hk); (try clear hi)) | ((with_reducible refine gate_callee (f := 112) rfl ?_); refine goesL_ (some 26) rfl rfl Tryd.func112 (by kernel_rfl) rfl #[.int .i64 x5_1, .int .i64 t101] rfl (by (try simp only [List.map_toArray, List.map_cons, List.map_nil]); first | done | rfl | (simp only [List.length_drop, List.length_take]; rfl)) ?_; (with_reducible refine (check_turn_then.calls x5_1 t101 t102 _ A9.out).mono ?_); rintro e w' ⟨rfl, ⟨nd, rfl⟩⟩; refine ⟨_, rfl, ?_⟩))
            go_roundg k1
            case measure => have := HK1.out; omega
            case rel => exact ⟨(t102), (wrap64 (x9_1 + 1)), (by first | rfl | (simp; done) | (simp [*]; done)), (by first | rfl | (simp; done) | (simp [*]; done)), H', ⟨by have := HK1.out; omega⟩, ⟨by repeat (first | (with_reducible first | exact HB.1 | apply below_alloc | apply pw_below_drewN | apply below_drew1) | exact HB.1)⟩⟩
          · rw [if_neg c6] at H
            exact absurd H (by simp)
        · rw [if_neg c5] at H
          exact absurd H (by simp)
      · rw [if_neg c3] at H
        have c3b0 : decide (x9_1 < (a0.size : Int)) = false := decide_eq_false c3
        clear c3
        obtain rfl := Option.some.inj H
        go_wp2
        go_ret
        exact ⟨by first | rfl | (simp [errW_none, errW_some] <;> rfl) | (simp [*, errW_none, errW_some] <;> rfl), by repeat (first | (with_reducible first | exact HB.1 | apply below_alloc | apply pw_below_drewN | apply below_drew1) | exact HB.1)⟩

/-! ### check_turn_back: function 79 -/
def check_turn_back.f (a0 : Int) : Option (Int) := if a0 ≥ 5 then (some a0) else (some (Int.tmod (wrap64 (5 - a0)) 5))
set_option maxHeartbeats 8000000 in
set_option maxRecDepth 100000 in
theorem check_turn_back.calls (a0 : Int) (r : Int) (w : World) (h : check_turn_back.f a0 = some r) :
    Calls Tryd.prog 79 #[.int .i64 a0] w fun e w' => e = .returned (.int .i64 r) ∧ Drawn0 w w' := by
  have H : (if a0 ≥ 5 then (some a0) else (some (Int.tmod (wrap64 (5 - a0)) 5))) = some r := h
  clear h
  by_cases c2 : a0 ≥ 5
  · rw [if_pos c2] at H
    have c2b0 : decide (5 ≤ a0) = true := decide_eq_true c2
    clear c2
    obtain rfl := Option.some.inj H
    go_enter Tryd.func79, Tryd.ntmps79
    go_wp2
    go_ret
    exact ⟨by first | rfl | (simp; done) | (simp [*]; done), by repeat (first | exact Drawn0.refl _ | apply Drawn0.step)⟩
  · rw [if_neg c2] at H
    have c2b0 : decide (5 ≤ a0) = false := decide_eq_false c2
    clear c2
    obtain rfl := Option.some.inj H
    go_enter Tryd.func79, Tryd.ntmps79
    go_wp2
    go_ret
    exact ⟨by first | rfl | (simp; done) | (simp [*]; done), by repeat (first | exact Drawn0.refl _ | apply Drawn0.step)⟩

/-! ### check_Digit: function 49 -/
theorem xa49 {w : World} {g : Nat} {o : Obj} (h : w.heap[g]? = some o) (o' : Obj) : (w.alloc o').heap[g]? = some o := blk_alloc h o'
theorem xd49 {w : World} {g : Nat} {o : Obj} (h : w.heap[g]? = some o) : w.drew.heap[g]? = some o := blk_drew h
theorem xn49 {w : World} {g : Nat} {o : Obj} (h : w.heap[g]? = some o) (n : Nat) : (w.drewN n).heap[g]? = some o := blk_drewN h n
theorem ya49 {w W : World} (h : Below w.heap.size w W) (o : Obj) : Below w.heap.size w (W.alloc o) := below_alloc h o
theorem yn49 {B : Nat} {w W : World} (h : Below B w W) (n : Nat) : Below B w (W.drewN n) := pw_below_drewN h n
theorem yd49 {B : Nat} {w W : World} (h : Below B w W) : Below B w W.drew := below_drew1 h
def check_Digit.f (k : Nat) (a0 : ByteArray) : Option (Int × Int) := (check_digits.f k a0).bind fun t103 => (if t103 = 0 then ((check_all.f k a0 1).bind fun t104 => ((check_turn_back.f t104).bind fun t105 => (some (t105, 0)))) else (some (0, t103)))
theorem check_Digit.mono : ∀ a0 k, LeO (check_Digit.f k a0) (check_Digit.f (k + 1) a0) := by
  intro a0 k
  unfold check_Digit.f
  repeat' first
      | (with_reducible exact check_all.mono _ _ _)
      | (with_reducible exact check_digits.mono _ _)
      | (with_reducible exact LeO.refl _)
      | (with_reducible exact LeO.none _)
      | (with_reducible refine LeO.ite ?_ ?_)
      | (with_reducible refine LeO.bind ?_ (fun _ => ?_))
      | exact check_all.mono _ _ _
      | exact check_digits.mono _ _
      | exact LeO.none _
      | refine LeO.ite ?_ ?_
      | refine LeO.bind ?_ (fun _ => ?_)
set_option maxHeartbeats 8000000 in
set_option maxRecDepth 100000 in
theorem check_Digit.calls (k : Nat) (a0 : ByteArray) (r1 : Int) (r2 : Int) (w : World) (h : check_Digit.f k a0 = some (r1, r2)) :
    Calls Tryd.prog 49 #[.string a0] w fun e w' => e = .returned (.tuple #[.int .i64 r1, .int .i64 r2]) ∧ Below w.heap.size w w' := by
  have HB := Aside0.mk (Below.refl w.heap.size w)
  have H : ((check_digits.f k a0).bind fun t103 => (if t103 = 0 then ((check_all.f k a0 1).bind fun t104 => ((check_turn_back.f t104).bind fun t105 => (some (t105, 0)))) else (some (0, t103)))) = some (r1, r2) := h
  clear h
  replace H := Option.bind_eq_some_iff.mp H
  obtain ⟨t103, A20, H⟩ := H
  replace H : (if t103 = 0 then ((check_all.f k a0 1).bind fun t104 => ((check_turn_back.f t104).bind fun t105 => (some (t105, 0)))) else (some (0, t103))) = some (r1, r2) := H
  have A2 := Aside0.mk A20
  clear A20
  by_cases c3 : t103 = 0
  · rw [if_pos c3] at H
    have c3b0 : (t103 == 0) = true := beq_iff_eq.mpr c3
    have c3b1 : (t103 != 0) = false := bne_eq_false_iff_eq.mpr c3
    clear c3
    replace H := Option.bind_eq_some_iff.mp H
    obtain ⟨t104, A40, H⟩ := H
    replace H : ((check_turn_back.f t104).bind fun t105 => (some (t105, 0))) = some (r1, r2) := H
    have A4 := Aside0.mk A40
    clear A40
    replace H := Option.bind_eq_some_iff.mp H
    obtain ⟨t105, A50, H⟩ := H
    replace H : (some (t105, 0)) = some (r1, r2) := H
    have A5 := Aside0.mk A50
    clear A50
    simp only [Option.some.injEq, Prod.mk.injEq] at H
    obtain ⟨rfl, rfl⟩ := H
    go_enter Tryd.func49, Tryd.ntmps49
    go_wp2_with (first | ((with_reducible refine gate_callee (f := 77) rfl ?_); refine goesL_ (some 6) rfl rfl Tryd.func77 (by kernel_rfl) rfl #[.string a0] rfl (by (try simp only [List.map_toArray, List.map_cons, List.map_nil]); first | done | rfl | (simp only [List.length_drop, List.length_take]; rfl)) ?_; (with_reducible refine (check_digits.calls k a0 t103 _ A2.out).mono ?_); rintro e w6 ⟨rfl, hb⟩; refine ⟨_, rfl, ?_⟩; have n0_ := Aside0.mk (below_step (by with_reducible repeat (first | exact HB.1 | apply ya49 | apply yn49 | apply yd49)) hb); clear HB; have HB := n0_; clear n0_; (try clear hb); (try clear hb2); (try clear hk); (try clear hi)) | ((with_reducible refine gate_callee (f := 78) rfl ?_); refine goesL_ (some 11) rfl rfl Tryd.func78 (by kernel_rfl) rfl #[.string a0, .int .i64 1] rfl (by (try simp only [List.map_toArray, List.map_cons, List.map_nil]); first | done | rfl | (simp only [List.length_drop, List.length_take]; rfl)) ?_; (with_reducible refine (check_all.calls k a0 1 t104 _ A4.out).mono ?_); rintro e w7 ⟨rfl, hb⟩; refine ⟨_, rfl, ?_⟩; have n0_ := Aside0.mk (below_step (by with_reducible repeat (first | exact HB.1 | apply ya49 | apply yn49 | apply yd49)) hb); clear HB; have HB := n0_; clear n0_; (try clear hb); (try clear hb2); (try clear hk); (try clear hi)) | ((with_reducible refine gate_callee (f := 79) rfl ?_); refine goesL_ (some 12) rfl rfl Tryd.func79 (by kernel_rfl) rfl #[.int .i64 t104] rfl (by (try simp only [List.map_toArray, List.map_cons, List.map_nil]); first | done | rfl | (simp only [List.length_drop, List.length_take]; rfl)) ?_; (with_reducible refine (check_turn_back.calls t104 t105 _ A5.out).mono ?_); rintro e w' ⟨rfl, ⟨nd, rfl⟩⟩; refine ⟨_, rfl, ?_⟩))
    go_ret2
    exact ⟨by first | rfl | (simp [errW_none, errW_some] <;> rfl) | (simp [*, errW_none, errW_some] <;> rfl), by repeat (first | (with_reducible first | exact HB.1 | apply below_alloc | apply pw_below_drewN | apply below_drew1) | exact HB.1)⟩
  · rw [if_neg c3] at H
    have c3b0 : (t103 == 0) = false := beq_eq_false_iff_ne.mpr c3
    have c3b1 : (t103 != 0) = true := bne_iff_ne.mpr c3
    simp only [Option.some.injEq, Prod.mk.injEq] at H
    obtain ⟨rfl, rfl⟩ := H
    go_enter Tryd.func49, Tryd.ntmps49
    go_wp2_with (first | ((with_reducible refine gate_callee (f := 77) rfl ?_); refine goesL_ (some 6) rfl rfl Tryd.func77 (by kernel_rfl) rfl #[.string a0] rfl (by (try simp only [List.map_toArray, List.map_cons, List.map_nil]); first | done | rfl | (simp only [List.length_drop, List.length_take]; rfl)) ?_; (with_reducible refine (check_digits.calls k a0 t103 _ A2.out).mono ?_); rintro e w8 ⟨rfl, hb⟩; refine ⟨_, rfl, ?_⟩; have n0_ := Aside0.mk (below_step (by with_reducible repeat (first | exact HB.1 | apply ya49 | apply yn49 | apply yd49)) hb); clear HB; have HB := n0_; clear n0_; (try clear hb); (try clear hb2); (try clear hk); (try clear hi)))
    go_ret2
    exact ⟨by first | rfl | (simp [errW_none, errW_some] <;> rfl) | (simp [*, errW_none, errW_some] <;> rfl), by repeat (first | (with_reducible first | exact HB.1 | apply below_alloc | apply pw_below_drewN | apply below_drew1) | exact HB.1)⟩

/-! ### receipt_Number: function 19 -/
theorem xa19 {w : World} {g : Nat} {o : Obj} (h : w.heap[g]? = some o) (o' : Obj) : (w.alloc o').heap[g]? = some o := blk_alloc h o'
theorem xd19 {w : World} {g : Nat} {o : Obj} (h : w.heap[g]? = some o) : w.drew.heap[g]? = some o := blk_drew h
theorem xn19 {w : World} {g : Nat} {o : Obj} (h : w.heap[g]? = some o) (n : Nat) : (w.drewN n).heap[g]? = some o := blk_drewN h n
theorem ya19 {w W : World} (h : Below w.heap.size w W) (o : Obj) : Below w.heap.size w (W.alloc o) := below_alloc h o
theorem yn19 {B : Nat} {w W : World} (h : Below B w W) (n : Nat) : Below B w (W.drewN n) := pw_below_drewN h n
theorem yd19 {B : Nat} {w W : World} (h : Below B w W) : Below B w W.drew := below_drew1 h
def receipt_Number.j0 : Nat → Int → Bool → Option (ByteArray × Int)
  | 0, _, _ => none
  | k + 1, x0, x12 => if x12 = true then (some ((⟨#[]⟩ : ByteArray), 18)) else ((strconv_Itoa_41.f (wrap64 (10000000000 + x0))).bind fun t106 => (if 1 ≤ (t106.size : Int) then ((check_Digit.f k (t106.extract 1 t106.size)).bind fun bt107 => ((strconv_Itoa_41.f bt107.1).bind fun t109 => (if (t106.extract 1 t106.size).size + t109.size ≤ 9223372036854775807 then (some ((t106.extract 1 t106.size) ++ t109, 0)) else (none)))) else (none)))
def receipt_Number.f (k : Nat) (a0 : Int) : Option (ByteArray × Int) := if a0 < 0 then (receipt_Number.j0 k a0 true) else (receipt_Number.j0 k a0 (decide (a0 ≥ 50)))
theorem receipt_Number.mono_l : ∀ k, (∀ y0 y1, LeO (receipt_Number.j0 k y0 y1) (receipt_Number.j0 (k + 1) y0 y1))
  | 0 => fun _ _ r h => by simp [receipt_Number.j0] at h
  | k + 1 => by
    have ih0 := receipt_Number.mono_l k
    · intro y0 y1
      unfold receipt_Number.j0
      repeat' first
      | (with_reducible exact ih0 _ _)
      | (with_reducible exact check_Digit.mono _ _)
      | (with_reducible exact LeO.refl _)
      | (with_reducible exact LeO.none _)
      | (with_reducible refine LeO.ite ?_ ?_)
      | (with_reducible refine LeO.bind ?_ (fun _ => ?_))
      | exact ih0 _ _
      | exact check_Digit.mono _ _
      | exact LeO.none _
      | refine LeO.ite ?_ ?_
      | refine LeO.bind ?_ (fun _ => ?_)
theorem receipt_Number.mono : ∀ a0 k, LeO (receipt_Number.f k a0) (receipt_Number.f (k + 1) a0) := by
  intro a0 k
  have ih0 := receipt_Number.mono_l k
  unfold receipt_Number.f
  repeat' first
      | (with_reducible exact ih0 _ _)
      | (with_reducible exact check_Digit.mono _ _)
      | (with_reducible exact LeO.refl _)
      | (with_reducible exact LeO.none _)
      | (with_reducible refine LeO.ite ?_ ?_)
      | (with_reducible refine LeO.bind ?_ (fun _ => ?_))
      | exact ih0 _ _
      | exact check_Digit.mono _ _
      | exact LeO.none _
      | refine LeO.ite ?_ ?_
      | refine LeO.bind ?_ (fun _ => ?_)
set_option maxHeartbeats 8000000 in
set_option maxRecDepth 100000 in
theorem receipt_Number.calls (k : Nat) (a0 : Int) (r1 : ByteArray) (r2 : Int) (w : World) (HTAB : LaidW w) (h : receipt_Number.f k a0 = some (r1, r2)) :
    Calls Tryd.prog 19 #[.int .i64 a0] w fun e w' => e = .returned (.tuple #[.string r1, .int .i64 r2]) ∧ Below w.heap.size w w' := by
  have HB := Aside0.mk (Below.refl w.heap.size w)
  have H : (if a0 < 0 then (receipt_Number.j0 k a0 true) else (receipt_Number.j0 k a0 (decide (a0 ≥ 50)))) = some (r1, r2) := h
  clear h
  have HC2 := Aside0.mk H
  clear H
  go_enter Tryd.func19, Tryd.ntmps19
  go_upto_region 1 with (fail)
  go_cut [12] (fun v12 wc => ∃ (kq : Nat) (x12_1 : Bool), v12 = .bool x12_1 ∧ Aside0 (receipt_Number.j0 kq a0 x12_1 = some (r1, r2)) ∧ Aside0 (kq ≤ k) ∧ Aside0 (Below w.heap.size w wc))
  case first =>
    have H := HC2.out
    clear HC2
    by_cases c3 : a0 < 0
    · rw [if_pos c3] at H
      have c3b0 : decide (a0 < 0) = true := decide_eq_true c3
      clear c3
      (first | rw [c3b0] | (simp only [i64_w, i32_w]; rw [c3b0]) | skip)
      have H' := Aside0.mk H
      clear H
      go_wp2
      go_meet
      case rel => exact ⟨_, (true), (by first | rfl | (simp; done) | (simp [*]; done)), H', ⟨by first | omega | exact Nat.le_refl _⟩, ⟨by repeat (first | (with_reducible first | exact HB.1 | apply below_alloc | apply pw_below_drewN | apply below_drew1) | exact HB.1)⟩⟩
    · rw [if_neg c3] at H
      have c3b0 : decide (a0 < 0) = false := decide_eq_false c3
      clear c3
      (first | rw [c3b0] | (simp only [i64_w, i32_w]; rw [c3b0]) | skip)
      have H' := Aside0.mk H
      clear H
      go_wp2
      go_meet
      case rel => exact ⟨_, (decide (a0 ≥ 50)), (by first | rfl | (simp; done) | (simp [*]; done)), H', ⟨by first | omega | exact Nat.le_refl _⟩, ⟨by repeat (first | (with_reducible first | exact HB.1 | apply below_alloc | apply pw_below_drewN | apply below_drew1) | exact HB.1)⟩⟩
  case rest =>
    clear HC2
    try clear c1
    try clear p2
    try clear c3
    try clear c3b0
    obtain ⟨kq, x12_1, rfl, HA, HJ1, HB⟩ := hcut
    cases kq with
    | zero => exact absurd HA.out (by simp [receipt_Number.j0])
    | succ kj1 =>
      have H := HA.out
      clear HA
      simp only [receipt_Number.j0] at H
      by_cases c4 : x12_1 = true
      · subst c4
        have H1 : (some ((⟨#[]⟩ : ByteArray), 18)) = some (r1, r2) := by rw [if_pos rfl] at H; exact H
        clear H
        have H := H1
        clear H1
        simp only [Option.some.injEq, Prod.mk.injEq] at H
        obtain ⟨rfl, rfl⟩ := H
        go_wp2
        go_ret2
        exact ⟨by first | rfl | (simp [errW_none, errW_some] <;> rfl) | (simp [*, errW_none, errW_some] <;> rfl), by repeat (first | (with_reducible first | exact HB.1 | apply below_alloc | apply pw_below_drewN | apply below_drew1) | exact HB.1)⟩
      · replace c4 := Bool.eq_false_iff.mpr c4
        subst c4
        have H1 : ((strconv_Itoa_41.f (wrap64 (10000000000 + a0))).bind fun t106 => (if 1 ≤ (t106.size : Int) then ((check_Digit.f kj1 (t106.extract 1 t106.size)).bind fun bt107 => ((strconv_Itoa_41.f bt107.1).bind fun t109 => (if (t106.extract 1 t106.size).size + t109.size ≤ 9223372036854775807 then (some ((t106.extract 1 t106.size) ++ t109, 0)) else (none)))) else (none))) = some (r1, r2) := by rw [if_neg (show ¬ (false = true) by decide)] at H; exact H
        clear H
        have H := H1
        clear H1
        replace H := Option.bind_eq_some_iff.mp H
        obtain ⟨t106, A50, H⟩ := H
        replace H : (if 1 ≤ (t106.size : Int) then ((check_Digit.f kj1 (t106.extract 1 t106.size)).bind fun bt107 => ((strconv_Itoa_41.f bt107.1).bind fun t109 => (if (t106.extract 1 t106.size).size + t109.size ≤ 9223372036854775807 then (some ((t106.extract 1 t106.size) ++ t109, 0)) else (none)))) else (none)) = some (r1, r2) := H
        have A5 := Aside0.mk A50
        clear A50
        by_cases c6 : 1 ≤ (t106.size : Int)
        · rw [if_pos c6] at H
          have c6b0 := eq_true c6
          have c6b1 : decide (1 ≤ (t106.size : Int)) = true := decide_eq_true c6
          clear c6
          replace H := Option.bind_eq_some_iff.mp H
          obtain ⟨⟨t107, t108⟩, A70, H⟩ := H
          replace H : ((strconv_Itoa_41.f t107).bind fun t109 => (if (t106.extract 1 t106.size).size + t109.size ≤ 9223372036854775807 then (some ((t106.extract 1 t106.size) ++ t109, 0)) else (none))) = some (r1, r2) := H
          have A7 := Aside0.mk A70
          clear A70
          replace H := Option.bind_eq_some_iff.mp H
          obtain ⟨t109, A80, H⟩ := H
          replace H : (if (t106.extract 1 t106.size).size + t109.size ≤ 9223372036854775807 then (some ((t106.extract 1 t106.size) ++ t109, 0)) else (none)) = some (r1, r2) := H
          have A8 := Aside0.mk A80
          clear A80
          by_cases c9 : (t106.extract 1 t106.size).size + t109.size ≤ 9223372036854775807
          · rw [if_pos c9] at H
            have c9b0 := eq_true c9
            have c9b1 : decide ((t106.extract 1 t106.size).size + t109.size ≤ 9223372036854775807) = true := decide_eq_true c9
            try have c9b2 : (9223372036854775807 < (t106.extract 1 t106.size).size + t109.size) = False := eq_false (Nat.not_lt.2 c9)
            try have c9b3 : (9223372036854775807 < (t106.size - 1) + t109.size) = False := eq_false (by have z_ := c9; (try simp only [ByteArray.size_append, ByteArray.size_extract, Nat.min_self] at z_); omega)
            try have c9b4 : ((t106.size - 1) + t109.size ≤ 9223372036854775807) = True := eq_true (by have z_ := c9; (try simp only [ByteArray.size_append, ByteArray.size_extract, Nat.min_self] at z_); omega)
            simp only [Option.some.injEq, Prod.mk.injEq] at H
            obtain ⟨rfl, rfl⟩ := H
            go_wp2_with (first | ((with_reducible refine gate_callee (f := 41) rfl ?_); refine goesL_ (some 15) rfl rfl Tryd.func41 (by kernel_rfl) rfl #[.int .i64 (wrap64 (10000000000 + a0))] rfl (by (try simp only [List.map_toArray, List.map_cons, List.map_nil]); first | done | rfl | (simp only [List.length_drop, List.length_take]; rfl)) ?_; (with_reducible refine (strconv_Itoa_41.calls (wrap64 (10000000000 + a0)) t106 _ (HTAB.go (by repeat (first | (with_reducible first | exact HB.1 | exact Below.refl _ _ | apply below_alloc | apply pw_below_drewN | apply below_drew1) | exact HB.1))) A5.out).mono ?_); rintro e w10 ⟨rfl, hb⟩; refine ⟨_, rfl, ?_⟩; have n0_ := Aside0.mk (below_step (by with_reducible repeat (first | exact HB.1 | apply ya19 | apply yn19 | apply yd19)) hb); clear HB; have HB := n0_; clear n0_; (try clear hb); (try clear hb2); (try clear hk); (try clear hi)) | ((with_reducible refine gate_callee (f := 49) rfl ?_); refine goesL_ (some 19) rfl rfl Tryd.func49 (by kernel_rfl) rfl #[.string (t106.extract 1 t106.size)] rfl (by (try simp only [List.map_toArray, List.map_cons, List.map_nil]); first | done | rfl | (simp only [List.length_drop, List.length_take]; rfl)) ?_; (with_reducible refine (check_Digit.calls kj1 (t106.extract 1 t106.size) t107 t108 _ A7.out).mono ?_); rintro e w11 ⟨rfl, hb⟩; refine ⟨_, rfl, ?_⟩; have n0_ := Aside0.mk (below_step (by with_reducible repeat (first | exact HB.1 | apply ya19 | apply yn19 | apply yd19)) hb); clear HB; have HB := n0_; clear n0_; (try clear hb); (try clear hb2); (try clear hk); (try clear hi)) | ((with_reducible refine gate_callee (f := 41) rfl ?_); refine goesL_ (some 24) rfl rfl Tryd.func41 (by kernel_rfl) rfl #[.int .i64 t107] rfl (by (try simp only [List.map_toArray, List.map_cons, List.map_nil]); first | done | rfl | (simp only [List.length_drop, List.length_take]; rfl)) ?_; (with_reducible refine (strconv_Itoa_41.calls t107 t109 _ (HTAB.go (by repeat (first | (with_reducible first | exact HB.1 | exact Below.refl _ _ | apply below_alloc | apply pw_below_drewN | apply below_drew1) | exact HB.1))) A8.out).mono ?_); rintro e w12 ⟨rfl, hb⟩; refine ⟨_, rfl, ?_⟩; have n0_ := Aside0.mk (below_step (by with_reducible repeat (first | exact HB.1 | apply ya19 | apply yn19 | apply yd19)) hb); clear HB; have HB := n0_; clear n0_; (try clear hb); (try clear hb2); (try clear hk); (try clear hi)))
            go_ret2
            exact ⟨by first | rfl | (simp [errW_none, errW_some] <;> rfl) | (simp [*, errW_none, errW_some] <;> rfl), by repeat (first | (with_reducible first | exact HB.1 | apply below_alloc | apply pw_below_drewN | apply below_drew1) | exact HB.1)⟩
          · rw [if_neg c9] at H
            exact absurd H (by simp)
        · rw [if_neg c6] at H
          exact absurd H (by simp)

/-! ### vendmeterref_In: function 42 -/
def vendmeterref_In.f (a0 : Int) (a1 : Int) (a2 : Int) : Option (Bool) := if a0 ≥ a1 then (some (decide (a0 ≤ a2))) else (some false)
set_option maxHeartbeats 8000000 in
set_option maxRecDepth 100000 in
theorem vendmeterref_In.calls (a0 : Int) (a1 : Int) (a2 : Int) (r : Bool) (w : World) (h : vendmeterref_In.f a0 a1 a2 = some r) :
    Calls Tryd.prog 42 #[.int .i64 a0, .int .i64 a1, .int .i64 a2] w fun e w' => e = .returned (.bool r) ∧ Drawn0 w w' := by
  have H : (if a0 ≥ a1 then (some (decide (a0 ≤ a2))) else (some false)) = some r := h
  clear h
  by_cases c4 : a0 ≥ a1
  · rw [if_pos c4] at H
    have c4b0 : decide (a1 ≤ a0) = true := decide_eq_true c4
    clear c4
    obtain rfl := Option.some.inj H
    go_enter Tryd.func42, Tryd.ntmps42
    go_wp2
    go_ret
    exact ⟨by first | rfl | (simp; done) | (simp [*]; done), by repeat (first | exact Drawn0.refl _ | apply Drawn0.step)⟩
  · rw [if_neg c4] at H
    have c4b0 : decide (a1 ≤ a0) = false := decide_eq_false c4
    clear c4
    obtain rfl := Option.some.inj H
    go_enter Tryd.func42, Tryd.ntmps42
    go_wp2
    go_ret
    exact ⟨by first | rfl | (simp; done) | (simp [*]; done), by repeat (first | exact Drawn0.refl _ | apply Drawn0.step)⟩

/-! ### vendmeterref_Dec: function 43 -/
theorem xa43 {w : World} {g : Nat} {o : Obj} (h : w.heap[g]? = some o) (o' : Obj) : (w.alloc o').heap[g]? = some o := blk_alloc h o'
theorem xd43 {w : World} {g : Nat} {o : Obj} (h : w.heap[g]? = some o) : w.drew.heap[g]? = some o := blk_drew h
theorem xn43 {w : World} {g : Nat} {o : Obj} (h : w.heap[g]? = some o) (n : Nat) : (w.drewN n).heap[g]? = some o := blk_drewN h n
theorem ya43 {w W : World} (h : Below w.heap.size w W) (o : Obj) : Below w.heap.size w (W.alloc o) := below_alloc h o
theorem yn43 {B : Nat} {w W : World} (h : Below B w W) (n : Nat) : Below B w (W.drewN n) := pw_below_drewN h n
theorem yd43 {B : Nat} {w W : World} (h : Below B w W) : Below B w W.drew := below_drew1 h
mutual
def vendmeterref_Dec.j0 : Nat → Int → Bool → Option (ByteArray)
  | 0, _, _ => none
  | k + 1, x0, x8 => if x8 = true then (some (strOfNums (([(wrap64 (48 + x0)) % 256] : List Int)))) else (if x0 < 0 then (if x0 > (-10) then ((vendmeterref_Dec.f k (wrap64 (-x0))).bind fun t113 => (if 1 + t113.size ≤ 9223372036854775807 then (some ((⟨#[45]⟩ : ByteArray) ++ t113)) else (none))) else ((vendmeterref_Dec.f k (wrap64 (Int.tdiv x0 10))).bind fun t114 => ((vendmeterref_Dec.f k (wrap64 (-(Int.tmod x0 10)))).bind fun t115 => (if t114.size + t115.size ≤ 9223372036854775807 then (some (t114 ++ t115)) else (none))))) else ((vendmeterref_Dec.f k (wrap64 (Int.tdiv x0 10))).bind fun t116 => ((vendmeterref_Dec.f k (Int.tmod x0 10)).bind fun t117 => (if t116.size + t117.size ≤ 9223372036854775807 then (some (t116 ++ t117)) else (none)))))
def vendmeterref_Dec.f : Nat → Int → Option (ByteArray)
  | 0, _ => none
  | k + 1, a0 => if a0 ≥ 0 then (vendmeterref_Dec.j0 k a0 (decide (a0 < 10))) else (vendmeterref_Dec.j0 k a0 false)
end
theorem vendmeterref_Dec.mono_l : ∀ k, (∀ y0, LeO (vendmeterref_Dec.f k y0) (vendmeterref_Dec.f (k + 1) y0)) ∧ (∀ y0 y1, LeO (vendmeterref_Dec.j0 k y0 y1) (vendmeterref_Dec.j0 (k + 1) y0 y1))
  | 0 => ⟨fun _ r h => by simp [vendmeterref_Dec.f] at h, fun _ _ r h => by simp [vendmeterref_Dec.j0] at h⟩
  | k + 1 => by
    obtain ⟨ih0, ih1⟩ := vendmeterref_Dec.mono_l k
    refine ⟨?_, ?_⟩
    · intro y0
      unfold vendmeterref_Dec.f
      repeat' first
      | (with_reducible exact ih0 _)
      | (with_reducible exact ih1 _ _)
      | (with_reducible exact LeO.refl _)
      | (with_reducible exact LeO.none _)
      | (with_reducible refine LeO.ite ?_ ?_)
      | (with_reducible refine LeO.bind ?_ (fun _ => ?_))
      | exact ih0 _
      | exact ih1 _ _
      | exact LeO.none _
      | refine LeO.ite ?_ ?_
      | refine LeO.bind ?_ (fun _ => ?_)
    · intro y0 y1
      unfold vendmeterref_Dec.j0
      repeat' first
      | (with_reducible exact ih0 _)
      | (with_reducible exact ih1 _ _)
      | (with_reducible exact LeO.refl _)
      | (with_reducible exact LeO.none _)
      | (with_reducible refine LeO.ite ?_ ?_)
      | (with_reducible refine LeO.bind ?_ (fun _ => ?_))
      | exact ih0 _
      | exact ih1 _ _
      | exact LeO.none _
      | refine LeO.ite ?_ ?_
      | refine LeO.bind ?_ (fun _ => ?_)
theorem vendmeterref_Dec.mono : ∀ a0 k, LeO (vendmeterref_Dec.f k a0) (vendmeterref_Dec.f (k + 1) a0) := by
  intro a0 k
  obtain ⟨ih0, ih1⟩ := vendmeterref_Dec.mono_l k
  exact ih0 a0
set_option maxHeartbeats 8000000 in
set_option maxRecDepth 100000 in
theorem vendmeterref_Dec.calls (k : Nat) : ∀ (a0 : Int) (r : ByteArray) (w : World) (h : vendmeterref_Dec.f k a0 = some r),
    Calls Tryd.prog 43 #[.int .i64 a0] w fun e w' => e = .returned (.string r) ∧ Below w.heap.size w w' := by
  induction k using Nat.strongRecOn with
  | _ k ih =>
  intro a0 r w h
  cases k with
  | zero => exact absurd h (by simp [vendmeterref_Dec.f])
  | succ k =>
  simp only [vendmeterref_Dec.f] at h
  have HB := Aside0.mk (Below.refl w.heap.size w)
  have H : (if a0 ≥ 0 then (vendmeterref_Dec.j0 k a0 (decide (a0 < 10))) else (vendmeterref_Dec.j0 k a0 false)) = some r := h
  clear h
  have HC2 := Aside0.mk H
  clear H
  go_enter Tryd.func43, Tryd.ntmps43
  go_upto_region 1 with (fail)
  go_cut [8] (fun v8 wc => ∃ (kq : Nat) (x8_1 : Bool), v8 = .bool x8_1 ∧ Aside0 (vendmeterref_Dec.j0 kq a0 x8_1 = some r) ∧ Aside0 (kq ≤ k) ∧ Aside0 (Below w.heap.size w wc))
  case first =>
    have H := HC2.out
    clear HC2
    by_cases c3 : a0 ≥ 0
    · rw [if_pos c3] at H
      have c3b0 : decide (0 ≤ a0) = true := decide_eq_true c3
      clear c3
      (first | rw [c3b0] | (simp only [i64_w, i32_w]; rw [c3b0]) | skip)
      have H' := Aside0.mk H
      clear H
      go_wp2
      go_meet
      case rel => exact ⟨_, (decide (a0 < 10)), (by first | rfl | (simp; done) | (simp [*]; done)), H', ⟨by first | omega | exact Nat.le_refl _⟩, ⟨by repeat (first | (with_reducible first | exact HB.1 | apply below_alloc | apply pw_below_drewN | apply below_drew1) | exact HB.1)⟩⟩
    · rw [if_neg c3] at H
      have c3b0 : decide (0 ≤ a0) = false := decide_eq_false c3
      clear c3
      (first | rw [c3b0] | (simp only [i64_w, i32_w]; rw [c3b0]) | skip)
      have H' := Aside0.mk H
      clear H
      go_wp2
      go_meet
      case rel => exact ⟨_, (false), (by first | rfl | (simp; done) | (simp [*]; done)), H', ⟨by first | omega | exact Nat.le_refl _⟩, ⟨by repeat (first | (with_reducible first | exact HB.1 | apply below_alloc | apply pw_below_drewN | apply below_drew1) | exact HB.1)⟩⟩
  case rest =>
    clear HC2
    try clear p2
    try clear c3
    try clear c3b0
    obtain ⟨kq, x8_1, rfl, HA, HJ1, HB⟩ := hcut
    cases kq with
    | zero => exact absurd HA.out (by simp [vendmeterref_Dec.j0])
    | succ kj1 =>
      have H := HA.out
      clear HA
      simp only [vendmeterref_Dec.j0] at H
      by_cases c4 : x8_1 = true
      · subst c4
        have H1 : (some (strOfNums (([(wrap64 (48 + a0)) % 256] : List Int)))) = some r := by rw [if_pos rfl] at H; exact H
        clear H
        have H := H1
        clear H1
        obtain ⟨y110, hy110⟩ : ∃ y_ : List Int, y_ = (([(wrap64 (48 + a0)) % 256] : List Int)) := ⟨_, rfl⟩
        replace H : (some (strOfNums y110)) = some r := by first | (rw [hy110]; with_reducible exact H) | (have H2_ := (Option.bind_some _ _).symm.trans H; rw [hy110]; with_reducible exact H2_) | (have H2_ := (Option.bind_some _ _).symm.trans H; with_reducible exact H2_) | with_reducible exact H | (rw [hy110]; exact H) | exact H
        have Ny110 := Aside0.mk hy110
        clear hy110
        obtain rfl := Option.some.inj H
        go_wp2_with (first | ((with_reducible refine gate_dst (N := 12) rfl ?_); refine Kd.R_lit (Kd.int .u8) _ 5 ?hg (N := 12) ?hd (xs := ([(wrap64 (48 + a0)) % 256] : List Int)) (inner := [.int .u8 ((wrap64 (48 + a0)) % 256)]) (ok := fun _ => True) (okp := fun _ => True) ?hr ?hp (fun _ hk => hk) trivial (Below.refl _ _) (Nat.le_refl _) (by simp) ?_; (case hd => rfl); (case hg => rfl); (case hr => first | (go_simp; done) | (go_simp; rfl)); (case hp => exact (Reps.one (show Kd.M (Kd.int .u8) _ _ _ ((wrap64 (48 + a0)) % 256) [.int .u8 ((wrap64 (48 + a0)) % 256)] from rfl) (Reps.none _ _))); intro v111 w5 ho6 hb hg_ hnew_; clear hg_ hnew_; (first | rw [← Ny110.out] at ho6 | (simp only [Int.reduceToNat] at ho6; rw [← Ny110.out] at ho6)); have n0_ := Aside0.mk (Kd.R_lower ho6 (below_size (by with_reducible repeat (first | exact HB.1 | apply ya43 | apply yn43 | apply yd43)))); have n1_ := Aside0.mk (below_step (by with_reducible repeat (first | exact HB.1 | apply ya43 | apply yn43 | apply yd43)) hb); clear HB; have HO112 := n0_; have HB := n1_; clear n0_ n1_; clear hb ho6; have hcv7 := own_string (P := Tryd.prog) Tryd.underlying119 Tryd.underlying5 Tryd.underlying9 (Kd.own_of_R HO112.1)))
        go_ret
        exact ⟨by first | rfl | (simp [errW_none, errW_some] <;> rfl) | (simp [*, errW_none, errW_some] <;> rfl), by repeat (first | (with_reducible first | exact HB.1 | apply below_alloc | apply pw_below_drewN | apply below_drew1) | exact HB.1)⟩
      · replace c4 := Bool.eq_false_iff.mpr c4
        subst c4
        have H1 : (if a0 < 0 then (if a0 > (-10) then ((vendmeterref_Dec.f kj1 (wrap64 (-a0))).bind fun t113 => (if 1 + t113.size ≤ 9223372036854775807 then (some ((⟨#[45]⟩ : ByteArray) ++ t113)) else (none))) else ((vendmeterref_Dec.f kj1 (wrap64 (Int.tdiv a0 10))).bind fun t114 => ((vendmeterref_Dec.f kj1 (wrap64 (-(Int.tmod a0 10)))).bind fun t115 => (if t114.size + t115.size ≤ 9223372036854775807 then (some (t114 ++ t115)) else (none))))) else ((vendmeterref_Dec.f kj1 (wrap64 (Int.tdiv a0 10))).bind fun t116 => ((vendmeterref_Dec.f kj1 (Int.tmod a0 10)).bind fun t117 => (if t116.size + t117.size ≤ 9223372036854775807 then (some (t116 ++ t117)) else (none))))) = some r := by rw [if_neg (show ¬ (false = true) by decide)] at H; exact H
        clear H
        have H := H1
        clear H1
        by_cases c8 : a0 < 0
        · rw [if_pos c8] at H
          have c8b0 : decide (a0 < 0) = true := decide_eq_true c8
          clear c8
          by_cases c9 : a0 > (-10)
          · rw [if_pos c9] at H
            have c9b0 : decide ((-10) < a0) = true := decide_eq_true c9
            clear c9
            replace H := Option.bind_eq_some_iff.mp H
            obtain ⟨t113, A100, H⟩ := H
            replace H : (if 1 + t113.size ≤ 9223372036854775807 then (some ((⟨#[45]⟩ : ByteArray) ++ t113)) else (none)) = some r := H
            have A10 := Aside0.mk A100
            clear A100
            by_cases c11 : 1 + t113.size ≤ 9223372036854775807
            · rw [if_pos c11] at H
              have c11b0 := eq_true c11
              have c11b1 : decide (1 + t113.size ≤ 9223372036854775807) = true := decide_eq_true c11
              try have c11b2 : (9223372036854775807 < 1 + t113.size) = False := eq_false (Nat.not_lt.2 c11)
              obtain rfl := Option.some.inj H
              go_wp2_with (first | ((with_reducible refine gate_callee (f := 43) rfl ?_); refine goesL_ (some 20) rfl rfl Tryd.func43 (by kernel_rfl) rfl #[.int .i64 (wrap64 (-a0))] rfl (by (try simp only [List.map_toArray, List.map_cons, List.map_nil]); first | done | rfl | (simp only [List.length_drop, List.length_take]; rfl)) ?_; (with_reducible refine (ih kj1 (by have := HJ1.out; omega) (wrap64 (-a0)) t113 _ A10.out).mono ?_); rintro e w12 ⟨rfl, hb⟩; refine ⟨_, rfl, ?_⟩; have n0_ := Aside0.mk (below_step (by with_reducible repeat (first | exact HB.1 | apply ya43 | apply yn43 | apply yd43)) hb); clear HB; have HB := n0_; clear n0_; (try clear hb); (try clear hb2); (try clear hk); (try clear hi)))
              go_ret
              exact ⟨by first | rfl | (simp [errW_none, errW_some] <;> rfl) | (simp [*, errW_none, errW_some] <;> rfl), by repeat (first | (with_reducible first | exact HB.1 | apply below_alloc | apply pw_below_drewN | apply below_drew1) | exact HB.1)⟩
            · rw [if_neg c11] at H
              exact absurd H (by simp)
          · rw [if_neg c9] at H
            have c9b0 : decide ((-10) < a0) = false := decide_eq_false c9
            clear c9
            replace H := Option.bind_eq_some_iff.mp H
            obtain ⟨t114, A130, H⟩ := H
            replace H : ((vendmeterref_Dec.f kj1 (wrap64 (-(Int.tmod a0 10)))).bind fun t115 => (if t114.size + t115.size ≤ 9223372036854775807 then (some (t114 ++ t115)) else (none))) = some r := H
            have A13 := Aside0.mk A130
            clear A130
            replace H := Option.bind_eq_some_iff.mp H
            obtain ⟨t115, A140, H⟩ := H
            replace H : (if t114.size + t115.size ≤ 9223372036854775807 then (some (t114 ++ t115)) else (none)) = some r := H
            have A14 := Aside0.mk A140
            clear A140
            by_cases c15 : t114.size + t115.size ≤ 9223372036854775807
            · rw [if_pos c15] at H
              have c15b0 := eq_true c15
              have c15b1 : decide (t114.size + t115.size ≤ 9223372036854775807) = true := decide_eq_true c15
              try have c15b2 : (9223372036854775807 < t114.size + t115.size) = False := eq_false (Nat.not_lt.2 c15)
              obtain rfl := Option.some.inj H
              go_wp2_with (first | ((with_reducible refine gate_callee (f := 43) rfl ?_); refine goesL_ (some 24) rfl rfl Tryd.func43 (by kernel_rfl) rfl #[.int .i64 (wrap64 (Int.tdiv a0 10))] rfl (by (try simp only [List.map_toArray, List.map_cons, List.map_nil]); first | done | rfl | (simp only [List.length_drop, List.length_take]; rfl)) ?_; (with_reducible refine (ih kj1 (by have := HJ1.out; omega) (wrap64 (Int.tdiv a0 10)) t114 _ A13.out).mono ?_); rintro e w16 ⟨rfl, hb⟩; refine ⟨_, rfl, ?_⟩; have n0_ := Aside0.mk (below_step (by with_reducible repeat (first | exact HB.1 | apply ya43 | apply yn43 | apply yd43)) hb); clear HB; have HB := n0_; clear n0_; (try clear hb); (try clear hb2); (try clear hk); (try clear hi)) | ((with_reducible refine gate_callee (f := 43) rfl ?_); refine goesL_ (some 28) rfl rfl Tryd.func43 (by kernel_rfl) rfl #[.int .i64 (wrap64 (-(Int.tmod a0 10)))] rfl (by (try simp only [List.map_toArray, List.map_cons, List.map_nil]); first | done | rfl | (simp only [List.length_drop, List.length_take]; rfl)) ?_; (with_reducible refine (ih kj1 (by have := HJ1.out; omega) (wrap64 (-(Int.tmod a0 10))) t115 _ A14.out).mono ?_); rintro e w17 ⟨rfl, hb⟩; refine ⟨_, rfl, ?_⟩; have n0_ := Aside0.mk (below_step (by with_reducible repeat (first | exact HB.1 | apply ya43 | apply yn43 | apply yd43)) hb); clear HB; have HB := n0_; clear n0_; (try clear hb); (try clear hb2); (try clear hk); (try clear hi)))
              go_ret
              exact ⟨by first | rfl | (simp [errW_none, errW_some] <;> rfl) | (simp [*, errW_none, errW_some] <;> rfl), by repeat (first | (with_reducible first | exact HB.1 | apply below_alloc | apply pw_below_drewN | apply below_drew1) | exact HB.1)⟩
            · rw [if_neg c15] at H
              exact absurd H (by simp)
        · rw [if_neg c8] at H
          have c8b0 : decide (a0 < 0) = false := decide_eq_false c8
          clear c8
          replace H := Option.bind_eq_some_iff.mp H
          obtain ⟨t116, A180, H⟩ := H
          replace H : ((vendmeterref_Dec.f kj1 (Int.tmod a0 10)).bind fun t117 => (if t116.size + t117.size ≤ 9223372036854775807 then (some (t116 ++ t117)) else (none))) = some r := H
          have A18 := Aside0.mk A180
          clear A180
          replace H := Option.bind_eq_some_iff.mp H
          obtain ⟨t117, A190, H⟩ := H
          replace H : (if t116.size + t117.size ≤ 9223372036854775807 then (some (t116 ++ t117)) else (none)) = some r := H
          have A19 := Aside0.mk A190
          clear A190
          by_cases c20 : t116.size + t117.size ≤ 9223372036854775807
          · rw [if_pos c20] at H
            have c20b0 := eq_true c20
            have c20b1 : decide (t116.size + t117.size ≤ 9223372036854775807) = true := decide_eq_true c20
            try have c20b2 : (9223372036854775807 < t116.size + t117.size) = False := eq_false (Nat.not_lt.2 c20)
            obtain rfl := Option.some.inj H
            go_wp2_with (first | ((with_reducible refine gate_callee (f := 43) rfl ?_); refine goesL_ (some 32) rfl rfl Tryd.func43 (by kernel_rfl) rfl #[.int .i64 (wrap64 (Int.tdiv a0 10))] rfl (by (try simp only [List.map_toArray, List.map_cons, List.map_nil]); first | done | rfl | (simp only [List.length_drop, List.length_take]; rfl)) ?_; (with_reducible refine (ih kj1 (by have := HJ1.out; omega) (wrap64 (Int.tdiv a0 10)) t116 _ A18.out).mono ?_); rintro e w21 ⟨rfl, hb⟩; refine ⟨_, rfl, ?_⟩; have n0_ := Aside0.mk (below_step (by with_reducible repeat (first | exact HB.1 | apply ya43 | apply yn43 | apply yd43)) hb); clear HB; have HB := n0_; clear n0_; (try clear hb); (try clear hb2); (try clear hk); (try clear hi)) | ((with_reducible refine gate_callee (f := 43) rfl ?_); refine goesL_ (some 35) rfl rfl Tryd.func43 (by kernel_rfl) rfl #[.int .i64 (Int.tmod a0 10)] rfl (by (try simp only [List.map_toArray, List.map_cons, List.map_nil]); first | done | rfl | (simp only [List.length_drop, List.length_take]; rfl)) ?_; (with_reducible refine (ih kj1 (by have := HJ1.out; omega) (Int.tmod a0 10) t117 _ A19.out).mono ?_); rintro e w22 ⟨rfl, hb⟩; refine ⟨_, rfl, ?_⟩; have n0_ := Aside0.mk (below_step (by with_reducible repeat (first | exact HB.1 | apply ya43 | apply yn43 | apply yd43)) hb); clear HB; have HB := n0_; clear n0_; (try clear hb); (try clear hb2); (try clear hk); (try clear hi)))
            go_ret
            exact ⟨by first | rfl | (simp [errW_none, errW_some] <;> rfl) | (simp [*, errW_none, errW_some] <;> rfl), by repeat (first | (with_reducible first | exact HB.1 | apply below_alloc | apply pw_below_drewN | apply below_drew1) | exact HB.1)⟩
          · rw [if_neg c20] at H
            exact absurd H (by simp)

end Go.Proofs.YtoookcmablnjfaaDoor.PReceiptNumbers
