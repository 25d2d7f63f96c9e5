-- written by this session's program wip/xp/xprint.py (it drives the kit's print and adds to it)
import Derived.Test.YtoookcmablnjfaaDoorPCodeReadsx0
import Derived.Test.YtoookcmablnjfaaDoorPCodeReadsx1
namespace Go.Proofs.YtoookcmablnjfaaDoor.PCodeReads
open Go.RowKit Go.Proofs.YtoookcmablnjfaaDoorW.PrintWords Go.Proofs.YtoookcmablnjfaaDoorW.PrintLast Go.Proofs.YtoookcmablnjfaaDoorW.PrintMore
attribute [local go_sem] max2_int min2_int max_two min_two max_three min_three max_four min_four   -- for this text's walks alone
set_option linter.unusedVariables false
set_option linter.unusedSimpArgs false

attribute [local go_sem high] eqA48
/-! ### check_digits: function 77 (a range over a string: by hand) -/
def check_digits.l0 : Nat → ByteArray → Nat → Option (Int)
  | 0, _, _ => none
  | k + 1, s, p => if p < s.size then (if ((Utf8.decode s p).1 : Int) < 48 then (some 7) else (if ((Utf8.decode s p).1 : Int) > 57 then (some 7) else (check_digits.l0 k s (p + (Utf8.decode s p).2)))) else (some 0)
def check_digits.f (k : Nat) (a0 : ByteArray) : Option (Int) := if a0.toList.isEmpty = true then (some 1) else (if (a0.size : Int) > 200 then (some 1) else (check_digits.l0 k a0 0))
theorem check_digits.mono_l : ∀ k s p, LeO (check_digits.l0 k s p) (check_digits.l0 (k + 1) s p)
  | 0, _, _ => by intro r h; simp [check_digits.l0] at h
  | k + 1, s, p => by
    have ih := check_digits.mono_l k
    unfold check_digits.l0
    repeat' first
      | (with_reducible exact ih _ _)
      | (with_reducible exact LeO.refl _)
      | (with_reducible refine LeO.ite ?_ ?_)
theorem check_digits.mono : ∀ a0 k, LeO (check_digits.f k a0) (check_digits.f (k + 1) a0) := by
  intro a0 k
  unfold check_digits.f
  repeat' first
    | (with_reducible exact check_digits.mono_l _ _ _)
    | (with_reducible exact LeO.refl _)
    | (with_reducible refine LeO.ite ?_ ?_)
set_option maxHeartbeats 8000000 in
set_option maxRecDepth 100000 in
theorem check_digits.calls (k : Nat) (a0 : ByteArray) (r : Int) (w : World) (h : check_digits.f k a0 = some r) :
    Calls Tryd.prog 77 #[.string a0] w fun e w' => e = .returned (.int .i64 r) ∧ Below w.heap.size w w' := by
  have H : (if a0.toList.isEmpty = true then (some 1) else (if (a0.size : Int) > 200 then (some 1) else (check_digits.l0 k a0 0))) = some r := h
  clear h
  by_cases c1 : a0.toList.isEmpty = true
  · rw [if_pos c1] at H
    obtain rfl := Option.some.inj H
    go_enter Tryd.func77, Tryd.ntmps77
    go_wp2
    go_ret
    exact ⟨rfl, by repeat (first | exact Below.refl _ _ | apply below_drew1 | apply pw_below_drewN)⟩
  · rw [if_neg c1] at H
    have c1b : a0.toList.isEmpty = false := Bool.eq_false_iff.mpr c1
    by_cases c2 : (a0.size : Int) > 200
    · rw [if_pos c2] at H
      obtain rfl := Option.some.inj H
      have c2b : decide ((a0.size : Int) > 200) = true := decide_eq_true c2
      go_enter Tryd.func77, Tryd.ntmps77
      go_wp2
      go_ret
      exact ⟨rfl, by repeat (first | exact Below.refl _ _ | apply below_drew1 | apply pw_below_drewN)⟩
    · rw [if_neg c2] at H
      have c2b : decide ((a0.size : Int) > 200) = false := decide_eq_false c2
      have H' := Aside0.mk H
      clear H
      go_enter Tryd.func77, Tryd.ntmps77
      go_wp2
      go_loopg [] k (fun kq w' => ∃ p : Nat, Aside0 (check_digits.l0 kq a0 p = some r) ∧ w'.heap[w.heap.size]? = some (.stringIter a0 p) ∧ Below w.heap.size w w')
      case atStart => exact ⟨0, H', World.iter_heap w a0 0, (Below.refl _ _).alloc (Nat.le_refl _) _⟩
      case round =>
        clear H'
        obtain ⟨p, HA, hit, hbw⟩ := hrel
        cases gk with
        | zero => exact absurd HA.out (by simp [check_digits.l0])
        | succ k2 =>
          have H := HA.out
          clear HA
          simp only [check_digits.l0] at H
          by_cases hp : p < a0.size
          · rw [if_pos hp] at H
            have hnx : ∀ ty, (Instr.next (.pointer (some ⟨w.heap.size, 0, none⟩)) true ty).run Tryd.prog wr = _ := fun ty => Lib.run_next_any_at wr w.heap.size a0 p ty hit hp
            have hit2 := Lib.iterAt_heap wr w.heap.size a0 p (p + (Utf8.decode a0 p).2) hit
            have hbw2 := Lib.below_iterAt hbw (k := w.heap.size) (Nat.le_refl _) a0 (p + (Utf8.decode a0 p).2)
            obtain ⟨W1, hW1⟩ : ∃ W1, W1 = wr.iterAt w.heap.size a0 (p + (Utf8.decode a0 p).2) := ⟨_, rfl⟩
            rw [← hW1] at hnx hit2 hbw2
            clear hW1 hit hbw
            by_cases d1 : ((Utf8.decode a0 p).1 : Int) < 48
            · rw [if_pos d1] at H
              obtain rfl := Option.some.inj H
              have d1b : decide (((Utf8.decode a0 p).1 : Int) < 48) = true := decide_eq_true d1
              go_wp2
              go_ret
              exact ⟨rfl, by repeat (first | exact hbw2 | apply below_drew1 | apply pw_below_drewN)⟩
            · rw [if_neg d1] at H
              have d1b : decide (((Utf8.decode a0 p).1 : Int) < 48) = false := decide_eq_false d1
              by_cases d2 : ((Utf8.decode a0 p).1 : Int) > 57
              · rw [if_pos d2] at H
                obtain rfl := Option.some.inj H
                have d2b : decide (((Utf8.decode a0 p).1 : Int) > 57) = true := decide_eq_true d2
                go_wp2
                go_ret
                exact ⟨rfl, by repeat (first | exact hbw2 | apply below_drew1 | apply pw_below_drewN)⟩
              · rw [if_neg d2] at H
                have d2b : decide (((Utf8.decode a0 p).1 : Int) > 57) = false := decide_eq_false d2
                have H' := Aside0.mk H
                clear H
                go_wp2
                go_roundg k2
                case measure => exact Nat.lt_succ_self _
                case rel => exact ⟨_, H', hit2, hbw2⟩
          · rw [if_neg hp] at H
            obtain rfl := Option.some.inj H
            have hnx : ∀ ty, (Instr.next (.pointer (some ⟨w.heap.size, 0, none⟩)) true ty).run Tryd.prog wr = _ := fun ty => Lib.run_next_end_at wr w.heap.size a0 p ty hit hp
            go_wp2
            go_ret
            exact ⟨rfl, by repeat (first | exact hbw | apply below_drew1 | apply pw_below_drewN)⟩

/-! ### check_Rest: function 55 (a range over a string: by hand) -/
def check_Rest.l0 : Nat → ByteArray → Nat → Int → Option (Int × Int)
  | 0, _, _, _ => none
  | k + 1, s, p, n => if p < s.size then (check_Rest.l0 k s (p + (Utf8.decode s p).2) (Int.tmod (wrap64 (wrap64 (n * 10) + wrap64 (wrap32 (((Utf8.decode s p).1 : Int) - 48)))) 97)) else (some (n, 0))
def check_Rest.f (k : Nat) (a0 : ByteArray) : Option (Int × Int) := (check_digits.f k a0).bind fun t => (if t = 0 then (check_Rest.l0 k a0 0 0) else (some (0, t)))
theorem check_Rest.mono_l : ∀ k s p n, LeO (check_Rest.l0 k s p n) (check_Rest.l0 (k + 1) s p n)
  | 0, _, _, _ => by intro r h; simp [check_Rest.l0] at h
  | k + 1, s, p, n => by
    have ih := check_Rest.mono_l k
    unfold check_Rest.l0
    repeat' first
      | (with_reducible exact ih _ _ _)
      | (with_reducible exact LeO.refl _)
      | (with_reducible refine LeO.ite ?_ ?_)
theorem check_Rest.mono : ∀ a0 k, LeO (check_Rest.f k a0) (check_Rest.f (k + 1) a0) := by
  intro a0 k
  unfold check_Rest.f
  repeat' first
    | (with_reducible exact check_digits.mono _ _)
    | (with_reducible exact check_Rest.mono_l _ _ _ _)
    | (with_reducible exact LeO.refl _)
    | (with_reducible refine LeO.ite ?_ ?_)
    | (with_reducible refine LeO.bind ?_ (fun _ => ?_))
set_option maxHeartbeats 8000000 in
set_option maxRecDepth 100000 in
theorem check_Rest.calls (k : Nat) (a0 : ByteArray) (r1 : Int) (r2 : Int) (w : World) (h : check_Rest.f k a0 = some (r1, r2)) :
    Calls Tryd.prog 55 #[.string a0] w fun e w' => e = .returned (.tuple #[.int .i64 r1, .int .i64 r2]) ∧ Below w.heap.size w w' := by
  have H : ((check_digits.f k a0).bind fun t => (if t = 0 then (check_Rest.l0 k a0 0 0) else (some (0, t)))) = some (r1, r2) := h
  clear h
  replace H := Option.bind_eq_some_iff.mp H
  obtain ⟨t1, A1, H⟩ := H
  have A2 := Aside0.mk A1
  clear A1
  by_cases c1 : t1 = 0
  · subst c1
    rw [if_pos rfl] at H
    have H' := Aside0.mk H
    clear H
    go_enter Tryd.func55, Tryd.ntmps55
    go_wp2_with (go_at_call 77; refine (check_digits.calls k a0 0 _ A2.out).mono ?_; rintro e w1 ⟨rfl, hb1⟩)
    have hb2 : Below w.heap.size w (w1.iter a0 0) := hb1.alloc hb1.size _
    have hit0 := World.iter_heap w1 a0 0
    have hle : w.heap.size ≤ w1.heap.size := hb1.size
    go_loopg [5] k (fun kq v5 w' => ∃ (p : Nat) (n : Int), v5 = .int .i64 n ∧ Aside0 (check_Rest.l0 kq a0 p n = some (r1, r2)) ∧ w'.heap[w1.heap.size]? = some (.stringIter a0 p) ∧ Below w.heap.size w w')
    case atStart => exact ⟨0, 0, rfl, H', hit0, hb2⟩
    case round =>
      clear H' hit0 hb2 hb1
      obtain ⟨p, n, rfl, HA, hit, hbw⟩ := hrel
      cases gk with
      | zero => exact absurd HA.out (by simp [check_Rest.l0])
      | succ k2 =>
        have H := HA.out
        clear HA
        simp only [check_Rest.l0] at H
        by_cases hp : p < a0.size
        · rw [if_pos hp] at H
          have hnx : ∀ ty, (Instr.next (.pointer (some ⟨w1.heap.size, 0, none⟩)) true ty).run Tryd.prog wr = _ := fun ty => Lib.run_next_any_at wr w1.heap.size a0 p ty hit hp
          have hit2 := Lib.iterAt_heap wr w1.heap.size a0 p (p + (Utf8.decode a0 p).2) hit
          have hbw2 := Lib.below_iterAt hbw (k := w1.heap.size) hle a0 (p + (Utf8.decode a0 p).2)
          obtain ⟨W1, hW1⟩ : ∃ W1, W1 = wr.iterAt w1.heap.size a0 (p + (Utf8.decode a0 p).2) := ⟨_, rfl⟩
          rw [← hW1] at hnx hit2 hbw2
          clear hW1 hit hbw
          have H' := Aside0.mk H
          clear H
          go_wp2
          go_roundg k2
          case measure => exact Nat.lt_succ_self _
          case rel => exact ⟨_, _, rfl, H', hit2, hbw2⟩
        · rw [if_neg hp] at H
          obtain ⟨rfl, rfl⟩ : n = r1 ∧ 0 = r2 := by simpa using H
          have hnx : ∀ ty, (Instr.next (.pointer (some ⟨w1.heap.size, 0, none⟩)) true ty).run Tryd.prog wr = _ := fun ty => Lib.run_next_end_at wr w1.heap.size a0 p ty hit hp
          go_wp2
          go_ret2
          exact ⟨rfl, by repeat (first | exact hbw | apply below_drew1 | apply pw_below_drewN)⟩
  · rw [if_neg c1] at H
    obtain ⟨rfl, rfl⟩ : 0 = r1 ∧ t1 = r2 := by simpa using H
    have c1b : (t1 != 0) = true := bne_iff_ne.mpr c1
    have c1c : (t1 == 0) = false := beq_eq_false_iff_ne.mpr c1
    go_enter Tryd.func55, Tryd.ntmps55
    go_wp2_with (go_at_call 77; refine (check_digits.calls k a0 t1 _ A2.out).mono ?_; rintro e w1 ⟨rfl, hb1⟩)
    go_ret2
    exact ⟨rfl, by repeat (first | exact hb1 | apply below_drew1 | apply pw_below_drewN)⟩

-- NOT PRINTED: function 138 (strconv_lower)

-- NOT PRINTED: function 139 (strconv_underscoreOK)

-- NOT PRINTED: function 122 (strconv_ParseUint)

-- NOT PRINTED: function 90 (strconv_ParseInt_90)

-- NOT PRINTED: function 140 (stringslite_Clone)

-- NOT PRINTED: function 123 (strconv_syntaxError)

-- NOT PRINTED: function 124 (strconv_rangeError)

-- NOT PRINTED: function 128 (strconv_small)

/-! ### bits_Len64: function 134 (the kit's contract, in the print's shape) -/
def bits_Len64.f (k : Nat) (a0 : Int) : Option Int := if 0 ≤ a0 ∧ a0 ≤ 18446744073709551615 then some ((Lib.bitLen a0.toNat : Nat) : Int) else none
theorem bits_Len64.mono : ∀ a0 k, LeO (bits_Len64.f k a0) (bits_Len64.f (k + 1) a0) := fun _ _ => LeO.refl _
theorem bits_Len64.calls (k : Nat) (a0 : Int) (r : Int) (w : World) (h : bits_Len64.f k a0 = some r) :
    Calls Tryd.prog 134 #[.int .u64 a0] w fun e w' => e = .returned (.int .i64 r) ∧ Drawn0 w w' := by
  unfold bits_Len64.f at h
  split at h
  · rename_i hc
    obtain rfl := Option.some.inj h
    exact (Tryd.bits_Len64 a0 w hc.1 hc.2).mono (fun e w' hh => ⟨hh.1, hh.2 ▸ Drawn0.refl _⟩)
  · cases h

-- NOT PRINTED: function 146 (strconv_log10Pow2)

-- NOT PRINTED: function 147 (strconv_bool2_int)

-- NOT PRINTED: function 129 (strconv_numDigits)

-- NOT PRINTED: function 130 (strconv_formatBase10)

-- NOT PRINTED: function 148 (strconv_isPowerOfTwo)

-- NOT PRINTED: function 151 (bits_TrailingZeros32)

-- NOT PRINTED: function 152 (bits_TrailingZeros64)

-- NOT PRINTED: function 149 (bits_TrailingZeros)

-- NOT PRINTED: function 131 (strconv_formatBits)

-- NOT PRINTED: function 109 (strconv_FormatInt)

-- NOT PRINTED: function 73 (strconv_Itoa_73)

/-- The table of the powers of ten lies in this world. -/
structure LaidW (w : World) : Prop where
  tab : Lib.TabIs Tryd.prog w "internal/strconv.uint64pow10" .u64 Lib.pow10Tab
theorem LaidW.go {w W : World} (h : LaidW w) (hb : Below w.heap.size w W) : LaidW W := by
  have ht := h.tab
  refine ⟨?_⟩
  unfold Lib.TabIs World.var? at *
  cases hg : Tryd.prog.globalNamed "internal/strconv.uint64pow10" with
  | none => simp [hg] at ht
  | some g =>
    simp only [hg, Option.bind_some] at ht ⊢
    have hlt : g < w.heap.size := by
      rcases Nat.lt_or_ge g w.heap.size with h' | h'
      · exact h'
      · rw [Array.getElem?_eq_none h'] at ht; simp at ht
    rw [hb.block g hlt]
    exact ht
theorem grow_below {w : World} : ∀ (l : List Obj) (W : World), Below w.heap.size w W → Below w.heap.size w (Sort.grow W l.toArray)
  | [], W, h => by simpa using h
  | o :: l, W, h => by
    have e : Sort.grow W (o :: l).toArray = Sort.grow (W.alloc o) l.toArray := by rw [Sort.alloc_eq_grow, Sort.grow_grow]; simp
    rw [e]
    exact grow_below l _ (below_alloc h o)
/-! ### strconv_Itoa_41: function 41 (the kit's contract, in the print's shape; its table lies in the world) -/
def strconv_Itoa_41.f (a0 : Int) : Option ByteArray := if -9223372036854775808 ≤ a0 ∧ a0 ≤ 9223372036854775807 then some ⟨(Lib.itoa a0).toArray⟩ else none
theorem strconv_Itoa_41.calls (a0 : Int) (r : ByteArray) (w : World) (HTAB : LaidW w) (h : strconv_Itoa_41.f a0 = some r) :
    Calls Tryd.prog 41 #[.int .i64 a0] w fun e w' => e = .returned (.string r) ∧ Below w.heap.size w w' := by
  unfold strconv_Itoa_41.f at h
  split at h
  · rename_i hc
    obtain rfl := Option.some.inj h
    refine (Tryd.strconv_Itoa a0 hc.1 hc.2 w HTAB.tab).mono (fun e w' hh => ⟨hh.1, ?_⟩)
    obtain ⟨k, os, rfl⟩ := hh.2
    have hg := grow_below os.toList (w.drewN k) (pw_below_drewN (Below.refl w.heap.size w) k)
    rwa [Array.toArray_toList] at hg
  · cases h

-- NOT PRINTED: function 141 (errors_New)

-- NOT PRINTED: function 125 (strconv_baseError)

-- NOT PRINTED: function 126 (strconv_bitSizeError)

-- NOT PRINTED: function 91 (strconv_toError)

/-! ### strconv_ParseInt_56: function 56 (the kit's contract at a decimal numeral, in the print's shape) -/
def strconv_ParseInt_56.f (a0 : ByteArray) (a1 : Int) (a2 : Int) : Option (Int × Option Int) := if a1 = 10 ∧ a2 = 64 ∧ a0.size ≤ 1000000 then (match Lib.parseIntB 64 a0.data.toList with | .ok v => some (v, none) | _ => none) else none
theorem strconv_ParseInt_56.calls (a0 : ByteArray) (a1 : Int) (a2 : Int) (r1 : Int) (r2 : Option Int) (w : World) (h : strconv_ParseInt_56.f a0 a1 a2 = some (r1, r2)) :
    Calls Tryd.prog 56 #[.string a0, .int .i64 a1, .int .i64 a2] w fun e w' => e = .returned (.tuple #[.int .i64 r1, errW r2]) ∧ Below w.heap.size w w' := by
  unfold strconv_ParseInt_56.f at h
  split at h
  · rename_i hc
    obtain ⟨rfl, rfl, hs⟩ := hc
    split at h
    · rename_i v hv
      obtain ⟨rfl, rfl⟩ := Prod.mk.inj (Option.some.inj h)
      refine (Tryd.strconv_ParseInt_10_at64_ok a0 (by omega) v hv w).mono (fun e w' hh => ⟨hh.1, ?_⟩)
      rcases hh.2 with rfl | ⟨t, rfl⟩
      · exact Below.refl _ _
      · exact Lib.bytesWorld_below w _ _
    · cases h
  · cases h

/-! ### readback_Read: function 23 -/
theorem xa23 {w : World} {g : Nat} {o : Obj} (h : w.heap[g]? = some o) (o' : Obj) : (w.alloc o').heap[g]? = some o := blk_alloc h o'
theorem xd23 {w : World} {g : Nat} {o : Obj} (h : w.heap[g]? = some o) : w.drew.heap[g]? = some o := blk_drew h
theorem xn23 {w : World} {g : Nat} {o : Obj} (h : w.heap[g]? = some o) (n : Nat) : (w.drewN n).heap[g]? = some o := blk_drewN h n
theorem ya23 {w W : World} (h : Below w.heap.size w W) (o : Obj) : Below w.heap.size w (W.alloc o) := below_alloc h o
theorem yn23 {B : Nat} {w W : World} (h : Below B w W) (n : Nat) : Below B w (W.drewN n) := pw_below_drewN h n
theorem yd23 {B : Nat} {w W : World} (h : Below B w W) : Below B w W.drew := below_drew1 h
theorem c3_23 {w : World} {g : Nat} {t : TypeId} {x0 x1 x2 : Value} {r : List Value} (h : w.heap[g]? = some (.cells (List.toArray (x0 :: x1 :: x2 :: r)) t (0, 0))) : w.cell? ⟨g, 0, none⟩ = some x0 ∧ w.cell? ⟨g, 1, none⟩ = some x1 ∧ w.cell? ⟨g, 2, none⟩ = some x2 := ⟨(blk_cell h 0).trans rfl, (blk_cell h 1).trans rfl, (blk_cell h 2).trans rfl⟩
theorem f3_23 {w : World} {g : Nat} {t : TypeId} {cs : Array Value} (h : w.heap[g]? = some (.cells cs t (0, 0))) : w.frozen? ⟨g, 0, none⟩ = false ∧ w.frozen? ⟨g, 1, none⟩ = false ∧ w.frozen? ⟨g, 2, none⟩ = false := ⟨blk_frozen h 0, blk_frozen h 1, blk_frozen h 2⟩
def readback_Read.f (k : Nat) (a0 : ByteArray) : Option (Int × Int × Int × Int) := if (a0.size : Int) = 18 then ((check_Rest.f k a0).bind fun bt102 => (if bt102.2 = 0 then (if bt102.1 = 0 then ((strconv_ParseInt_56.f a0 10 64).bind fun bt104 => (if (wrap64 (Int.tdiv (wrap64 (Int.tdiv (wrap64 (Int.tdiv bt104.1 97)) 50)) 1048576)) > 99999999 then (some (0, 0, 0, 2)) else (some (Int.tmod (wrap64 (Int.tdiv bt104.1 97)) 50, wrap64 (Int.tdiv (wrap64 (Int.tdiv (wrap64 (Int.tdiv bt104.1 97)) 50)) 1048576), Int.tmod (wrap64 (Int.tdiv (wrap64 (Int.tdiv bt104.1 97)) 50)) 1048576, 0)))) else (some (0, 0, 0, 8))) else (some (0, 0, 0, bt102.2)))) else (some (0, 0, 0, 6))
theorem readback_Read.mono : ∀ a0 k, LeO (readback_Read.f k a0) (readback_Read.f (k + 1) a0) := by
  intro a0 k
  unfold readback_Read.f
  repeat' first
      | (with_reducible exact check_Rest.mono _ _)
      | (with_reducible exact LeO.refl _)
      | (with_reducible exact LeO.none _)
      | (with_reducible refine LeO.ite ?_ ?_)
      | (with_reducible refine LeO.bind ?_ (fun _ => ?_))
      | exact check_Rest.mono _ _
      | exact LeO.none _
      | refine LeO.ite ?_ ?_
      | refine LeO.bind ?_ (fun _ => ?_)
set_option maxHeartbeats 8000000 in
set_option maxRecDepth 100000 in
theorem readback_Read.calls (k : Nat) (a0 : ByteArray) (r1 : Int) (r2 : Int) (r3 : Int) (r4 : Int) (w : World) (h : readback_Read.f k a0 = some (r1, r2, r3, r4)) :
    Calls Tryd.prog 23 #[.string a0] w fun e w' => e = .returned (.tuple #[.agg #[.int .i64 r1, .int .i64 r2, .int .i64 r3], .int .i64 r4]) ∧ Below w.heap.size w w' := by
  have hu48 := Tryd.underlying48
  have HB := Aside0.mk (Below.refl w.heap.size w)
  have H : (if (a0.size : Int) = 18 then ((check_Rest.f k a0).bind fun bt102 => (if bt102.2 = 0 then (if bt102.1 = 0 then ((strconv_ParseInt_56.f a0 10 64).bind fun bt104 => (if (wrap64 (Int.tdiv (wrap64 (Int.tdiv (wrap64 (Int.tdiv bt104.1 97)) 50)) 1048576)) > 99999999 then (some (0, 0, 0, 2)) else (some (Int.tmod (wrap64 (Int.tdiv bt104.1 97)) 50, wrap64 (Int.tdiv (wrap64 (Int.tdiv (wrap64 (Int.tdiv bt104.1 97)) 50)) 1048576), Int.tmod (wrap64 (Int.tdiv (wrap64 (Int.tdiv bt104.1 97)) 50)) 1048576, 0)))) else (some (0, 0, 0, 8))) else (some (0, 0, 0, bt102.2)))) else (some (0, 0, 0, 6))) = some (r1, r2, r3, r4) := h
  clear h
  by_cases c2 : (a0.size : Int) = 18
  · rw [if_pos c2] at H
    have c2b0 : ((a0.size : Int) == 18) = true := beq_iff_eq.mpr c2
    have c2b1 : ((a0.size : Int) != 18) = false := bne_eq_false_iff_eq.mpr c2
    clear c2
    replace H := Option.bind_eq_some_iff.mp H
    obtain ⟨⟨t102, t103⟩, A30, H⟩ := H
    replace H : (if t103 = 0 then (if t102 = 0 then ((strconv_ParseInt_56.f a0 10 64).bind fun bt104 => (if (wrap64 (Int.tdiv (wrap64 (Int.tdiv (wrap64 (Int.tdiv bt104.1 97)) 50)) 1048576)) > 99999999 then (some (0, 0, 0, 2)) else (some (Int.tmod (wrap64 (Int.tdiv bt104.1 97)) 50, wrap64 (Int.tdiv (wrap64 (Int.tdiv (wrap64 (Int.tdiv bt104.1 97)) 50)) 1048576), Int.tmod (wrap64 (Int.tdiv (wrap64 (Int.tdiv bt104.1 97)) 50)) 1048576, 0)))) else (some (0, 0, 0, 8))) else (some (0, 0, 0, t103))) = some (r1, r2, r3, r4) := H
    have A3 := Aside0.mk A30
    clear A30
    by_cases c4 : t103 = 0
    · rw [if_pos c4] at H
      have c4b0 : (t103 == 0) = true := beq_iff_eq.mpr c4
      have c4b1 : (t103 != 0) = false := bne_eq_false_iff_eq.mpr c4
      clear c4
      by_cases c5 : t102 = 0
      · rw [if_pos c5] at H
        have c5b0 : (t102 == 0) = true := beq_iff_eq.mpr c5
        have c5b1 : (t102 != 0) = false := bne_eq_false_iff_eq.mpr c5
        clear c5
        replace H := Option.bind_eq_some_iff.mp H
        obtain ⟨⟨t104, t105⟩, A60, H⟩ := H
        replace H : (if (wrap64 (Int.tdiv (wrap64 (Int.tdiv (wrap64 (Int.tdiv t104 97)) 50)) 1048576)) > 99999999 then (some (0, 0, 0, 2)) else (some (Int.tmod (wrap64 (Int.tdiv t104 97)) 50, wrap64 (Int.tdiv (wrap64 (Int.tdiv (wrap64 (Int.tdiv t104 97)) 50)) 1048576), Int.tmod (wrap64 (Int.tdiv (wrap64 (Int.tdiv t104 97)) 50)) 1048576, 0))) = some (r1, r2, r3, r4) := H
        have A6 := Aside0.mk A60
        clear A60
        by_cases c7 : (wrap64 (Int.tdiv (wrap64 (Int.tdiv (wrap64 (Int.tdiv t104 97)) 50)) 1048576)) > 99999999
        · rw [if_pos c7] at H
          have c7b0 : decide (99999999 < (wrap64 (Int.tdiv (wrap64 (Int.tdiv (wrap64 (Int.tdiv t104 97)) 50)) 1048576))) = true := decide_eq_true c7
          clear c7
          simp only [Option.some.injEq, Prod.mk.injEq] at H
          obtain ⟨rfl, rfl, rfl, rfl⟩ := H
          go_enter Tryd.func23, Tryd.ntmps23
          go_wp2_with (first | ((with_reducible refine gate_dst (N := 2) rfl ?_); refine box_event ?hg (N := 2) ?hd (cs := #[.int .i64 0, .int .i64 0, .int .i64 0]) (t := 48) ?hr ?_; (case hd => rfl); (case hg => rfl); (case hr => first | (go_simp; done) | (go_simp; rfl)); intro gb101 hg w8 hbox hb; have n0_ := Aside0.mk (below_step (by with_reducible repeat (first | exact HB.1 | apply ya23 | apply yn23 | apply yd23)) hb); have n1_ := Aside0.mk (hbox); have n2_ := Aside0.mk ((by rw [hg]; exact (below_size (by with_reducible repeat (first | exact HB.1 | apply ya23 | apply yn23 | apply yd23))) : w.heap.size ≤ gb101)); have n3_ := n2_; clear HB; have HB := n0_; have BK101 := n1_; have GW101 := n2_; have GE101 := n3_; clear n0_ n1_ n2_ n3_; clear hb hbox hg) | ((with_reducible refine gate_callee (f := 55) rfl ?_); refine goesL_ (some 17) rfl rfl Tryd.func55 (by kernel_rfl) rfl #[.string a0] rfl (by (try simp only [List.map_toArray, List.map_cons, List.map_nil]); first | done | rfl | (simp only [List.length_drop, List.length_take]; rfl)) ?_; (with_reducible refine (check_Rest.calls k a0 t102 t103 _ A3.out).mono ?_); rintro e w9 ⟨rfl, hb⟩; refine ⟨_, rfl, ?_⟩; have n0_ := Aside0.mk (blk_below (g := gb101) (o := .cells #[.int .i64 0, .int .i64 0, .int .i64 0] 48 (0, 0)) (by (with_reducible repeat (first | apply xn23 | apply xd23 | apply xa23)); exact BK101.1) hb); have n1_ := Aside0.mk (below_step (by with_reducible repeat (first | exact HB.1 | apply ya23 | apply yn23 | apply yd23 | refine below_set ?_ GE101.1)) hb); clear BK101; clear HB; have BK101 := n0_; have HB := n1_; clear n0_ n1_; (try clear hb); (try clear hb2); (try clear hk); (try clear hi)) | ((with_reducible refine gate_callee (f := 56) rfl ?_); refine goesL_ (some 31) rfl rfl Tryd.func56 (by kernel_rfl) rfl #[.string a0, .int .i64 10, .int .i64 64] rfl (by (try simp only [List.map_toArray, List.map_cons, List.map_nil]); first | done | rfl | (simp only [List.length_drop, List.length_take]; rfl)) ?_; (with_reducible refine (strconv_ParseInt_56.calls a0 10 64 t104 t105 _ A6.out).mono ?_); rintro e w10 ⟨rfl, hb⟩; refine ⟨_, rfl, ?_⟩; have n0_ := Aside0.mk (blk_below (g := gb101) (o := .cells #[.int .i64 0, .int .i64 0, .int .i64 0] 48 (0, 0)) (by (with_reducible repeat (first | apply xn23 | apply xd23 | apply xa23)); exact BK101.1) hb); have n1_ := Aside0.mk (below_step (by with_reducible repeat (first | exact HB.1 | apply ya23 | apply yn23 | apply yd23 | refine below_set ?_ GE101.1)) hb); clear BK101; clear HB; have BK101 := n0_; have HB := n1_; clear n0_ n1_; (try clear hb); (try clear hb2); (try clear hk); (try clear hi); (try simp only [errW_none, errW_some])) | ((with_reducible refine gate_dst (N := 10) rfl ?_); refine box_event ?hg (N := 10) ?hd (cs := #[.int .i64 0, .int .i64 0, .int .i64 0]) (t := 48) ?hr ?_; (case hd => rfl); (case hg => rfl); (case hr => first | (go_simp; done) | (go_simp; rfl)); intro gb106 hg w11 hbox hb; have n0_ := Aside0.mk (blk_below (g := gb101) (o := .cells #[.int .i64 0, .int .i64 0, .int .i64 0] 48 (0, 0)) (by (with_reducible repeat (first | apply xn23 | apply xd23 | apply xa23)); exact BK101.1) hb); have n1_ := Aside0.mk (below_step (by with_reducible repeat (first | exact HB.1 | apply ya23 | apply yn23 | apply yd23 | refine below_set ?_ GE101.1)) hb); have n2_ := Aside0.mk (hbox); have n3_ := Aside0.mk ((by rw [hg]; exact (below_size (by with_reducible repeat (first | exact HB.1 | apply ya23 | apply yn23 | apply yd23 | refine below_set ?_ GE101.1))) : w.heap.size ≤ gb106)); have n4_ := n3_; have n5_ := Aside0.mk ((by rw [hg]; exact Nat.ne_of_lt (blk_lt (g := gb101) (o := .cells #[.int .i64 0, .int .i64 0, .int .i64 0] 48 (0, 0)) (by (with_reducible repeat (first | apply xn23 | apply xd23 | apply xa23)); exact BK101.1)) : gb101 ≠ gb106)); have n6_ := Aside0.mk ((by rw [hg]; exact Nat.ne_of_gt (blk_lt (g := gb101) (o := .cells #[.int .i64 0, .int .i64 0, .int .i64 0] 48 (0, 0)) (by (with_reducible repeat (first | apply xn23 | apply xd23 | apply xa23)); exact BK101.1)) : gb106 ≠ gb101)); clear BK101; clear HB; have BK101 := n0_; have HB := n1_; have BK106 := n2_; have GW106 := n3_; have GE106 := n4_; have NB101_106 := n5_; have NB106_101 := n6_; clear n0_ n1_ n2_ n3_ n4_ n5_ n6_; clear hb hbox hg; have hnb12 := NB106_101.1; have hnc12 := NB101_106.1; obtain ⟨hcz13_0, hcz13_1, hcz13_2⟩ := c3_23 BK106.1; obtain ⟨hfz13_0, hfz13_1, hfz13_2⟩ := f3_23 BK106.1; obtain ⟨hcz14_0, hcz14_1, hcz14_2⟩ := c3_23 BK101.1; obtain ⟨hfz14_0, hfz14_1, hfz14_2⟩ := f3_23 BK101.1))
          refine bodyPost_ret (results_ct rfl _ _ gb101 48 #[.int .i64 0, .int .i64 0, .int .i64 0] (0, 0) _ rfl (by (with_reducible repeat (first | apply xn23 | apply xd23 | apply xa23)); refine blk_put (cs := #[.int .i64 0, .int .i64 0, .int .i64 0]) ?_ 2 _ rfl; (with_reducible repeat (first | apply xn23 | apply xd23 | apply xa23)); refine blk_put (cs := #[.int .i64 0, .int .i64 0, .int .i64 0]) ?_ 1 _ rfl; (with_reducible repeat (first | apply xn23 | apply xd23 | apply xa23)); refine blk_put (cs := #[.int .i64 0, .int .i64 0, .int .i64 0]) ?_ 0 _ rfl; (with_reducible repeat (first | apply xn23 | apply xd23 | apply xa23)); refine blk_far ?_ NB101_106.1 _; (with_reducible repeat (first | apply xn23 | apply xd23 | apply xa23)); refine blk_far ?_ NB101_106.1 _; (with_reducible repeat (first | apply xn23 | apply xd23 | apply xa23)); refine blk_far ?_ NB101_106.1 _; (with_reducible repeat (first | apply xn23 | apply xd23 | apply xa23)); exact BK101.1) Tryd.underlying48 rfl (by kernel_rfl)) rfl ?_
          exact ⟨by first | rfl | (simp [errW_none, errW_some] <;> rfl) | (simp [*, errW_none, errW_some] <;> rfl), by repeat (first | (with_reducible first | exact HB.1 | apply below_alloc | apply pw_below_drewN | apply below_drew1 | refine below_set ?_ GE101.1 | refine below_set ?_ GE106.1) | exact HB.1)⟩
        · rw [if_neg c7] at H
          have c7b0 : decide (99999999 < (wrap64 (Int.tdiv (wrap64 (Int.tdiv (wrap64 (Int.tdiv t104 97)) 50)) 1048576))) = false := decide_eq_false c7
          clear c7
          simp only [Option.some.injEq, Prod.mk.injEq] at H
          obtain ⟨rfl, rfl, rfl, rfl⟩ := H
          go_enter Tryd.func23, Tryd.ntmps23
          go_wp2_with (first | ((with_reducible refine gate_dst (N := 2) rfl ?_); refine box_event ?hg (N := 2) ?hd (cs := #[.int .i64 0, .int .i64 0, .int .i64 0]) (t := 48) ?hr ?_; (case hd => rfl); (case hg => rfl); (case hr => first | (go_simp; done) | (go_simp; rfl)); intro gb101 hg w15 hbox hb; have n0_ := Aside0.mk (below_step (by with_reducible repeat (first | exact HB.1 | apply ya23 | apply yn23 | apply yd23)) hb); have n1_ := Aside0.mk (hbox); have n2_ := Aside0.mk ((by rw [hg]; exact (below_size (by with_reducible repeat (first | exact HB.1 | apply ya23 | apply yn23 | apply yd23))) : w.heap.size ≤ gb101)); have n3_ := n2_; clear HB; have HB := n0_; have BK101 := n1_; have GW101 := n2_; have GE101 := n3_; clear n0_ n1_ n2_ n3_; clear hb hbox hg) | ((with_reducible refine gate_callee (f := 55) rfl ?_); refine goesL_ (some 17) rfl rfl Tryd.func55 (by kernel_rfl) rfl #[.string a0] rfl (by (try simp only [List.map_toArray, List.map_cons, List.map_nil]); first | done | rfl | (simp only [List.length_drop, List.length_take]; rfl)) ?_; (with_reducible refine (check_Rest.calls k a0 t102 t103 _ A3.out).mono ?_); rintro e w16 ⟨rfl, hb⟩; refine ⟨_, rfl, ?_⟩; have n0_ := Aside0.mk (blk_below (g := gb101) (o := .cells #[.int .i64 0, .int .i64 0, .int .i64 0] 48 (0, 0)) (by (with_reducible repeat (first | apply xn23 | apply xd23 | apply xa23)); exact BK101.1) hb); have n1_ := Aside0.mk (below_step (by with_reducible repeat (first | exact HB.1 | apply ya23 | apply yn23 | apply yd23 | refine below_set ?_ GE101.1)) hb); clear BK101; clear HB; have BK101 := n0_; have HB := n1_; clear n0_ n1_; (try clear hb); (try clear hb2); (try clear hk); (try clear hi)) | ((with_reducible refine gate_callee (f := 56) rfl ?_); refine goesL_ (some 31) rfl rfl Tryd.func56 (by kernel_rfl) rfl #[.string a0, .int .i64 10, .int .i64 64] rfl (by (try simp only [List.map_toArray, List.map_cons, List.map_nil]); first | done | rfl | (simp only [List.length_drop, List.length_take]; rfl)) ?_; (with_reducible refine (strconv_ParseInt_56.calls a0 10 64 t104 t105 _ A6.out).mono ?_); rintro e w17 ⟨rfl, hb⟩; refine ⟨_, rfl, ?_⟩; have n0_ := Aside0.mk (blk_below (g := gb101) (o := .cells #[.int .i64 0, .int .i64 0, .int .i64 0] 48 (0, 0)) (by (with_reducible repeat (first | apply xn23 | apply xd23 | apply xa23)); exact BK101.1) hb); have n1_ := Aside0.mk (below_step (by with_reducible repeat (first | exact HB.1 | apply ya23 | apply yn23 | apply yd23 | refine below_set ?_ GE101.1)) hb); clear BK101; clear HB; have BK101 := n0_; have HB := n1_; clear n0_ n1_; (try clear hb); (try clear hb2); (try clear hk); (try clear hi); (try simp only [errW_none, errW_some])) | ((with_reducible refine gate_dst (N := 10) rfl ?_); refine box_event ?hg (N := 10) ?hd (cs := #[.int .i64 0, .int .i64 0, .int .i64 0]) (t := 48) ?hr ?_; (case hd => rfl); (case hg => rfl); (case hr => first | (go_simp; done) | (go_simp; rfl)); intro gb106 hg w18 hbox hb; have n0_ := Aside0.mk (blk_below (g := gb101) (o := .cells #[.int .i64 0, .int .i64 0, .int .i64 0] 48 (0, 0)) (by (with_reducible repeat (first | apply xn23 | apply xd23 | apply xa23)); exact BK101.1) hb); have n1_ := Aside0.mk (below_step (by with_reducible repeat (first | exact HB.1 | apply ya23 | apply yn23 | apply yd23 | refine below_set ?_ GE101.1)) hb); have n2_ := Aside0.mk (hbox); have n3_ := Aside0.mk ((by rw [hg]; exact (below_size (by with_reducible repeat (first | exact HB.1 | apply ya23 | apply yn23 | apply yd23 | refine below_set ?_ GE101.1))) : w.heap.size ≤ gb106)); have n4_ := n3_; have n5_ := Aside0.mk ((by rw [hg]; exact Nat.ne_of_lt (blk_lt (g := gb101) (o := .cells #[.int .i64 0, .int .i64 0, .int .i64 0] 48 (0, 0)) (by (with_reducible repeat (first | apply xn23 | apply xd23 | apply xa23)); exact BK101.1)) : gb101 ≠ gb106)); have n6_ := Aside0.mk ((by rw [hg]; exact Nat.ne_of_gt (blk_lt (g := gb101) (o := .cells #[.int .i64 0, .int .i64 0, .int .i64 0] 48 (0, 0)) (by (with_reducible repeat (first | apply xn23 | apply xd23 | apply xa23)); exact BK101.1)) : gb106 ≠ gb101)); clear BK101; clear HB; have BK101 := n0_; have HB := n1_; have BK106 := n2_; have GW106 := n3_; have GE106 := n4_; have NB101_106 := n5_; have NB106_101 := n6_; clear n0_ n1_ n2_ n3_ n4_ n5_ n6_; clear hb hbox hg; have hnb19 := NB106_101.1; have hnc19 := NB101_106.1; obtain ⟨hcz20_0, hcz20_1, hcz20_2⟩ := c3_23 BK106.1; obtain ⟨hfz20_0, hfz20_1, hfz20_2⟩ := f3_23 BK106.1; obtain ⟨hcz21_0, hcz21_1, hcz21_2⟩ := c3_23 BK101.1; obtain ⟨hfz21_0, hfz21_1, hfz21_2⟩ := f3_23 BK101.1))
          refine bodyPost_ret (results_ct rfl _ _ gb101 48 #[.int .i64 (Int.tmod (wrap64 (Int.tdiv t104 97)) 50), .int .i64 (wrap64 (Int.tdiv (wrap64 (Int.tdiv (wrap64 (Int.tdiv t104 97)) 50)) 1048576)), .int .i64 (Int.tmod (wrap64 (Int.tdiv (wrap64 (Int.tdiv t104 97)) 50)) 1048576)] (0, 0) _ rfl (by (with_reducible repeat (first | apply xn23 | apply xd23 | apply xa23)); refine blk_put (cs := #[.int .i64 (Int.tmod (wrap64 (Int.tdiv t104 97)) 50), .int .i64 (wrap64 (Int.tdiv (wrap64 (Int.tdiv (wrap64 (Int.tdiv t104 97)) 50)) 1048576)), .int .i64 0]) ?_ 2 _ rfl; (with_reducible repeat (first | apply xn23 | apply xd23 | apply xa23)); refine blk_put (cs := #[.int .i64 (Int.tmod (wrap64 (Int.tdiv t104 97)) 50), .int .i64 0, .int .i64 0]) ?_ 1 _ rfl; (with_reducible repeat (first | apply xn23 | apply xd23 | apply xa23)); refine blk_put (cs := #[.int .i64 0, .int .i64 0, .int .i64 0]) ?_ 0 _ rfl; (with_reducible repeat (first | apply xn23 | apply xd23 | apply xa23)); refine blk_far ?_ NB101_106.1 _; (with_reducible repeat (first | apply xn23 | apply xd23 | apply xa23)); refine blk_far ?_ NB101_106.1 _; (with_reducible repeat (first | apply xn23 | apply xd23 | apply xa23)); refine blk_far ?_ NB101_106.1 _; (with_reducible repeat (first | apply xn23 | apply xd23 | apply xa23)); exact BK101.1) Tryd.underlying48 rfl (by kernel_rfl)) rfl ?_
          exact ⟨by first | rfl | (simp [errW_none, errW_some] <;> rfl) | (simp [*, errW_none, errW_some] <;> rfl), by repeat (first | (with_reducible first | exact HB.1 | apply below_alloc | apply pw_below_drewN | apply below_drew1 | refine below_set ?_ GE101.1 | refine below_set ?_ GE106.1) | exact HB.1)⟩
      · rw [if_neg c5] at H
        have c5b0 : (t102 == 0) = false := beq_eq_false_iff_ne.mpr c5
        have c5b1 : (t102 != 0) = true := bne_iff_ne.mpr c5
        simp only [Option.some.injEq, Prod.mk.injEq] at H
        obtain ⟨rfl, rfl, rfl, rfl⟩ := H
        go_enter Tryd.func23, Tryd.ntmps23
        go_wp2_with (first | ((with_reducible refine gate_dst (N := 2) rfl ?_); refine box_event ?hg (N := 2) ?hd (cs := #[.int .i64 0, .int .i64 0, .int .i64 0]) (t := 48) ?hr ?_; (case hd => rfl); (case hg => rfl); (case hr => first | (go_simp; done) | (go_simp; rfl)); intro gb101 hg w22 hbox hb; have n0_ := Aside0.mk (below_step (by with_reducible repeat (first | exact HB.1 | apply ya23 | apply yn23 | apply yd23)) hb); have n1_ := Aside0.mk (hbox); have n2_ := Aside0.mk ((by rw [hg]; exact (below_size (by with_reducible repeat (first | exact HB.1 | apply ya23 | apply yn23 | apply yd23))) : w.heap.size ≤ gb101)); have n3_ := n2_; clear HB; have HB := n0_; have BK101 := n1_; have GW101 := n2_; have GE101 := n3_; clear n0_ n1_ n2_ n3_; clear hb hbox hg) | ((with_reducible refine gate_callee (f := 55) rfl ?_); refine goesL_ (some 17) rfl rfl Tryd.func55 (by kernel_rfl) rfl #[.string a0] rfl (by (try simp only [List.map_toArray, List.map_cons, List.map_nil]); first | done | rfl | (simp only [List.length_drop, List.length_take]; rfl)) ?_; (with_reducible refine (check_Rest.calls k a0 t102 t103 _ A3.out).mono ?_); rintro e w23 ⟨rfl, hb⟩; refine ⟨_, rfl, ?_⟩; have n0_ := Aside0.mk (blk_below (g := gb101) (o := .cells #[.int .i64 0, .int .i64 0, .int .i64 0] 48 (0, 0)) (by (with_reducible repeat (first | apply xn23 | apply xd23 | apply xa23)); exact BK101.1) hb); have n1_ := Aside0.mk (below_step (by with_reducible repeat (first | exact HB.1 | apply ya23 | apply yn23 | apply yd23 | refine below_set ?_ GE101.1)) hb); clear BK101; clear HB; have BK101 := n0_; have HB := n1_; clear n0_ n1_; (try clear hb); (try clear hb2); (try clear hk); (try clear hi); obtain ⟨hcz24_0, hcz24_1, hcz24_2⟩ := c3_23 BK101.1; obtain ⟨hfz24_0, hfz24_1, hfz24_2⟩ := f3_23 BK101.1))
        refine bodyPost_ret (results_ct rfl _ _ gb101 48 #[.int .i64 0, .int .i64 0, .int .i64 0] (0, 0) _ rfl (by (with_reducible repeat (first | apply xn23 | apply xd23 | apply xa23)); refine blk_put (cs := #[.int .i64 0, .int .i64 0, .int .i64 0]) ?_ 2 _ rfl; (with_reducible repeat (first | apply xn23 | apply xd23 | apply xa23)); refine blk_put (cs := #[.int .i64 0, .int .i64 0, .int .i64 0]) ?_ 1 _ rfl; (with_reducible repeat (first | apply xn23 | apply xd23 | apply xa23)); refine blk_put (cs := #[.int .i64 0, .int .i64 0, .int .i64 0]) ?_ 0 _ rfl; (with_reducible repeat (first | apply xn23 | apply xd23 | apply xa23)); exact BK101.1) Tryd.underlying48 rfl (by kernel_rfl)) rfl ?_
        exact ⟨by first | rfl | (simp [errW_none, errW_some] <;> rfl) | (simp [*, errW_none, errW_some] <;> rfl), by repeat (first | (with_reducible first | exact HB.1 | apply below_alloc | apply pw_below_drewN | apply below_drew1 | refine below_set ?_ GE101.1) | exact HB.1)⟩
    · rw [if_neg c4] at H
      have c4b0 : (t103 == 0) = false := beq_eq_false_iff_ne.mpr c4
      have c4b1 : (t103 != 0) = true := bne_iff_ne.mpr c4
      simp only [Option.some.injEq, Prod.mk.injEq] at H
      obtain ⟨rfl, rfl, rfl, rfl⟩ := H
      go_enter Tryd.func23, Tryd.ntmps23
      go_wp2_with (first | ((with_reducible refine gate_dst (N := 2) rfl ?_); refine box_event ?hg (N := 2) ?hd (cs := #[.int .i64 0, .int .i64 0, .int .i64 0]) (t := 48) ?hr ?_; (case hd => rfl); (case hg => rfl); (case hr => first | (go_simp; done) | (go_simp; rfl)); intro gb101 hg w25 hbox hb; have n0_ := Aside0.mk (below_step (by with_reducible repeat (first | exact HB.1 | apply ya23 | apply yn23 | apply yd23)) hb); have n1_ := Aside0.mk (hbox); have n2_ := Aside0.mk ((by rw [hg]; exact (below_size (by with_reducible repeat (first | exact HB.1 | apply ya23 | apply yn23 | apply yd23))) : w.heap.size ≤ gb101)); have n3_ := n2_; clear HB; have HB := n0_; have BK101 := n1_; have GW101 := n2_; have GE101 := n3_; clear n0_ n1_ n2_ n3_; clear hb hbox hg) | ((with_reducible refine gate_callee (f := 55) rfl ?_); refine goesL_ (some 17) rfl rfl Tryd.func55 (by kernel_rfl) rfl #[.string a0] rfl (by (try simp only [List.map_toArray, List.map_cons, List.map_nil]); first | done | rfl | (simp only [List.length_drop, List.length_take]; rfl)) ?_; (with_reducible refine (check_Rest.calls k a0 t102 t103 _ A3.out).mono ?_); rintro e w26 ⟨rfl, hb⟩; refine ⟨_, rfl, ?_⟩; have n0_ := Aside0.mk (blk_below (g := gb101) (o := .cells #[.int .i64 0, .int .i64 0, .int .i64 0] 48 (0, 0)) (by (with_reducible repeat (first | apply xn23 | apply xd23 | apply xa23)); exact BK101.1) hb); have n1_ := Aside0.mk (below_step (by with_reducible repeat (first | exact HB.1 | apply ya23 | apply yn23 | apply yd23 | refine below_set ?_ GE101.1)) hb); clear BK101; clear HB; have BK101 := n0_; have HB := n1_; clear n0_ n1_; (try clear hb); (try clear hb2); (try clear hk); (try clear hi); obtain ⟨hcz27_0, hcz27_1, hcz27_2⟩ := c3_23 BK101.1; obtain ⟨hfz27_0, hfz27_1, hfz27_2⟩ := f3_23 BK101.1))
      refine bodyPost_ret (results_ct rfl _ _ gb101 48 #[.int .i64 0, .int .i64 0, .int .i64 0] (0, 0) _ rfl (by (with_reducible repeat (first | apply xn23 | apply xd23 | apply xa23)); refine blk_put (cs := #[.int .i64 0, .int .i64 0, .int .i64 0]) ?_ 2 _ rfl; (with_reducible repeat (first | apply xn23 | apply xd23 | apply xa23)); refine blk_put (cs := #[.int .i64 0, .int .i64 0, .int .i64 0]) ?_ 1 _ rfl; (with_reducible repeat (first | apply xn23 | apply xd23 | apply xa23)); refine blk_put (cs := #[.int .i64 0, .int .i64 0, .int .i64 0]) ?_ 0 _ rfl; (with_reducible repeat (first | apply xn23 | apply xd23 | apply xa23)); exact BK101.1) Tryd.underlying48 rfl (by kernel_rfl)) rfl ?_
      exact ⟨by first | rfl | (simp [errW_none, errW_some] <;> rfl) | (simp [*, errW_none, errW_some] <;> rfl), by repeat (first | (with_reducible first | exact HB.1 | apply below_alloc | apply pw_below_drewN | apply below_drew1 | refine below_set ?_ GE101.1) | exact HB.1)⟩
  · rw [if_neg c2] at H
    have c2b0 : ((a0.size : Int) == 18) = false := beq_eq_false_iff_ne.mpr c2
    have c2b1 : ((a0.size : Int) != 18) = true := bne_iff_ne.mpr c2
    simp only [Option.some.injEq, Prod.mk.injEq] at H
    obtain ⟨rfl, rfl, rfl, rfl⟩ := H
    go_enter Tryd.func23, Tryd.ntmps23
    go_wp2_with (first | ((with_reducible refine gate_dst (N := 2) rfl ?_); refine box_event ?hg (N := 2) ?hd (cs := #[.int .i64 0, .int .i64 0, .int .i64 0]) (t := 48) ?hr ?_; (case hd => rfl); (case hg => rfl); (case hr => first | (go_simp; done) | (go_simp; rfl)); intro gb101 hg w28 hbox hb; have n0_ := Aside0.mk (below_step (by with_reducible repeat (first | exact HB.1 | apply ya23 | apply yn23 | apply yd23)) hb); have n1_ := Aside0.mk (hbox); have n2_ := Aside0.mk ((by rw [hg]; exact (below_size (by with_reducible repeat (first | exact HB.1 | apply ya23 | apply yn23 | apply yd23))) : w.heap.size ≤ gb101)); have n3_ := n2_; clear HB; have HB := n0_; have BK101 := n1_; have GW101 := n2_; have GE101 := n3_; clear n0_ n1_ n2_ n3_; clear hb hbox hg; obtain ⟨hcz29_0, hcz29_1, hcz29_2⟩ := c3_23 BK101.1; obtain ⟨hfz29_0, hfz29_1, hfz29_2⟩ := f3_23 BK101.1))
    refine bodyPost_ret (results_ct rfl _ _ gb101 48 #[.int .i64 0, .int .i64 0, .int .i64 0] (0, 0) _ rfl (by (with_reducible repeat (first | apply xn23 | apply xd23 | apply xa23)); refine blk_put (cs := #[.int .i64 0, .int .i64 0, .int .i64 0]) ?_ 2 _ rfl; (with_reducible repeat (first | apply xn23 | apply xd23 | apply xa23)); refine blk_put (cs := #[.int .i64 0, .int .i64 0, .int .i64 0]) ?_ 1 _ rfl; (with_reducible repeat (first | apply xn23 | apply xd23 | apply xa23)); refine blk_put (cs := #[.int .i64 0, .int .i64 0, .int .i64 0]) ?_ 0 _ rfl; (with_reducible repeat (first | apply xn23 | apply xd23 | apply xa23)); exact BK101.1) Tryd.underlying48 rfl (by kernel_rfl)) rfl ?_
    exact ⟨by first | rfl | (simp [errW_none, errW_some] <;> rfl) | (simp [*, errW_none, errW_some] <;> rfl), by repeat (first | (with_reducible first | exact HB.1 | apply below_alloc | apply pw_below_drewN | apply below_drew1 | refine below_set ?_ GE101.1) | exact HB.1)⟩

/-! ### vendmeterref_Digit: function 31 -/
def vendmeterref_Digit.f (a0 : Int) : Option (Bool) := if a0 ≥ 48 then (some (decide (a0 ≤ 57))) else (some false)
set_option maxHeartbeats 8000000 in
set_option maxRecDepth 100000 in
theorem vendmeterref_Digit.calls (a0 : Int) (r : Bool) (w : World) (h : vendmeterref_Digit.f a0 = some r) :
    Calls Tryd.prog 31 #[.int .u8 a0] w fun e w' => e = .returned (.bool r) ∧ Drawn0 w w' := by
  have H : (if a0 ≥ 48 then (some (decide (a0 ≤ 57))) else (some false)) = some r := h
  clear h
  by_cases c2 : a0 ≥ 48
  · rw [if_pos c2] at H
    have c2b0 : decide (48 ≤ a0) = true := decide_eq_true c2
    clear c2
    obtain rfl := Option.some.inj H
    go_enter Tryd.func31, Tryd.ntmps31
    go_wp2
    go_ret
    exact ⟨by first | rfl | (simp; done) | (simp [*]; done), by repeat (first | exact Drawn0.refl _ | apply Drawn0.step)⟩
  · rw [if_neg c2] at H
    have c2b0 : decide (48 ≤ a0) = false := decide_eq_false c2
    clear c2
    obtain rfl := Option.some.inj H
    go_enter Tryd.func31, Tryd.ntmps31
    go_wp2
    go_ret
    exact ⟨by first | rfl | (simp; done) | (simp [*]; done), by repeat (first | exact Drawn0.refl _ | apply Drawn0.step)⟩

/-! ### vendmeterref_Uncoded: function 24 -/
theorem xa24 {w : World} {g : Nat} {o : Obj} (h : w.heap[g]? = some o) (o' : Obj) : (w.alloc o').heap[g]? = some o := blk_alloc h o'
theorem xd24 {w : World} {g : Nat} {o : Obj} (h : w.heap[g]? = some o) : w.drew.heap[g]? = some o := blk_drew h
theorem xn24 {w : World} {g : Nat} {o : Obj} (h : w.heap[g]? = some o) (n : Nat) : (w.drewN n).heap[g]? = some o := blk_drewN h n
theorem ya24 {w W : World} (h : Below w.heap.size w W) (o : Obj) : Below w.heap.size w (W.alloc o) := below_alloc h o
theorem yn24 {B : Nat} {w W : World} (h : Below B w W) (n : Nat) : Below B w (W.drewN n) := pw_below_drewN h n
theorem yd24 {B : Nat} {w W : World} (h : Below B w W) : Below B w W.drew := below_drew1 h
theorem c3_24 {w : World} {g : Nat} {t : TypeId} {x0 x1 x2 : Value} {r : List Value} (h : w.heap[g]? = some (.cells (List.toArray (x0 :: x1 :: x2 :: r)) t (0, 0))) : w.cell? ⟨g, 0, none⟩ = some x0 ∧ w.cell? ⟨g, 1, none⟩ = some x1 ∧ w.cell? ⟨g, 2, none⟩ = some x2 := ⟨(blk_cell h 0).trans rfl, (blk_cell h 1).trans rfl, (blk_cell h 2).trans rfl⟩
theorem f3_24 {w : World} {g : Nat} {t : TypeId} {cs : Array Value} (h : w.heap[g]? = some (.cells cs t (0, 0))) : w.frozen? ⟨g, 0, none⟩ = false ∧ w.frozen? ⟨g, 1, none⟩ = false ∧ w.frozen? ⟨g, 2, none⟩ = false := ⟨blk_frozen h 0, blk_frozen h 1, blk_frozen h 2⟩
def vendmeterref_Uncoded.l0 : Nat → ByteArray → Int → Int → Option (Int × Int × Int × Int)
  | 0, _, _, _ => none
  | k + 1, x0, x4, x5 => if x5 < 18 then (if 0 ≤ x5 then (if x5 < (x0.size : Int) then ((vendmeterref_Digit.f (bt x0 x5)).bind fun t108 => (if t108 = true then (vendmeterref_Uncoded.l0 k x0 (wrap64 ((wrap64 (10 * x4)) + (((bt x0 x5) - 48) % 256))) (wrap64 (x5 + 1))) else (some (0, 0, 0, 7)))) else (none)) else (none)) else (if (Int.tmod x4 97) = 0 then (if (wrap64 (Int.tdiv (wrap64 (Int.tdiv x4 97)) 52428800)) > 99999999 then (some (0, 0, 0, 2)) else (some (Int.tmod (wrap64 (Int.tdiv x4 97)) 50, wrap64 (Int.tdiv (wrap64 (Int.tdiv x4 97)) 52428800), Int.tmod (wrap64 (Int.tdiv (wrap64 (Int.tdiv x4 97)) 50)) 1048576, 0))) else (some (0, 0, 0, 8)))
def vendmeterref_Uncoded.f (k : Nat) (a0 : ByteArray) : Option (Int × Int × Int × Int) := if (a0.size : Int) = 18 then (vendmeterref_Uncoded.l0 k a0 0 0) else (some (0, 0, 0, 6))
theorem vendmeterref_Uncoded.mono_l : ∀ k, (∀ y0 y1 y2, LeO (vendmeterref_Uncoded.l0 k y0 y1 y2) (vendmeterref_Uncoded.l0 (k + 1) y0 y1 y2))
  | 0 => fun _ _ _ r h => by simp [vendmeterref_Uncoded.l0] at h
  | k + 1 => by
    have ih0 := vendmeterref_Uncoded.mono_l k
    · intro y0 y1 y2
      unfold vendmeterref_Uncoded.l0
      repeat' first
      | (with_reducible exact ih0 _ _ _)
      | (with_reducible exact LeO.refl _)
      | (with_reducible exact LeO.none _)
      | (with_reducible refine LeO.ite ?_ ?_)
      | (with_reducible refine LeO.bind ?_ (fun _ => ?_))
      | exact ih0 _ _ _
      | exact LeO.none _
      | refine LeO.ite ?_ ?_
      | refine LeO.bind ?_ (fun _ => ?_)
theorem vendmeterref_Uncoded.mono : ∀ a0 k, LeO (vendmeterref_Uncoded.f k a0) (vendmeterref_Uncoded.f (k + 1) a0) := by
  intro a0 k
  have ih0 := vendmeterref_Uncoded.mono_l k
  unfold vendmeterref_Uncoded.f
  repeat' first
      | (with_reducible exact ih0 _ _ _)
      | (with_reducible exact LeO.refl _)
      | (with_reducible exact LeO.none _)
      | (with_reducible refine LeO.ite ?_ ?_)
      | (with_reducible refine LeO.bind ?_ (fun _ => ?_))
      | exact ih0 _ _ _
      | exact LeO.none _
      | refine LeO.ite ?_ ?_
      | refine LeO.bind ?_ (fun _ => ?_)
set_option maxHeartbeats 8000000 in
set_option maxRecDepth 100000 in
theorem vendmeterref_Uncoded.calls (k : Nat) (a0 : ByteArray) (r1 : Int) (r2 : Int) (r3 : Int) (r4 : Int) (w : World) (h : vendmeterref_Uncoded.f k a0 = some (r1, r2, r3, r4)) :
    Calls Tryd.prog 24 #[.string a0] w fun e w' => e = .returned (.tuple #[.agg #[.int .i64 r1, .int .i64 r2, .int .i64 r3], .int .i64 r4]) ∧ Below w.heap.size w w' := by
  have hu48 := Tryd.underlying48
  have HB := Aside0.mk (Below.refl w.heap.size w)
  have H : (if (a0.size : Int) = 18 then (vendmeterref_Uncoded.l0 k a0 0 0) else (some (0, 0, 0, 6))) = some (r1, r2, r3, r4) := h
  clear h
  by_cases c2 : (a0.size : Int) = 18
  · rw [if_pos c2] at H
    have c2b0 : ((a0.size : Int) == 18) = true := beq_iff_eq.mpr c2
    have c2b1 : ((a0.size : Int) != 18) = false := bne_eq_false_iff_eq.mpr c2
    clear c2
    have H' := Aside0.mk H
    clear H
    go_enter Tryd.func24, Tryd.ntmps24
    go_wp2_with (first | ((with_reducible refine gate_dst (N := 2) rfl ?_); refine box_event ?hg (N := 2) ?hd (cs := #[.int .i64 0, .int .i64 0, .int .i64 0]) (t := 48) ?hr ?_; (case hd => rfl); (case hg => rfl); (case hr => first | (go_simp; done) | (go_simp; rfl)); intro gb107 hg w3 hbox hb; have n0_ := Aside0.mk (below_step (by with_reducible repeat (first | exact HB.1 | apply ya24 | apply yn24 | apply yd24)) hb); have n1_ := Aside0.mk (hbox); have n2_ := Aside0.mk ((by rw [hg]; exact (below_size (by with_reducible repeat (first | exact HB.1 | apply ya24 | apply yn24 | apply yd24))) : w.heap.size ≤ gb107)); have n3_ := n2_; clear HB; have HB := n0_; have BK107 := n1_; have GW107 := n2_; have GE107 := n3_; clear n0_ n1_ n2_ n3_; clear hb hbox hg))
    go_loopg [4, 5] k (fun kq v4 v5 w' => ∃ (x4_1 : Int) (x5_1 : Int) (x108000_1 : Int) (x108001_1 : Int) (x108002_1 : Int), v4 = .int .i64 x4_1 ∧ v5 = .int .i64 x5_1 ∧ Aside0 (vendmeterref_Uncoded.l0 kq a0 x4_1 x5_1 = some (r1, r2, r3, r4)) ∧ Aside0 (kq ≤ k) ∧ Aside0 (w'.heap[gb107]? = some (.cells #[.int .i64 x108000_1, .int .i64 x108001_1, .int .i64 x108002_1] 48 (0, 0))) ∧ Aside0 (Below w.heap.size w w'))
    case atStart => exact ⟨(0), (0), (0), (0), (0), (by first | rfl | (simp; done) | (simp [*]; done)), (by first | rfl | (simp; done) | (simp [*]; done)), H', ⟨Nat.le_refl _⟩, ⟨by (with_reducible repeat (first | apply xn24 | apply xd24 | apply xa24)); exact BK107.1⟩, ⟨by repeat (first | (with_reducible first | exact HB.1 | apply below_alloc | apply pw_below_drewN | apply below_drew1 | refine below_set ?_ GE107.1) | exact HB.1)⟩⟩
    case round =>
      clear H'
      try clear c2
      try clear c2b0
      try clear c2b1
      try clear p2
      obtain ⟨x4_1, x5_1, x108000_1, x108001_1, x108002_1, rfl, rfl, HA, HK1, BK107, HB⟩ := hrel
      cases gk with
      | zero => exact absurd HA.out (by simp [vendmeterref_Uncoded.l0])
      | succ k1 =>
        have H := HA.out
        clear HA
        simp only [vendmeterref_Uncoded.l0] at H
        by_cases c4 : x5_1 < 18
        · rw [if_pos c4] at H
          have c4b0 : decide (x5_1 < 18) = true := decide_eq_true c4
          clear c4
          by_cases c5 : 0 ≤ x5_1
          · rw [if_pos c5] at H
            have c5b0 : decide (0 ≤ x5_1) = true := decide_eq_true c5
            clear c5
            by_cases c6 : x5_1 < (a0.size : Int)
            · rw [if_pos c6] at H
              have c6b0 : decide (x5_1 < (a0.size : Int)) = true := decide_eq_true c6
              clear c6
              replace H := Option.bind_eq_some_iff.mp H
              obtain ⟨t108, A80, H⟩ := H
              replace H : (if t108 = true then (vendmeterref_Uncoded.l0 k1 a0 (wrap64 ((wrap64 (10 * x4_1)) + (((bt a0 x5_1) - 48) % 256))) (wrap64 (x5_1 + 1))) else (some (0, 0, 0, 7))) = some (r1, r2, r3, r4) := H
              have A8 := Aside0.mk A80
              clear A80
              by_cases c9 : t108 = true
              · subst c9
                have H1 : (vendmeterref_Uncoded.l0 k1 a0 (wrap64 ((wrap64 (10 * x4_1)) + (((bt a0 x5_1) - 48) % 256))) (wrap64 (x5_1 + 1))) = some (r1, r2, r3, r4) := by rw [if_pos rfl] at H; exact H
                clear H
                have H := H1
                clear H1
                have H' := Aside0.mk H
                clear H
                have p7 : 0 ≤ (x5_1 : Int) := of_decide_eq_true (by first | (with_reducible assumption) | assumption)
                have q7 : x5_1 < (a0.size : Int) := of_decide_eq_true (by first | (with_reducible assumption) | assumption)
                have hx7 := bt_at a0 x5_1
                replace p7 := eq_true p7
                replace q7 := eq_true q7
                go_wp2_with (first | ((with_reducible refine gate_callee (f := 31) rfl ?_); refine goesL_ (some 18) rfl rfl Tryd.func31 (by kernel_rfl) rfl #[.int .u8 (bt a0 x5_1)] rfl (by (try simp only [List.map_toArray, List.map_cons, List.map_nil]); first | done | rfl | (simp only [List.length_drop, List.length_take]; rfl)) ?_; (with_reducible refine (vendmeterref_Digit.calls (bt a0 x5_1) true _ A8.out).mono ?_); rintro e w' ⟨rfl, ⟨nd, rfl⟩⟩; refine ⟨_, rfl, ?_⟩; have p10 : 0 ≤ (x5_1 : Int) := of_decide_eq_true (by first | (with_reducible assumption) | assumption); have q10 : x5_1 < (a0.size : Int) := of_decide_eq_true (by first | (with_reducible assumption) | assumption); have hx10 := bt_at a0 x5_1; replace p10 := eq_true p10; replace q10 := eq_true q10))
                go_roundg k1
                case measure => have := HK1.out; omega
                case rel => exact ⟨(wrap64 ((wrap64 (10 * x4_1)) + (((bt a0 x5_1) - 48) % 256))), (wrap64 (x5_1 + 1)), (x108000_1), (x108001_1), (x108002_1), (by first | rfl | (simp; done) | (simp [*]; done)), (by first | rfl | (simp; done) | (simp [*]; done)), H', ⟨by have := HK1.out; omega⟩, ⟨by (with_reducible repeat (first | apply xn24 | apply xd24 | apply xa24)); exact BK107.1⟩, ⟨by repeat (first | (with_reducible first | exact HB.1 | apply below_alloc | apply pw_below_drewN | apply below_drew1 | refine below_set ?_ GE107.1) | exact HB.1)⟩⟩
              · replace c9 := Bool.eq_false_iff.mpr c9
                subst c9
                have H1 : (some (0, 0, 0, 7)) = some (r1, r2, r3, r4) := by rw [if_neg (show ¬ (false = true) by decide)] at H; exact H
                clear H
                have H := H1
                clear H1
                simp only [Option.some.injEq, Prod.mk.injEq] at H
                obtain ⟨rfl, rfl, rfl, rfl⟩ := H
                have p7 : 0 ≤ (x5_1 : Int) := of_decide_eq_true (by first | (with_reducible assumption) | assumption)
                have q7 : x5_1 < (a0.size : Int) := of_decide_eq_true (by first | (with_reducible assumption) | assumption)
                have hx7 := bt_at a0 x5_1
                replace p7 := eq_true p7
                replace q7 := eq_true q7
                go_wp2_with (first | ((with_reducible refine gate_callee (f := 31) rfl ?_); refine goesL_ (some 18) rfl rfl Tryd.func31 (by kernel_rfl) rfl #[.int .u8 (bt a0 x5_1)] rfl (by (try simp only [List.map_toArray, List.map_cons, List.map_nil]); first | done | rfl | (simp only [List.length_drop, List.length_take]; rfl)) ?_; (with_reducible refine (vendmeterref_Digit.calls (bt a0 x5_1) false _ A8.out).mono ?_); rintro e w' ⟨rfl, ⟨nd, rfl⟩⟩; refine ⟨_, rfl, ?_⟩; (try (rw [drewN_self wr]; generalize hq_ : World.drewN wr _ = wr; have n0_ : Aside0 (wr.heap[gb107]? = some (.cells #[.int .i64 x108000_1, .int .i64 x108001_1, .int .i64 x108002_1] 48 (0, 0))) := ⟨by rw [← hq_]; exact (by (with_reducible repeat (first | apply xn24 | apply xd24 | apply xa24)); exact BK107.1)⟩; have n1_ : Aside0 (Below w.heap.size w wr) := ⟨by rw [← hq_]; exact (by with_reducible repeat (first | exact HB.1 | apply ya24 | apply yn24 | apply yd24 | refine below_set ?_ GE107.1))⟩; clear BK107 HB hq_; have BK107 := n0_; have HB := n1_; clear n0_ n1_; (try (have hcu107_0 : wr.cell? ⟨gb107, 0, none⟩ = some (.int .i64 x108000_1) := (blk_cell BK107.1 0).trans rfl)); (try (have hfu107_0 := blk_frozen BK107.1 0)); (try (have hcu107_1 : wr.cell? ⟨gb107, 1, none⟩ = some (.int .i64 x108001_1) := (blk_cell BK107.1 1).trans rfl)); (try (have hfu107_1 := blk_frozen BK107.1 1)); (try (have hcu107_2 : wr.cell? ⟨gb107, 2, none⟩ = some (.int .i64 x108002_1) := (blk_cell BK107.1 2).trans rfl)); (try (have hfu107_2 := blk_frozen BK107.1 2)))); obtain ⟨hcz11_0, hcz11_1, hcz11_2⟩ := c3_24 BK107.1; obtain ⟨hfz11_0, hfz11_1, hfz11_2⟩ := f3_24 BK107.1))
                refine bodyPost_ret (results_ct rfl _ _ gb107 48 #[.int .i64 0, .int .i64 0, .int .i64 0] (0, 0) _ rfl (by (with_reducible repeat (first | apply xn24 | apply xd24 | apply xa24)); refine blk_put (cs := #[.int .i64 0, .int .i64 0, .int .i64 x108002_1]) ?_ 2 _ rfl; (with_reducible repeat (first | apply xn24 | apply xd24 | apply xa24)); refine blk_put (cs := #[.int .i64 0, .int .i64 x108001_1, .int .i64 x108002_1]) ?_ 1 _ rfl; (with_reducible repeat (first | apply xn24 | apply xd24 | apply xa24)); refine blk_put (cs := #[.int .i64 x108000_1, .int .i64 x108001_1, .int .i64 x108002_1]) ?_ 0 _ rfl; (with_reducible repeat (first | apply xn24 | apply xd24 | apply xa24)); exact BK107.1) Tryd.underlying48 rfl (by kernel_rfl)) rfl ?_
                exact ⟨by first | rfl | (simp [errW_none, errW_some] <;> rfl) | (simp [*, errW_none, errW_some] <;> rfl), by repeat (first | (with_reducible first | exact HB.1 | apply below_alloc | apply pw_below_drewN | apply below_drew1 | refine below_set ?_ GE107.1) | exact HB.1)⟩
            · rw [if_neg c6] at H
              exact absurd H (by simp)
          · rw [if_neg c5] at H
            exact absurd H (by simp)
        · rw [if_neg c4] at H
          have c4b0 : decide (x5_1 < 18) = false := decide_eq_false c4
          clear c4
          by_cases c12 : (Int.tmod x4_1 97) = 0
          · rw [if_pos c12] at H
            have c12b0 : ((Int.tmod x4_1 97) == 0) = true := beq_iff_eq.mpr c12
            have c12b1 : ((Int.tmod x4_1 97) != 0) = false := bne_eq_false_iff_eq.mpr c12
            clear c12
            by_cases c13 : (wrap64 (Int.tdiv (wrap64 (Int.tdiv x4_1 97)) 52428800)) > 99999999
            · rw [if_pos c13] at H
              have c13b0 : decide (99999999 < (wrap64 (Int.tdiv (wrap64 (Int.tdiv x4_1 97)) 52428800))) = true := decide_eq_true c13
              clear c13
              simp only [Option.some.injEq, Prod.mk.injEq] at H
              obtain ⟨rfl, rfl, rfl, rfl⟩ := H
              go_wp2_with (first | ((with_reducible refine gate_dst (N := 6) rfl ?_); refine box_event ?hg (N := 6) ?hd (cs := #[.int .i64 0, .int .i64 0, .int .i64 0]) (t := 48) ?hr ?_; (case hd => rfl); (case hg => rfl); (case hr => first | (go_simp; done) | (go_simp; rfl)); intro gb109 hg w14 hbox hb; have n0_ := Aside0.mk (blk_below (g := gb107) (o := .cells #[.int .i64 x108000_1, .int .i64 x108001_1, .int .i64 x108002_1] 48 (0, 0)) (by (with_reducible repeat (first | apply xn24 | apply xd24 | apply xa24)); exact BK107.1) hb); have n1_ := Aside0.mk (below_step (by with_reducible repeat (first | exact HB.1 | apply ya24 | apply yn24 | apply yd24 | refine below_set ?_ GE107.1)) hb); have n2_ := Aside0.mk (hbox); have n3_ := Aside0.mk ((by rw [hg]; exact (below_size (by with_reducible repeat (first | exact HB.1 | apply ya24 | apply yn24 | apply yd24 | refine below_set ?_ GE107.1))) : w.heap.size ≤ gb109)); have n4_ := n3_; have n5_ := Aside0.mk ((by rw [hg]; exact Nat.ne_of_lt (blk_lt (g := gb107) (o := .cells #[.int .i64 x108000_1, .int .i64 x108001_1, .int .i64 x108002_1] 48 (0, 0)) (by (with_reducible repeat (first | apply xn24 | apply xd24 | apply xa24)); exact BK107.1)) : gb107 ≠ gb109)); have n6_ := Aside0.mk ((by rw [hg]; exact Nat.ne_of_gt (blk_lt (g := gb107) (o := .cells #[.int .i64 x108000_1, .int .i64 x108001_1, .int .i64 x108002_1] 48 (0, 0)) (by (with_reducible repeat (first | apply xn24 | apply xd24 | apply xa24)); exact BK107.1)) : gb109 ≠ gb107)); clear BK107; clear HB; have BK107 := n0_; have HB := n1_; have BK109 := n2_; have GW109 := n3_; have GE109 := n4_; have NB107_109 := n5_; have NB109_107 := n6_; clear n0_ n1_ n2_ n3_ n4_ n5_ n6_; clear hb hbox hg; have hnb15 := NB109_107.1; have hnc15 := NB107_109.1; obtain ⟨hcz16_0, hcz16_1, hcz16_2⟩ := c3_24 BK109.1; obtain ⟨hfz16_0, hfz16_1, hfz16_2⟩ := f3_24 BK109.1; obtain ⟨hcz17_0, hcz17_1, hcz17_2⟩ := c3_24 BK107.1; obtain ⟨hfz17_0, hfz17_1, hfz17_2⟩ := f3_24 BK107.1))
              refine bodyPost_ret (results_ct rfl _ _ gb107 48 #[.int .i64 0, .int .i64 0, .int .i64 0] (0, 0) _ rfl (by (with_reducible repeat (first | apply xn24 | apply xd24 | apply xa24)); refine blk_put (cs := #[.int .i64 0, .int .i64 0, .int .i64 x108002_1]) ?_ 2 _ rfl; (with_reducible repeat (first | apply xn24 | apply xd24 | apply xa24)); refine blk_put (cs := #[.int .i64 0, .int .i64 x108001_1, .int .i64 x108002_1]) ?_ 1 _ rfl; (with_reducible repeat (first | apply xn24 | apply xd24 | apply xa24)); refine blk_put (cs := #[.int .i64 x108000_1, .int .i64 x108001_1, .int .i64 x108002_1]) ?_ 0 _ rfl; (with_reducible repeat (first | apply xn24 | apply xd24 | apply xa24)); refine blk_far ?_ NB107_109.1 _; (with_reducible repeat (first | apply xn24 | apply xd24 | apply xa24)); refine blk_far ?_ NB107_109.1 _; (with_reducible repeat (first | apply xn24 | apply xd24 | apply xa24)); refine blk_far ?_ NB107_109.1 _; (with_reducible repeat (first | apply xn24 | apply xd24 | apply xa24)); exact BK107.1) Tryd.underlying48 rfl (by kernel_rfl)) rfl ?_
              exact ⟨by first | rfl | (simp [errW_none, errW_some] <;> rfl) | (simp [*, errW_none, errW_some] <;> rfl), by repeat (first | (with_reducible first | exact HB.1 | apply below_alloc | apply pw_below_drewN | apply below_drew1 | refine below_set ?_ GE107.1 | refine below_set ?_ GE109.1) | exact HB.1)⟩
            · rw [if_neg c13] at H
              have c13b0 : decide (99999999 < (wrap64 (Int.tdiv (wrap64 (Int.tdiv x4_1 97)) 52428800))) = false := decide_eq_false c13
              clear c13
              simp only [Option.some.injEq, Prod.mk.injEq] at H
              obtain ⟨rfl, rfl, rfl, rfl⟩ := H
              go_wp2_with (first | ((with_reducible refine gate_dst (N := 6) rfl ?_); refine box_event ?hg (N := 6) ?hd (cs := #[.int .i64 0, .int .i64 0, .int .i64 0]) (t := 48) ?hr ?_; (case hd => rfl); (case hg => rfl); (case hr => first | (go_simp; done) | (go_simp; rfl)); intro gb109 hg w18 hbox hb; have n0_ := Aside0.mk (blk_below (g := gb107) (o := .cells #[.int .i64 x108000_1, .int .i64 x108001_1, .int .i64 x108002_1] 48 (0, 0)) (by (with_reducible repeat (first | apply xn24 | apply xd24 | apply xa24)); exact BK107.1) hb); have n1_ := Aside0.mk (below_step (by with_reducible repeat (first | exact HB.1 | apply ya24 | apply yn24 | apply yd24 | refine below_set ?_ GE107.1)) hb); have n2_ := Aside0.mk (hbox); have n3_ := Aside0.mk ((by rw [hg]; exact (below_size (by with_reducible repeat (first | exact HB.1 | apply ya24 | apply yn24 | apply yd24 | refine below_set ?_ GE107.1))) : w.heap.size ≤ gb109)); have n4_ := n3_; have n5_ := Aside0.mk ((by rw [hg]; exact Nat.ne_of_lt (blk_lt (g := gb107) (o := .cells #[.int .i64 x108000_1, .int .i64 x108001_1, .int .i64 x108002_1] 48 (0, 0)) (by (with_reducible repeat (first | apply xn24 | apply xd24 | apply xa24)); exact BK107.1)) : gb107 ≠ gb109)); have n6_ := Aside0.mk ((by rw [hg]; exact Nat.ne_of_gt (blk_lt (g := gb107) (o := .cells #[.int .i64 x108000_1, .int .i64 x108001_1, .int .i64 x108002_1] 48 (0, 0)) (by (with_reducible repeat (first | apply xn24 | apply xd24 | apply xa24)); exact BK107.1)) : gb109 ≠ gb107)); clear BK107; clear HB; have BK107 := n0_; have HB := n1_; have BK109 := n2_; have GW109 := n3_; have GE109 := n4_; have NB107_109 := n5_; have NB109_107 := n6_; clear n0_ n1_ n2_ n3_ n4_ n5_ n6_; clear hb hbox hg; have hnb19 := NB109_107.1; have hnc19 := NB107_109.1; obtain ⟨hcz20_0, hcz20_1, hcz20_2⟩ := c3_24 BK109.1; obtain ⟨hfz20_0, hfz20_1, hfz20_2⟩ := f3_24 BK109.1; obtain ⟨hcz21_0, hcz21_1, hcz21_2⟩ := c3_24 BK107.1; obtain ⟨hfz21_0, hfz21_1, hfz21_2⟩ := f3_24 BK107.1))
              refine bodyPost_ret (results_ct rfl _ _ gb107 48 #[.int .i64 (Int.tmod (wrap64 (Int.tdiv x4_1 97)) 50), .int .i64 (wrap64 (Int.tdiv (wrap64 (Int.tdiv x4_1 97)) 52428800)), .int .i64 (Int.tmod (wrap64 (Int.tdiv (wrap64 (Int.tdiv x4_1 97)) 50)) 1048576)] (0, 0) _ rfl (by (with_reducible repeat (first | apply xn24 | apply xd24 | apply xa24)); refine blk_put (cs := #[.int .i64 (Int.tmod (wrap64 (Int.tdiv x4_1 97)) 50), .int .i64 (wrap64 (Int.tdiv (wrap64 (Int.tdiv x4_1 97)) 52428800)), .int .i64 x108002_1]) ?_ 2 _ rfl; (with_reducible repeat (first | apply xn24 | apply xd24 | apply xa24)); refine blk_put (cs := #[.int .i64 (Int.tmod (wrap64 (Int.tdiv x4_1 97)) 50), .int .i64 x108001_1, .int .i64 x108002_1]) ?_ 1 _ rfl; (with_reducible repeat (first | apply xn24 | apply xd24 | apply xa24)); refine blk_put (cs := #[.int .i64 x108000_1, .int .i64 x108001_1, .int .i64 x108002_1]) ?_ 0 _ rfl; (with_reducible repeat (first | apply xn24 | apply xd24 | apply xa24)); refine blk_far ?_ NB107_109.1 _; (with_reducible repeat (first | apply xn24 | apply xd24 | apply xa24)); refine blk_far ?_ NB107_109.1 _; (with_reducible repeat (first | apply xn24 | apply xd24 | apply xa24)); refine blk_far ?_ NB107_109.1 _; (with_reducible repeat (first | apply xn24 | apply xd24 | apply xa24)); exact BK107.1) Tryd.underlying48 rfl (by kernel_rfl)) rfl ?_
              exact ⟨by first | rfl | (simp [errW_none, errW_some] <;> rfl) | (simp [*, errW_none, errW_some] <;> rfl), by repeat (first | (with_reducible first | exact HB.1 | apply below_alloc | apply pw_below_drewN | apply below_drew1 | refine below_set ?_ GE107.1 | refine below_set ?_ GE109.1) | exact HB.1)⟩
          · rw [if_neg c12] at H
            have c12b0 : ((Int.tmod x4_1 97) == 0) = false := beq_eq_false_iff_ne.mpr c12
            have c12b1 : ((Int.tmod x4_1 97) != 0) = true := bne_iff_ne.mpr c12
            simp only [Option.some.injEq, Prod.mk.injEq] at H
            obtain ⟨rfl, rfl, rfl, rfl⟩ := H
            obtain ⟨hcz22_0, hcz22_1, hcz22_2⟩ := c3_24 BK107.1
            obtain ⟨hfz22_0, hfz22_1, hfz22_2⟩ := f3_24 BK107.1
            go_wp2
            refine bodyPost_ret (results_ct rfl _ _ gb107 48 #[.int .i64 0, .int .i64 0, .int .i64 0] (0, 0) _ rfl (by (with_reducible repeat (first | apply xn24 | apply xd24 | apply xa24)); refine blk_put (cs := #[.int .i64 0, .int .i64 0, .int .i64 x108002_1]) ?_ 2 _ rfl; (with_reducible repeat (first | apply xn24 | apply xd24 | apply xa24)); refine blk_put (cs := #[.int .i64 0, .int .i64 x108001_1, .int .i64 x108002_1]) ?_ 1 _ rfl; (with_reducible repeat (first | apply xn24 | apply xd24 | apply xa24)); refine blk_put (cs := #[.int .i64 x108000_1, .int .i64 x108001_1, .int .i64 x108002_1]) ?_ 0 _ rfl; (with_reducible repeat (first | apply xn24 | apply xd24 | apply xa24)); exact BK107.1) Tryd.underlying48 rfl (by kernel_rfl)) rfl ?_
            exact ⟨by first | rfl | (simp [errW_none, errW_some] <;> rfl) | (simp [*, errW_none, errW_some] <;> rfl), by repeat (first | (with_reducible first | exact HB.1 | apply below_alloc | apply pw_below_drewN | apply below_drew1 | refine below_set ?_ GE107.1) | exact HB.1)⟩
  · rw [if_neg c2] at H
    have c2b0 : ((a0.size : Int) == 18) = false := beq_eq_false_iff_ne.mpr c2
    have c2b1 : ((a0.size : Int) != 18) = true := bne_iff_ne.mpr c2
    simp only [Option.some.injEq, Prod.mk.injEq] at H
    obtain ⟨rfl, rfl, rfl, rfl⟩ := H
    go_enter Tryd.func24, Tryd.ntmps24
    go_wp2_with (first | ((with_reducible refine gate_dst (N := 2) rfl ?_); refine box_event ?hg (N := 2) ?hd (cs := #[.int .i64 0, .int .i64 0, .int .i64 0]) (t := 48) ?hr ?_; (case hd => rfl); (case hg => rfl); (case hr => first | (go_simp; done) | (go_simp; rfl)); intro gb107 hg w23 hbox hb; have n0_ := Aside0.mk (below_step (by with_reducible repeat (first | exact HB.1 | apply ya24 | apply yn24 | apply yd24)) hb); have n1_ := Aside0.mk (hbox); have n2_ := Aside0.mk ((by rw [hg]; exact (below_size (by with_reducible repeat (first | exact HB.1 | apply ya24 | apply yn24 | apply yd24))) : w.heap.size ≤ gb107)); have n3_ := n2_; clear HB; have HB := n0_; have BK107 := n1_; have GW107 := n2_; have GE107 := n3_; clear n0_ n1_ n2_ n3_; clear hb hbox hg; obtain ⟨hcz24_0, hcz24_1, hcz24_2⟩ := c3_24 BK107.1; obtain ⟨hfz24_0, hfz24_1, hfz24_2⟩ := f3_24 BK107.1))
    refine bodyPost_ret (results_ct rfl _ _ gb107 48 #[.int .i64 0, .int .i64 0, .int .i64 0] (0, 0) _ rfl (by (with_reducible repeat (first | apply xn24 | apply xd24 | apply xa24)); refine blk_put (cs := #[.int .i64 0, .int .i64 0, .int .i64 0]) ?_ 2 _ rfl; (with_reducible repeat (first | apply xn24 | apply xd24 | apply xa24)); refine blk_put (cs := #[.int .i64 0, .int .i64 0, .int .i64 0]) ?_ 1 _ rfl; (with_reducible repeat (first | apply xn24 | apply xd24 | apply xa24)); refine blk_put (cs := #[.int .i64 0, .int .i64 0, .int .i64 0]) ?_ 0 _ rfl; (with_reducible repeat (first | apply xn24 | apply xd24 | apply xa24)); exact BK107.1) Tryd.underlying48 rfl (by kernel_rfl)) rfl ?_
    exact ⟨by first | rfl | (simp [errW_none, errW_some] <;> rfl) | (simp [*, errW_none, errW_some] <;> rfl), by repeat (first | (with_reducible first | exact HB.1 | apply below_alloc | apply pw_below_drewN | apply below_drew1 | refine below_set ?_ GE107.1) | exact HB.1)⟩

/-! ### vendmeterlaw_CodeReads: function 9 -/
theorem xa9 {w : World} {g : Nat} {o : Obj} (h : w.heap[g]? = some o) (o' : Obj) : (w.alloc o').heap[g]? = some o := blk_alloc h o'
theorem xd9 {w : World} {g : Nat} {o : Obj} (h : w.heap[g]? = some o) : w.drew.heap[g]? = some o := blk_drew h
theorem xn9 {w : World} {g : Nat} {o : Obj} (h : w.heap[g]? = some o) (n : Nat) : (w.drewN n).heap[g]? = some o := blk_drewN h n
theorem ya9 {w W : World} (h : Below w.heap.size w W) (o : Obj) : Below w.heap.size w (W.alloc o) := below_alloc h o
theorem yn9 {B : Nat} {w W : World} (h : Below B w W) (n : Nat) : Below B w (W.drewN n) := pw_below_drewN h n
theorem yd9 {B : Nat} {w W : World} (h : Below B w W) : Below B w W.drew := below_drew1 h
theorem c3_9 {w : World} {g : Nat} {t : TypeId} {x0 x1 x2 : Value} {r : List Value} (h : w.heap[g]? = some (.cells (List.toArray (x0 :: x1 :: x2 :: r)) t (0, 0))) : w.cell? ⟨g, 0, none⟩ = some x0 ∧ w.cell? ⟨g, 1, none⟩ = some x1 ∧ w.cell? ⟨g, 2, none⟩ = some x2 := ⟨(blk_cell h 0).trans rfl, (blk_cell h 1).trans rfl, (blk_cell h 2).trans rfl⟩
theorem f3_9 {w : World} {g : Nat} {t : TypeId} {cs : Array Value} (h : w.heap[g]? = some (.cells cs t (0, 0))) : w.frozen? ⟨g, 0, none⟩ = false ∧ w.frozen? ⟨g, 1, none⟩ = false ∧ w.frozen? ⟨g, 2, none⟩ = false := ⟨blk_frozen h 0, blk_frozen h 1, blk_frozen h 2⟩
def vendmeterlaw_CodeReads.f (k : Nat) (a0 : ByteArray) : Option (Bool) := (readback_Read.f k a0).bind fun bt110 => ((vendmeterref_Uncoded.f k a0).bind fun bt115 => (if (bt110.1 == bt115.1 && (bt110.2.1 == bt115.2.1 && (bt110.2.2.1 == bt115.2.2.1))) = true then (some (bt110.2.2.2 == bt115.2.2.2)) else (some false)))
theorem vendmeterlaw_CodeReads.mono : ∀ a0 k, LeO (vendmeterlaw_CodeReads.f k a0) (vendmeterlaw_CodeReads.f (k + 1) a0) := by
  intro a0 k
  unfold vendmeterlaw_CodeReads.f
  repeat' first
      | (with_reducible exact readback_Read.mono _ _)
      | (with_reducible exact vendmeterref_Uncoded.mono _ _)
      | (with_reducible exact LeO.refl _)
      | (with_reducible exact LeO.none _)
      | (with_reducible refine LeO.ite ?_ ?_)
      | (with_reducible refine LeO.bind ?_ (fun _ => ?_))
      | exact readback_Read.mono _ _
      | exact vendmeterref_Uncoded.mono _ _
      | exact LeO.none _
      | refine LeO.ite ?_ ?_
      | refine LeO.bind ?_ (fun _ => ?_)
set_option maxHeartbeats 8000000 in
set_option maxRecDepth 100000 in
theorem vendmeterlaw_CodeReads.calls (k : Nat) (a0 : ByteArray) (r : Bool) (w : World) (h : vendmeterlaw_CodeReads.f k a0 = some r) :
    Calls Tryd.prog 9 #[.string a0] w fun e w' => e = .returned (.bool r) ∧ Below w.heap.size w w' := by
  have hu48 := Tryd.underlying48
  have HB := Aside0.mk (Below.refl w.heap.size w)
  have H : ((readback_Read.f k a0).bind fun bt110 => ((vendmeterref_Uncoded.f k a0).bind fun bt115 => (if (bt110.1 == bt115.1 && (bt110.2.1 == bt115.2.1 && (bt110.2.2.1 == bt115.2.2.1))) = true then (some (bt110.2.2.2 == bt115.2.2.2)) else (some false)))) = some r := h
  clear h
  replace H := Option.bind_eq_some_iff.mp H
  obtain ⟨⟨t110, t111, t112, t113⟩, A20, H⟩ := H
  replace H : ((vendmeterref_Uncoded.f k a0).bind fun bt115 => (if (t110 == bt115.1 && (t111 == bt115.2.1 && (t112 == bt115.2.2.1))) = true then (some (t113 == bt115.2.2.2)) else (some false))) = some r := H
  have A2 := Aside0.mk A20
  clear A20
  replace H := Option.bind_eq_some_iff.mp H
  obtain ⟨⟨t115, t116, t117, t118⟩, A30, H⟩ := H
  replace H : (if (t110 == t115 && (t111 == t116 && (t112 == t117))) = true then (some (t113 == t118)) else (some false)) = some r := H
  have A3 := Aside0.mk A30
  clear A30
  by_cases c4 : (t110 == t115 && (t111 == t116 && (t112 == t117))) = true
  · rw [if_pos c4] at H
    have c4b0 : (t110 == t115 && (t111 == t116 && (t112 == t117))) = true := c4
    (try (have c4b1 : decide (t110 = t115 && (t111 == t116 && (t112 == t117))) = true := by simpa using c4))
    (try (have c4b2 : (t110 == t115 && (t111 == t116 && (t112 == t117))) = true := by simpa using c4))
    clear c4
    obtain rfl := Option.some.inj H
    go_enter Tryd.func9, Tryd.ntmps9
    go_wp2_with (first | ((with_reducible refine gate_callee (f := 23) rfl ?_); refine goesL_ (some 9) rfl rfl Tryd.func23 (by kernel_rfl) rfl #[.string a0] rfl (by (try simp only [List.map_toArray, List.map_cons, List.map_nil]); first | done | rfl | (simp only [List.length_drop, List.length_take]; rfl)) ?_; (with_reducible refine (readback_Read.calls k a0 t110 t111 t112 t113 _ A2.out).mono ?_); rintro e w5 ⟨rfl, hb⟩; refine ⟨_, rfl, ?_⟩; have n0_ := Aside0.mk (below_step (by with_reducible repeat (first | exact HB.1 | apply ya9 | apply yn9 | apply yd9)) hb); clear HB; have HB := n0_; clear n0_; (try clear hb); (try clear hb2); (try clear hk); (try clear hi)) | ((with_reducible refine gate_dst (N := 3) rfl ?_); refine box_event ?hg (N := 3) ?hd (cs := #[.int .i64 0, .int .i64 0, .int .i64 0]) (t := 48) ?hr ?_; (case hd => rfl); (case hg => rfl); (case hr => first | (go_simp; done) | (go_simp; rfl)); intro gb114 hg w6 hbox hb; have n0_ := Aside0.mk (below_step (by with_reducible repeat (first | exact HB.1 | apply ya9 | apply yn9 | apply yd9)) hb); have n1_ := Aside0.mk (hbox); have n2_ := Aside0.mk ((by rw [hg]; exact (below_size (by with_reducible repeat (first | exact HB.1 | apply ya9 | apply yn9 | apply yd9))) : w.heap.size ≤ gb114)); have n3_ := n2_; clear HB; have HB := n0_; have BK114 := n1_; have GW114 := n2_; have GE114 := n3_; clear n0_ n1_ n2_ n3_; clear hb hbox hg; obtain ⟨hcz7_0, hcz7_1, hcz7_2⟩ := c3_9 BK114.1; obtain ⟨hfz7_0, hfz7_1, hfz7_2⟩ := f3_9 BK114.1) | ((with_reducible refine gate_callee (f := 24) rfl ?_); refine goesL_ (some 14) rfl rfl Tryd.func24 (by kernel_rfl) rfl #[.string a0] rfl (by (try simp only [List.map_toArray, List.map_cons, List.map_nil]); first | done | rfl | (simp only [List.length_drop, List.length_take]; rfl)) ?_; (with_reducible refine (vendmeterref_Uncoded.calls k a0 t115 t116 t117 t118 _ A3.out).mono ?_); rintro e w8 ⟨rfl, hb⟩; refine ⟨_, rfl, ?_⟩; have n0_ := Aside0.mk (blk_below (g := gb114) (o := .cells #[.int .i64 t110, .int .i64 t111, .int .i64 t112] 48 (0, 0)) (by (with_reducible repeat (first | apply xn9 | apply xd9 | apply xa9)); refine blk_put (cs := #[.int .i64 t110, .int .i64 t111, .int .i64 0]) ?_ 2 _ rfl; (with_reducible repeat (first | apply xn9 | apply xd9 | apply xa9)); refine blk_put (cs := #[.int .i64 t110, .int .i64 0, .int .i64 0]) ?_ 1 _ rfl; (with_reducible repeat (first | apply xn9 | apply xd9 | apply xa9)); refine blk_put (cs := #[.int .i64 0, .int .i64 0, .int .i64 0]) ?_ 0 _ rfl; (with_reducible repeat (first | apply xn9 | apply xd9 | apply xa9)); exact BK114.1) hb); have n1_ := Aside0.mk (below_step (by with_reducible repeat (first | exact HB.1 | apply ya9 | apply yn9 | apply yd9 | refine below_set ?_ GE114.1)) hb); clear BK114; clear HB; have BK114 := n0_; have HB := n1_; clear n0_ n1_; (try clear hb); (try clear hb2); (try clear hk); (try clear hi)) | ((with_reducible refine gate_dst (N := 5) rfl ?_); refine box_event ?hg (N := 5) ?hd (cs := #[.int .i64 0, .int .i64 0, .int .i64 0]) (t := 48) ?hr ?_; (case hd => rfl); (case hg => rfl); (case hr => first | (go_simp; done) | (go_simp; rfl)); intro gb119 hg w9 hbox hb; have n0_ := Aside0.mk (blk_below (g := gb114) (o := .cells #[.int .i64 t110, .int .i64 t111, .int .i64 t112] 48 (0, 0)) (by (with_reducible repeat (first | apply xn9 | apply xd9 | apply xa9)); exact BK114.1) hb); have n1_ := Aside0.mk (below_step (by with_reducible repeat (first | exact HB.1 | apply ya9 | apply yn9 | apply yd9 | refine below_set ?_ GE114.1)) hb); have n2_ := Aside0.mk (hbox); have n3_ := Aside0.mk ((by rw [hg]; exact (below_size (by with_reducible repeat (first | exact HB.1 | apply ya9 | apply yn9 | apply yd9 | refine below_set ?_ GE114.1))) : w.heap.size ≤ gb119)); have n4_ := n3_; have n5_ := Aside0.mk ((by rw [hg]; exact Nat.ne_of_lt (blk_lt (g := gb114) (o := .cells #[.int .i64 t110, .int .i64 t111, .int .i64 t112] 48 (0, 0)) (by (with_reducible repeat (first | apply xn9 | apply xd9 | apply xa9)); exact BK114.1)) : gb114 ≠ gb119)); have n6_ := Aside0.mk ((by rw [hg]; exact Nat.ne_of_gt (blk_lt (g := gb114) (o := .cells #[.int .i64 t110, .int .i64 t111, .int .i64 t112] 48 (0, 0)) (by (with_reducible repeat (first | apply xn9 | apply xd9 | apply xa9)); exact BK114.1)) : gb119 ≠ gb114)); clear BK114; clear HB; have BK114 := n0_; have HB := n1_; have BK119 := n2_; have GW119 := n3_; have GE119 := n4_; have NB114_119 := n5_; have NB119_114 := n6_; clear n0_ n1_ n2_ n3_ n4_ n5_ n6_; clear hb hbox hg; have hnb10 := NB119_114.1; have hnc10 := NB114_119.1; obtain ⟨hcz11_0, hcz11_1, hcz11_2⟩ := c3_9 BK119.1; obtain ⟨hfz11_0, hfz11_1, hfz11_2⟩ := f3_9 BK119.1; obtain ⟨hcz12_0, hcz12_1, hcz12_2⟩ := c3_9 BK114.1; obtain ⟨hfz12_0, hfz12_1, hfz12_2⟩ := f3_9 BK114.1))
    go_ret
    exact ⟨by first | rfl | (simp [errW_none, errW_some] <;> rfl) | (simp [*, errW_none, errW_some] <;> rfl), by repeat (first | (with_reducible first | exact HB.1 | apply below_alloc | apply pw_below_drewN | apply below_drew1 | refine below_set ?_ GE114.1 | refine below_set ?_ GE119.1) | exact HB.1)⟩
  · rw [if_neg c4] at H
    have c4b0 : (t110 == t115 && (t111 == t116 && (t112 == t117))) = false := by simpa using c4
    (try (have c4b1 : decide (t110 = t115 && (t111 == t116 && (t112 == t117))) = false := by simpa using c4))
    (try (have c4b2 : (t110 == t115 && (t111 == t116 && (t112 == t117))) = false := by simpa using c4))
    (try (have c4b3 : ¬ (t110 = t115 && (t111 == t116 && (t112 == t117))) := by simpa using c4))
    clear c4
    obtain rfl := Option.some.inj H
    go_enter Tryd.func9, Tryd.ntmps9
    go_wp2_with (first | ((with_reducible refine gate_callee (f := 23) rfl ?_); refine goesL_ (some 9) rfl rfl Tryd.func23 (by kernel_rfl) rfl #[.string a0] rfl (by (try simp only [List.map_toArray, List.map_cons, List.map_nil]); first | done | rfl | (simp only [List.length_drop, List.length_take]; rfl)) ?_; (with_reducible refine (readback_Read.calls k a0 t110 t111 t112 t113 _ A2.out).mono ?_); rintro e w13 ⟨rfl, hb⟩; refine ⟨_, rfl, ?_⟩; have n0_ := Aside0.mk (below_step (by with_reducible repeat (first | exact HB.1 | apply ya9 | apply yn9 | apply yd9)) hb); clear HB; have HB := n0_; clear n0_; (try clear hb); (try clear hb2); (try clear hk); (try clear hi)) | ((with_reducible refine gate_dst (N := 3) rfl ?_); refine box_event ?hg (N := 3) ?hd (cs := #[.int .i64 0, .int .i64 0, .int .i64 0]) (t := 48) ?hr ?_; (case hd => rfl); (case hg => rfl); (case hr => first | (go_simp; done) | (go_simp; rfl)); intro gb114 hg w14 hbox hb; have n0_ := Aside0.mk (below_step (by with_reducible repeat (first | exact HB.1 | apply ya9 | apply yn9 | apply yd9)) hb); have n1_ := Aside0.mk (hbox); have n2_ := Aside0.mk ((by rw [hg]; exact (below_size (by with_reducible repeat (first | exact HB.1 | apply ya9 | apply yn9 | apply yd9))) : w.heap.size ≤ gb114)); have n3_ := n2_; clear HB; have HB := n0_; have BK114 := n1_; have GW114 := n2_; have GE114 := n3_; clear n0_ n1_ n2_ n3_; clear hb hbox hg; obtain ⟨hcz15_0, hcz15_1, hcz15_2⟩ := c3_9 BK114.1; obtain ⟨hfz15_0, hfz15_1, hfz15_2⟩ := f3_9 BK114.1) | ((with_reducible refine gate_callee (f := 24) rfl ?_); refine goesL_ (some 14) rfl rfl Tryd.func24 (by kernel_rfl) rfl #[.string a0] rfl (by (try simp only [List.map_toArray, List.map_cons, List.map_nil]); first | done | rfl | (simp only [List.length_drop, List.length_take]; rfl)) ?_; (with_reducible refine (vendmeterref_Uncoded.calls k a0 t115 t116 t117 t118 _ A3.out).mono ?_); rintro e w16 ⟨rfl, hb⟩; refine ⟨_, rfl, ?_⟩; have n0_ := Aside0.mk (blk_below (g := gb114) (o := .cells #[.int .i64 t110, .int .i64 t111, .int .i64 t112] 48 (0, 0)) (by (with_reducible repeat (first | apply xn9 | apply xd9 | apply xa9)); refine blk_put (cs := #[.int .i64 t110, .int .i64 t111, .int .i64 0]) ?_ 2 _ rfl; (with_reducible repeat (first | apply xn9 | apply xd9 | apply xa9)); refine blk_put (cs := #[.int .i64 t110, .int .i64 0, .int .i64 0]) ?_ 1 _ rfl; (with_reducible repeat (first | apply xn9 | apply xd9 | apply xa9)); refine blk_put (cs := #[.int .i64 0, .int .i64 0, .int .i64 0]) ?_ 0 _ rfl; (with_reducible repeat (first | apply xn9 | apply xd9 | apply xa9)); exact BK114.1) hb); have n1_ := Aside0.mk (below_step (by with_reducible repeat (first | exact HB.1 | apply ya9 | apply yn9 | apply yd9 | refine below_set ?_ GE114.1)) hb); clear BK114; clear HB; have BK114 := n0_; have HB := n1_; clear n0_ n1_; (try clear hb); (try clear hb2); (try clear hk); (try clear hi)) | ((with_reducible refine gate_dst (N := 5) rfl ?_); refine box_event ?hg (N := 5) ?hd (cs := #[.int .i64 0, .int .i64 0, .int .i64 0]) (t := 48) ?hr ?_; (case hd => rfl); (case hg => rfl); (case hr => first | (go_simp; done) | (go_simp; rfl)); intro gb119 hg w17 hbox hb; have n0_ := Aside0.mk (blk_below (g := gb114) (o := .cells #[.int .i64 t110, .int .i64 t111, .int .i64 t112] 48 (0, 0)) (by (with_reducible repeat (first | apply xn9 | apply xd9 | apply xa9)); exact BK114.1) hb); have n1_ := Aside0.mk (below_step (by with_reducible repeat (first | exact HB.1 | apply ya9 | apply yn9 | apply yd9 | refine below_set ?_ GE114.1)) hb); have n2_ := Aside0.mk (hbox); have n3_ := Aside0.mk ((by rw [hg]; exact (below_size (by with_reducible repeat (first | exact HB.1 | apply ya9 | apply yn9 | apply yd9 | refine below_set ?_ GE114.1))) : w.heap.size ≤ gb119)); have n4_ := n3_; have n5_ := Aside0.mk ((by rw [hg]; exact Nat.ne_of_lt (blk_lt (g := gb114) (o := .cells #[.int .i64 t110, .int .i64 t111, .int .i64 t112] 48 (0, 0)) (by (with_reducible repeat (first | apply xn9 | apply xd9 | apply xa9)); exact BK114.1)) : gb114 ≠ gb119)); have n6_ := Aside0.mk ((by rw [hg]; exact Nat.ne_of_gt (blk_lt (g := gb114) (o := .cells #[.int .i64 t110, .int .i64 t111, .int .i64 t112] 48 (0, 0)) (by (with_reducible repeat (first | apply xn9 | apply xd9 | apply xa9)); exact BK114.1)) : gb119 ≠ gb114)); clear BK114; clear HB; have BK114 := n0_; have HB := n1_; have BK119 := n2_; have GW119 := n3_; have GE119 := n4_; have NB114_119 := n5_; have NB119_114 := n6_; clear n0_ n1_ n2_ n3_ n4_ n5_ n6_; clear hb hbox hg; have hnb18 := NB119_114.1; have hnc18 := NB114_119.1; obtain ⟨hcz19_0, hcz19_1, hcz19_2⟩ := c3_9 BK119.1; obtain ⟨hfz19_0, hfz19_1, hfz19_2⟩ := f3_9 BK119.1; obtain ⟨hcz20_0, hcz20_1, hcz20_2⟩ := c3_9 BK114.1; obtain ⟨hfz20_0, hfz20_1, hfz20_2⟩ := f3_9 BK114.1))
    go_ret
    exact ⟨by first | rfl | (simp [errW_none, errW_some] <;> rfl) | (simp [*, errW_none, errW_some] <;> rfl), by repeat (first | (with_reducible first | exact HB.1 | apply below_alloc | apply pw_below_drewN | apply below_drew1 | refine below_set ?_ GE114.1 | refine below_set ?_ GE119.1) | exact HB.1)⟩

/-- THE ONE PURE STATEMENT of vendmeterlaw_CodeReads: yours. -/
def vendmeterlaw_CodeReads.Pure : Prop := ∀ (a0 : ByteArray), a0.size ≤ 140737488351232 → ∃ k, vendmeterlaw_CodeReads.f k a0 = some true
theorem vendmeterlaw_CodeReads.walk (P : vendmeterlaw_CodeReads.Pure) (a0 : ByteArray) (w : World) (w0 : a0.size ≤ 140737488351232) :
    Calls Tryd.prog 9 #[.string a0] w fun e w' => e = .returned (.bool true) ∧ Below w.heap.size w w' := by
  obtain ⟨k, h⟩ := P a0 w0
  refine (vendmeterlaw_CodeReads.calls k a0 true w h).mono ?_
  rintro e w' ⟨rfl, hd⟩
  exact ⟨rfl, hd⟩

end Go.Proofs.YtoookcmablnjfaaDoor.PCodeReads
