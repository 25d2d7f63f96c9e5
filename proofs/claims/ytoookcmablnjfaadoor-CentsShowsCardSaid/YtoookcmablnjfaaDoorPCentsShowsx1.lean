-- written by this session's program wip/xp/xprint.py (it drives the kit's print and adds to it)
import Derived.Test.YtoookcmablnjfaaDoorPCentsShowsx0
namespace Go.Proofs.YtoookcmablnjfaaDoor.PCentsShows
open Go.RowKit Go.Proofs.YtoookcmablnjfaaDoorW.PrintWords Go.Proofs.YtoookcmablnjfaaDoorW.PrintLast Go.Proofs.YtoookcmablnjfaaDoorW.PrintMore
attribute [local go_sem] max2_int min2_int max_two min_two max_three min_three max_four min_four   -- for this text's walks alone
set_option linter.unusedVariables false
set_option linter.unusedSimpArgs false

/-! ### cents_within: function 40 -/
def cents_within.f (a0 : Int) (a1 : Int) (a2 : Int) : Option (Bool) := if a1 ≤ a0 then (some (decide (a0 ≤ a2))) else (some false)
set_option maxHeartbeats 8000000 in
set_option maxRecDepth 100000 in
theorem cents_within.calls (a0 : Int) (a1 : Int) (a2 : Int) (r : Bool) (w : World) (h : cents_within.f a0 a1 a2 = some r) :
    Calls Tryd.prog 40 #[.int .i64 a0, .int .i64 a1, .int .i64 a2] w fun e w' => e = .returned (.bool r) ∧ Drawn0 w w' := by
  have H : (if a1 ≤ a0 then (some (decide (a0 ≤ a2))) else (some false)) = some r := h
  clear h
  by_cases c4 : a1 ≤ a0
  · rw [if_pos c4] at H
    have c4b0 : decide (a1 ≤ a0) = true := decide_eq_true c4
    clear c4
    obtain rfl := Option.some.inj H
    go_enter Tryd.func40, Tryd.ntmps40
    go_wp2
    go_ret
    exact ⟨by first | rfl | (simp; done) | (simp [*]; done), by repeat (first | exact Drawn0.refl _ | apply Drawn0.step)⟩
  · rw [if_neg c4] at H
    have c4b0 : decide (a1 ≤ a0) = false := decide_eq_false c4
    clear c4
    obtain rfl := Option.some.inj H
    go_enter Tryd.func40, Tryd.ntmps40
    go_wp2
    go_ret
    exact ⟨by first | rfl | (simp; done) | (simp [*]; done), by repeat (first | exact Drawn0.refl _ | apply Drawn0.step)⟩

-- NOT PRINTED: function 128 (strconv_small)

-- NOT PRINTED: function 134 (bits_Len64)

-- NOT PRINTED: function 146 (strconv_log10Pow2)

-- NOT PRINTED: function 147 (strconv_bool2_int)

-- NOT PRINTED: function 129 (strconv_numDigits)

-- NOT PRINTED: function 130 (strconv_formatBase10)

-- NOT PRINTED: function 148 (strconv_isPowerOfTwo)

-- NOT PRINTED: function 151 (bits_TrailingZeros32)

-- NOT PRINTED: function 152 (bits_TrailingZeros64)

-- NOT PRINTED: function 149 (bits_TrailingZeros)

-- NOT PRINTED: function 131 (strconv_formatBits)

-- NOT PRINTED: function 109 (strconv_FormatInt)

-- NOT PRINTED: function 73 (strconv_Itoa_73)

/-- The table of the powers of ten lies in this world. -/
structure LaidW (w : World) : Prop where
  tab : Lib.TabIs Tryd.prog w "internal/strconv.uint64pow10" .u64 Lib.pow10Tab
theorem LaidW.go {w W : World} (h : LaidW w) (hb : Below w.heap.size w W) : LaidW W := by
  have ht := h.tab
  refine ⟨?_⟩
  unfold Lib.TabIs World.var? at *
  cases hg : Tryd.prog.globalNamed "internal/strconv.uint64pow10" with
  | none => simp [hg] at ht
  | some g =>
    simp only [hg, Option.bind_some] at ht ⊢
    have hlt : g < w.heap.size := by
      rcases Nat.lt_or_ge g w.heap.size with h' | h'
      · exact h'
      · rw [Array.getElem?_eq_none h'] at ht; simp at ht
    rw [hb.block g hlt]
    exact ht
theorem grow_below {w : World} : ∀ (l : List Obj) (W : World), Below w.heap.size w W → Below w.heap.size w (Sort.grow W l.toArray)
  | [], W, h => by simpa using h
  | o :: l, W, h => by
    have e : Sort.grow W (o :: l).toArray = Sort.grow (W.alloc o) l.toArray := by rw [Sort.alloc_eq_grow, Sort.grow_grow]; simp
    rw [e]
    exact grow_below l _ (below_alloc h o)
/-! ### strconv_Itoa_41: function 41 (the kit's contract, in the print's shape; its table lies in the world) -/
def strconv_Itoa_41.f (a0 : Int) : Option ByteArray := if -9223372036854775808 ≤ a0 ∧ a0 ≤ 9223372036854775807 then some ⟨(Lib.itoa a0).toArray⟩ else none
theorem strconv_Itoa_41.calls (a0 : Int) (r : ByteArray) (w : World) (HTAB : LaidW w) (h : strconv_Itoa_41.f a0 = some r) :
    Calls Tryd.prog 41 #[.int .i64 a0] w fun e w' => e = .returned (.string r) ∧ Below w.heap.size w w' := by
  unfold strconv_Itoa_41.f at h
  split at h
  · rename_i hc
    obtain rfl := Option.some.inj h
    refine (Tryd.strconv_Itoa a0 hc.1 hc.2 w HTAB.tab).mono (fun e w' hh => ⟨hh.1, ?_⟩)
    obtain ⟨k, os, rfl⟩ := hh.2
    have hg := grow_below os.toList (w.drewN k) (pw_below_drewN (Below.refl w.heap.size w) k)
    rwa [Array.toArray_toList] at hg
  · cases h

/-! ### cents_Show: function 12 -/
theorem xa12 {w : World} {g : Nat} {o : Obj} (h : w.heap[g]? = some o) (o' : Obj) : (w.alloc o').heap[g]? = some o := blk_alloc h o'
theorem xd12 {w : World} {g : Nat} {o : Obj} (h : w.heap[g]? = some o) : w.drew.heap[g]? = some o := blk_drew h
theorem xn12 {w : World} {g : Nat} {o : Obj} (h : w.heap[g]? = some o) (n : Nat) : (w.drewN n).heap[g]? = some o := blk_drewN h n
theorem ya12 {w W : World} (h : Below w.heap.size w W) (o : Obj) : Below w.heap.size w (W.alloc o) := below_alloc h o
theorem yn12 {B : Nat} {w W : World} (h : Below B w W) (n : Nat) : Below B w (W.drewN n) := pw_below_drewN h n
theorem yd12 {B : Nat} {w W : World} (h : Below B w W) : Below B w W.drew := below_drew1 h
def cents_Show.f (a0 : Int) : Option (ByteArray × Int) := (cents_within.f a0 (-1000000000000) 1000000000000).bind fun t101 => (if t101 = true then (if a0 < 0 then ((strconv_Itoa_41.f (wrap64 (100 + (Int.tmod (wrap64 (-a0)) 100)))).bind fun t102 => ((strconv_Itoa_41.f (wrap64 (Int.tdiv (wrap64 (-a0)) 100))).bind fun t103 => (if 1 + t103.size ≤ 9223372036854775807 then (if ((⟨#[45]⟩ : ByteArray) ++ t103).size + 1 ≤ 9223372036854775807 then (if 1 ≤ (t102.size : Int) then (if (((⟨#[45]⟩ : ByteArray) ++ t103) ++ (⟨#[46]⟩ : ByteArray)).size + (t102.extract 1 t102.size).size ≤ 9223372036854775807 then (some ((((⟨#[45]⟩ : ByteArray) ++ t103) ++ (⟨#[46]⟩ : ByteArray)) ++ (t102.extract 1 t102.size), 0)) else (none)) else (none)) else (none)) else (none)))) else ((strconv_Itoa_41.f (wrap64 (100 + (Int.tmod a0 100)))).bind fun t104 => ((strconv_Itoa_41.f (wrap64 (Int.tdiv a0 100))).bind fun t105 => (if 0 + t105.size ≤ 9223372036854775807 then (if ((⟨#[]⟩ : ByteArray) ++ t105).size + 1 ≤ 9223372036854775807 then (if 1 ≤ (t104.size : Int) then (if (((⟨#[]⟩ : ByteArray) ++ t105) ++ (⟨#[46]⟩ : ByteArray)).size + (t104.extract 1 t104.size).size ≤ 9223372036854775807 then (some ((((⟨#[]⟩ : ByteArray) ++ t105) ++ (⟨#[46]⟩ : ByteArray)) ++ (t104.extract 1 t104.size), 0)) else (none)) else (none)) else (none)) else (none))))) else (some ((⟨#[]⟩ : ByteArray), 2)))
def cents_Show.T7 : Bool × List (List Nat × List Nat) := (true, [([], []), ([], []), ([1], [1]), ([2], [2]), ([0, 3], [0, 3]), ([4], [4]), ([], []), ([6], [6]), ([5, 7], [5, 7]), ([8, 3, 0, 1, 2, 3, 4, 5, 6, 7, 8], [8]), ([9, 0, 1, 2, 3, 4, 5, 6, 7, 8, 9], [])])
def cents_Show.B7 : List Nat := [0, 0, 2, 6, 15, 31, 0, 64, 255, 511, 1023]
theorem cents_Show.tab7 : rtab .any (opsOf Tryd.f12 7) = cents_Show.T7 := by kernel_rfl
theorem cents_Show.bits7 : waitsOk cents_Show.T7.2 cents_Show.B7 = true := by kernel_rfl
set_option maxHeartbeats 8000000 in
set_option maxRecDepth 100000 in
theorem cents_Show.calls (a0 : Int) (r1 : ByteArray) (r2 : Int) (w : World) (HTAB : LaidW w) (h : cents_Show.f a0 = some (r1, r2)) :
    Calls Tryd.prog 12 #[.int .i64 a0] w fun e w' => e = .returned (.tuple #[.string r1, .int .i64 r2]) ∧ Below w.heap.size w w' := by
  have HB := Aside0.mk (Below.refl w.heap.size w)
  have H : ((cents_within.f a0 (-1000000000000) 1000000000000).bind fun t101 => (if t101 = true then (if a0 < 0 then ((strconv_Itoa_41.f (wrap64 (100 + (Int.tmod (wrap64 (-a0)) 100)))).bind fun t102 => ((strconv_Itoa_41.f (wrap64 (Int.tdiv (wrap64 (-a0)) 100))).bind fun t103 => (if 1 + t103.size ≤ 9223372036854775807 then (if ((⟨#[45]⟩ : ByteArray) ++ t103).size + 1 ≤ 9223372036854775807 then (if 1 ≤ (t102.size : Int) then (if (((⟨#[45]⟩ : ByteArray) ++ t103) ++ (⟨#[46]⟩ : ByteArray)).size + (t102.extract 1 t102.size).size ≤ 9223372036854775807 then (some ((((⟨#[45]⟩ : ByteArray) ++ t103) ++ (⟨#[46]⟩ : ByteArray)) ++ (t102.extract 1 t102.size), 0)) else (none)) else (none)) else (none)) else (none)))) else ((strconv_Itoa_41.f (wrap64 (100 + (Int.tmod a0 100)))).bind fun t104 => ((strconv_Itoa_41.f (wrap64 (Int.tdiv a0 100))).bind fun t105 => (if 0 + t105.size ≤ 9223372036854775807 then (if ((⟨#[]⟩ : ByteArray) ++ t105).size + 1 ≤ 9223372036854775807 then (if 1 ≤ (t104.size : Int) then (if (((⟨#[]⟩ : ByteArray) ++ t105) ++ (⟨#[46]⟩ : ByteArray)).size + (t104.extract 1 t104.size).size ≤ 9223372036854775807 then (some ((((⟨#[]⟩ : ByteArray) ++ t105) ++ (⟨#[46]⟩ : ByteArray)) ++ (t104.extract 1 t104.size), 0)) else (none)) else (none)) else (none)) else (none))))) else (some ((⟨#[]⟩ : ByteArray), 2)))) = some (r1, r2) := h
  clear h
  replace H := Option.bind_eq_some_iff.mp H
  obtain ⟨t101, A20, H⟩ := H
  replace H : (if t101 = true then (if a0 < 0 then ((strconv_Itoa_41.f (wrap64 (100 + (Int.tmod (wrap64 (-a0)) 100)))).bind fun t102 => ((strconv_Itoa_41.f (wrap64 (Int.tdiv (wrap64 (-a0)) 100))).bind fun t103 => (if 1 + t103.size ≤ 9223372036854775807 then (if ((⟨#[45]⟩ : ByteArray) ++ t103).size + 1 ≤ 9223372036854775807 then (if 1 ≤ (t102.size : Int) then (if (((⟨#[45]⟩ : ByteArray) ++ t103) ++ (⟨#[46]⟩ : ByteArray)).size + (t102.extract 1 t102.size).size ≤ 9223372036854775807 then (some ((((⟨#[45]⟩ : ByteArray) ++ t103) ++ (⟨#[46]⟩ : ByteArray)) ++ (t102.extract 1 t102.size), 0)) else (none)) else (none)) else (none)) else (none)))) else ((strconv_Itoa_41.f (wrap64 (100 + (Int.tmod a0 100)))).bind fun t104 => ((strconv_Itoa_41.f (wrap64 (Int.tdiv a0 100))).bind fun t105 => (if 0 + t105.size ≤ 9223372036854775807 then (if ((⟨#[]⟩ : ByteArray) ++ t105).size + 1 ≤ 9223372036854775807 then (if 1 ≤ (t104.size : Int) then (if (((⟨#[]⟩ : ByteArray) ++ t105) ++ (⟨#[46]⟩ : ByteArray)).size + (t104.extract 1 t104.size).size ≤ 9223372036854775807 then (some ((((⟨#[]⟩ : ByteArray) ++ t105) ++ (⟨#[46]⟩ : ByteArray)) ++ (t104.extract 1 t104.size), 0)) else (none)) else (none)) else (none)) else (none))))) else (some ((⟨#[]⟩ : ByteArray), 2))) = some (r1, r2) := H
  have A2 := Aside0.mk A20
  clear A20
  by_cases c3 : t101 = true
  · subst c3
    have H1 : (if a0 < 0 then ((strconv_Itoa_41.f (wrap64 (100 + (Int.tmod (wrap64 (-a0)) 100)))).bind fun t102 => ((strconv_Itoa_41.f (wrap64 (Int.tdiv (wrap64 (-a0)) 100))).bind fun t103 => (if 1 + t103.size ≤ 9223372036854775807 then (if ((⟨#[45]⟩ : ByteArray) ++ t103).size + 1 ≤ 9223372036854775807 then (if 1 ≤ (t102.size : Int) then (if (((⟨#[45]⟩ : ByteArray) ++ t103) ++ (⟨#[46]⟩ : ByteArray)).size + (t102.extract 1 t102.size).size ≤ 9223372036854775807 then (some ((((⟨#[45]⟩ : ByteArray) ++ t103) ++ (⟨#[46]⟩ : ByteArray)) ++ (t102.extract 1 t102.size), 0)) else (none)) else (none)) else (none)) else (none)))) else ((strconv_Itoa_41.f (wrap64 (100 + (Int.tmod a0 100)))).bind fun t104 => ((strconv_Itoa_41.f (wrap64 (Int.tdiv a0 100))).bind fun t105 => (if 0 + t105.size ≤ 9223372036854775807 then (if ((⟨#[]⟩ : ByteArray) ++ t105).size + 1 ≤ 9223372036854775807 then (if 1 ≤ (t104.size : Int) then (if (((⟨#[]⟩ : ByteArray) ++ t105) ++ (⟨#[46]⟩ : ByteArray)).size + (t104.extract 1 t104.size).size ≤ 9223372036854775807 then (some ((((⟨#[]⟩ : ByteArray) ++ t105) ++ (⟨#[46]⟩ : ByteArray)) ++ (t104.extract 1 t104.size), 0)) else (none)) else (none)) else (none)) else (none))))) = some (r1, r2) := by rw [if_pos rfl] at H; exact H
    clear H
    have H := H1
    clear H1
    by_cases c4 : a0 < 0
    · rw [if_pos c4] at H
      have c4b0 : decide (a0 < 0) = true := decide_eq_true c4
      clear c4
      replace H := Option.bind_eq_some_iff.mp H
      obtain ⟨t102, A50, H⟩ := H
      replace H : ((strconv_Itoa_41.f (wrap64 (Int.tdiv (wrap64 (-a0)) 100))).bind fun t103 => (if 1 + t103.size ≤ 9223372036854775807 then (if ((⟨#[45]⟩ : ByteArray) ++ t103).size + 1 ≤ 9223372036854775807 then (if 1 ≤ (t102.size : Int) then (if (((⟨#[45]⟩ : ByteArray) ++ t103) ++ (⟨#[46]⟩ : ByteArray)).size + (t102.extract 1 t102.size).size ≤ 9223372036854775807 then (some ((((⟨#[45]⟩ : ByteArray) ++ t103) ++ (⟨#[46]⟩ : ByteArray)) ++ (t102.extract 1 t102.size), 0)) else (none)) else (none)) else (none)) else (none))) = some (r1, r2) := H
      have A5 := Aside0.mk A50
      clear A50
      replace H := Option.bind_eq_some_iff.mp H
      obtain ⟨t103, A60, H⟩ := H
      replace H : (if 1 + t103.size ≤ 9223372036854775807 then (if ((⟨#[45]⟩ : ByteArray) ++ t103).size + 1 ≤ 9223372036854775807 then (if 1 ≤ (t102.size : Int) then (if (((⟨#[45]⟩ : ByteArray) ++ t103) ++ (⟨#[46]⟩ : ByteArray)).size + (t102.extract 1 t102.size).size ≤ 9223372036854775807 then (some ((((⟨#[45]⟩ : ByteArray) ++ t103) ++ (⟨#[46]⟩ : ByteArray)) ++ (t102.extract 1 t102.size), 0)) else (none)) else (none)) else (none)) else (none)) = some (r1, r2) := H
      have A6 := Aside0.mk A60
      clear A60
      by_cases c7 : 1 + t103.size ≤ 9223372036854775807
      · rw [if_pos c7] at H
        have c7b0 := eq_true c7
        have c7b1 : decide (1 + t103.size ≤ 9223372036854775807) = true := decide_eq_true c7
        try have c7b2 : (9223372036854775807 < 1 + t103.size) = False := eq_false (Nat.not_lt.2 c7)
        by_cases c8 : ((⟨#[45]⟩ : ByteArray) ++ t103).size + 1 ≤ 9223372036854775807
        · rw [if_pos c8] at H
          have c8b0 := eq_true c8
          have c8b1 : decide (((⟨#[45]⟩ : ByteArray) ++ t103).size + 1 ≤ 9223372036854775807) = true := decide_eq_true c8
          try have c8b2 : (9223372036854775807 < ((⟨#[45]⟩ : ByteArray) ++ t103).size + 1) = False := eq_false (Nat.not_lt.2 c8)
          try have c8b3 : (9223372036854775807 < 1 + t103.size + 1) = False := eq_false (by have l0_ : (⟨#[45]⟩ : ByteArray).size = 1 := rfl; have z_ := c8; (try simp only [ByteArray.size_append, ByteArray.size_extract, Nat.min_self] at z_); omega)
          try have c8b4 : (1 + t103.size + 1 ≤ 9223372036854775807) = True := eq_true (by have l0_ : (⟨#[45]⟩ : ByteArray).size = 1 := rfl; have z_ := c8; (try simp only [ByteArray.size_append, ByteArray.size_extract, Nat.min_self] at z_); omega)
          by_cases c9 : 1 ≤ (t102.size : Int)
          · rw [if_pos c9] at H
            have c9b0 := eq_true c9
            have c9b1 : decide (1 ≤ (t102.size : Int)) = true := decide_eq_true c9
            clear c9
            by_cases c10 : (((⟨#[45]⟩ : ByteArray) ++ t103) ++ (⟨#[46]⟩ : ByteArray)).size + (t102.extract 1 t102.size).size ≤ 9223372036854775807
            · rw [if_pos c10] at H
              have c10b0 := eq_true c10
              have c10b1 : decide ((((⟨#[45]⟩ : ByteArray) ++ t103) ++ (⟨#[46]⟩ : ByteArray)).size + (t102.extract 1 t102.size).size ≤ 9223372036854775807) = true := decide_eq_true c10
              try have c10b2 : (9223372036854775807 < (((⟨#[45]⟩ : ByteArray) ++ t103) ++ (⟨#[46]⟩ : ByteArray)).size + (t102.extract 1 t102.size).size) = False := eq_false (Nat.not_lt.2 c10)
              try have c10b3 : (9223372036854775807 < 1 + t103.size + 1 + (t102.size - 1)) = False := eq_false (by have l0_ : (⟨#[45]⟩ : ByteArray).size = 1 := rfl; have l1_ : (⟨#[46]⟩ : ByteArray).size = 1 := rfl; have z_ := c10; (try simp only [ByteArray.size_append, ByteArray.size_extract, Nat.min_self] at z_); omega)
              try have c10b4 : (1 + t103.size + 1 + (t102.size - 1) ≤ 9223372036854775807) = True := eq_true (by have l0_ : (⟨#[45]⟩ : ByteArray).size = 1 := rfl; have l1_ : (⟨#[46]⟩ : ByteArray).size = 1 := rfl; have z_ := c10; (try simp only [ByteArray.size_append, ByteArray.size_extract, Nat.min_self] at z_); omega)
              simp only [Option.some.injEq, Prod.mk.injEq] at H
              obtain ⟨rfl, rfl⟩ := H
              go_enter Tryd.func12, Tryd.ntmps12
              try go_wp2_with (first | ((with_reducible refine gate_callee (f := 40) rfl ?_); refine goesL_ (some 7) rfl rfl Tryd.func40 (by kernel_rfl) rfl #[.int .i64 a0, .int .i64 (-1000000000000), .int .i64 1000000000000] rfl (by (try simp only [List.map_toArray, List.map_cons, List.map_nil]); first | done | rfl | (simp only [List.length_drop, List.length_take]; rfl)) ?_; (with_reducible refine (cents_within.calls a0 (-1000000000000) 1000000000000 true _ A2.out).mono ?_); rintro e w' ⟨rfl, ⟨nd, rfl⟩⟩; refine ⟨_, rfl, ?_⟩) | ((with_reducible refine gate_callee (f := 41) rfl ?_); refine goesL_ (some 16) rfl rfl Tryd.func41 (by kernel_rfl) rfl #[.int .i64 (wrap64 (100 + (Int.tmod (wrap64 (-a0)) 100)))] rfl (by (try simp only [List.map_toArray, List.map_cons, List.map_nil]); first | done | rfl | (simp only [List.length_drop, List.length_take]; rfl)) ?_; (with_reducible refine (strconv_Itoa_41.calls (wrap64 (100 + (Int.tmod (wrap64 (-a0)) 100))) t102 _ (HTAB.go (by repeat (first | (with_reducible first | exact HB.1 | exact Below.refl _ _ | apply below_alloc | apply pw_below_drewN | apply below_drew1) | exact HB.1))) A5.out).mono ?_); rintro e w11 ⟨rfl, hb⟩; refine ⟨_, rfl, ?_⟩; have n0_ := Aside0.mk (below_step (by with_reducible repeat (first | exact HB.1 | apply ya12 | apply yn12 | apply yd12)) hb); clear HB; have HB := n0_; clear n0_; (try clear hb); (try clear hb2); (try clear hk); (try clear hi)))
              have n0_ := Aside0.mk (below_drew1 HB.1)
              clear HB
              have HB := n0_
              clear n0_
              refine start_ (n := 11) (S := fun w' => True) (ds := []) #[false, false, false, false, false, false, false, false, false, false, false] (by kernel_rfl) rfl rfl trivial (fun hHeld => ?_); refine with_tabW cents_Show.tab7 cents_Show.bits7 (fun HT_ HW_ => ?_)
              generalize w11.drew = w12 at HB hHeld ⊢
              refine pure_ (i := 0) (N := some 17) (v := ?_) (a' := ?_) #[true, false, false, false, false, false, false, false, false, false, false] rfl rfl (any_of HT_.out (by kernel_rfl)) (fun _ _ _ h => h) (Or.inl ⟨by rfl, ?_⟩) ?_ ?_
              rotate_left
              · intro w'
                go_simp
                with_reducible rfl
              rotate_left
              · simp only [Act.put, List.setIfInBounds_toArray, List.set_cons_zero, List.set_cons_succ, i64_w, i32_w]
                rfl
              refine pure_ (i := 1) (N := some 18) (v := ?_) (a' := ?_) #[true, true, false, false, false, false, false, false, false, false, false] rfl rfl (any_of HT_.out (by kernel_rfl)) (fun _ _ _ h => h) (Or.inl ⟨by rfl, ?_⟩) ?_ ?_
              rotate_left
              · intro w'
                go_simp
                with_reducible rfl
              rotate_left
              · simp only [Act.put, List.setIfInBounds_toArray, List.set_cons_zero, List.set_cons_succ, i64_w, i32_w]
                rfl
              refine pure_ (i := 2) (N := some 19) (v := ?_) (a' := ?_) #[true, true, true, false, false, false, false, false, false, false, false] rfl rfl (any_of HT_.out (by kernel_rfl)) (fun _ _ _ h => h) (Or.inl ⟨by rfl, ?_⟩) ?_ ?_
              rotate_left
              · intro w'
                go_simp
                with_reducible rfl
              rotate_left
              · simp only [Act.put, List.setIfInBounds_toArray, List.set_cons_zero, List.set_cons_succ, i64_w, i32_w]
                rfl
              refine pure_ (i := 6) (N := some 23) (v := ?_) (a' := ?_) #[true, true, true, false, false, false, true, false, false, false, false] rfl rfl (any_of HT_.out (by kernel_rfl)) (fun _ _ _ h => h) (Or.inl ⟨by rfl, ?_⟩) ?_ ?_
              rotate_left
              · intro w'
                go_simp
                with_reducible rfl
              rotate_left
              · simp only [Act.put, List.setIfInBounds_toArray, List.set_cons_zero, List.set_cons_succ, i64_w, i32_w]
                rfl
              refine pure_ (i := 7) (N := some 24) (v := ?_) (a' := ?_) #[true, true, true, false, false, false, true, true, false, false, false] rfl rfl (any_of HT_.out (by kernel_rfl)) (fun _ _ _ h => h) (Or.inl ⟨by rfl, ?_⟩) ?_ ?_
              rotate_left
              · intro w'
                go_simp
                with_reducible rfl
              rotate_left
              · simp only [Act.put, List.setIfInBounds_toArray, List.set_cons_zero, List.set_cons_succ, i64_w, i32_w]
                rfl
              refine one_ (i := 3) (N := some 20) #[true, true, true, true, false, false, true, true, false, false, false] rfl rfl (one_of HT_.out (by kernel_rfl)) (by decide) (fun K hK => ?_)
              refine goes_ Tryd.func41 (by kernel_rfl) rfl #[.int .i64 (wrap64 (Int.tdiv (wrap64 (-a0)) 100))] (by rfl) rfl rfl (by (try simp only [List.map_toArray, List.map_cons, List.map_nil]); first | done | rfl | (simp only [List.length_drop, List.length_take]; rfl)) ?_
              with_reducible refine (strconv_Itoa_41.calls (wrap64 (Int.tdiv (wrap64 (-a0)) 100)) t103 _ (HTAB.go (by repeat (first | (with_reducible first | exact HB.1 | exact Below.refl _ _ | apply below_alloc | apply pw_below_drewN | apply below_drew1) | exact HB.1))) A6.out).mono ?_
              rintro e w13 ⟨rfl, hb⟩
              refine ⟨_, rfl, ?_⟩
              have n0_ := Aside0.mk (below_step (by with_reducible repeat (first | exact HB.1 | apply ya12 | apply yn12 | apply yd12)) hb)
              clear HB
              have HB := n0_
              clear n0_
              (try clear hb)
              (try clear hb2)
              (try clear hk)
              (try clear hi)
              refine hK.out _ _ trivial (fun hHeld => ?_)
              clear hK K
              refine norm_ (a' := ?_) ?_ ?_
              rotate_left
              · show Act.put _ (some 20) _ = _
                simp only [Act.put, List.setIfInBounds_toArray, List.set_cons_zero, List.set_cons_succ, i64_w, i32_w]
                rfl
              refine pure_ (i := 4) (N := some 21) (v := ?_) (a' := ?_) #[true, true, true, true, true, false, true, true, false, false, false] rfl rfl (any_of HT_.out (by kernel_rfl)) (fun _ _ _ h => h) (Or.inl ⟨by rfl, ?_⟩) ?_ ?_
              rotate_left
              · intro w'
                go_simp
                with_reducible rfl
              rotate_left
              · simp only [Act.put, List.setIfInBounds_toArray, List.set_cons_zero, List.set_cons_succ, i64_w, i32_w]
                rfl
              refine pure_ (i := 5) (N := some 22) (v := ?_) (a' := ?_) #[true, true, true, true, true, true, true, true, false, false, false] rfl rfl (any_of HT_.out (by kernel_rfl)) (fun _ _ _ h => h) (Or.inl ⟨by rfl, ?_⟩) ?_ ?_
              rotate_left
              · intro w'
                go_simp
                with_reducible rfl
              rotate_left
              · simp only [Act.put, List.setIfInBounds_toArray, List.set_cons_zero, List.set_cons_succ, i64_w, i32_w]
                rfl
              refine pure_ (i := 8) (N := some 25) (v := ?_) (a' := ?_) #[true, true, true, true, true, true, true, true, true, false, false] rfl rfl (any_of HT_.out (by kernel_rfl)) (fun _ _ _ h => h) (Or.inl ⟨by rfl, ?_⟩) ?_ ?_
              rotate_left
              · intro w'
                go_simp
                with_reducible rfl
              rotate_left
              · simp only [Act.put, List.setIfInBounds_toArray, List.set_cons_zero, List.set_cons_succ, i64_w, i32_w]
                rfl
              refine pure_ (i := 9) (N := some 2) (v := ?_) (a' := ?_) #[true, true, true, true, true, true, true, true, true, true, false] rfl rfl (any_of HT_.out (by kernel_rfl)) (fun _ _ _ h => h) (Or.inl ⟨by rfl, ?_⟩) ?_ ?_
              rotate_left
              · intro w'
                go_simp
                with_reducible rfl
              rotate_left
              · simp only [Act.put, List.setIfInBounds_toArray, List.set_cons_zero, List.set_cons_succ, i64_w, i32_w]
                rfl
              refine pure_ (i := 10) (N := some 3) (v := ?_) (a' := ?_) #[true, true, true, true, true, true, true, true, true, true, true] rfl rfl (any_of HT_.out (by kernel_rfl)) (fun _ _ _ h => h) (Or.inl ⟨by rfl, ?_⟩) ?_ ?_
              rotate_left
              · intro w'
                go_simp
                with_reducible rfl
              rotate_left
              · simp only [Act.put, List.setIfInBounds_toArray, List.set_cons_zero, List.set_cons_succ, i64_w, i32_w]
                rfl
              refine done_ (done_of HT_.out (by kernel_rfl)) ?_
              try go_wp2
              go_ret2
              exact ⟨by first | rfl | (simp [errW_none, errW_some] <;> rfl) | (simp [*, errW_none, errW_some] <;> rfl), by repeat (first | (with_reducible first | exact HB.1 | apply below_alloc | apply pw_below_drewN | apply below_drew1) | exact HB.1)⟩
            · rw [if_neg c10] at H
              exact absurd H (by simp)
          · rw [if_neg c9] at H
            exact absurd H (by simp)
        · rw [if_neg c8] at H
          exact absurd H (by simp)
      · rw [if_neg c7] at H
        exact absurd H (by simp)
    · rw [if_neg c4] at H
      have c4b0 : decide (a0 < 0) = false := decide_eq_false c4
      clear c4
      replace H := Option.bind_eq_some_iff.mp H
      obtain ⟨t104, A140, H⟩ := H
      replace H : ((strconv_Itoa_41.f (wrap64 (Int.tdiv a0 100))).bind fun t105 => (if 0 + t105.size ≤ 9223372036854775807 then (if ((⟨#[]⟩ : ByteArray) ++ t105).size + 1 ≤ 9223372036854775807 then (if 1 ≤ (t104.size : Int) then (if (((⟨#[]⟩ : ByteArray) ++ t105) ++ (⟨#[46]⟩ : ByteArray)).size + (t104.extract 1 t104.size).size ≤ 9223372036854775807 then (some ((((⟨#[]⟩ : ByteArray) ++ t105) ++ (⟨#[46]⟩ : ByteArray)) ++ (t104.extract 1 t104.size), 0)) else (none)) else (none)) else (none)) else (none))) = some (r1, r2) := H
      have A14 := Aside0.mk A140
      clear A140
      replace H := Option.bind_eq_some_iff.mp H
      obtain ⟨t105, A150, H⟩ := H
      replace H : (if 0 + t105.size ≤ 9223372036854775807 then (if ((⟨#[]⟩ : ByteArray) ++ t105).size + 1 ≤ 9223372036854775807 then (if 1 ≤ (t104.size : Int) then (if (((⟨#[]⟩ : ByteArray) ++ t105) ++ (⟨#[46]⟩ : ByteArray)).size + (t104.extract 1 t104.size).size ≤ 9223372036854775807 then (some ((((⟨#[]⟩ : ByteArray) ++ t105) ++ (⟨#[46]⟩ : ByteArray)) ++ (t104.extract 1 t104.size), 0)) else (none)) else (none)) else (none)) else (none)) = some (r1, r2) := H
      have A15 := Aside0.mk A150
      clear A150
      by_cases c16 : 0 + t105.size ≤ 9223372036854775807
      · rw [if_pos c16] at H
        have c16b0 := eq_true c16
        have c16b1 : decide (0 + t105.size ≤ 9223372036854775807) = true := decide_eq_true c16
        try have c16b2 : (9223372036854775807 < 0 + t105.size) = False := eq_false (Nat.not_lt.2 c16)
        try have c16b3 : (9223372036854775807 < t105.size) = False := eq_false (by have z_ := c16; (try simp only [ByteArray.size_append, ByteArray.size_extract, Nat.min_self] at z_); omega)
        try have c16b4 : (t105.size ≤ 9223372036854775807) = True := eq_true (by have z_ := c16; (try simp only [ByteArray.size_append, ByteArray.size_extract, Nat.min_self] at z_); omega)
        by_cases c17 : ((⟨#[]⟩ : ByteArray) ++ t105).size + 1 ≤ 9223372036854775807
        · rw [if_pos c17] at H
          have c17b0 := eq_true c17
          have c17b1 : decide (((⟨#[]⟩ : ByteArray) ++ t105).size + 1 ≤ 9223372036854775807) = true := decide_eq_true c17
          try have c17b2 : (9223372036854775807 < ((⟨#[]⟩ : ByteArray) ++ t105).size + 1) = False := eq_false (Nat.not_lt.2 c17)
          try have c17b3 : (9223372036854775807 < t105.size + 1) = False := eq_false (by have l0_ : (⟨#[]⟩ : ByteArray).size = 0 := rfl; have z_ := c17; (try simp only [ByteArray.size_append, ByteArray.size_extract, Nat.min_self] at z_); omega)
          try have c17b4 : (t105.size + 1 ≤ 9223372036854775807) = True := eq_true (by have l0_ : (⟨#[]⟩ : ByteArray).size = 0 := rfl; have z_ := c17; (try simp only [ByteArray.size_append, ByteArray.size_extract, Nat.min_self] at z_); omega)
          by_cases c18 : 1 ≤ (t104.size : Int)
          · rw [if_pos c18] at H
            have c18b0 := eq_true c18
            have c18b1 : decide (1 ≤ (t104.size : Int)) = true := decide_eq_true c18
            clear c18
            by_cases c19 : (((⟨#[]⟩ : ByteArray) ++ t105) ++ (⟨#[46]⟩ : ByteArray)).size + (t104.extract 1 t104.size).size ≤ 9223372036854775807
            · rw [if_pos c19] at H
              have c19b0 := eq_true c19
              have c19b1 : decide ((((⟨#[]⟩ : ByteArray) ++ t105) ++ (⟨#[46]⟩ : ByteArray)).size + (t104.extract 1 t104.size).size ≤ 9223372036854775807) = true := decide_eq_true c19
              try have c19b2 : (9223372036854775807 < (((⟨#[]⟩ : ByteArray) ++ t105) ++ (⟨#[46]⟩ : ByteArray)).size + (t104.extract 1 t104.size).size) = False := eq_false (Nat.not_lt.2 c19)
              try have c19b3 : (9223372036854775807 < t105.size + 1 + (t104.size - 1)) = False := eq_false (by have l0_ : (⟨#[46]⟩ : ByteArray).size = 1 := rfl; have l1_ : (⟨#[]⟩ : ByteArray).size = 0 := rfl; have z_ := c19; (try simp only [ByteArray.size_append, ByteArray.size_extract, Nat.min_self] at z_); omega)
              try have c19b4 : (t105.size + 1 + (t104.size - 1) ≤ 9223372036854775807) = True := eq_true (by have l0_ : (⟨#[46]⟩ : ByteArray).size = 1 := rfl; have l1_ : (⟨#[]⟩ : ByteArray).size = 0 := rfl; have z_ := c19; (try simp only [ByteArray.size_append, ByteArray.size_extract, Nat.min_self] at z_); omega)
              simp only [Option.some.injEq, Prod.mk.injEq] at H
              obtain ⟨rfl, rfl⟩ := H
              go_enter Tryd.func12, Tryd.ntmps12
              try go_wp2_with (first | ((with_reducible refine gate_callee (f := 40) rfl ?_); refine goesL_ (some 7) rfl rfl Tryd.func40 (by kernel_rfl) rfl #[.int .i64 a0, .int .i64 (-1000000000000), .int .i64 1000000000000] rfl (by (try simp only [List.map_toArray, List.map_cons, List.map_nil]); first | done | rfl | (simp only [List.length_drop, List.length_take]; rfl)) ?_; (with_reducible refine (cents_within.calls a0 (-1000000000000) 1000000000000 true _ A2.out).mono ?_); rintro e w' ⟨rfl, ⟨nd, rfl⟩⟩; refine ⟨_, rfl, ?_⟩) | ((with_reducible refine gate_callee (f := 41) rfl ?_); refine goesL_ (some 16) rfl rfl Tryd.func41 (by kernel_rfl) rfl #[.int .i64 (wrap64 (100 + (Int.tmod a0 100)))] rfl (by (try simp only [List.map_toArray, List.map_cons, List.map_nil]); first | done | rfl | (simp only [List.length_drop, List.length_take]; rfl)) ?_; (with_reducible refine (strconv_Itoa_41.calls (wrap64 (100 + (Int.tmod a0 100))) t104 _ (HTAB.go (by repeat (first | (with_reducible first | exact HB.1 | exact Below.refl _ _ | apply below_alloc | apply pw_below_drewN | apply below_drew1) | exact HB.1))) A14.out).mono ?_); rintro e w20 ⟨rfl, hb⟩; refine ⟨_, rfl, ?_⟩; have n0_ := Aside0.mk (below_step (by with_reducible repeat (first | exact HB.1 | apply ya12 | apply yn12 | apply yd12)) hb); clear HB; have HB := n0_; clear n0_; (try clear hb); (try clear hb2); (try clear hk); (try clear hi)))
              have n0_ := Aside0.mk (below_drew1 HB.1)
              clear HB
              have HB := n0_
              clear n0_
              refine start_ (n := 11) (S := fun w' => True) (ds := []) #[false, false, false, false, false, false, false, false, false, false, false] (by kernel_rfl) rfl rfl trivial (fun hHeld => ?_); refine with_tabW cents_Show.tab7 cents_Show.bits7 (fun HT_ HW_ => ?_)
              generalize w20.drew = w21 at HB hHeld ⊢
              refine pure_ (i := 0) (N := some 17) (v := ?_) (a' := ?_) #[true, false, false, false, false, false, false, false, false, false, false] rfl rfl (any_of HT_.out (by kernel_rfl)) (fun _ _ _ h => h) (Or.inl ⟨by rfl, ?_⟩) ?_ ?_
              rotate_left
              · intro w'
                go_simp
                with_reducible rfl
              rotate_left
              · simp only [Act.put, List.setIfInBounds_toArray, List.set_cons_zero, List.set_cons_succ, i64_w, i32_w]
                rfl
              refine pure_ (i := 1) (N := some 18) (v := ?_) (a' := ?_) #[true, true, false, false, false, false, false, false, false, false, false] rfl rfl (any_of HT_.out (by kernel_rfl)) (fun _ _ _ h => h) (Or.inl ⟨by rfl, ?_⟩) ?_ ?_
              rotate_left
              · intro w'
                go_simp
                with_reducible rfl
              rotate_left
              · simp only [Act.put, List.setIfInBounds_toArray, List.set_cons_zero, List.set_cons_succ, i64_w, i32_w]
                rfl
              refine pure_ (i := 2) (N := some 19) (v := ?_) (a' := ?_) #[true, true, true, false, false, false, false, false, false, false, false] rfl rfl (any_of HT_.out (by kernel_rfl)) (fun _ _ _ h => h) (Or.inl ⟨by rfl, ?_⟩) ?_ ?_
              rotate_left
              · intro w'
                go_simp
                with_reducible rfl
              rotate_left
              · simp only [Act.put, List.setIfInBounds_toArray, List.set_cons_zero, List.set_cons_succ, i64_w, i32_w]
                rfl
              refine pure_ (i := 6) (N := some 23) (v := ?_) (a' := ?_) #[true, true, true, false, false, false, true, false, false, false, false] rfl rfl (any_of HT_.out (by kernel_rfl)) (fun _ _ _ h => h) (Or.inl ⟨by rfl, ?_⟩) ?_ ?_
              rotate_left
              · intro w'
                go_simp
                with_reducible rfl
              rotate_left
              · simp only [Act.put, List.setIfInBounds_toArray, List.set_cons_zero, List.set_cons_succ, i64_w, i32_w]
                rfl
              refine pure_ (i := 7) (N := some 24) (v := ?_) (a' := ?_) #[true, true, true, false, false, false, true, true, false, false, false] rfl rfl (any_of HT_.out (by kernel_rfl)) (fun _ _ _ h => h) (Or.inl ⟨by rfl, ?_⟩) ?_ ?_
              rotate_left
              · intro w'
                go_simp
                with_reducible rfl
              rotate_left
              · simp only [Act.put, List.setIfInBounds_toArray, List.set_cons_zero, List.set_cons_succ, i64_w, i32_w]
                rfl
              refine one_ (i := 3) (N := some 20) #[true, true, true, true, false, false, true, true, false, false, false] rfl rfl (one_of HT_.out (by kernel_rfl)) (by decide) (fun K hK => ?_)
              refine goes_ Tryd.func41 (by kernel_rfl) rfl #[.int .i64 (wrap64 (Int.tdiv a0 100))] (by rfl) rfl rfl (by (try simp only [List.map_toArray, List.map_cons, List.map_nil]); first | done | rfl | (simp only [List.length_drop, List.length_take]; rfl)) ?_
              with_reducible refine (strconv_Itoa_41.calls (wrap64 (Int.tdiv a0 100)) t105 _ (HTAB.go (by repeat (first | (with_reducible first | exact HB.1 | exact Below.refl _ _ | apply below_alloc | apply pw_below_drewN | apply below_drew1) | exact HB.1))) A15.out).mono ?_
              rintro e w22 ⟨rfl, hb⟩
              refine ⟨_, rfl, ?_⟩
              have n0_ := Aside0.mk (below_step (by with_reducible repeat (first | exact HB.1 | apply ya12 | apply yn12 | apply yd12)) hb)
              clear HB
              have HB := n0_
              clear n0_
              (try clear hb)
              (try clear hb2)
              (try clear hk)
              (try clear hi)
              refine hK.out _ _ trivial (fun hHeld => ?_)
              clear hK K
              refine norm_ (a' := ?_) ?_ ?_
              rotate_left
              · show Act.put _ (some 20) _ = _
                simp only [Act.put, List.setIfInBounds_toArray, List.set_cons_zero, List.set_cons_succ, i64_w, i32_w]
                rfl
              refine pure_ (i := 4) (N := some 21) (v := ?_) (a' := ?_) #[true, true, true, true, true, false, true, true, false, false, false] rfl rfl (any_of HT_.out (by kernel_rfl)) (fun _ _ _ h => h) (Or.inl ⟨by rfl, ?_⟩) ?_ ?_
              rotate_left
              · intro w'
                go_simp
                with_reducible rfl
              rotate_left
              · simp only [Act.put, List.setIfInBounds_toArray, List.set_cons_zero, List.set_cons_succ, i64_w, i32_w]
                rfl
              refine pure_ (i := 5) (N := some 22) (v := ?_) (a' := ?_) #[true, true, true, true, true, true, true, true, false, false, false] rfl rfl (any_of HT_.out (by kernel_rfl)) (fun _ _ _ h => h) (Or.inl ⟨by rfl, ?_⟩) ?_ ?_
              rotate_left
              · intro w'
                go_simp
                with_reducible rfl
              rotate_left
              · simp only [Act.put, List.setIfInBounds_toArray, List.set_cons_zero, List.set_cons_succ, i64_w, i32_w]
                rfl
              refine pure_ (i := 8) (N := some 25) (v := ?_) (a' := ?_) #[true, true, true, true, true, true, true, true, true, false, false] rfl rfl (any_of HT_.out (by kernel_rfl)) (fun _ _ _ h => h) (Or.inl ⟨by rfl, ?_⟩) ?_ ?_
              rotate_left
              · intro w'
                go_simp
                with_reducible rfl
              rotate_left
              · simp only [Act.put, List.setIfInBounds_toArray, List.set_cons_zero, List.set_cons_succ, i64_w, i32_w]
                rfl
              refine pure_ (i := 9) (N := some 2) (v := ?_) (a' := ?_) #[true, true, true, true, true, true, true, true, true, true, false] rfl rfl (any_of HT_.out (by kernel_rfl)) (fun _ _ _ h => h) (Or.inl ⟨by rfl, ?_⟩) ?_ ?_
              rotate_left
              · intro w'
                go_simp
                with_reducible rfl
              rotate_left
              · simp only [Act.put, List.setIfInBounds_toArray, List.set_cons_zero, List.set_cons_succ, i64_w, i32_w]
                rfl
              refine pure_ (i := 10) (N := some 3) (v := ?_) (a' := ?_) #[true, true, true, true, true, true, true, true, true, true, true] rfl rfl (any_of HT_.out (by kernel_rfl)) (fun _ _ _ h => h) (Or.inl ⟨by rfl, ?_⟩) ?_ ?_
              rotate_left
              · intro w'
                go_simp
                with_reducible rfl
              rotate_left
              · simp only [Act.put, List.setIfInBounds_toArray, List.set_cons_zero, List.set_cons_succ, i64_w, i32_w]
                rfl
              refine done_ (done_of HT_.out (by kernel_rfl)) ?_
              try go_wp2
              go_ret2
              exact ⟨by first | rfl | (simp [errW_none, errW_some] <;> rfl) | (simp [*, errW_none, errW_some] <;> rfl), by repeat (first | (with_reducible first | exact HB.1 | apply below_alloc | apply pw_below_drewN | apply below_drew1) | exact HB.1)⟩
            · rw [if_neg c19] at H
              exact absurd H (by simp)
          · rw [if_neg c18] at H
            exact absurd H (by simp)
        · rw [if_neg c17] at H
          exact absurd H (by simp)
      · rw [if_neg c16] at H
        exact absurd H (by simp)
  · replace c3 := Bool.eq_false_iff.mpr c3
    subst c3
    have H1 : (some ((⟨#[]⟩ : ByteArray), 2)) = some (r1, r2) := by rw [if_neg (show ¬ (false = true) by decide)] at H; exact H
    clear H
    have H := H1
    clear H1
    simp only [Option.some.injEq, Prod.mk.injEq] at H
    obtain ⟨rfl, rfl⟩ := H
    go_enter Tryd.func12, Tryd.ntmps12
    go_wp2_with (first | ((with_reducible refine gate_callee (f := 40) rfl ?_); refine goesL_ (some 7) rfl rfl Tryd.func40 (by kernel_rfl) rfl #[.int .i64 a0, .int .i64 (-1000000000000), .int .i64 1000000000000] rfl (by (try simp only [List.map_toArray, List.map_cons, List.map_nil]); first | done | rfl | (simp only [List.length_drop, List.length_take]; rfl)) ?_; (with_reducible refine (cents_within.calls a0 (-1000000000000) 1000000000000 false _ A2.out).mono ?_); rintro e w' ⟨rfl, ⟨nd, rfl⟩⟩; refine ⟨_, rfl, ?_⟩))
    go_ret2
    exact ⟨by first | rfl | (simp [errW_none, errW_some] <;> rfl) | (simp [*, errW_none, errW_some] <;> rfl), by repeat (first | (with_reducible first | exact HB.1 | apply below_alloc | apply pw_below_drewN | apply below_drew1) | exact HB.1)⟩

/-! ### vendmeterref_In: function 42 -/
def vendmeterref_In.f (a0 : Int) (a1 : Int) (a2 : Int) : Option (Bool) := if a0 ≥ a1 then (some (decide (a0 ≤ a2))) else (some false)
set_option maxHeartbeats 8000000 in
set_option maxRecDepth 100000 in
theorem vendmeterref_In.calls (a0 : Int) (a1 : Int) (a2 : Int) (r : Bool) (w : World) (h : vendmeterref_In.f a0 a1 a2 = some r) :
    Calls Tryd.prog 42 #[.int .i64 a0, .int .i64 a1, .int .i64 a2] w fun e w' => e = .returned (.bool r) ∧ Drawn0 w w' := by
  have H : (if a0 ≥ a1 then (some (decide (a0 ≤ a2))) else (some false)) = some r := h
  clear h
  by_cases c4 : a0 ≥ a1
  · rw [if_pos c4] at H
    have c4b0 : decide (a1 ≤ a0) = true := decide_eq_true c4
    clear c4
    obtain rfl := Option.some.inj H
    go_enter Tryd.func42, Tryd.ntmps42
    go_wp2
    go_ret
    exact ⟨by first | rfl | (simp; done) | (simp [*]; done), by repeat (first | exact Drawn0.refl _ | apply Drawn0.step)⟩
  · rw [if_neg c4] at H
    have c4b0 : decide (a1 ≤ a0) = false := decide_eq_false c4
    clear c4
    obtain rfl := Option.some.inj H
    go_enter Tryd.func42, Tryd.ntmps42
    go_wp2
    go_ret
    exact ⟨by first | rfl | (simp; done) | (simp [*]; done), by repeat (first | exact Drawn0.refl _ | apply Drawn0.step)⟩

/-! ### vendmeterref_Dec: function 43 -/
theorem xa43 {w : World} {g : Nat} {o : Obj} (h : w.heap[g]? = some o) (o' : Obj) : (w.alloc o').heap[g]? = some o := blk_alloc h o'
theorem xd43 {w : World} {g : Nat} {o : Obj} (h : w.heap[g]? = some o) : w.drew.heap[g]? = some o := blk_drew h
theorem xn43 {w : World} {g : Nat} {o : Obj} (h : w.heap[g]? = some o) (n : Nat) : (w.drewN n).heap[g]? = some o := blk_drewN h n
theorem ya43 {w W : World} (h : Below w.heap.size w W) (o : Obj) : Below w.heap.size w (W.alloc o) := below_alloc h o
theorem yn43 {B : Nat} {w W : World} (h : Below B w W) (n : Nat) : Below B w (W.drewN n) := pw_below_drewN h n
theorem yd43 {B : Nat} {w W : World} (h : Below B w W) : Below B w W.drew := below_drew1 h
mutual
def vendmeterref_Dec.j0 : Nat → Int → Bool → Option (ByteArray)
  | 0, _, _ => none
  | k + 1, x0, x8 => if x8 = true then (some (strOfNums (([(wrap64 (48 + x0)) % 256] : List Int)))) else (if x0 < 0 then (if x0 > (-10) then ((vendmeterref_Dec.f k (wrap64 (-x0))).bind fun t109 => (if 1 + t109.size ≤ 9223372036854775807 then (some ((⟨#[45]⟩ : ByteArray) ++ t109)) else (none))) else ((vendmeterref_Dec.f k (wrap64 (Int.tdiv x0 10))).bind fun t110 => ((vendmeterref_Dec.f k (wrap64 (-(Int.tmod x0 10)))).bind fun t111 => (if t110.size + t111.size ≤ 9223372036854775807 then (some (t110 ++ t111)) else (none))))) else ((vendmeterref_Dec.f k (wrap64 (Int.tdiv x0 10))).bind fun t112 => ((vendmeterref_Dec.f k (Int.tmod x0 10)).bind fun t113 => (if t112.size + t113.size ≤ 9223372036854775807 then (some (t112 ++ t113)) else (none)))))
def vendmeterref_Dec.f : Nat → Int → Option (ByteArray)
  | 0, _ => none
  | k + 1, a0 => if a0 ≥ 0 then (vendmeterref_Dec.j0 k a0 (decide (a0 < 10))) else (vendmeterref_Dec.j0 k a0 false)
end
theorem vendmeterref_Dec.mono_l : ∀ k, (∀ y0, LeO (vendmeterref_Dec.f k y0) (vendmeterref_Dec.f (k + 1) y0)) ∧ (∀ y0 y1, LeO (vendmeterref_Dec.j0 k y0 y1) (vendmeterref_Dec.j0 (k + 1) y0 y1))
  | 0 => ⟨fun _ r h => by simp [vendmeterref_Dec.f] at h, fun _ _ r h => by simp [vendmeterref_Dec.j0] at h⟩
  | k + 1 => by
    obtain ⟨ih0, ih1⟩ := vendmeterref_Dec.mono_l k
    refine ⟨?_, ?_⟩
    · intro y0
      unfold vendmeterref_Dec.f
      repeat' first
      | (with_reducible exact ih0 _)
      | (with_reducible exact ih1 _ _)
      | (with_reducible exact LeO.refl _)
      | (with_reducible exact LeO.none _)
      | (with_reducible refine LeO.ite ?_ ?_)
      | (with_reducible refine LeO.bind ?_ (fun _ => ?_))
      | exact ih0 _
      | exact ih1 _ _
      | exact LeO.none _
      | refine LeO.ite ?_ ?_
      | refine LeO.bind ?_ (fun _ => ?_)
    · intro y0 y1
      unfold vendmeterref_Dec.j0
      repeat' first
      | (with_reducible exact ih0 _)
      | (with_reducible exact ih1 _ _)
      | (with_reducible exact LeO.refl _)
      | (with_reducible exact LeO.none _)
      | (with_reducible refine LeO.ite ?_ ?_)
      | (with_reducible refine LeO.bind ?_ (fun _ => ?_))
      | exact ih0 _
      | exact ih1 _ _
      | exact LeO.none _
      | refine LeO.ite ?_ ?_
      | refine LeO.bind ?_ (fun _ => ?_)
theorem vendmeterref_Dec.mono : ∀ a0 k, LeO (vendmeterref_Dec.f k a0) (vendmeterref_Dec.f (k + 1) a0) := by
  intro a0 k
  obtain ⟨ih0, ih1⟩ := vendmeterref_Dec.mono_l k
  exact ih0 a0
set_option maxHeartbeats 8000000 in
set_option maxRecDepth 100000 in
theorem vendmeterref_Dec.calls (k : Nat) : ∀ (a0 : Int) (r : ByteArray) (w : World) (h : vendmeterref_Dec.f k a0 = some r),
    Calls Tryd.prog 43 #[.int .i64 a0] w fun e w' => e = .returned (.string r) ∧ Below w.heap.size w w' := by
  induction k using Nat.strongRecOn with
  | _ k ih =>
  intro a0 r w h
  cases k with
  | zero => exact absurd h (by simp [vendmeterref_Dec.f])
  | succ k =>
  simp only [vendmeterref_Dec.f] at h
  have HB := Aside0.mk (Below.refl w.heap.size w)
  have H : (if a0 ≥ 0 then (vendmeterref_Dec.j0 k a0 (decide (a0 < 10))) else (vendmeterref_Dec.j0 k a0 false)) = some r := h
  clear h
  have HC2 := Aside0.mk H
  clear H
  go_enter Tryd.func43, Tryd.ntmps43
  go_upto_region 1 with (fail)
  go_cut [8] (fun v8 wc => ∃ (kq : Nat) (x8_1 : Bool), v8 = .bool x8_1 ∧ Aside0 (vendmeterref_Dec.j0 kq a0 x8_1 = some r) ∧ Aside0 (kq ≤ k) ∧ Aside0 (Below w.heap.size w wc))
  case first =>
    have H := HC2.out
    clear HC2
    by_cases c3 : a0 ≥ 0
    · rw [if_pos c3] at H
      have c3b0 : decide (0 ≤ a0) = true := decide_eq_true c3
      clear c3
      (first | rw [c3b0] | (simp only [i64_w, i32_w]; rw [c3b0]) | skip)
      have H' := Aside0.mk H
      clear H
      go_wp2
      go_meet
      case rel => exact ⟨_, (decide (a0 < 10)), (by first | rfl | (simp; done) | (simp [*]; done)), H', ⟨by first | omega | exact Nat.le_refl _⟩, ⟨by repeat (first | (with_reducible first | exact HB.1 | apply below_alloc | apply pw_below_drewN | apply below_drew1) | exact HB.1)⟩⟩
    · rw [if_neg c3] at H
      have c3b0 : decide (0 ≤ a0) = false := decide_eq_false c3
      clear c3
      (first | rw [c3b0] | (simp only [i64_w, i32_w]; rw [c3b0]) | skip)
      have H' := Aside0.mk H
      clear H
      go_wp2
      go_meet
      case rel => exact ⟨_, (false), (by first | rfl | (simp; done) | (simp [*]; done)), H', ⟨by first | omega | exact Nat.le_refl _⟩, ⟨by repeat (first | (with_reducible first | exact HB.1 | apply below_alloc | apply pw_below_drewN | apply below_drew1) | exact HB.1)⟩⟩
  case rest =>
    clear HC2
    try clear p2
    try clear c3
    try clear c3b0
    obtain ⟨kq, x8_1, rfl, HA, HJ1, HB⟩ := hcut
    cases kq with
    | zero => exact absurd HA.out (by simp [vendmeterref_Dec.j0])
    | succ kj1 =>
      have H := HA.out
      clear HA
      simp only [vendmeterref_Dec.j0] at H
      by_cases c4 : x8_1 = true
      · subst c4
        have H1 : (some (strOfNums (([(wrap64 (48 + a0)) % 256] : List Int)))) = some r := by rw [if_pos rfl] at H; exact H
        clear H
        have H := H1
        clear H1
        obtain ⟨y106, hy106⟩ : ∃ y_ : List Int, y_ = (([(wrap64 (48 + a0)) % 256] : List Int)) := ⟨_, rfl⟩
        replace H : (some (strOfNums y106)) = some r := by first | (rw [hy106]; with_reducible exact H) | (have H2_ := (Option.bind_some _ _).symm.trans H; rw [hy106]; with_reducible exact H2_) | (have H2_ := (Option.bind_some _ _).symm.trans H; with_reducible exact H2_) | with_reducible exact H | (rw [hy106]; exact H) | exact H
        have Ny106 := Aside0.mk hy106
        clear hy106
        obtain rfl := Option.some.inj H
        go_wp2_with (first | ((with_reducible refine gate_dst (N := 12) rfl ?_); refine Kd.R_lit (Kd.int .u8) _ 5 ?hg (N := 12) ?hd (xs := ([(wrap64 (48 + a0)) % 256] : List Int)) (inner := [.int .u8 ((wrap64 (48 + a0)) % 256)]) (ok := fun _ => True) (okp := fun _ => True) ?hr ?hp (fun _ hk => hk) trivial (Below.refl _ _) (Nat.le_refl _) (by simp) ?_; (case hd => rfl); (case hg => rfl); (case hr => first | (go_simp; done) | (go_simp; rfl)); (case hp => exact (Reps.one (show Kd.M (Kd.int .u8) _ _ _ ((wrap64 (48 + a0)) % 256) [.int .u8 ((wrap64 (48 + a0)) % 256)] from rfl) (Reps.none _ _))); intro v107 w5 ho6 hb hg_ hnew_; clear hg_ hnew_; (first | rw [← Ny106.out] at ho6 | (simp only [Int.reduceToNat] at ho6; rw [← Ny106.out] at ho6)); have n0_ := Aside0.mk (Kd.R_lower ho6 (below_size (by with_reducible repeat (first | exact HB.1 | apply ya43 | apply yn43 | apply yd43)))); have n1_ := Aside0.mk (below_step (by with_reducible repeat (first | exact HB.1 | apply ya43 | apply yn43 | apply yd43)) hb); clear HB; have HO108 := n0_; have HB := n1_; clear n0_ n1_; clear hb ho6; have hcv7 := own_string (P := Tryd.prog) Tryd.underlying119 Tryd.underlying5 Tryd.underlying9 (Kd.own_of_R HO108.1)))
        go_ret
        exact ⟨by first | rfl | (simp [errW_none, errW_some] <;> rfl) | (simp [*, errW_none, errW_some] <;> rfl), by repeat (first | (with_reducible first | exact HB.1 | apply below_alloc | apply pw_below_drewN | apply below_drew1) | exact HB.1)⟩
      · replace c4 := Bool.eq_false_iff.mpr c4
        subst c4
        have H1 : (if a0 < 0 then (if a0 > (-10) then ((vendmeterref_Dec.f kj1 (wrap64 (-a0))).bind fun t109 => (if 1 + t109.size ≤ 9223372036854775807 then (some ((⟨#[45]⟩ : ByteArray) ++ t109)) else (none))) else ((vendmeterref_Dec.f kj1 (wrap64 (Int.tdiv a0 10))).bind fun t110 => ((vendmeterref_Dec.f kj1 (wrap64 (-(Int.tmod a0 10)))).bind fun t111 => (if t110.size + t111.size ≤ 9223372036854775807 then (some (t110 ++ t111)) else (none))))) else ((vendmeterref_Dec.f kj1 (wrap64 (Int.tdiv a0 10))).bind fun t112 => ((vendmeterref_Dec.f kj1 (Int.tmod a0 10)).bind fun t113 => (if t112.size + t113.size ≤ 9223372036854775807 then (some (t112 ++ t113)) else (none))))) = some r := by rw [if_neg (show ¬ (false = true) by decide)] at H; exact H
        clear H
        have H := H1
        clear H1
        by_cases c8 : a0 < 0
        · rw [if_pos c8] at H
          have c8b0 : decide (a0 < 0) = true := decide_eq_true c8
          clear c8
          by_cases c9 : a0 > (-10)
          · rw [if_pos c9] at H
            have c9b0 : decide ((-10) < a0) = true := decide_eq_true c9
            clear c9
            replace H := Option.bind_eq_some_iff.mp H
            obtain ⟨t109, A100, H⟩ := H
            replace H : (if 1 + t109.size ≤ 9223372036854775807 then (some ((⟨#[45]⟩ : ByteArray) ++ t109)) else (none)) = some r := H
            have A10 := Aside0.mk A100
            clear A100
            by_cases c11 : 1 + t109.size ≤ 9223372036854775807
            · rw [if_pos c11] at H
              have c11b0 := eq_true c11
              have c11b1 : decide (1 + t109.size ≤ 9223372036854775807) = true := decide_eq_true c11
              try have c11b2 : (9223372036854775807 < 1 + t109.size) = False := eq_false (Nat.not_lt.2 c11)
              obtain rfl := Option.some.inj H
              go_wp2_with (first | ((with_reducible refine gate_callee (f := 43) rfl ?_); refine goesL_ (some 20) rfl rfl Tryd.func43 (by kernel_rfl) rfl #[.int .i64 (wrap64 (-a0))] rfl (by (try simp only [List.map_toArray, List.map_cons, List.map_nil]); first | done | rfl | (simp only [List.length_drop, List.length_take]; rfl)) ?_; (with_reducible refine (ih kj1 (by have := HJ1.out; omega) (wrap64 (-a0)) t109 _ A10.out).mono ?_); rintro e w12 ⟨rfl, hb⟩; refine ⟨_, rfl, ?_⟩; have n0_ := Aside0.mk (below_step (by with_reducible repeat (first | exact HB.1 | apply ya43 | apply yn43 | apply yd43)) hb); clear HB; have HB := n0_; clear n0_; (try clear hb); (try clear hb2); (try clear hk); (try clear hi)))
              go_ret
              exact ⟨by first | rfl | (simp [errW_none, errW_some] <;> rfl) | (simp [*, errW_none, errW_some] <;> rfl), by repeat (first | (with_reducible first | exact HB.1 | apply below_alloc | apply pw_below_drewN | apply below_drew1) | exact HB.1)⟩
            · rw [if_neg c11] at H
              exact absurd H (by simp)
          · rw [if_neg c9] at H
            have c9b0 : decide ((-10) < a0) = false := decide_eq_false c9
            clear c9
            replace H := Option.bind_eq_some_iff.mp H
            obtain ⟨t110, A130, H⟩ := H
            replace H : ((vendmeterref_Dec.f kj1 (wrap64 (-(Int.tmod a0 10)))).bind fun t111 => (if t110.size + t111.size ≤ 9223372036854775807 then (some (t110 ++ t111)) else (none))) = some r := H
            have A13 := Aside0.mk A130
            clear A130
            replace H := Option.bind_eq_some_iff.mp H
            obtain ⟨t111, A140, H⟩ := H
            replace H : (if t110.size + t111.size ≤ 9223372036854775807 then (some (t110 ++ t111)) else (none)) = some r := H
            have A14 := Aside0.mk A140
            clear A140
            by_cases c15 : t110.size + t111.size ≤ 9223372036854775807
            · rw [if_pos c15] at H
              have c15b0 := eq_true c15
              have c15b1 : decide (t110.size + t111.size ≤ 9223372036854775807) = true := decide_eq_true c15
              try have c15b2 : (9223372036854775807 < t110.size + t111.size) = False := eq_false (Nat.not_lt.2 c15)
              obtain rfl := Option.some.inj H
              go_wp2_with (first | ((with_reducible refine gate_callee (f := 43) rfl ?_); refine goesL_ (some 24) rfl rfl Tryd.func43 (by kernel_rfl) rfl #[.int .i64 (wrap64 (Int.tdiv a0 10))] rfl (by (try simp only [List.map_toArray, List.map_cons, List.map_nil]); first | done | rfl | (simp only [List.length_drop, List.length_take]; rfl)) ?_; (with_reducible refine (ih kj1 (by have := HJ1.out; omega) (wrap64 (Int.tdiv a0 10)) t110 _ A13.out).mono ?_); rintro e w16 ⟨rfl, hb⟩; refine ⟨_, rfl, ?_⟩; have n0_ := Aside0.mk (below_step (by with_reducible repeat (first | exact HB.1 | apply ya43 | apply yn43 | apply yd43)) hb); clear HB; have HB := n0_; clear n0_; (try clear hb); (try clear hb2); (try clear hk); (try clear hi)) | ((with_reducible refine gate_callee (f := 43) rfl ?_); refine goesL_ (some 28) rfl rfl Tryd.func43 (by kernel_rfl) rfl #[.int .i64 (wrap64 (-(Int.tmod a0 10)))] rfl (by (try simp only [List.map_toArray, List.map_cons, List.map_nil]); first | done | rfl | (simp only [List.length_drop, List.length_take]; rfl)) ?_; (with_reducible refine (ih kj1 (by have := HJ1.out; omega) (wrap64 (-(Int.tmod a0 10))) t111 _ A14.out).mono ?_); rintro e w17 ⟨rfl, hb⟩; refine ⟨_, rfl, ?_⟩; have n0_ := Aside0.mk (below_step (by with_reducible repeat (first | exact HB.1 | apply ya43 | apply yn43 | apply yd43)) hb); clear HB; have HB := n0_; clear n0_; (try clear hb); (try clear hb2); (try clear hk); (try clear hi)))
              go_ret
              exact ⟨by first | rfl | (simp [errW_none, errW_some] <;> rfl) | (simp [*, errW_none, errW_some] <;> rfl), by repeat (first | (with_reducible first | exact HB.1 | apply below_alloc | apply pw_below_drewN | apply below_drew1) | exact HB.1)⟩
            · rw [if_neg c15] at H
              exact absurd H (by simp)
        · rw [if_neg c8] at H
          have c8b0 : decide (a0 < 0) = false := decide_eq_false c8
          clear c8
          replace H := Option.bind_eq_some_iff.mp H
          obtain ⟨t112, A180, H⟩ := H
          replace H : ((vendmeterref_Dec.f kj1 (Int.tmod a0 10)).bind fun t113 => (if t112.size + t113.size ≤ 9223372036854775807 then (some (t112 ++ t113)) else (none))) = some r := H
          have A18 := Aside0.mk A180
          clear A180
          replace H := Option.bind_eq_some_iff.mp H
          obtain ⟨t113, A190, H⟩ := H
          replace H : (if t112.size + t113.size ≤ 9223372036854775807 then (some (t112 ++ t113)) else (none)) = some r := H
          have A19 := Aside0.mk A190
          clear A190
          by_cases c20 : t112.size + t113.size ≤ 9223372036854775807
          · rw [if_pos c20] at H
            have c20b0 := eq_true c20
            have c20b1 : decide (t112.size + t113.size ≤ 9223372036854775807) = true := decide_eq_true c20
            try have c20b2 : (9223372036854775807 < t112.size + t113.size) = False := eq_false (Nat.not_lt.2 c20)
            obtain rfl := Option.some.inj H
            go_wp2_with (first | ((with_reducible refine gate_callee (f := 43) rfl ?_); refine goesL_ (some 32) rfl rfl Tryd.func43 (by kernel_rfl) rfl #[.int .i64 (wrap64 (Int.tdiv a0 10))] rfl (by (try simp only [List.map_toArray, List.map_cons, List.map_nil]); first | done | rfl | (simp only [List.length_drop, List.length_take]; rfl)) ?_; (with_reducible refine (ih kj1 (by have := HJ1.out; omega) (wrap64 (Int.tdiv a0 10)) t112 _ A18.out).mono ?_); rintro e w21 ⟨rfl, hb⟩; refine ⟨_, rfl, ?_⟩; have n0_ := Aside0.mk (below_step (by with_reducible repeat (first | exact HB.1 | apply ya43 | apply yn43 | apply yd43)) hb); clear HB; have HB := n0_; clear n0_; (try clear hb); (try clear hb2); (try clear hk); (try clear hi)) | ((with_reducible refine gate_callee (f := 43) rfl ?_); refine goesL_ (some 35) rfl rfl Tryd.func43 (by kernel_rfl) rfl #[.int .i64 (Int.tmod a0 10)] rfl (by (try simp only [List.map_toArray, List.map_cons, List.map_nil]); first | done | rfl | (simp only [List.length_drop, List.length_take]; rfl)) ?_; (with_reducible refine (ih kj1 (by have := HJ1.out; omega) (Int.tmod a0 10) t113 _ A19.out).mono ?_); rintro e w22 ⟨rfl, hb⟩; refine ⟨_, rfl, ?_⟩; have n0_ := Aside0.mk (below_step (by with_reducible repeat (first | exact HB.1 | apply ya43 | apply yn43 | apply yd43)) hb); clear HB; have HB := n0_; clear n0_; (try clear hb); (try clear hb2); (try clear hk); (try clear hi)))
            go_ret
            exact ⟨by first | rfl | (simp [errW_none, errW_some] <;> rfl) | (simp [*, errW_none, errW_some] <;> rfl), by repeat (first | (with_reducible first | exact HB.1 | apply below_alloc | apply pw_below_drewN | apply below_drew1) | exact HB.1)⟩
          · rw [if_neg c20] at H
            exact absurd H (by simp)

/-! ### vendmeterref_Shown: function 13 -/
theorem xa13 {w : World} {g : Nat} {o : Obj} (h : w.heap[g]? = some o) (o' : Obj) : (w.alloc o').heap[g]? = some o := blk_alloc h o'
theorem xd13 {w : World} {g : Nat} {o : Obj} (h : w.heap[g]? = some o) : w.drew.heap[g]? = some o := blk_drew h
theorem xn13 {w : World} {g : Nat} {o : Obj} (h : w.heap[g]? = some o) (n : Nat) : (w.drewN n).heap[g]? = some o := blk_drewN h n
theorem ya13 {w W : World} (h : Below w.heap.size w W) (o : Obj) : Below w.heap.size w (W.alloc o) := below_alloc h o
theorem yn13 {B : Nat} {w W : World} (h : Below B w W) (n : Nat) : Below B w (W.drewN n) := pw_below_drewN h n
theorem yd13 {B : Nat} {w W : World} (h : Below B w W) : Below B w W.drew := below_drew1 h
def vendmeterref_Shown.f : Nat → Int → Option (ByteArray × Int)
  | 0, _ => none
  | k + 1, a0 => (vendmeterref_In.f a0 (-1000000000000) 1000000000000).bind fun t114 => (if t114 = true then (if a0 < 0 then ((vendmeterref_Shown.f k (wrap64 (-a0))).bind fun bt115 => (if 1 + bt115.1.size ≤ 9223372036854775807 then (some ((⟨#[45]⟩ : ByteArray) ++ bt115.1, 0)) else (none))) else ((vendmeterref_Dec.f k (wrap64 (Int.tdiv a0 100))).bind fun t117 => (if t117.size + 1 ≤ 9223372036854775807 then ((vendmeterref_Dec.f k (Int.tmod (wrap64 (Int.tdiv a0 10)) 10)).bind fun t118 => (if (t117 ++ (⟨#[46]⟩ : ByteArray)).size + t118.size ≤ 9223372036854775807 then ((vendmeterref_Dec.f k (Int.tmod a0 10)).bind fun t119 => (if ((t117 ++ (⟨#[46]⟩ : ByteArray)) ++ t118).size + t119.size ≤ 9223372036854775807 then (some (((t117 ++ (⟨#[46]⟩ : ByteArray)) ++ t118) ++ t119, 0)) else (none))) else (none))) else (none)))) else (some ((⟨#[]⟩ : ByteArray), 2)))
theorem vendmeterref_Shown.mono_l : ∀ k, (∀ y0, LeO (vendmeterref_Shown.f k y0) (vendmeterref_Shown.f (k + 1) y0))
  | 0 => fun _ r h => by simp [vendmeterref_Shown.f] at h
  | k + 1 => by
    have ih0 := vendmeterref_Shown.mono_l k
    · intro y0
      unfold vendmeterref_Shown.f
      repeat' first
      | (with_reducible exact ih0 _)
      | (with_reducible exact vendmeterref_Dec.mono _ _)
      | (with_reducible exact LeO.refl _)
      | (with_reducible exact LeO.none _)
      | (with_reducible refine LeO.ite ?_ ?_)
      | (with_reducible refine LeO.bind ?_ (fun _ => ?_))
      | exact ih0 _
      | exact vendmeterref_Dec.mono _ _
      | exact LeO.none _
      | refine LeO.ite ?_ ?_
      | refine LeO.bind ?_ (fun _ => ?_)
theorem vendmeterref_Shown.mono : ∀ a0 k, LeO (vendmeterref_Shown.f k a0) (vendmeterref_Shown.f (k + 1) a0) := by
  intro a0 k
  have ih0 := vendmeterref_Shown.mono_l k
  exact ih0 a0
set_option maxHeartbeats 8000000 in
set_option maxRecDepth 100000 in
theorem vendmeterref_Shown.calls (k : Nat) : ∀ (a0 : Int) (r1 : ByteArray) (r2 : Int) (w : World) (h : vendmeterref_Shown.f k a0 = some (r1, r2)),
    Calls Tryd.prog 13 #[.int .i64 a0] w fun e w' => e = .returned (.tuple #[.string r1, .int .i64 r2]) ∧ Below w.heap.size w w' := by
  induction k using Nat.strongRecOn with
  | _ k ih =>
  intro a0 r1 r2 w h
  cases k with
  | zero => exact absurd h (by simp [vendmeterref_Shown.f])
  | succ k =>
  simp only [vendmeterref_Shown.f] at h
  have HB := Aside0.mk (Below.refl w.heap.size w)
  have H : ((vendmeterref_In.f a0 (-1000000000000) 1000000000000).bind fun t114 => (if t114 = true then (if a0 < 0 then ((vendmeterref_Shown.f k (wrap64 (-a0))).bind fun bt115 => (if 1 + bt115.1.size ≤ 9223372036854775807 then (some ((⟨#[45]⟩ : ByteArray) ++ bt115.1, 0)) else (none))) else ((vendmeterref_Dec.f k (wrap64 (Int.tdiv a0 100))).bind fun t117 => (if t117.size + 1 ≤ 9223372036854775807 then ((vendmeterref_Dec.f k (Int.tmod (wrap64 (Int.tdiv a0 10)) 10)).bind fun t118 => (if (t117 ++ (⟨#[46]⟩ : ByteArray)).size + t118.size ≤ 9223372036854775807 then ((vendmeterref_Dec.f k (Int.tmod a0 10)).bind fun t119 => (if ((t117 ++ (⟨#[46]⟩ : ByteArray)) ++ t118).size + t119.size ≤ 9223372036854775807 then (some (((t117 ++ (⟨#[46]⟩ : ByteArray)) ++ t118) ++ t119, 0)) else (none))) else (none))) else (none)))) else (some ((⟨#[]⟩ : ByteArray), 2)))) = some (r1, r2) := h
  clear h
  replace H := Option.bind_eq_some_iff.mp H
  obtain ⟨t114, A20, H⟩ := H
  replace H : (if t114 = true then (if a0 < 0 then ((vendmeterref_Shown.f k (wrap64 (-a0))).bind fun bt115 => (if 1 + bt115.1.size ≤ 9223372036854775807 then (some ((⟨#[45]⟩ : ByteArray) ++ bt115.1, 0)) else (none))) else ((vendmeterref_Dec.f k (wrap64 (Int.tdiv a0 100))).bind fun t117 => (if t117.size + 1 ≤ 9223372036854775807 then ((vendmeterref_Dec.f k (Int.tmod (wrap64 (Int.tdiv a0 10)) 10)).bind fun t118 => (if (t117 ++ (⟨#[46]⟩ : ByteArray)).size + t118.size ≤ 9223372036854775807 then ((vendmeterref_Dec.f k (Int.tmod a0 10)).bind fun t119 => (if ((t117 ++ (⟨#[46]⟩ : ByteArray)) ++ t118).size + t119.size ≤ 9223372036854775807 then (some (((t117 ++ (⟨#[46]⟩ : ByteArray)) ++ t118) ++ t119, 0)) else (none))) else (none))) else (none)))) else (some ((⟨#[]⟩ : ByteArray), 2))) = some (r1, r2) := H
  have A2 := Aside0.mk A20
  clear A20
  by_cases c3 : t114 = true
  · subst c3
    have H1 : (if a0 < 0 then ((vendmeterref_Shown.f k (wrap64 (-a0))).bind fun bt115 => (if 1 + bt115.1.size ≤ 9223372036854775807 then (some ((⟨#[45]⟩ : ByteArray) ++ bt115.1, 0)) else (none))) else ((vendmeterref_Dec.f k (wrap64 (Int.tdiv a0 100))).bind fun t117 => (if t117.size + 1 ≤ 9223372036854775807 then ((vendmeterref_Dec.f k (Int.tmod (wrap64 (Int.tdiv a0 10)) 10)).bind fun t118 => (if (t117 ++ (⟨#[46]⟩ : ByteArray)).size + t118.size ≤ 9223372036854775807 then ((vendmeterref_Dec.f k (Int.tmod a0 10)).bind fun t119 => (if ((t117 ++ (⟨#[46]⟩ : ByteArray)) ++ t118).size + t119.size ≤ 9223372036854775807 then (some (((t117 ++ (⟨#[46]⟩ : ByteArray)) ++ t118) ++ t119, 0)) else (none))) else (none))) else (none)))) = some (r1, r2) := by rw [if_pos rfl] at H; exact H
    clear H
    have H := H1
    clear H1
    by_cases c4 : a0 < 0
    · rw [if_pos c4] at H
      have c4b0 : decide (a0 < 0) = true := decide_eq_true c4
      clear c4
      replace H := Option.bind_eq_some_iff.mp H
      obtain ⟨⟨t115, t116⟩, A50, H⟩ := H
      replace H : (if 1 + t115.size ≤ 9223372036854775807 then (some ((⟨#[45]⟩ : ByteArray) ++ t115, 0)) else (none)) = some (r1, r2) := H
      have A5 := Aside0.mk A50
      clear A50
      by_cases c6 : 1 + t115.size ≤ 9223372036854775807
      · rw [if_pos c6] at H
        have c6b0 := eq_true c6
        have c6b1 : decide (1 + t115.size ≤ 9223372036854775807) = true := decide_eq_true c6
        try have c6b2 : (9223372036854775807 < 1 + t115.size) = False := eq_false (Nat.not_lt.2 c6)
        simp only [Option.some.injEq, Prod.mk.injEq] at H
        obtain ⟨rfl, rfl⟩ := H
        go_enter Tryd.func13, Tryd.ntmps13
        go_wp2_with (first | ((with_reducible refine gate_callee (f := 42) rfl ?_); refine goesL_ (some 7) rfl rfl Tryd.func42 (by kernel_rfl) rfl #[.int .i64 a0, .int .i64 (-1000000000000), .int .i64 1000000000000] rfl (by (try simp only [List.map_toArray, List.map_cons, List.map_nil]); first | done | rfl | (simp only [List.length_drop, List.length_take]; rfl)) ?_; (with_reducible refine (vendmeterref_In.calls a0 (-1000000000000) 1000000000000 true _ A2.out).mono ?_); rintro e w' ⟨rfl, ⟨nd, rfl⟩⟩; refine ⟨_, rfl, ?_⟩) | ((with_reducible refine gate_callee (f := 13) rfl ?_); refine goesL_ (some 14) rfl rfl Tryd.func13 (by kernel_rfl) rfl #[.int .i64 (wrap64 (-a0))] rfl (by (try simp only [List.map_toArray, List.map_cons, List.map_nil]); first | done | rfl | (simp only [List.length_drop, List.length_take]; rfl)) ?_; (with_reducible refine (ih k (by omega) (wrap64 (-a0)) t115 t116 _ A5.out).mono ?_); rintro e w7 ⟨rfl, hb⟩; refine ⟨_, rfl, ?_⟩; have n0_ := Aside0.mk (below_step (by with_reducible repeat (first | exact HB.1 | apply ya13 | apply yn13 | apply yd13)) hb); clear HB; have HB := n0_; clear n0_; (try clear hb); (try clear hb2); (try clear hk); (try clear hi)))
        go_ret2
        exact ⟨by first | rfl | (simp [errW_none, errW_some] <;> rfl) | (simp [*, errW_none, errW_some] <;> rfl), by repeat (first | (with_reducible first | exact HB.1 | apply below_alloc | apply pw_below_drewN | apply below_drew1) | exact HB.1)⟩
      · rw [if_neg c6] at H
        exact absurd H (by simp)
    · rw [if_neg c4] at H
      have c4b0 : decide (a0 < 0) = false := decide_eq_false c4
      clear c4
      replace H := Option.bind_eq_some_iff.mp H
      obtain ⟨t117, A80, H⟩ := H
      replace H : (if t117.size + 1 ≤ 9223372036854775807 then ((vendmeterref_Dec.f k (Int.tmod (wrap64 (Int.tdiv a0 10)) 10)).bind fun t118 => (if (t117 ++ (⟨#[46]⟩ : ByteArray)).size + t118.size ≤ 9223372036854775807 then ((vendmeterref_Dec.f k (Int.tmod a0 10)).bind fun t119 => (if ((t117 ++ (⟨#[46]⟩ : ByteArray)) ++ t118).size + t119.size ≤ 9223372036854775807 then (some (((t117 ++ (⟨#[46]⟩ : ByteArray)) ++ t118) ++ t119, 0)) else (none))) else (none))) else (none)) = some (r1, r2) := H
      have A8 := Aside0.mk A80
      clear A80
      by_cases c9 : t117.size + 1 ≤ 9223372036854775807
      · rw [if_pos c9] at H
        have c9b0 := eq_true c9
        have c9b1 : decide (t117.size + 1 ≤ 9223372036854775807) = true := decide_eq_true c9
        try have c9b2 : (9223372036854775807 < t117.size + 1) = False := eq_false (Nat.not_lt.2 c9)
        replace H := Option.bind_eq_some_iff.mp H
        obtain ⟨t118, A100, H⟩ := H
        replace H : (if (t117 ++ (⟨#[46]⟩ : ByteArray)).size + t118.size ≤ 9223372036854775807 then ((vendmeterref_Dec.f k (Int.tmod a0 10)).bind fun t119 => (if ((t117 ++ (⟨#[46]⟩ : ByteArray)) ++ t118).size + t119.size ≤ 9223372036854775807 then (some (((t117 ++ (⟨#[46]⟩ : ByteArray)) ++ t118) ++ t119, 0)) else (none))) else (none)) = some (r1, r2) := H
        have A10 := Aside0.mk A100
        clear A100
        by_cases c11 : (t117 ++ (⟨#[46]⟩ : ByteArray)).size + t118.size ≤ 9223372036854775807
        · rw [if_pos c11] at H
          have c11b0 := eq_true c11
          have c11b1 : decide ((t117 ++ (⟨#[46]⟩ : ByteArray)).size + t118.size ≤ 9223372036854775807) = true := decide_eq_true c11
          try have c11b2 : (9223372036854775807 < (t117 ++ (⟨#[46]⟩ : ByteArray)).size + t118.size) = False := eq_false (Nat.not_lt.2 c11)
          try have c11b3 : (9223372036854775807 < t117.size + 1 + t118.size) = False := eq_false (by have l0_ : (⟨#[46]⟩ : ByteArray).size = 1 := rfl; have z_ := c11; (try simp only [ByteArray.size_append, ByteArray.size_extract, Nat.min_self] at z_); omega)
          try have c11b4 : (t117.size + 1 + t118.size ≤ 9223372036854775807) = True := eq_true (by have l0_ : (⟨#[46]⟩ : ByteArray).size = 1 := rfl; have z_ := c11; (try simp only [ByteArray.size_append, ByteArray.size_extract, Nat.min_self] at z_); omega)
          replace H := Option.bind_eq_some_iff.mp H
          obtain ⟨t119, A120, H⟩ := H
          replace H : (if ((t117 ++ (⟨#[46]⟩ : ByteArray)) ++ t118).size + t119.size ≤ 9223372036854775807 then (some (((t117 ++ (⟨#[46]⟩ : ByteArray)) ++ t118) ++ t119, 0)) else (none)) = some (r1, r2) := H
          have A12 := Aside0.mk A120
          clear A120
          by_cases c13 : ((t117 ++ (⟨#[46]⟩ : ByteArray)) ++ t118).size + t119.size ≤ 9223372036854775807
          · rw [if_pos c13] at H
            have c13b0 := eq_true c13
            have c13b1 : decide (((t117 ++ (⟨#[46]⟩ : ByteArray)) ++ t118).size + t119.size ≤ 9223372036854775807) = true := decide_eq_true c13
            try have c13b2 : (9223372036854775807 < ((t117 ++ (⟨#[46]⟩ : ByteArray)) ++ t118).size + t119.size) = False := eq_false (Nat.not_lt.2 c13)
            try have c13b3 : (9223372036854775807 < t117.size + 1 + t118.size + t119.size) = False := eq_false (by have l0_ : (⟨#[46]⟩ : ByteArray).size = 1 := rfl; have z_ := c13; (try simp only [ByteArray.size_append, ByteArray.size_extract, Nat.min_self] at z_); omega)
            try have c13b4 : (t117.size + 1 + t118.size + t119.size ≤ 9223372036854775807) = True := eq_true (by have l0_ : (⟨#[46]⟩ : ByteArray).size = 1 := rfl; have z_ := c13; (try simp only [ByteArray.size_append, ByteArray.size_extract, Nat.min_self] at z_); omega)
            simp only [Option.some.injEq, Prod.mk.injEq] at H
            obtain ⟨rfl, rfl⟩ := H
            go_enter Tryd.func13, Tryd.ntmps13
            go_wp2_with (first | ((with_reducible refine gate_callee (f := 42) rfl ?_); refine goesL_ (some 7) rfl rfl Tryd.func42 (by kernel_rfl) rfl #[.int .i64 a0, .int .i64 (-1000000000000), .int .i64 1000000000000] rfl (by (try simp only [List.map_toArray, List.map_cons, List.map_nil]); first | done | rfl | (simp only [List.length_drop, List.length_take]; rfl)) ?_; (with_reducible refine (vendmeterref_In.calls a0 (-1000000000000) 1000000000000 true _ A2.out).mono ?_); rintro e w' ⟨rfl, ⟨nd, rfl⟩⟩; refine ⟨_, rfl, ?_⟩) | ((with_reducible refine gate_callee (f := 43) rfl ?_); refine goesL_ (some 21) rfl rfl Tryd.func43 (by kernel_rfl) rfl #[.int .i64 (wrap64 (Int.tdiv a0 100))] rfl (by (try simp only [List.map_toArray, List.map_cons, List.map_nil]); first | done | rfl | (simp only [List.length_drop, List.length_take]; rfl)) ?_; (with_reducible refine (vendmeterref_Dec.calls k (wrap64 (Int.tdiv a0 100)) t117 _ A8.out).mono ?_); rintro e w14 ⟨rfl, hb⟩; refine ⟨_, rfl, ?_⟩; have n0_ := Aside0.mk (below_step (by with_reducible repeat (first | exact HB.1 | apply ya13 | apply yn13 | apply yd13)) hb); clear HB; have HB := n0_; clear n0_; (try clear hb); (try clear hb2); (try clear hk); (try clear hi)) | ((with_reducible refine gate_callee (f := 43) rfl ?_); refine goesL_ (some 26) rfl rfl Tryd.func43 (by kernel_rfl) rfl #[.int .i64 (Int.tmod (wrap64 (Int.tdiv a0 10)) 10)] rfl (by (try simp only [List.map_toArray, List.map_cons, List.map_nil]); first | done | rfl | (simp only [List.length_drop, List.length_take]; rfl)) ?_; (with_reducible refine (vendmeterref_Dec.calls k (Int.tmod (wrap64 (Int.tdiv a0 10)) 10) t118 _ A10.out).mono ?_); rintro e w15 ⟨rfl, hb⟩; refine ⟨_, rfl, ?_⟩; have n0_ := Aside0.mk (below_step (by with_reducible repeat (first | exact HB.1 | apply ya13 | apply yn13 | apply yd13)) hb); clear HB; have HB := n0_; clear n0_; (try clear hb); (try clear hb2); (try clear hk); (try clear hi)) | ((with_reducible refine gate_callee (f := 43) rfl ?_); refine goesL_ (some 30) rfl rfl Tryd.func43 (by kernel_rfl) rfl #[.int .i64 (Int.tmod a0 10)] rfl (by (try simp only [List.map_toArray, List.map_cons, List.map_nil]); first | done | rfl | (simp only [List.length_drop, List.length_take]; rfl)) ?_; (with_reducible refine (vendmeterref_Dec.calls k (Int.tmod a0 10) t119 _ A12.out).mono ?_); rintro e w16 ⟨rfl, hb⟩; refine ⟨_, rfl, ?_⟩; have n0_ := Aside0.mk (below_step (by with_reducible repeat (first | exact HB.1 | apply ya13 | apply yn13 | apply yd13)) hb); clear HB; have HB := n0_; clear n0_; (try clear hb); (try clear hb2); (try clear hk); (try clear hi)))
            go_ret2
            exact ⟨by first | rfl | (simp [errW_none, errW_some] <;> rfl) | (simp [*, errW_none, errW_some] <;> rfl), by repeat (first | (with_reducible first | exact HB.1 | apply below_alloc | apply pw_below_drewN | apply below_drew1) | exact HB.1)⟩
          · rw [if_neg c13] at H
            exact absurd H (by simp)
        · rw [if_neg c11] at H
          exact absurd H (by simp)
      · rw [if_neg c9] at H
        exact absurd H (by simp)
  · replace c3 := Bool.eq_false_iff.mpr c3
    subst c3
    have H1 : (some ((⟨#[]⟩ : ByteArray), 2)) = some (r1, r2) := by rw [if_neg (show ¬ (false = true) by decide)] at H; exact H
    clear H
    have H := H1
    clear H1
    simp only [Option.some.injEq, Prod.mk.injEq] at H
    obtain ⟨rfl, rfl⟩ := H
    go_enter Tryd.func13, Tryd.ntmps13
    go_wp2_with (first | ((with_reducible refine gate_callee (f := 42) rfl ?_); refine goesL_ (some 7) rfl rfl Tryd.func42 (by kernel_rfl) rfl #[.int .i64 a0, .int .i64 (-1000000000000), .int .i64 1000000000000] rfl (by (try simp only [List.map_toArray, List.map_cons, List.map_nil]); first | done | rfl | (simp only [List.length_drop, List.length_take]; rfl)) ?_; (with_reducible refine (vendmeterref_In.calls a0 (-1000000000000) 1000000000000 false _ A2.out).mono ?_); rintro e w' ⟨rfl, ⟨nd, rfl⟩⟩; refine ⟨_, rfl, ?_⟩))
    go_ret2
    exact ⟨by first | rfl | (simp [errW_none, errW_some] <;> rfl) | (simp [*, errW_none, errW_some] <;> rfl), by repeat (first | (with_reducible first | exact HB.1 | apply below_alloc | apply pw_below_drewN | apply below_drew1) | exact HB.1)⟩

/-! ### vendmeterlaw_CentsShows: function 4 -/
theorem xa4 {w : World} {g : Nat} {o : Obj} (h : w.heap[g]? = some o) (o' : Obj) : (w.alloc o').heap[g]? = some o := blk_alloc h o'
theorem xd4 {w : World} {g : Nat} {o : Obj} (h : w.heap[g]? = some o) : w.drew.heap[g]? = some o := blk_drew h
theorem xn4 {w : World} {g : Nat} {o : Obj} (h : w.heap[g]? = some o) (n : Nat) : (w.drewN n).heap[g]? = some o := blk_drewN h n
theorem ya4 {w W : World} (h : Below w.heap.size w W) (o : Obj) : Below w.heap.size w (W.alloc o) := below_alloc h o
theorem yn4 {B : Nat} {w W : World} (h : Below B w W) (n : Nat) : Below B w (W.drewN n) := pw_below_drewN h n
theorem yd4 {B : Nat} {w W : World} (h : Below B w W) : Below B w W.drew := below_drew1 h
def vendmeterlaw_CentsShows.f (k : Nat) (a0 : Int) : Option (Bool) := (cents_Show.f a0).bind fun bt120 => ((vendmeterref_Shown.f k a0).bind fun bt122 => (if bt120.1.toList = bt122.1.toList then (some (bt120.2 == bt122.2)) else (some false)))
theorem vendmeterlaw_CentsShows.mono : ∀ a0 k, LeO (vendmeterlaw_CentsShows.f k a0) (vendmeterlaw_CentsShows.f (k + 1) a0) := by
  intro a0 k
  unfold vendmeterlaw_CentsShows.f
  repeat' first
      | (with_reducible exact vendmeterref_Shown.mono _ _)
      | (with_reducible exact LeO.refl _)
      | (with_reducible exact LeO.none _)
      | (with_reducible refine LeO.ite ?_ ?_)
      | (with_reducible refine LeO.bind ?_ (fun _ => ?_))
      | exact vendmeterref_Shown.mono _ _
      | exact LeO.none _
      | refine LeO.ite ?_ ?_
      | refine LeO.bind ?_ (fun _ => ?_)
set_option maxHeartbeats 8000000 in
set_option maxRecDepth 100000 in
theorem vendmeterlaw_CentsShows.calls (k : Nat) (a0 : Int) (r : Bool) (w : World) (HTAB : LaidW w) (h : vendmeterlaw_CentsShows.f k a0 = some r) :
    Calls Tryd.prog 4 #[.int .i64 a0] w fun e w' => e = .returned (.bool r) ∧ Below w.heap.size w w' := by
  have HB := Aside0.mk (Below.refl w.heap.size w)
  have H : ((cents_Show.f a0).bind fun bt120 => ((vendmeterref_Shown.f k a0).bind fun bt122 => (if bt120.1.toList = bt122.1.toList then (some (bt120.2 == bt122.2)) else (some false)))) = some r := h
  clear h
  replace H := Option.bind_eq_some_iff.mp H
  obtain ⟨⟨t120, t121⟩, A20, H⟩ := H
  replace H : ((vendmeterref_Shown.f k a0).bind fun bt122 => (if t120.toList = bt122.1.toList then (some (t121 == bt122.2)) else (some false))) = some r := H
  have A2 := Aside0.mk A20
  clear A20
  replace H := Option.bind_eq_some_iff.mp H
  obtain ⟨⟨t122, t123⟩, A30, H⟩ := H
  replace H : (if t120.toList = t122.toList then (some (t121 == t123)) else (some false)) = some r := H
  have A3 := Aside0.mk A30
  clear A30
  by_cases c4 : t120.toList = t122.toList
  · rw [if_pos c4] at H
    have c4b0 : (t120.toList == t122.toList) = true := beq_iff_eq.mpr c4
    have c4b1 : (t120.toList != t122.toList) = false := bne_eq_false_iff_eq.mpr c4
    clear c4
    obtain rfl := Option.some.inj H
    go_enter Tryd.func4, Tryd.ntmps4
    go_wp2_with (first | ((with_reducible refine gate_callee (f := 12) rfl ?_); refine goesL_ (some 9) rfl rfl Tryd.func12 (by kernel_rfl) rfl #[.int .i64 a0] rfl (by (try simp only [List.map_toArray, List.map_cons, List.map_nil]); first | done | rfl | (simp only [List.length_drop, List.length_take]; rfl)) ?_; (with_reducible refine (cents_Show.calls a0 t120 t121 _ (HTAB.go (by repeat (first | (with_reducible first | exact HB.1 | exact Below.refl _ _ | apply below_alloc | apply pw_below_drewN | apply below_drew1) | exact HB.1))) A2.out).mono ?_); rintro e w5 ⟨rfl, hb⟩; refine ⟨_, rfl, ?_⟩; have n0_ := Aside0.mk (below_step (by with_reducible repeat (first | exact HB.1 | apply ya4 | apply yn4 | apply yd4)) hb); clear HB; have HB := n0_; clear n0_; (try clear hb); (try clear hb2); (try clear hk); (try clear hi)) | ((with_reducible refine gate_callee (f := 13) rfl ?_); refine goesL_ (some 14) rfl rfl Tryd.func13 (by kernel_rfl) rfl #[.int .i64 a0] rfl (by (try simp only [List.map_toArray, List.map_cons, List.map_nil]); first | done | rfl | (simp only [List.length_drop, List.length_take]; rfl)) ?_; (with_reducible refine (vendmeterref_Shown.calls k a0 t122 t123 _ A3.out).mono ?_); rintro e w6 ⟨rfl, hb⟩; refine ⟨_, rfl, ?_⟩; have n0_ := Aside0.mk (below_step (by with_reducible repeat (first | exact HB.1 | apply ya4 | apply yn4 | apply yd4)) hb); clear HB; have HB := n0_; clear n0_; (try clear hb); (try clear hb2); (try clear hk); (try clear hi)))
    go_ret
    exact ⟨by first | rfl | (simp [errW_none, errW_some] <;> rfl) | (simp [*, errW_none, errW_some] <;> rfl), by repeat (first | (with_reducible first | exact HB.1 | apply below_alloc | apply pw_below_drewN | apply below_drew1) | exact HB.1)⟩
  · rw [if_neg c4] at H
    have c4b0 : (t120.toList == t122.toList) = false := beq_eq_false_iff_ne.mpr c4
    have c4b1 : (t120.toList != t122.toList) = true := bne_iff_ne.mpr c4
    obtain rfl := Option.some.inj H
    go_enter Tryd.func4, Tryd.ntmps4
    go_wp2_with (first | ((with_reducible refine gate_callee (f := 12) rfl ?_); refine goesL_ (some 9) rfl rfl Tryd.func12 (by kernel_rfl) rfl #[.int .i64 a0] rfl (by (try simp only [List.map_toArray, List.map_cons, List.map_nil]); first | done | rfl | (simp only [List.length_drop, List.length_take]; rfl)) ?_; (with_reducible refine (cents_Show.calls a0 t120 t121 _ (HTAB.go (by repeat (first | (with_reducible first | exact HB.1 | exact Below.refl _ _ | apply below_alloc | apply pw_below_drewN | apply below_drew1) | exact HB.1))) A2.out).mono ?_); rintro e w7 ⟨rfl, hb⟩; refine ⟨_, rfl, ?_⟩; have n0_ := Aside0.mk (below_step (by with_reducible repeat (first | exact HB.1 | apply ya4 | apply yn4 | apply yd4)) hb); clear HB; have HB := n0_; clear n0_; (try clear hb); (try clear hb2); (try clear hk); (try clear hi)) | ((with_reducible refine gate_callee (f := 13) rfl ?_); refine goesL_ (some 14) rfl rfl Tryd.func13 (by kernel_rfl) rfl #[.int .i64 a0] rfl (by (try simp only [List.map_toArray, List.map_cons, List.map_nil]); first | done | rfl | (simp only [List.length_drop, List.length_take]; rfl)) ?_; (with_reducible refine (vendmeterref_Shown.calls k a0 t122 t123 _ A3.out).mono ?_); rintro e w8 ⟨rfl, hb⟩; refine ⟨_, rfl, ?_⟩; have n0_ := Aside0.mk (below_step (by with_reducible repeat (first | exact HB.1 | apply ya4 | apply yn4 | apply yd4)) hb); clear HB; have HB := n0_; clear n0_; (try clear hb); (try clear hb2); (try clear hk); (try clear hi)))
    go_ret
    exact ⟨by first | rfl | (simp [errW_none, errW_some] <;> rfl) | (simp [*, errW_none, errW_some] <;> rfl), by repeat (first | (with_reducible first | exact HB.1 | apply below_alloc | apply pw_below_drewN | apply below_drew1) | exact HB.1)⟩

/-- THE ONE PURE STATEMENT of vendmeterlaw_CentsShows: yours. -/
def vendmeterlaw_CentsShows.Pure : Prop := ∀ (a0 : Int), (Lit.int .i64 a0).wf = true → ∃ k, vendmeterlaw_CentsShows.f k a0 = some true
theorem vendmeterlaw_CentsShows.walk (P : vendmeterlaw_CentsShows.Pure) (a0 : Int) (w : World) (HTAB : LaidW w) (w0 : (Lit.int .i64 a0).wf = true) :
    Calls Tryd.prog 4 #[.int .i64 a0] w fun e w' => e = .returned (.bool true) ∧ Below w.heap.size w w' := by
  obtain ⟨k, h⟩ := P a0 w0
  refine (vendmeterlaw_CentsShows.calls k a0 true w HTAB h).mono ?_
  rintro e w' ⟨rfl, hd⟩
  exact ⟨rfl, hd⟩

end Go.Proofs.YtoookcmablnjfaaDoor.PCentsShows
