-- written by this session's program wip/xp/xprint.py (it drives the kit's print and adds to it)
import Derived.Test.YtdijplohafjbcaaDoorPOrderShowsx0
namespace Go.Proofs.YtdijplohafjbcaaDoor.POrderShows
open Go.RowKit Go.Proofs.YtdijplohafjbcaaDoorW.PrintWords Go.Proofs.YtdijplohafjbcaaDoorW.PrintLast Go.Proofs.YtdijplohafjbcaaDoorW.PrintMore
attribute [local go_sem] max2_int min2_int max_two min_two max_three min_three max_four min_four   -- for this text's walks alone
set_option linter.unusedVariables false
set_option linter.unusedSimpArgs false

-- NOT PRINTED: function 16 (order_form)

-- NOT PRINTED: function 55 (strconv_small)

-- NOT PRINTED: function 70 (strconv_log10Pow2)

-- NOT PRINTED: function 71 (bits_Len64)

-- NOT PRINTED: function 72 (strconv_bool2_int)

-- NOT PRINTED: function 56 (strconv_numDigits)

-- NOT PRINTED: function 57 (strconv_formatBase10)

-- NOT PRINTED: function 73 (strconv_isPowerOfTwo)

-- NOT PRINTED: function 80 (bits_TrailingZeros32)

-- NOT PRINTED: function 81 (bits_TrailingZeros64)

-- NOT PRINTED: function 74 (bits_TrailingZeros)

-- NOT PRINTED: function 58 (strconv_formatBits)

-- NOT PRINTED: function 48 (strconv_FormatInt)

-- NOT PRINTED: function 37 (strconv_Itoa_37)

def fw : Nat → ByteArray
  | 0 => ⟨#[114, 101, 103, 105, 115, 116, 101, 114]⟩
  | 1 => ⟨#[115, 101, 108, 108]⟩
  | 2 => ⟨#[103, 114, 97, 110, 116]⟩
  | 3 => ⟨#[114, 101, 107, 101, 121]⟩
  | 4 => ⟨#[99, 104, 97, 114, 103, 101]⟩
  | 5 => ⟨#[107, 101, 121]⟩
  | _ => ⟨#[116, 105, 99, 107]⟩
def fa (i : Nat) : Bool := i == 1 || i == 2 || i == 4 || i == 6
def fb (i : Nat) : Bool := i == 1 || i == 4
def fc (i : Nat) : Bool := i == 1 || i == 2 || i == 3
/-- The seven forms lie in this world. -/
def FormsW (w : World) : Prop := ∀ i : Nat, i < 7 → w.cell? ⟨0, i * 5, none⟩ = some (.int .i64 ((i : Int) + 1)) ∧ w.cell? ⟨0, i * 5 + 1, none⟩ = some (.string (fw i)) ∧ w.cell? ⟨0, i * 5 + 2, none⟩ = some (.bool (fa i)) ∧ w.cell? ⟨0, i * 5 + 3, none⟩ = some (.bool (fb i)) ∧ w.cell? ⟨0, i * 5 + 4, none⟩ = some (.bool (fc i))
theorem FormsW.go {w W : World} (h : FormsW w) (hb : Below w.heap.size w W) : FormsW W := fun i hi =>
  let ⟨a, b, c, d, e⟩ := h i hi
  ⟨pw_cell_below hb a, pw_cell_below hb b, pw_cell_below hb c, pw_cell_below hb d, pw_cell_below hb e⟩

/-- The table of the powers of ten lies in this world. -/
structure LaidW (w : World) : Prop where
  forms : FormsW w
  tab : Lib.TabIs Tryd.prog w "internal/strconv.uint64pow10" .u64 Lib.pow10Tab
theorem LaidW.go {w W : World} (h : LaidW w) (hb : Below w.heap.size w W) : LaidW W := by
  have ht := h.tab
  refine ⟨FormsW.go h.forms hb, ?_⟩
  unfold Lib.TabIs World.var? at *
  cases hg : Tryd.prog.globalNamed "internal/strconv.uint64pow10" with
  | none => simp [hg] at ht
  | some g =>
    simp only [hg, Option.bind_some] at ht ⊢
    have hlt : g < w.heap.size := by
      rcases Nat.lt_or_ge g w.heap.size with h' | h'
      · exact h'
      · rw [Array.getElem?_eq_none h'] at ht; simp at ht
    rw [hb.block g hlt]
    exact ht
theorem grow_below {w : World} : ∀ (l : List Obj) (W : World), Below w.heap.size w W → Below w.heap.size w (Sort.grow W l.toArray)
  | [], W, h => by simpa using h
  | o :: l, W, h => by
    have e : Sort.grow W (o :: l).toArray = Sort.grow (W.alloc o) l.toArray := by rw [Sort.alloc_eq_grow, Sort.grow_grow]; simp
    rw [e]
    exact grow_below l _ (below_alloc h o)
/-! ### strconv_Itoa_18: function 18 (the kit's contract, in the print's shape; its table lies in the world) -/
def strconv_Itoa_18.f (a0 : Int) : Option ByteArray := if -9223372036854775808 ≤ a0 ∧ a0 ≤ 9223372036854775807 then some ⟨(Lib.itoa a0).toArray⟩ else none
theorem strconv_Itoa_18.calls (a0 : Int) (r : ByteArray) (w : World) (HTAB : LaidW w) (h : strconv_Itoa_18.f a0 = some r) :
    Calls Tryd.prog 18 #[.int .i64 a0] w fun e w' => e = .returned (.string r) ∧ Below w.heap.size w w' := by
  unfold strconv_Itoa_18.f at h
  split at h
  · rename_i hc
    obtain rfl := Option.some.inj h
    refine (Tryd.strconv_Itoa a0 hc.1 hc.2 w HTAB.tab).mono (fun e w' hh => ⟨hh.1, ?_⟩)
    obtain ⟨k, os, rfl⟩ := hh.2
    have hg := grow_below os.toList (w.drewN k) (pw_below_drewN (Below.refl w.heap.size w) k)
    rwa [Array.toArray_toList] at hg
  · cases h

-- NOT PRINTED: function 19 (order_places)

-- NOT PRINTED: function 20 (order_bare)

-- NOT PRINTED: function 75 (bytealg_IndexByteString)

-- NOT PRINTED: function 59 (stringslite_IndexByte)

-- NOT PRINTED: function 60 (bytealg_IndexString)

-- NOT PRINTED: function 61 (bytealg_Cutover)

-- NOT PRINTED: function 76 (bytealg_hashStr_string)

-- NOT PRINTED: function 62 (bytealg_IndexRabinKarp_string)

-- NOT PRINTED: function 49 (stringslite_Index)

-- NOT PRINTED: function 38 (strings_Index)

/-! ### strings_Contains: function 21 (the kit's contract at a text of one byte) -/
def strings_Contains.f (a0 a1 : ByteArray) : Option Bool := if a1.size = 1 then some (decide (0 ≤ Lib.indexByte a0.data.toList (a1.get! 0))) else none
theorem strings_Contains.calls (a0 a1 : ByteArray) (r : Bool) (w : World) (h : strings_Contains.f a0 a1 = some r) :
    Calls Tryd.prog 21 #[.string a0, .string a1] w fun e w' => e = .returned (.bool r) ∧ Drawn0 w w' := by
  unfold strings_Contains.f at h
  split at h
  · rename_i hc
    obtain rfl := Option.some.inj h
    obtain ⟨b, rfl⟩ : ∃ b : UInt8, a1 = ⟨#[b]⟩ := by
      obtain ⟨⟨l⟩⟩ := a1
      match l, hc with
      | [b], _ => exact ⟨b, rfl⟩
    exact (Tryd.strings_Contains_one a0 b w).mono (by rintro e w' ⟨rfl, rfl⟩; exact ⟨rfl, 0, rfl⟩)
  · cases h

-- NOT PRINTED: function 63 (abi_NoEscape)

-- NOT PRINTED: function 50 (strings_Builder_copyCheck)

-- NOT PRINTED: function 64 (bytealg_MakeNoZero)

-- NOT PRINTED: function 51 (strings_Builder_grow)

-- NOT PRINTED: function 39 (strings_Builder_Grow)

-- NOT PRINTED: function 40 (strings_Builder_WriteString)

-- NOT PRINTED: function 41 (strings_Builder_String)

theorem str_spot {w : World} {a : Addr} {v : Value} (h : w.cell? a = some v) : a.spot = none ∧ a.block < w.heap.size := by
  unfold World.cell? at h
  split at h
  · rename_i c _ _ hh
    refine ⟨?_, (Array.getElem?_eq_some_iff.1 hh).1⟩
    cases hs : a.spot with
    | none => rfl
    | some x => rw [hs] at h; simp at h
  · cases h
theorem strC {w : World} {A : Option Addr} {l : List ByteArray} (h : Kd.C Kd.string w A l.length l) (h0 : 0 < l.length) : ∃ b o, A = some ⟨b, o, none⟩ ∧ b < w.heap.size ∧ ∀ (j : Nat) x, l[j]? = some x → w.cell? ⟨b, o + j, none⟩ = some (.string x) := by
  obtain ⟨ad, hA, hc⟩ := Kd.at_string h 0 (by omega) (by omega)
  have hc0 : w.cell? ad = some (.string (rdOf ByteArray.empty l 0)) := hc
  obtain ⟨hs, hb⟩ := str_spot hc0
  obtain ⟨b, o, s⟩ := ad
  obtain rfl : s = none := hs
  refine ⟨b, o, hA, hb, fun j x hx => ?_⟩
  have hj : j < l.length := (List.getElem?_eq_some_iff.1 hx).1
  obtain ⟨ad2, hA2, hc2⟩ := Kd.at_string h (j : Int) (by omega) (by omega)
  rw [hA] at hA2
  obtain rfl := Option.some.inj hA2
  have e1 : rdOf ByteArray.empty l (j : Int) = x := by
    unfold rdOf
    rw [Int.toNat_natCast, List.getD_eq_getElem?_getD, hx]
    rfl
  rw [e1] at hc2
  cases j with
  | zero => exact hc2
  | succ n => exact hc2

/-! ### strings_Join: function 22 (the kit's contract, in the print's shape) -/
def strings_Join.f (l0 : List ByteArray) (a1 : ByteArray) : Option ByteArray := if l0.length ≤ 140737488355328 ∧ (Lib.join (l0.map (·.data.toList)) a1.data.toList).length ≤ 140737488355328 then some ⟨(Lib.join (l0.map (·.data.toList)) a1.data.toList).toArray⟩ else none
theorem strings_Join.calls (A0 : Option Addr) (c0 : Nat) (l0 : List ByteArray) (a1 : ByteArray) (r : ByteArray) (w : World) (hr0 : Kd.C Kd.string w A0 l0.length l0) (hc0 : l0.length ≤ c0) (h : strings_Join.f l0 a1 = some r) :
    Calls Tryd.prog 22 #[.slice A0 l0.length c0, .string a1] w fun e w' => e = .returned (.string r) ∧ Below w.heap.size w w' := by
  unfold strings_Join.f at h
  split at h
  · rename_i hc
    obtain rfl := Option.some.inj h
    cases hl : l0 with
    | nil =>
      refine (Tryd.strings_Join_none A0 c0 a1 w).mono ?_
      rintro e w' ⟨rfl, rfl⟩
      exact ⟨rfl, Below.refl _ _⟩
    | cons x t =>
      rw [← hl]
      obtain ⟨b, o, rfl, hb, hcells⟩ := strC hr0 (by rw [hl]; exact Nat.succ_pos _)
      exact Tryd.strings_Join b o c0 l0 a1 w hcells hb hc.1 hc0 hc.2
  · cases h

end Go.Proofs.YtdijplohafjbcaaDoor.POrderShows
