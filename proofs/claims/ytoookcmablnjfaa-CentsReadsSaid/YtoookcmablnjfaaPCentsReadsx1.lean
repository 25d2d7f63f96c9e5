-- written by this session's program wip/xp/xprint.py (it drives the kit's print and adds to it)
import Derived.Test.YtoookcmablnjfaaPCentsReadsx0
namespace Go.Proofs.Ytoookcmablnjfaa.PCentsReads
open Go.RowKit Go.Proofs.YtoookcmablnjfaaW.PrintWords Go.Proofs.YtoookcmablnjfaaW.PrintLast Go.Proofs.YtoookcmablnjfaaW.PrintMore
attribute [local go_sem] max2_int min2_int max_two min_two max_three min_three max_four min_four   -- for this text's walks alone
set_option linter.unusedVariables false
set_option linter.unusedSimpArgs false

-- NOT PRINTED: function 92 (stringslite_HasPrefix)

-- NOT PRINTED: function 73 (stringslite_CutPrefix)

/-! ### strings_CutPrefix: function 33 (the kit's contract, in the print's shape) -/
def strings_CutPrefix.f (a0 : ByteArray) (a1 : ByteArray) : Option (ByteArray × Bool) := some (⟨(Lib.trimPrefix a0.data.toList a1.data.toList).toArray⟩, Lib.hasPrefix a0.data.toList a1.data.toList)
theorem strings_CutPrefix.calls (a0 : ByteArray) (a1 : ByteArray) (r1 : ByteArray) (r2 : Bool) (w : World) (h : strings_CutPrefix.f a0 a1 = some (r1, r2)) :
    Calls Try.prog 33 #[.string a0, .string a1] w fun e w' => e = .returned (.tuple #[.string r1, .bool r2]) ∧ Below w.heap.size w w' := by
  obtain ⟨rfl, rfl⟩ := Prod.mk.inj (Option.some.inj h)
  exact (Try.strings_CutPrefix a0 a1 w).mono (fun e w' h => ⟨h.1, h.2 ▸ Below.refl _ _⟩)

-- NOT PRINTED: function 114 (bytealg_IndexByteString)

-- NOT PRINTED: function 106 (stringslite_IndexByte)

-- NOT PRINTED: function 107 (bytealg_IndexString)

-- NOT PRINTED: function 108 (bytealg_Cutover)

-- NOT PRINTED: function 115 (bytealg_hashStr_string)

-- NOT PRINTED: function 109 (bytealg_IndexRabinKarp_string)

-- NOT PRINTED: function 93 (stringslite_Index)

-- NOT PRINTED: function 74 (stringslite_Cut)

set_option maxHeartbeats 2000000 in
set_option maxRecDepth 100000 in
theorem stringslite_Cut.one (w : World) (s : ByteArray) (c : UInt8) (hs : s.size ≤ 1000000) :
    Calls Try.prog 74 #[.string s, .string ⟨#[c]⟩] w fun e w' => e = .returned (if 0 ≤ Lib.indexByte s.data.toList c then .tuple #[.string (s.extract 0 (Lib.indexByte s.data.toList c).toNat), .string (s.extract ((Lib.indexByte s.data.toList c).toNat + 1) s.size), .bool true] else .tuple #[.string s, .string ⟨#[]⟩, .bool false]) ∧ Below w.heap.size w w' := by
  have hi := Lib.indexByte_ge s.data.toList c
  obtain ⟨i, hI⟩ : ∃ i, Lib.indexByte s.data.toList c = i := ⟨_, rfl⟩
  by_cases h0 : 0 ≤ i
  · obtain ⟨n, rfl⟩ := Int.eq_ofNat_of_zero_le h0
    have hlt : n < s.size := by
      have h := (Lib.indexByte_some hI).1
      have := (List.getElem?_eq_some_iff.1 h).1
      simpa using this
    rw [hI, if_pos h0]
    have e1 : wrap64 ((n : Int) + 1) = ((n + 1 : Nat) : Int) := by rw [IntWalk.wrap64_in _ ⟨by omega, by omega⟩]; rfl
    have hI' := Aside0.mk hI
    have c1 : (0 : Int) ≤ (n : Int) := h0
    have c2 : (n : Int) ≤ (s.size : Int) := by omega
    have c3 : (0 : Int) ≤ (n : Int) + 1 := by omega
    have c4 : (n : Int) + 1 ≤ (s.size : Int) := by omega
    have t1 : (decide ((n : Int) ≥ 0)) = true := decide_eq_true h0
    clear hI hi
    go_enter Try.func74, Try.ntmps74
    go_wp2_with (go_at_call 93; refine (Try.stringslite_Index_one s c _).mono ?_; rintro e w1 ⟨rfl, hw1⟩; subst hw1; rw [hI'.out])
    go_region_o
    go_wp2
    go_ret3
    exact ⟨rfl, by repeat (first | exact Below.refl _ _ | apply below_drew1 | apply pw_below_drewN)⟩
  · rw [hI, if_neg h0]
    have hI' := Aside0.mk hI
    have t1 : (decide (i ≥ 0)) = false := decide_eq_false h0
    clear hI hi h0
    go_enter Try.func74, Try.ntmps74
    go_wp2_with (go_at_call 93; refine (Try.stringslite_Index_one s c _).mono ?_; rintro e w1 ⟨rfl, hw1⟩; subst hw1; rw [hI'.out])
    go_ret3
    exact ⟨rfl, by repeat (first | exact Below.refl _ _ | apply below_drew1 | apply pw_below_drewN)⟩
def cutOne (s : ByteArray) (c : UInt8) : ByteArray × ByteArray × Bool := if 0 ≤ Lib.indexByte s.data.toList c then (s.extract 0 (Lib.indexByte s.data.toList c).toNat, s.extract ((Lib.indexByte s.data.toList c).toNat + 1) s.size, true) else (s, ⟨#[]⟩, false)
theorem stringslite_Cut.one2 (w : World) (s : ByteArray) (c : UInt8) (hs : s.size ≤ 1000000) :
    Calls Try.prog 74 #[.string s, .string ⟨#[c]⟩] w fun e w' => e = .returned (.tuple #[.string (cutOne s c).1, .string (cutOne s c).2.1, .bool (cutOne s c).2.2]) ∧ Below w.heap.size w w' := by
  refine (stringslite_Cut.one w s c hs).mono (fun e w' h => ⟨h.1.trans ?_, h.2⟩)
  unfold cutOne
  split <;> rfl
set_option maxHeartbeats 2000000 in
set_option maxRecDepth 100000 in
theorem strings_Cut.one (w : World) (s : ByteArray) (c : UInt8) (hs : s.size ≤ 1000000) :
    Calls Try.prog 34 #[.string s, .string ⟨#[c]⟩] w fun e w' => e = .returned (.tuple #[.string (cutOne s c).1, .string (cutOne s c).2.1, .bool (cutOne s c).2.2]) ∧ Below w.heap.size w w' := by
  obtain ⟨x, hx⟩ : ∃ x, cutOne s c = x := ⟨_, rfl⟩
  have H := stringslite_Cut.one2 w s c hs
  rw [hx] at H ⊢
  obtain ⟨x1, x2, x3⟩ := x
  have H := Aside0.mk H
  clear hx
  go_enter Try.func34, Try.ntmps34
  go_wp2_with (go_at_call 74; refine H.out.mono ?_; rintro e w1 ⟨rfl, hb1⟩)
  go_ret3
  exact ⟨rfl, by repeat (first | exact hb1 | exact Below.refl _ _ | apply below_drew1 | apply pw_below_drewN)⟩
/-! ### strings_Cut: function 34 (a text of one byte to cut at; by hand) -/
def strings_Cut.f (a0 : ByteArray) (a1 : ByteArray) : Option (ByteArray × ByteArray × Bool) := match a1.data.toList with
  | [c] => if a0.size ≤ 1000000 then some (cutOne a0 c) else none
  | _ => none
theorem strings_Cut.calls (a0 : ByteArray) (a1 : ByteArray) (r1 : ByteArray) (r2 : ByteArray) (r3 : Bool) (w : World) (h : strings_Cut.f a0 a1 = some (r1, r2, r3)) :
    Calls Try.prog 34 #[.string a0, .string a1] w fun e w' => e = .returned (.tuple #[.string r1, .string r2, .bool r3]) ∧ Below w.heap.size w w' := by
  unfold strings_Cut.f at h
  split at h
  · rename_i c hc
    split at h
    · rename_i hs
      have e : a1 = ⟨#[c]⟩ := by
        apply ByteArray.ext; apply Array.ext'; exact hc
      subst e
      have := strings_Cut.one w a0 c hs
      rw [Option.some.inj h] at this
      exact this
    · cases h
  · cases h

def rdOk (s : ByteArray) (p : Nat) : Prop := 48 ≤ bt s (p : Int) ∧ bt s (p : Int) ≤ 57
theorem rd_nat (s : ByteArray) (p : Nat) (h : p < s.size) : bt s (p : Int) = ((s[p]'h).toNat : Int) := by
  unfold bt
  rw [dif_pos (show (p : Int).toNat < s.size by simpa using h)]
  simp
theorem rd_ok (s : ByteArray) (p : Nat) (h : p < s.size) (hk : rdOk s p) : Utf8.decode s p = ((bt s (p : Int)).toNat, 1) := by
  unfold rdOk at hk
  rw [rd_nat s p h] at hk
  rw [decode_ascii s p h (by omega), rd_nat s p h]
  simp
theorem rd_no (s : ByteArray) (p : Nat) (h : p < s.size) (hk : ¬ rdOk s p) : ((Utf8.decode s p).1 : Int) < 48 ∨ ((Utf8.decode s p).1 : Int) > 57 := by
  unfold rdOk at hk
  rw [rd_nat s p h] at hk
  by_cases h8 : (s[p]'h).toNat < 128
  · rw [decode_ascii s p h h8]
    dsimp only
    omega
  · have := (decode_high s p h (by omega)).1
    omega
theorem rd_empty (s : ByteArray) : s.toList.isEmpty = decide (s.size = 0) := by
  rw [ByteArray.toList_eq]
  cases h : s.data.toList with
  | nil => have : s.size = 0 := by show s.data.size = 0; rw [← Array.length_toList, h]; rfl
           simp [this]
  | cons a l => have : ¬ s.size = 0 := by intro e; have e2 : s.data.size = 0 := e; rw [← Array.length_toList, h] at e2; simp at e2
                simp [this]

def crF (f : Nat → Int) : Nat → Int
  | 0 => 0
  | i + 1 => min (crF f i * 10 + (f i - 48)) 1000000000001
theorem crF_bd {f : Nat → Int} : ∀ {m : Nat}, (∀ j, j < m → 48 ≤ f j ∧ f j ≤ 57) → 0 ≤ crF f m ∧ crF f m ≤ 1000000000001
  | 0, _ => by simp [crF]
  | m + 1, h => by
    have h1 := crF_bd (m := m) (fun j hj => h j (by omega))
    have h2 := h m (by omega)
    simp only [crF]
    omega
def crEnd (below : Bool) (n : Int) : Int × Int := if below = true ∧ n = 0 then (0, 3) else if n > 1000000000000 then (0, 2) else (if below = true then -n else n, 0)
set_option maxHeartbeats 8000000 in
set_option maxRecDepth 100000 in
theorem cents_Read.long (w : World) (s : ByteArray) (h : 20 < s.size) :
    Calls Try.prog 14 #[.string s] w fun e w' => e = .returned (.tuple #[.int .i64 0, .int .i64 1]) ∧ Below w.heap.size w w' := by
  have t1 : decide ((s.size : Int) > 20) = true := decide_eq_true (by omega)
  have t1n : decide (20 < s.size) = true := decide_eq_true h
  clear h
  go_enter Try.func14, Try.ntmps14
  go_wp2
  go_ret2
  exact ⟨rfl, by repeat (first | exact Below.refl _ _ | apply below_drew1 | apply pw_below_drewN)⟩
set_option maxHeartbeats 8000000 in
set_option maxRecDepth 100000 in
theorem cents_Read.form1 (w : World) (s body whole last : ByteArray) (below ok : Bool) (h : s.size ≤ 20) (HP : Aside0 (∀ w : World, Calls Try.prog 33 #[.string s, .string ⟨#[45]⟩] w fun e w' => e = .returned (.tuple #[.string body, .bool below]) ∧ Below w.heap.size w w')) (HC : Aside0 (∀ w : World, Calls Try.prog 34 #[.string body, .string ⟨#[46]⟩] w fun e w' => e = .returned (.tuple #[.string whole, .string last, .bool ok]) ∧ Below w.heap.size w w')) (hok : ok = false) :
    Calls Try.prog 14 #[.string s] w fun e w' => e = .returned (.tuple #[.int .i64 0, .int .i64 3]) ∧ Below w.heap.size w w' := by
  have s1 : decide ((s.size : Int) > 20) = false := decide_eq_false (by omega)
  have s1n : decide (20 < s.size) = false := decide_eq_false (by omega)
  subst hok
  clear h
  go_enter Try.func14, Try.ntmps14
  go_wp2_with (first | (go_at_call 33; refine (HP.out _).mono ?_; rintro e w1 ⟨rfl, hb1⟩) | (go_at_call 34; refine (HC.out _).mono ?_; rintro e w2 ⟨rfl, hb2⟩))
  go_ret2
  exact ⟨rfl, by repeat (first | exact hb1.trans (hb2.mono hb1.size) | exact below_then hb1 hb1.size hb2 | apply below_drew1 | apply pw_below_drewN)⟩
set_option maxHeartbeats 8000000 in
set_option maxRecDepth 100000 in
theorem cents_Read.form2 (w : World) (s body whole last : ByteArray) (below ok : Bool) (h : s.size ≤ 20) (HP : Aside0 (∀ w : World, Calls Try.prog 33 #[.string s, .string ⟨#[45]⟩] w fun e w' => e = .returned (.tuple #[.string body, .bool below]) ∧ Below w.heap.size w w')) (HC : Aside0 (∀ w : World, Calls Try.prog 34 #[.string body, .string ⟨#[46]⟩] w fun e w' => e = .returned (.tuple #[.string whole, .string last, .bool ok]) ∧ Below w.heap.size w w')) (hok : ok = true) (h0 : whole.size = 0) :
    Calls Try.prog 14 #[.string s] w fun e w' => e = .returned (.tuple #[.int .i64 0, .int .i64 3]) ∧ Below w.heap.size w w' := by
  have s1 : decide ((s.size : Int) > 20) = false := decide_eq_false (by omega)
  have s1n : decide (20 < s.size) = false := decide_eq_false (by omega)
  subst hok
  have ce : whole.toList.isEmpty = true := by rw [rd_empty]; exact decide_eq_true h0
  have ce2 : ((whole.size : Int) == 0) = true := beq_iff_eq.mpr (by omega)
  have ce3 : (whole.size == 0) = true := beq_iff_eq.mpr h0
  clear h0
  clear h
  go_enter Try.func14, Try.ntmps14
  go_wp2_with (first | (go_at_call 33; refine (HP.out _).mono ?_; rintro e w1 ⟨rfl, hb1⟩) | (go_at_call 34; refine (HC.out _).mono ?_; rintro e w2 ⟨rfl, hb2⟩))
  go_ret2
  exact ⟨rfl, by repeat (first | exact hb1.trans (hb2.mono hb1.size) | exact below_then hb1 hb1.size hb2 | apply below_drew1 | apply pw_below_drewN)⟩
set_option maxHeartbeats 8000000 in
set_option maxRecDepth 100000 in
theorem cents_Read.form3 (w : World) (s body whole last : ByteArray) (below ok : Bool) (h : s.size ≤ 20) (HP : Aside0 (∀ w : World, Calls Try.prog 33 #[.string s, .string ⟨#[45]⟩] w fun e w' => e = .returned (.tuple #[.string body, .bool below]) ∧ Below w.heap.size w w')) (HC : Aside0 (∀ w : World, Calls Try.prog 34 #[.string body, .string ⟨#[46]⟩] w fun e w' => e = .returned (.tuple #[.string whole, .string last, .bool ok]) ∧ Below w.heap.size w w')) (hok : ok = true) (h0 : 0 < whole.size) (hl : last.size ≠ 2) :
    Calls Try.prog 14 #[.string s] w fun e w' => e = .returned (.tuple #[.int .i64 0, .int .i64 3]) ∧ Below w.heap.size w w' := by
  have s1 : decide ((s.size : Int) > 20) = false := decide_eq_false (by omega)
  have s1n : decide (20 < s.size) = false := decide_eq_false (by omega)
  subst hok
  have ce : whole.toList.isEmpty = false := by rw [rd_empty]; exact decide_eq_false (by omega)
  have ce2 : ((whole.size : Int) == 0) = false := beq_eq_false_iff_ne.mpr (by omega)
  have ce3 : (whole.size == 0) = false := beq_eq_false_iff_ne.mpr (by omega)
  have l1 : ((last.size : Int) != 2) = true := bne_iff_ne.mpr (by omega)
  have l1n : (last.size != 2) = true := bne_iff_ne.mpr hl
  have l1m : ((last.size : Int) == 2) = false := beq_eq_false_iff_ne.mpr (by omega)
  have l1k : (last.size == 2) = false := beq_eq_false_iff_ne.mpr hl
  clear hl h0
  clear h
  go_enter Try.func14, Try.ntmps14
  go_wp2_with (first | (go_at_call 33; refine (HP.out _).mono ?_; rintro e w1 ⟨rfl, hb1⟩) | (go_at_call 34; refine (HC.out _).mono ?_; rintro e w2 ⟨rfl, hb2⟩))
  go_ret2
  exact ⟨rfl, by repeat (first | exact hb1.trans (hb2.mono hb1.size) | exact below_then hb1 hb1.size hb2 | apply below_drew1 | apply pw_below_drewN)⟩
set_option maxHeartbeats 8000000 in
set_option maxRecDepth 100000 in
theorem cents_Read.form4 (w : World) (s body whole last : ByteArray) (below ok : Bool) (h : s.size ≤ 20) (HP : Aside0 (∀ w : World, Calls Try.prog 33 #[.string s, .string ⟨#[45]⟩] w fun e w' => e = .returned (.tuple #[.string body, .bool below]) ∧ Below w.heap.size w w')) (HC : Aside0 (∀ w : World, Calls Try.prog 34 #[.string body, .string ⟨#[46]⟩] w fun e w' => e = .returned (.tuple #[.string whole, .string last, .bool ok]) ∧ Below w.heap.size w w')) (hok : ok = true) (h0 : 1 < whole.size) (hl : last.size = 2) (hz : bt whole 0 = 48) :
    Calls Try.prog 14 #[.string s] w fun e w' => e = .returned (.tuple #[.int .i64 0, .int .i64 3]) ∧ Below w.heap.size w w' := by
  have s1 : decide ((s.size : Int) > 20) = false := decide_eq_false (by omega)
  have s1n : decide (20 < s.size) = false := decide_eq_false (by omega)
  subst hok
  have ce : whole.toList.isEmpty = false := by rw [rd_empty]; exact decide_eq_false (by omega)
  have ce2 : ((whole.size : Int) == 0) = false := beq_eq_false_iff_ne.mpr (by omega)
  have ce3 : (whole.size == 0) = false := beq_eq_false_iff_ne.mpr (by omega)
  have l1 : ((last.size : Int) != 2) = false := by simp [hl]
  have l1n : (last.size != 2) = false := by simp [hl]
  have l1m : ((last.size : Int) == 2) = true := by simp [hl]
  have l1k : (last.size == 2) = true := by simp [hl]
  have p0 : (0 ≤ (0 : Int)) = True := eq_true (Int.le_refl _)
  have q0 : ((0 : Int) < (whole.size : Int)) = True := eq_true (by omega)
  have q1 : (0 < whole.size) = True := eq_true (by omega)
  have hs0 : 0 < whole.size := by omega
  have hx0 : ((whole[0]'hs0).toNat : Int) = bt whole 0 := bt_at whole 0 hs0
  have g1 : decide ((whole.size : Int) > 1) = true := decide_eq_true (by omega)
  have g1n : decide (1 < whole.size) = true := decide_eq_true h0
  have g2 : (bt whole 0 == 48) = true := beq_iff_eq.mpr hz
  clear hl h0 hz
  clear h
  go_enter Try.func14, Try.ntmps14
  go_wp2_with (first | (go_at_call 33; refine (HP.out _).mono ?_; rintro e w1 ⟨rfl, hb1⟩) | (go_at_call 34; refine (HC.out _).mono ?_; rintro e w2 ⟨rfl, hb2⟩))
  go_ret2
  exact ⟨rfl, by repeat (first | exact hb1.trans (hb2.mono hb1.size) | exact below_then hb1 hb1.size hb2 | apply below_drew1 | apply pw_below_drewN)⟩
set_option maxHeartbeats 8000000 in
set_option maxRecDepth 100000 in
theorem cents_Read.loop (w : World) (s body whole last : ByteArray) (below ok : Bool) (h : s.size ≤ 20) (HP : Aside0 (∀ w : World, Calls Try.prog 33 #[.string s, .string ⟨#[45]⟩] w fun e w' => e = .returned (.tuple #[.string body, .bool below]) ∧ Below w.heap.size w w')) (HC : Aside0 (∀ w : World, Calls Try.prog 34 #[.string body, .string ⟨#[46]⟩] w fun e w' => e = .returned (.tuple #[.string whole, .string last, .bool ok]) ∧ Below w.heap.size w w')) (hok : ok = true) (h0 : 0 < whole.size) (hl : last.size = 2) (h00 : ¬ (1 < whole.size ∧ bt whole 0 = 48)) (hws : whole.size ≤ 100) (t : ByteArray) (ht : whole ++ last = t) (m : Nat) (hm : m ≤ t.size) (hgood : ∀ j, j < m → rdOk t j) (r1 r2 : Int) (hend : (m = t.size ∧ (r1, r2) = crEnd below (crF (fun j => bt t (j : Int)) m)) ∨ (m < t.size ∧ ¬ rdOk t m ∧ (r1, r2) = (0, 3))) :
    Calls Try.prog 14 #[.string s] w fun e w' => e = .returned (.tuple #[.int .i64 r1, .int .i64 r2]) ∧ Below w.heap.size w w' := by
  subst hok
  have s1 : decide ((s.size : Int) > 20) = false := decide_eq_false (by omega)
  have s1n : decide (20 < s.size) = false := decide_eq_false (by omega)
  have l1 : ((last.size : Int) != 2) = false := by simp [hl]
  have l1n : (last.size != 2) = false := by simp [hl]
  have l1m : ((last.size : Int) == 2) = true := by simp [hl]
  have l1k : (last.size == 2) = true := by simp [hl]
  have ce : whole.toList.isEmpty = false := by rw [rd_empty]; exact decide_eq_false (by omega)
  have ce2 : ((whole.size : Int) == 0) = false := beq_eq_false_iff_ne.mpr (by omega)
  have ce3 : (whole.size == 0) = false := beq_eq_false_iff_ne.mpr (by omega)
  have p0 : (0 ≤ (0 : Int)) = True := eq_true (Int.le_refl _)
  have q0 : ((0 : Int) < (whole.size : Int)) = True := eq_true (by omega)
  have q1 : (0 < whole.size) = True := eq_true (by omega)
  have hs0 : 0 < whole.size := by omega
  have hx0 : ((whole[0]'hs0).toNat : Int) = bt whole 0 := bt_at whole 0 hs0
  have c1 : (decide ((whole.size : Int) > 1) = false ∧ decide (1 < whole.size) = false) ∨ (decide ((whole.size : Int) > 1) = true ∧ decide (1 < whole.size) = true ∧ (bt whole 0 == 48) = false) := by
    by_cases g : 1 < whole.size
    · exact .inr ⟨decide_eq_true (by omega), decide_eq_true g, beq_eq_false_iff_ne.mpr (fun z => h00 ⟨g, z⟩)⟩
    · exact .inl ⟨decide_eq_false (by omega), decide_eq_false g⟩
  have HE := Aside0.mk (And.intro hm (And.intro hgood hend))
  have hcat : whole.size + last.size ≤ 9223372036854775807 := by omega
  have HS := Aside0.mk (And.intro hl (And.intro h0 hws))
  clear h h00 hm hgood hend hl
  go_enter Try.func14, Try.ntmps14
  go_upto_region 5 with (first | (go_at_call 33; refine (HP.out _).mono ?_; rintro e w1 ⟨rfl, hb1⟩) | (go_at_call 34; refine (HC.out _).mono ?_; rintro e w2 ⟨rfl, hb2⟩))
  have HB2 := Aside0.mk (below_then hb1 hb1.size hb2)
  clear hb1 hb2
  have HIT := Aside0.mk (World.iter_heap w2 t 0)
  have HB3 := Aside0.mk (HB2.out.alloc HB2.out.size (.stringIter t 0))
  rcases c1 with ⟨c1, c1y⟩ | ⟨c1, c1y, c1z⟩
  all_goals (
    go_wp2
    go_loopg [9] m (fun kq v9 w' => ∃ p : Nat, v9 = .int .i64 (crF (fun j => bt t (j : Int)) p) ∧ Aside0 (p ≤ m ∧ kq = m - p) ∧ w'.heap[w2.heap.size]? = some (.stringIter t p) ∧ Below w.heap.size w w')
    case atStart => exact ⟨0, rfl, ⟨Nat.zero_le _, by omega⟩, HIT.out, HB3.out⟩
    case round =>
      clear HIT HB3
      obtain ⟨p, rfl, HPM, hit, hbw⟩ := hrel
      by_cases hpm : p < m
      · have hps : p < t.size := by have := HE.out.1; omega
        have hk : rdOk t p := HE.out.2.1 p hpm
        have hdc := rd_ok t p hps hk
        have hcc : ((bt t (p : Int)).toNat : Int) = bt t (p : Int) := Int.toNat_of_nonneg (bt_range t p).1
        have hnx : ∀ ty, (Instr.next (.pointer (some ⟨w2.heap.size, 0, none⟩)) true ty).run Try.prog wr = _ := fun ty => Lib.run_next_any_at wr w2.heap.size t p ty hit hps
        have hit2 := Lib.iterAt_heap wr w2.heap.size t p (p + (Utf8.decode t p).2) hit
        have NB' := Lib.below_iterAt hbw (k := w2.heap.size) HB2.out.size t (p + (Utf8.decode t p).2)
        rw [hdc] at hnx hit2 NB'
        simp only at hnx hit2 NB'
        obtain ⟨W1, hW1⟩ : ∃ W1, W1 = wr.iterAt w2.heap.size t (p + 1) := ⟨_, rfl⟩
        rw [← hW1] at hnx hit2 NB'
        obtain ⟨c, hc⟩ : ∃ c, (bt t (p : Int)).toNat = c := ⟨_, rfl⟩
        rw [hc] at hnx hcc
        have hcb : 48 ≤ c ∧ c ≤ 57 := by have := hk.1; have := hk.2; omega
        have t1 : decide ((c : Int) < 48) = false := decide_eq_false (by omega)
        have t2 : decide ((c : Int) > 57) = false := decide_eq_false (by omega)
        have t1n : decide (c < 48) = false := decide_eq_false (by omega)
        have t2n : decide (57 < c) = false := decide_eq_false (by omega)
        obtain ⟨v, hv⟩ : ∃ v, crF (fun j => bt t (j : Int)) p = v := ⟨_, rfl⟩
        have hvb : 0 ≤ v ∧ v ≤ 1000000000001 := by rw [← hv]; exact crF_bd (fun j hj => HE.out.2.1 j (by have := HPM.out.1; omega))
        have hv2 : crF (fun j => bt t (j : Int)) (p + 1) = min (v * 10 + ((c : Int) - 48)) 1000000000001 := by simp only [crF]; rw [hv, ← hcc]
        have e1 : wrap64 (v * 10) = v * 10 := IntWalk.wrap64_in _ ⟨by omega, by omega⟩
        have e2 : wrap32 ((c : Int) - 48) = (c : Int) - 48 := IntWalk.wrap32_in _ ⟨by omega, by omega⟩
        have e3 : wrap64 ((c : Int) - 48) = (c : Int) - 48 := IntWalk.wrap64_in _ ⟨by omega, by omega⟩
        have e4 : wrap64 (v * 10 + ((c : Int) - 48)) = v * 10 + ((c : Int) - 48) := IntWalk.wrap64_in _ ⟨by omega, by omega⟩
        rw [hv]
        have HV2 := Aside0.mk (And.intro hv2 (And.intro hpm (And.intro hit2 NB')))
        clear hv2 hv hvb hcb hcc hc hW1 hk hdc hit hbw hpm hps
        go_wp2
        all_goals (
          go_roundg (m - (p + 1))
          case measure => have := HV2.out.2.1; have := HPM.out; omega
          case rel => exact ⟨p + 1, by rw [HV2.out.1]; congr 1; omega, ⟨HV2.out.2.1, rfl⟩, HV2.out.2.2.1, HV2.out.2.2.2⟩)
      · obtain rfl : p = m := by have := HPM.out.1; omega
        rcases HE.out.2.2 with ⟨he, hd⟩ | ⟨hlt, hbad, hd⟩
        · have hnx : ∀ ty, (Instr.next (.pointer (some ⟨w2.heap.size, 0, none⟩)) true ty).run Try.prog wr = _ := fun ty => Lib.run_next_end_at wr w2.heap.size t p ty hit (by omega)
          have hvb : 0 ≤ crF (fun j => bt t (j : Int)) p ∧ crF (fun j => bt t (j : Int)) p ≤ 1000000000001 := crF_bd (fun j hj => HE.out.2.1 j hj)
          obtain ⟨v, hv⟩ : ∃ v, crF (fun j => bt t (j : Int)) p = v := ⟨_, rfl⟩
          rw [hv] at hvb hd ⊢
          have HD := Aside0.mk hd
          clear hv he hit
          have HBW := Aside0.mk hbw
          clear hd hbw hpm
          by_cases hn0 : v = 0
          · have z1 : (v == 0) = true := beq_iff_eq.mpr hn0
            subst hn0
            cases below
            all_goals (
              go_wp2
              go_ret2
              exact ⟨by have hd := HD.out; simp [crEnd] at hd; rw [hd.1, hd.2]; rfl, by repeat (first | exact HBW.out | apply below_drew1 | apply pw_below_drewN)⟩)
          · have z1 : (v == 0) = false := beq_eq_false_iff_ne.mpr hn0
            by_cases hn1 : v > 1000000000000
            · have z2 : decide (v > 1000000000000) = true := decide_eq_true hn1
              have z2n : decide (1000000000000 < v) = true := decide_eq_true hn1
              have HN := Aside0.mk (And.intro hn0 hn1)
              clear hn0 hn1 hvb
              cases below
              all_goals (
                go_wp2
                go_ret2
                exact ⟨by have hd := HD.out; unfold crEnd at hd; rw [if_neg (fun z => HN.out.1 z.2), if_pos HN.out.2] at hd; simp at hd; rw [hd.1, hd.2]; rfl, by repeat (first | exact HBW.out | apply below_drew1 | apply pw_below_drewN)⟩)
            · have z2 : decide (v > 1000000000000) = false := decide_eq_false hn1
              have z2n : decide (1000000000000 < v) = false := decide_eq_false hn1
              have z3 : wrap64 (-v) = -v := IntWalk.wrap64_in _ ⟨by omega, by omega⟩
              have HN := Aside0.mk (And.intro hn0 hn1)
              clear hn0 hn1 hvb
              cases below
              all_goals (
                go_wp2
                go_ret2
                exact ⟨by have hd := HD.out; unfold crEnd at hd; rw [if_neg (fun z => HN.out.1 z.2), if_neg (show ¬ v > 1000000000000 by have := HN.out.2; omega)] at hd; simp at hd; rw [hd.1, hd.2]; rfl, by repeat (first | exact HBW.out | apply below_drew1 | apply pw_below_drewN)⟩)
        · have hnx : ∀ ty, (Instr.next (.pointer (some ⟨w2.heap.size, 0, none⟩)) true ty).run Try.prog wr = _ := fun ty => Lib.run_next_any_at wr w2.heap.size t p ty hit hlt
          have NB' := Lib.below_iterAt hbw (k := w2.heap.size) HB2.out.size t (p + (Utf8.decode t p).2)
          have hrn := rd_no t p hlt hbad
          obtain ⟨rfl, rfl⟩ := Prod.mk.inj hd
          obtain ⟨W1, hW1⟩ : ∃ W1, W1 = wr.iterAt w2.heap.size t (p + (Utf8.decode t p).2) := ⟨_, rfl⟩
          rw [← hW1] at hnx NB'
          obtain ⟨c, hc⟩ : ∃ c, (Utf8.decode t p).1 = c := ⟨_, rfl⟩
          rw [hc] at hnx hrn
          have NB := Aside0.mk NB'
          have t1 : (decide ((c : Int) < 48) = true ∧ decide (c < 48) = true) ∨ (decide ((c : Int) < 48) = false ∧ decide (c < 48) = false ∧ decide ((c : Int) > 57) = true ∧ decide (57 < c) = true) := by
            rcases hrn with hr | hr
            · exact .inl ⟨decide_eq_true hr, decide_eq_true (by omega)⟩
            · exact .inr ⟨decide_eq_false (by omega), decide_eq_false (by omega), decide_eq_true hr, decide_eq_true (by omega)⟩
          clear hrn hc hW1 hit hbw hlt hbad NB' hd hpm
          rcases t1 with ⟨t1, t1n⟩ | ⟨t1, t1n, t2, t2n⟩
          all_goals (
            go_wp2
            go_ret2
            exact ⟨rfl, by repeat (first | exact NB.out | apply below_drew1 | apply pw_below_drewN)⟩))

instance rdOk_dec (s : ByteArray) (j : Nat) : Decidable (rdOk s j) := by unfold rdOk; infer_instance
def allOk (t : ByteArray) : Bool := (List.range t.size).all fun j => decide (rdOk t j)
def crBody (s : ByteArray) : ByteArray := ⟨(Lib.trimPrefix s.data.toList (⟨#[45]⟩ : ByteArray).data.toList).toArray⟩
def crBelow (s : ByteArray) : Bool := Lib.hasPrefix s.data.toList (⟨#[45]⟩ : ByteArray).data.toList
def crNum (below : Bool) (t : ByteArray) : Int × Int := if allOk t = true then crEnd below (crF (fun j => bt t (j : Int)) t.size) else (0, 3)
def crAns (s : ByteArray) : Int × Int :=
  if 20 < s.size then (0, 1)
  else if (cutOne (crBody s) 46).2.2 = true ∧ 0 < (cutOne (crBody s) 46).1.size ∧ (cutOne (crBody s) 46).2.1.size = 2 ∧ ¬ (1 < (cutOne (crBody s) 46).1.size ∧ bt (cutOne (crBody s) 46).1 0 = 48) then crNum (crBelow s) ((cutOne (crBody s) 46).1 ++ (cutOne (crBody s) 46).2.1) else (0, 3)
theorem allOk_split (t : ByteArray) : (allOk t = true ∧ ∀ j, j < t.size → rdOk t j) ∨ (allOk t = false ∧ ∃ m, m < t.size ∧ (∀ j, j < m → rdOk t j) ∧ ¬ rdOk t m) := by
  cases h : allOk t with
  | true =>
    refine .inl ⟨rfl, fun j hj => ?_⟩
    unfold allOk at h
    rw [List.all_eq_true] at h
    exact of_decide_eq_true (h j (List.mem_range.2 hj))
  | false =>
    refine .inr ⟨rfl, ?_⟩
    have h2 : ¬ ∀ j, j < t.size → rdOk t j := by
      intro g
      have : allOk t = true := by unfold allOk; rw [List.all_eq_true]; exact fun j hj => decide_eq_true (g j (List.mem_range.1 hj))
      rw [h] at this; cases this
    have key : ∀ n, (∀ j, j < n → rdOk t j) ∨ ∃ m, m < n ∧ (∀ j, j < m → rdOk t j) ∧ ¬ rdOk t m := by
      intro n
      induction n with
      | zero => exact .inl (fun j hj => absurd hj (Nat.not_lt_zero _))
      | succ n ih =>
        rcases ih with ih | ⟨m, a, b, c⟩
        · by_cases hn : rdOk t n
          · exact .inl (fun j hj => by rcases Nat.lt_succ_iff_lt_or_eq.1 hj with g | g; exact ih j g; rw [g]; exact hn)
          · exact .inr ⟨n, Nat.lt_succ_self _, ih, hn⟩
        · exact .inr ⟨m, Nat.lt_succ_of_lt a, b, c⟩
    rcases key t.size with g | g
    · exact absurd g h2
    · exact g
theorem crBody_size (s : ByteArray) : (crBody s).size ≤ s.size := by
  show (List.toArray _).size ≤ _
  rw [List.size_toArray]
  unfold Lib.trimPrefix
  split
  · rw [List.length_drop]; simp
  · simp
theorem cutOne_size (s : ByteArray) (c : UInt8) : (cutOne s c).1.size ≤ s.size := by
  unfold cutOne
  split
  · simp only [ByteArray.size_extract]; omega
  · exact Nat.le_refl _
theorem cents_Read.at_ (w : World) (s : ByteArray) :
    Calls Try.prog 14 #[.string s] w fun e w' => e = .returned (.tuple #[.int .i64 (crAns s).1, .int .i64 (crAns s).2]) ∧ Below w.heap.size w w' := by
  by_cases h : 20 < s.size
  · rw [show crAns s = (0, 1) by unfold crAns; rw [if_pos h]]
    exact cents_Read.long w s h
  · have hs : s.size ≤ 20 := by omega
    have hb := crBody_size s
    have hw := cutOne_size (crBody s) 46
    have HP : Aside0 (∀ w : World, Calls Try.prog 33 #[.string s, .string ⟨#[45]⟩] w fun e w' => e = .returned (.tuple #[.string (crBody s), .bool (crBelow s)]) ∧ Below w.heap.size w w') := ⟨fun w => strings_CutPrefix.calls s ⟨#[45]⟩ _ _ w rfl⟩
    have HC0 : Aside0 (∀ w : World, Calls Try.prog 34 #[.string (crBody s), .string ⟨#[46]⟩] w fun e w' => e = .returned (.tuple #[.string (cutOne (crBody s) 46).1, .string (cutOne (crBody s) 46).2.1, .bool (cutOne (crBody s) 46).2.2]) ∧ Below w.heap.size w w') := ⟨fun w => strings_Cut.one w (crBody s) 46 (by omega)⟩
    unfold crAns
    rw [if_neg h]
    obtain ⟨⟨whole, last, ok⟩, hx⟩ : ∃ x, cutOne (crBody s) 46 = x := ⟨_, rfl⟩
    rw [hx] at HC0 hw ⊢
    simp only at HC0 hw ⊢
    obtain ⟨body, hB⟩ : ∃ x, crBody s = x := ⟨_, rfl⟩
    obtain ⟨below, hL⟩ : ∃ x, crBelow s = x := ⟨_, rfl⟩
    rw [hB] at HP HC0
    rw [hL] at HP ⊢
    split
    · rename_i hc
      obtain ⟨c1, c2, c3, c4⟩ := hc
      have hsz : (whole ++ last).size = whole.size + 2 := by rw [ByteArray.size_append, c3]
      unfold crNum
      rcases allOk_split (whole ++ last) with ⟨ha, hg⟩ | ⟨ha, m, hm, hg, hbad⟩
      · rw [if_pos ha]
        exact cents_Read.loop w s body whole last below ok hs HP HC0 c1 c2 c3 c4 (by omega) _ rfl (whole ++ last).size (Nat.le_refl _) hg _ _ (.inl ⟨rfl, rfl⟩)
      · rw [if_neg (by rw [ha]; decide)]
        exact cents_Read.loop w s body whole last below ok hs HP HC0 c1 c2 c3 c4 (by omega) _ rfl m (Nat.le_of_lt hm) hg _ _ (.inr ⟨hm, hbad, rfl⟩)
    · rename_i hc
      by_cases c1 : ok = true
      · by_cases c2 : 0 < whole.size
        · by_cases c3 : last.size = 2
          · have c4 : 1 < whole.size ∧ bt whole 0 = 48 := by
              by_cases g : 1 < whole.size ∧ bt whole 0 = 48
              · exact g
              · exact absurd ⟨c1, c2, c3, g⟩ hc
            exact cents_Read.form4 w s body whole last below ok hs HP HC0 c1 c4.1 c3 c4.2
          · exact cents_Read.form3 w s body whole last below ok hs HP HC0 c1 c2 c3
        · exact cents_Read.form2 w s body whole last below ok hs HP HC0 c1 (by omega)
      · exact cents_Read.form1 w s body whole last below ok hs HP HC0 (by simpa using c1)
/-! ### cents_Read: function 14 (by hand) -/
def cents_Read.f (a0 : ByteArray) : Option (Int × Int) := some (crAns a0)
theorem cents_Read.calls (a0 : ByteArray) (r1 : Int) (r2 : Int) (w : World) (h : cents_Read.f a0 = some (r1, r2)) :
    Calls Try.prog 14 #[.string a0] w fun e w' => e = .returned (.tuple #[.int .i64 r1, .int .i64 r2]) ∧ Below w.heap.size w w' := by
  have e := Option.some.inj h
  have := cents_Read.at_ w a0
  rw [e] at this
  exact this

/-! ### vendmeterref_Digit: function 35 -/
def vendmeterref_Digit.f (a0 : Int) : Option (Bool) := if a0 ≥ 48 then (some (decide (a0 ≤ 57))) else (some false)
set_option maxHeartbeats 8000000 in
set_option maxRecDepth 100000 in
theorem vendmeterref_Digit.calls (a0 : Int) (r : Bool) (w : World) (h : vendmeterref_Digit.f a0 = some r) :
    Calls Try.prog 35 #[.int .u8 a0] w fun e w' => e = .returned (.bool r) ∧ Drawn0 w w' := by
  have H : (if a0 ≥ 48 then (some (decide (a0 ≤ 57))) else (some false)) = some r := h
  clear h
  by_cases c2 : a0 ≥ 48
  · rw [if_pos c2] at H
    have c2b0 : decide (48 ≤ a0) = true := decide_eq_true c2
    clear c2
    obtain rfl := Option.some.inj H
    go_enter Try.func35, Try.ntmps35
    go_wp2
    go_ret
    exact ⟨by first | rfl | (simp; done) | (simp [*]; done), by repeat (first | exact Drawn0.refl _ | apply Drawn0.step)⟩
  · rw [if_neg c2] at H
    have c2b0 : decide (48 ≤ a0) = false := decide_eq_false c2
    clear c2
    obtain rfl := Option.some.inj H
    go_enter Try.func35, Try.ntmps35
    go_wp2
    go_ret
    exact ⟨by first | rfl | (simp; done) | (simp [*]; done), by repeat (first | exact Drawn0.refl _ | apply Drawn0.step)⟩

end Go.Proofs.Ytoookcmablnjfaa.PCentsReads
