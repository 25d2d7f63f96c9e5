/- vendmeterlaw.CodeReads returns true at every text: readback.Read answers what a meter shows as the reference does, or the same fault. No condition. -/
import Derived.Test.YtoookcmablnjfaaDoorPCodeReadsx2
import Derived.Test.YtoookcmablnjfaaDoorXLib
set_option linter.unusedVariables false
set_option linter.unusedSimpArgs false
namespace Go.Proofs.YtoookcmablnjfaaDoor.Pure
open Go.RowKit Go.Proofs.YtoookcmablnjfaaDoor.PCodeReads Go.Proofs.YtoookcmablnjfaaDoorW.PrintWords Go.Proofs.YtoookcmablnjfaaDoorW.PrintLast Go.Proofs.YtoookcmablnjfaaDoorW.PrintMore Go.Proofs.YtoookcmablnjfaaDoorW.XLib

def okAt (s : ByteArray) (p : Nat) : Bool := decide (48 ≤ bt s (p : Int) ∧ bt s (p : Int) ≤ 57)
def okFrom (s : ByteArray) : Nat → Nat → Bool
  | 0, _ => true
  | m + 1, p => okAt s p && okFrom s m (p + 1)
def digAns (s : ByteArray) : Int := if (s.size : Int) < 1 then 1 else if (s.size : Int) > 200 then 1 else if okFrom s s.size 0 = true then 0 else 7
theorem bt_nat (s : ByteArray) (p : Nat) (h : p < s.size) : bt s (p : Int) = ((s[p]'h).toNat : Int) := by
  unfold bt
  rw [dif_pos (show (p : Int).toNat < s.size by simpa using h)]
  simp
theorem okFrom_at {s : ByteArray} : ∀ {m p : Nat}, okFrom s m p = true → ∀ i, p ≤ i → i < p + m → okAt s i = true
  | 0, p, _, i, h1, h2 => by omega
  | m + 1, p, h, i, h1, h2 => by
    simp only [okFrom, Bool.and_eq_true] at h
    rcases Nat.eq_or_lt_of_le h1 with e | e
    · rw [← e]; exact h.1
    · exact okFrom_at h.2 i e (by omega)
theorem decode_ok (s : ByteArray) (p : Nat) (h : p < s.size) (hk : okAt s p = true) : Utf8.decode s p = ((bt s (p : Int)).toNat, 1) := by
  unfold okAt at hk
  rw [decide_eq_true_eq, bt_nat s p h] at hk
  rw [decode_ascii s p h (by omega), bt_nat s p h]
  simp
theorem decode_no (s : ByteArray) (p : Nat) (h : p < s.size) (hk : okAt s p = false) : ((Utf8.decode s p).1 : Int) < 48 ∨ ((Utf8.decode s p).1 : Int) > 57 := by
  unfold okAt at hk
  rw [decide_eq_false_iff_not, bt_nat s p h] at hk
  by_cases h8 : (s[p]'h).toNat < 128
  · rw [decode_ascii s p h h8]
    dsimp only
    omega
  · have := (decode_high s p h (by omega)).1
    omega
theorem check_digits.l0_ev (s : ByteArray) : ∀ m p : Nat, p + m = s.size → Ev (fun k => check_digits.l0 k s p) (if okFrom s m p = true then 0 else 7)
  | 0, p, h => by
    refine Ev.succ ?_
    simp only [check_digits.l0]
    exact Ev.neg (by omega) (Ev.ret (by simp [okFrom]))
  | m + 1, p, h => by
    refine Ev.succ ?_
    simp only [check_digits.l0]
    refine Ev.pos (by omega) ?_
    by_cases hk : okAt s p = true
    · have hd := decode_ok s p (by omega) hk
      have hb := hk
      unfold okAt at hb
      rw [decide_eq_true_eq] at hb
      rw [hd]
      dsimp only
      refine Ev.neg (by omega) (Ev.neg (by omega) ?_)
      have ih := check_digits.l0_ev s m (p + 1) (by omega)
      simpa [okFrom, hk] using ih
    · have hk' : okAt s p = false := Bool.eq_false_iff.mpr hk
      refine Ev.eq (show (7 : Int) = _ by simp [okFrom, hk']) ?_
      rcases decode_no s p (by omega) hk' with g | g
      · exact Ev.pos g (Ev.now _)
      · exact Ev.neg (by omega) (Ev.pos g (Ev.now _))
theorem empty_iff (s : ByteArray) : s.toList.isEmpty = true ↔ (s.size : Int) < 1 := by
  rw [ByteArray.toList_eq, List.isEmpty_iff_length_eq_zero]
  show s.size = 0 ↔ _
  omega
theorem check_digits.ev (s : ByteArray) : Ev (fun k => check_digits.f k s) (digAns s) := by
  unfold check_digits.f digAns
  by_cases h : (s.size : Int) < 1
  · exact Ev.eq (if_pos h).symm (Ev.pos ((empty_iff s).2 h) (Ev.now _))
  · refine Ev.eq (if_neg h).symm (Ev.neg (fun z => h ((empty_iff s).1 z)) (Ev.iteR (fun g => Ev.now _) (fun g => ?_)))
    exact check_digits.l0_ev s s.size 0 (by omega)
def V (s : ByteArray) : Nat → Int
  | 0 => 0
  | i + 1 => 10 * V s i + (bt s (i : Int) - 48)
def restAns (s : ByteArray) : Int × Int := if digAns s = 0 then (V s s.size % 97, 0) else (0, digAns s)
theorem ok_bd {s : ByteArray} {p : Nat} (h : okAt s p = true) : 48 ≤ bt s (p : Int) ∧ bt s (p : Int) ≤ 57 := by
  unfold okAt at h
  rwa [decide_eq_true_eq] at h
theorem digAns_zero {s : ByteArray} (h : digAns s = 0) : 1 ≤ (s.size : Int) ∧ (s.size : Int) ≤ 200 ∧ okFrom s s.size 0 = true := by
  unfold digAns at h
  split at h
  · omega
  · split at h
    · omega
    · split at h
      · rename_i a b c; exact ⟨by omega, by omega, c⟩
      · omega
theorem check_Rest.ev (s : ByteArray) : Ev (fun k => check_Rest.f k s) (restAns s) := by
  unfold check_Rest.f restAns
  refine Ev.bind (check_digits.ev s) (Ev.iteR (fun h => ?_) (fun h => Ev.now _))
  obtain ⟨h1, h2, hok⟩ := digAns_zero h
  have key := down (P := fun p => Ev (fun k => check_Rest.l0 k s p (V s p % 97)) (V s s.size % 97, 0)) (n := s.size) (by
    refine Ev.succ ?_
    simp only [check_Rest.l0]
    exact Ev.neg (by omega) (Ev.now _)) (by
    intro p hp ih
    have hk := okFrom_at hok p (by omega) (by omega)
    have hb := ok_bd hk
    refine Ev.succ ?_
    simp only [check_Rest.l0, decode_ok s p hp hk]
    refine Ev.pos hp ?_
    have e : (((bt s (p : Int)).toNat : Nat) : Int) = bt s (p : Int) := by omega
    simp only [V] at ih
    rw [e, IntWalk.wrap32_in (bt s (p : Int) - 48) ⟨by omega, by omega⟩, wr (a := bt s (p : Int) - 48) ⟨by omega, by omega⟩]
    generalize bt s (p : Int) = c at *
    generalize V s p = v at *
    rw [wr (a := v % 97 * 10) ⟨by omega, by omega⟩, wr (a := v % 97 * 10 + (c - 48)) ⟨by omega, by omega⟩, tm (by omega), show (v % 97 * 10 + (c - 48)) % 97 = (10 * v + (c - 48)) % 97 by omega]
    exact ih)
  simpa [V] using key

theorem okFrom_of {s : ByteArray} : ∀ {m p : Nat}, (∀ i, p ≤ i → i < p + m → okAt s i = true) → okFrom s m p = true
  | 0, _, _ => rfl
  | m + 1, p, h => by
    simp only [okFrom, Bool.and_eq_true]
    exact ⟨h p (Nat.le_refl _) (by omega), okFrom_of (fun i h1 h2 => h i (by omega) (by omega))⟩
theorem V_bd {s : ByteArray} : ∀ {i : Nat}, (∀ j, j < i → okAt s j = true) → 0 ≤ V s i ∧ V s i < 10 ^ i
  | 0, _ => by simp [V]
  | i + 1, h => by
    have h1 := V_bd (i := i) (fun j hj => h j (by omega))
    have h2 := ok_bd (h i (by omega))
    simp only [V]
    rw [Int.pow_succ]
    generalize (10 : Int) ^ i = P at *
    omega
theorem V_lt {s : ByteArray} {i : Nat} (hi : i ≤ 18) (h : ∀ j, j < i → okAt s j = true) : 0 ≤ V s i ∧ V s i < 1000000000000000000 := by
  have h1 := V_bd h
  have h2 := Nat.pow_le_pow_right (n := 10) (by decide) hi
  have h3 := Int.ofNat_le.2 h2
  rw [Int.natCast_pow, Int.natCast_pow] at h3
  have h4 : (10 : Int) ^ i ≤ 1000000000000000000 := h3
  exact ⟨h1.1, Int.lt_of_lt_of_le h1.2 h4⟩
theorem V_lt17 {s : ByteArray} {i : Nat} (hi : i ≤ 17) (h : ∀ j, j < i → okAt s j = true) : 0 ≤ V s i ∧ V s i < 100000000000000000 := by
  have h1 := V_bd h
  have h2 := Nat.pow_le_pow_right (n := 10) (by decide) hi
  have h3 := Int.ofNat_le.2 h2
  rw [Int.natCast_pow, Int.natCast_pow] at h3
  have h4 : (10 : Int) ^ i ≤ 100000000000000000 := h3
  exact ⟨h1.1, Int.lt_of_lt_of_le h1.2 h4⟩
theorem parse_from {s : ByteArray} (hs : s.size = 18) (hok : ∀ j, j < 18 → okAt s j = true) : ∀ m i : Nat, i + m = 18 → Lib.parseUintM 18446744073709551615 (V s i).toNat (s.data.toList.drop i) = .ok (V s 18).toNat
  | 0, i, h => by
    have hl : s.data.toList.length = 18 := by simpa using hs
    rw [List.drop_eq_nil_of_le (by omega), show i = 18 by omega]
    rfl
  | m + 1, i, h => by
    have hl : s.data.toList.length = 18 := by simpa using hs
    have ih := parse_from hs hok m (i + 1) (by omega)
    have hv := V_lt17 (s := s) (i := i) (by omega) (fun j hj => hok j (by omega))
    have hb := ok_bd (hok i (by omega))
    rw [List.drop_eq_getElem_cons (by omega)]
    have hc : bt s (i : Int) = (((s.data.toList[i]'(by omega)).toNat : Nat) : Int) := by
      rw [bt_nat s i (by omega)]
      simp [ByteArray.getElem_eq_getElem_data]
    have e : (V s (i + 1)).toNat = (V s i).toNat * 10 + ((s.data.toList[i]'(by omega)).toNat - 48) := by
      simp only [V]
      rw [hc]
      rw [hc] at hb
      omega
    rw [e] at ih
    rw [hc] at hb
    simp only [Lib.parseUintM]
    rw [if_pos ⟨by omega, by omega⟩, if_neg (by omega), if_neg (by omega)]
    exact ih
theorem parse_all {s : ByteArray} (hs : s.size = 18) (hok : ∀ j, j < 18 → okAt s j = true) : Lib.parseIntB 64 s.data.toList = .ok (V s 18) := by
  have h := parse_from hs hok 18 0 rfl
  have hv := V_lt (s := s) (i := 18) (Nat.le_refl _) hok
  rw [List.drop_zero] at h
  have hl : s.data.toList.length = 18 := by simpa using hs
  have hb := ok_bd (hok 0 (by omega))
  have hc : bt s ((0 : Nat) : Int) = (((s.data.toList[0]'(by omega)).toNat : Nat) : Int) := by
    rw [bt_nat s 0 (by omega)]
    simp [ByteArray.getElem_eq_getElem_data]
  rw [hc] at hb
  obtain ⟨l, hL⟩ : ∃ l, s.data.toList = l := ⟨_, rfl⟩
  simp only [hL] at hl hb h ⊢
  cases l with
  | nil => simp at hl
  | cons c r =>
    simp only [List.getElem_cons_zero] at hb
    unfold Lib.parseIntB
    simp only
    rw [if_neg (by omega)]
    unfold Lib.parseUintB
    rw [if_neg (by simp)]
    rw [show (V s 0).toNat = 0 from rfl] at h
    rw [show 2 ^ 64 - 1 = 18446744073709551615 from rfl, h]
    simp only
    rw [if_neg (by rintro ⟨_, g⟩; have : (2 : Nat) ^ (64 - 1) = 9223372036854775808 := rfl; omega), if_neg (by rintro ⟨g, _⟩; omega), if_neg (by omega)]
    congr 1
    omega
def unFin (v : Int) : Int × Int × Int × Int := if v % 97 = 0 then (if v / 97 / 52428800 > 99999999 then (0, 0, 0, 2) else (v / 97 % 50, v / 97 / 52428800, v / 97 / 50 % 1048576, 0)) else (0, 0, 0, 8)
def unAns (s : ByteArray) : Int × Int × Int × Int := if s.size = 18 then (if okFrom s 18 0 = true then unFin (V s 18) else (0, 0, 0, 7)) else (0, 0, 0, 6)
theorem dig_eq (c : Int) : vendmeterref_Digit.f c = some (decide (48 ≤ c ∧ c ≤ 57)) := by
  unfold vendmeterref_Digit.f
  by_cases h : c ≥ 48
  · rw [if_pos h]; congr 1; by_cases h2 : c ≤ 57 <;> simp [h, h2] <;> omega
  · rw [if_neg h]; congr 1; symm; exact decide_eq_false (fun g => h g.1)
theorem un_loop {s : ByteArray} (hs : s.size = 18) : ∀ m i : Nat, i + m = 18 → (∀ j, j < i → okAt s j = true) → Ev (fun k => vendmeterref_Uncoded.l0 k s (V s i) (i : Int)) (if okFrom s 18 0 = true then unFin (V s 18) else (0, 0, 0, 7))
  | 0, i, h, hok => by
    refine Ev.succ ?_
    simp only [vendmeterref_Uncoded.l0]
    obtain rfl : i = 18 := by omega
    have hv := V_lt (s := s) (i := 18) (Nat.le_refl _) hok
    rw [if_pos (okFrom_of (fun j _ hj => hok j (by omega)))]
    generalize V s 18 = v at hv ⊢
    unfold unFin
    rw [tm hv.1, td hv.1, wr (a := v / 97) ⟨by omega, by omega⟩, td (by omega), wr (a := v / 97 / 52428800) ⟨by omega, by omega⟩, tm (by omega), td (by omega), wr (a := v / 97 / 50) ⟨by omega, by omega⟩, tm (by omega)]
    refine Ev.neg (by decide) ?_
    refine Ev.iteR (fun _ => Ev.iteR (fun _ => Ev.now _) (fun _ => Ev.now _)) (fun _ => Ev.now _)
  | m + 1, i, h, hok => by
    refine Ev.succ ?_
    simp only [vendmeterref_Uncoded.l0]
    refine Ev.pos (by omega) (Ev.pos (by omega) (Ev.pos (by omega) ?_))
    rw [dig_eq]
    by_cases hd : 48 ≤ bt s (i : Int) ∧ bt s (i : Int) ≤ 57
    · have hk : okAt s i = true := by unfold okAt; exact decide_eq_true hd
      have hv := V_lt17 (s := s) (i := i) (by omega) hok
      have ih := un_loop hs m (i + 1) (by omega) (fun j hj => by
        rcases Nat.lt_succ_iff_lt_or_eq.1 hj with g | g
        · exact hok j g
        · rw [g]; exact hk)
      rw [decide_eq_true hd, wr (a := 10 * V s i) ⟨by omega, by omega⟩, show (bt s (i : Int) - 48) % 256 = bt s (i : Int) - 48 by omega, wr (a := 10 * V s i + (bt s (i : Int) - 48)) ⟨by omega, by omega⟩, wr (a := (i : Int) + 1) ⟨by omega, by omega⟩]
      exact Ev.letS (Ev.pos rfl ih)
    · rw [decide_eq_false hd, if_neg (fun g => hd (ok_bd (okFrom_at g i (by omega) (by omega))))]
      exact Ev.letS (Ev.neg (by decide) (Ev.now _))
theorem ref_ev (s : ByteArray) : Ev (fun k => vendmeterref_Uncoded.f k s) (unAns s) := by
  unfold vendmeterref_Uncoded.f unAns
  by_cases h : s.size = 18
  · rw [if_pos h]
    exact Ev.pos (by omega) (un_loop h 18 0 rfl (fun j hj => absurd hj (Nat.not_lt_zero _)))
  · rw [if_neg h]
    exact Ev.neg (by omega) (Ev.now _)
theorem read_ev (s : ByteArray) : Ev (fun k => readback_Read.f k s) (unAns s) := by
  unfold readback_Read.f unAns
  by_cases h : s.size = 18
  · rw [if_pos h]
    refine Ev.pos (by omega) (Ev.bind (check_Rest.ev s) ?_)
    have hda : digAns s = if okFrom s 18 0 = true then 0 else 7 := by unfold digAns; rw [if_neg (by omega), if_neg (by omega), h]
    by_cases hok : okFrom s 18 0 = true
    · have hall : ∀ j, j < 18 → okAt s j = true := fun j hj => okFrom_at hok j (by omega) (by omega)
      have hv := V_lt (s := s) (i := 18) (Nat.le_refl _) hall
      have hp := parse_all h hall
      have hr : restAns s = (V s 18 % 97, 0) := by unfold restAns; rw [hda, if_pos hok, if_pos rfl, h]
      rw [hr, if_pos hok]
      refine Ev.pos (by first | rfl | trivial) ?_
      unfold unFin
      refine Ev.iteR (fun _ => ?_) (fun _ => Ev.now _)
      unfold strconv_ParseInt_56.f
      rw [if_pos ⟨rfl, rfl, by omega⟩, hp]
      generalize V s 18 = v at hv ⊢
      refine Ev.letS ?_
      rw [td hv.1, wr (a := v / 97) ⟨by omega, by omega⟩, td (show 0 ≤ v / 97 by omega), wr (a := v / 97 / 50) ⟨by omega, by omega⟩, td (show 0 ≤ v / 97 / 50 by omega), wr (a := v / 97 / 50 / 1048576) ⟨by omega, by omega⟩, tm (show 0 ≤ v / 97 by omega), tm (show 0 ≤ v / 97 / 50 by omega), show v / 97 / 50 / 1048576 = v / 97 / 52428800 by omega]
      exact Ev.iteR (fun _ => Ev.now _) (fun _ => Ev.now _)
    · have hr : restAns s = (0, 7) := by unfold restAns; rw [hda, if_neg hok, if_neg (show ¬ (7 : Int) = 0 by decide)]
      rw [hr, if_neg hok]
      exact Ev.neg (by decide) (Ev.now _)
  · rw [if_neg h]
    exact Ev.neg (by omega) (Ev.now _)
theorem CodeReads : vendmeterlaw_CodeReads.Pure := by
  intro s _
  refine Ev.rounds ?_
  unfold vendmeterlaw_CodeReads.f
  exact Ev.bind (read_ev s) (Ev.bind (ref_ev s) (Ev.pos (by simp) (Ev.ret (by simp))))

end Go.Proofs.YtoookcmablnjfaaDoor.Pure
