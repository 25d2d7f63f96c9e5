/- vendmeterlaw.ReceiptMeters returns true at every text: receipt.Meter reads a number as the reference does, or tells the same fault. No condition. -/
import Derived.Test.YthacfmjljglbiaaDoorPReceiptMetersx3
import Derived.Test.YthacfmjljglbiaaDoorXLib
set_option linter.unusedVariables false
set_option linter.unusedSimpArgs false
namespace Go.Proofs.YthacfmjljglbiaaDoor.Pure
open Go.RowKit Go.Proofs.YthacfmjljglbiaaDoor.PReceiptMeters Go.Proofs.YthacfmjljglbiaaDoorW.PrintWords Go.Proofs.YthacfmjljglbiaaDoorW.PrintLast Go.Proofs.YthacfmjljglbiaaDoorW.PrintMore Go.Proofs.YthacfmjljglbiaaDoorW.XLib

def okAt (s : ByteArray) (p : Nat) : Bool := decide (48 ≤ bt s (p : Int) ∧ bt s (p : Int) ≤ 57)
def okFrom (s : ByteArray) : Nat → Nat → Bool
  | 0, _ => true
  | m + 1, p => okAt s p && okFrom s m (p + 1)
def digAns (s : ByteArray) : Int := if (s.size : Int) < 1 then 1 else if (s.size : Int) > 200 then 1 else if okFrom s s.size 0 = true then 0 else 7
theorem bt_nat (s : ByteArray) (p : Nat) (h : p < s.size) : bt s (p : Int) = ((s[p]'h).toNat : Int) := by
  unfold bt
  rw [dif_pos (show (p : Int).toNat < s.size by simpa using h)]
  simp
theorem okFrom_at {s : ByteArray} : ∀ {m p : Nat}, okFrom s m p = true → ∀ i, p ≤ i → i < p + m → okAt s i = true
  | 0, p, _, i, h1, h2 => by omega
  | m + 1, p, h, i, h1, h2 => by
    simp only [okFrom, Bool.and_eq_true] at h
    rcases Nat.eq_or_lt_of_le h1 with e | e
    · rw [← e]; exact h.1
    · exact okFrom_at h.2 i e (by omega)
theorem decode_ok (s : ByteArray) (p : Nat) (h : p < s.size) (hk : okAt s p = true) : Utf8.decode s p = ((bt s (p : Int)).toNat, 1) := by
  unfold okAt at hk
  rw [decide_eq_true_eq, bt_nat s p h] at hk
  rw [decode_ascii s p h (by omega), bt_nat s p h]
  simp
theorem decode_no (s : ByteArray) (p : Nat) (h : p < s.size) (hk : okAt s p = false) : ((Utf8.decode s p).1 : Int) < 48 ∨ ((Utf8.decode s p).1 : Int) > 57 := by
  unfold okAt at hk
  rw [decide_eq_false_iff_not, bt_nat s p h] at hk
  by_cases h8 : (s[p]'h).toNat < 128
  · rw [decode_ascii s p h h8]
    dsimp only
    omega
  · have := (decode_high s p h (by omega)).1
    omega
theorem check_digits.l0_ev (s : ByteArray) : ∀ m p : Nat, p + m = s.size → Ev (fun k => check_digits.l0 k s p) (if okFrom s m p = true then 0 else 7)
  | 0, p, h => by
    refine Ev.succ ?_
    simp only [check_digits.l0]
    exact Ev.neg (by omega) (Ev.ret (by simp [okFrom]))
  | m + 1, p, h => by
    refine Ev.succ ?_
    simp only [check_digits.l0]
    refine Ev.pos (by omega) ?_
    by_cases hk : okAt s p = true
    · have hd := decode_ok s p (by omega) hk
      have hb := hk
      unfold okAt at hb
      rw [decide_eq_true_eq] at hb
      rw [hd]
      dsimp only
      refine Ev.neg (by omega) (Ev.neg (by omega) ?_)
      have ih := check_digits.l0_ev s m (p + 1) (by omega)
      simpa [okFrom, hk] using ih
    · have hk' : okAt s p = false := Bool.eq_false_iff.mpr hk
      refine Ev.eq (show (7 : Int) = _ by simp [okFrom, hk']) ?_
      rcases decode_no s p (by omega) hk' with g | g
      · exact Ev.pos g (Ev.now _)
      · exact Ev.neg (by omega) (Ev.pos g (Ev.now _))
theorem empty_iff (s : ByteArray) : s.toList.isEmpty = true ↔ (s.size : Int) < 1 := by
  rw [ByteArray.toList_eq, List.isEmpty_iff_length_eq_zero]
  show s.size = 0 ↔ _
  omega
theorem check_digits.ev (s : ByteArray) : Ev (fun k => check_digits.f k s) (digAns s) := by
  unfold check_digits.f digAns
  by_cases h : (s.size : Int) < 1
  · exact Ev.eq (if_pos h).symm (Ev.pos ((empty_iff s).2 h) (Ev.now _))
  · refine Ev.eq (if_neg h).symm (Ev.neg (fun z => h ((empty_iff s).1 z)) (Ev.iteR (fun g => Ev.now _) (fun g => ?_)))
    exact check_digits.l0_ev s s.size 0 (by omega)
theorem digAns_zero {s : ByteArray} (h : digAns s = 0) : 1 ≤ (s.size : Int) ∧ (s.size : Int) ≤ 200 ∧ okFrom s s.size 0 = true := by
  unfold digAns at h
  split at h
  · omega
  · split at h
    · omega
    · split at h
      · rename_i a b c; exact ⟨by omega, by omega, c⟩
      · omega
def V (s : ByteArray) : Nat → Int
  | 0 => 0
  | i + 1 => 10 * V s i + (bt s (i : Int) - 48)
def restAns (s : ByteArray) : Int × Int := if digAns s = 0 then (V s s.size % 97, 0) else (0, digAns s)
theorem ok_bd {s : ByteArray} {p : Nat} (h : okAt s p = true) : 48 ≤ bt s (p : Int) ∧ bt s (p : Int) ≤ 57 := by
  unfold okAt at h
  rwa [decide_eq_true_eq] at h
theorem check_Rest.ev (s : ByteArray) : Ev (fun k => check_Rest.f k s) (restAns s) := by
  unfold check_Rest.f restAns
  refine Ev.bind (check_digits.ev s) (Ev.iteR (fun h => ?_) (fun h => Ev.now _))
  obtain ⟨h1, h2, hok⟩ := digAns_zero h
  have key := down (P := fun p => Ev (fun k => check_Rest.l0 k s p (V s p % 97)) (V s s.size % 97, 0)) (n := s.size) (by
    refine Ev.succ ?_
    simp only [check_Rest.l0]
    exact Ev.neg (by omega) (Ev.now _)) (by
    intro p hp ih
    have hk := okFrom_at hok p (by omega) (by omega)
    have hb := ok_bd hk
    refine Ev.succ ?_
    simp only [check_Rest.l0, decode_ok s p hp hk]
    refine Ev.pos hp ?_
    have e : (((bt s (p : Int)).toNat : Nat) : Int) = bt s (p : Int) := by omega
    simp only [V] at ih
    rw [e, IntWalk.wrap32_in (bt s (p : Int) - 48) ⟨by omega, by omega⟩, wr (a := bt s (p : Int) - 48) ⟨by omega, by omega⟩]
    generalize bt s (p : Int) = c at *
    generalize V s p = v at *
    rw [wr (a := v % 97 * 10) ⟨by omega, by omega⟩, wr (a := v % 97 * 10 + (c - 48)) ⟨by omega, by omega⟩, tm (by omega), show (v % 97 * 10 + (c - 48)) % 97 = (10 * v + (c - 48)) % 97 by omega]
    exact ih)
  simpa [V] using key
theorem vendmeterref_Digit.eq (a : Int) : vendmeterref_Digit.f a = some (decide (48 ≤ a ∧ a ≤ 57)) := by
  unfold vendmeterref_Digit.f
  by_cases h : 48 ≤ a
  · rw [if_pos h]; simp [h]
  · rw [if_neg h]; simp [h]
theorem vendmeterref_DigitsMay.l0_ev (s : ByteArray) (hs : (s.size : Int) ≤ 200) : ∀ m p : Nat, p + m = s.size → Ev (fun k => vendmeterref_DigitsMay.l0 k s (p : Int)) (if okFrom s m p = true then 0 else 7)
  | 0, p, h => by
    refine Ev.succ ?_
    simp only [vendmeterref_DigitsMay.l0]
    exact Ev.neg (by omega) (Ev.ret (by simp [okFrom]))
  | m + 1, p, h => by
    refine Ev.succ ?_
    simp only [vendmeterref_DigitsMay.l0, vendmeterref_Digit.eq, Option.bind_some]
    refine Ev.pos (by omega) (Ev.pos (by omega) ?_)
    rw [wr (a := (p : Int) + 1) ⟨by omega, by omega⟩]
    by_cases hk : okAt s p = true
    · refine Ev.pos hk ?_
      have ih := vendmeterref_DigitsMay.l0_ev s hs m (p + 1) (by omega)
      simpa [okFrom, hk] using ih
    · have hk' : okAt s p = false := Bool.eq_false_iff.mpr hk
      exact Ev.eq (show (7 : Int) = _ by simp [okFrom, hk']) (Ev.neg hk (Ev.now _))
theorem vendmeterref_DigitsMay.ev (s : ByteArray) : Ev (fun k => vendmeterref_DigitsMay.f k s) (digAns s) := by
  have jT : Ev (fun k => vendmeterref_DigitsMay.j0 k s true) 1 := Ev.step (f := fun _ => some 1) (fun k => rfl) (Ev.now _)
  unfold vendmeterref_DigitsMay.f digAns
  refine Ev.iteR (fun h => jT) (fun h => ?_)
  by_cases g : (s.size : Int) > 200
  · rw [decide_eq_true g]
    exact Ev.eq (if_pos g).symm jT
  · rw [decide_eq_false g]
    refine Ev.eq (if_neg g).symm (Ev.succ ?_)
    simp only [vendmeterref_DigitsMay.j0, Bool.false_eq_true, if_false]
    exact vendmeterref_DigitsMay.l0_ev s (by omega) s.size 0 (by omega)
theorem Ev.ofMono {α : Type} {f : Nat → Option α} (hm : ∀ k, LeO (f k) (f (k + 1))) {k0 : Nat} {r : α} (h : f k0 = some r) : Ev f r := by
  refine ⟨k0, fun k hk => ?_⟩
  induction hk with
  | refl => exact h
  | step _ ih => exact hm _ _ ih
def tv (d n : Int) : Int := (check_moved.f 9 d n).getD 0
def mv (a b : Int) : Int := (check_turn_then.f a b).getD 0
theorem tv_all : ∀ d : Fin 10, ∀ n : Fin 8, check_moved.f 9 (d.val : Int) (n.val : Int) = some (tv (d.val : Int) (n.val : Int)) ∧ vendmeterref_turned.f 9 (d.val : Int) (n.val : Int) = some (tv (d.val : Int) (n.val : Int)) ∧ 0 ≤ tv (d.val : Int) (n.val : Int) ∧ tv (d.val : Int) (n.val : Int) ≤ 9 := by decide +kernel
theorem mv_all : ∀ a b : Fin 10, check_turn_then.f (a.val : Int) (b.val : Int) = some (mv (a.val : Int) (b.val : Int)) ∧ vendmeterref_Moved.f 12 (a.val : Int) (b.val : Int) = some (mv (a.val : Int) (b.val : Int), 0) ∧ 0 ≤ mv (a.val : Int) (b.val : Int) ∧ mv (a.val : Int) (b.val : Int) ≤ 9 := by decide +kernel
theorem tv_at (d n : Int) (hd : 0 ≤ d ∧ d ≤ 9) (hn : 0 ≤ n ∧ n < 8) : check_moved.f 9 d n = some (tv d n) ∧ vendmeterref_turned.f 9 d n = some (tv d n) ∧ 0 ≤ tv d n ∧ tv d n ≤ 9 := by
  have h := tv_all ⟨d.toNat, by omega⟩ ⟨n.toNat, by omega⟩
  dsimp only at h
  rwa [show ((d.toNat : Nat) : Int) = d by omega, show ((n.toNat : Nat) : Int) = n by omega] at h
theorem mv_at (a b : Int) (ha : 0 ≤ a ∧ a ≤ 9) (hb : 0 ≤ b ∧ b ≤ 9) : check_turn_then.f a b = some (mv a b) ∧ vendmeterref_Moved.f 12 a b = some (mv a b, 0) ∧ 0 ≤ mv a b ∧ mv a b ≤ 9 := by
  have h := mv_all ⟨a.toNat, by omega⟩ ⟨b.toNat, by omega⟩
  dsimp only at h
  rwa [show ((a.toNat : Nat) : Int) = a by omega, show ((b.toNat : Nat) : Int) = b by omega] at h
theorem tmod8 (p : Int) (hp : 0 ≤ p) : Int.tmod p 8 = Int.tmod (p % 8) 8 := by
  rw [tm hp, tm (show 0 ≤ p % 8 by omega)]
  omega
theorem turned_l0 (p : Int) (hp : 0 ≤ p) (t : ByteArray) : ∀ k d i, vendmeterref_turned.l0 k d p t i = vendmeterref_turned.l0 k d (p % 8) t i
  | 0, _, _ => rfl
  | k + 1, d, i => by
    simp only [vendmeterref_turned.l0]
    rw [turned_l0 p hp t k, tmod8 p hp]
theorem moved_ev (d p : Int) (hd : 0 ≤ d ∧ d ≤ 9) (hp : 0 ≤ p) : Ev (fun k => check_moved.f k d p) (tv d (p % 8)) := by
  have e : ∀ k, check_moved.f k d p = check_moved.f k d (p % 8) := fun k => by unfold check_moved.f; rw [tmod8 p hp]
  simp only [e]
  exact Ev.ofMono (f := fun k => check_moved.f k d (p % 8)) (fun k => check_moved.mono _ _ k) (tv_at d (p % 8) hd (by omega)).1
theorem turned_ev (d p : Int) (hd : 0 ≤ d ∧ d ≤ 9) (hp : 0 ≤ p) : Ev (fun k => vendmeterref_turned.f k d p) (tv d (p % 8)) := by
  have e : ∀ k, vendmeterref_turned.f k d p = vendmeterref_turned.f k d (p % 8) := fun k => by unfold vendmeterref_turned.f; rw [turned_l0 p hp]
  simp only [e]
  exact Ev.ofMono (f := fun k => vendmeterref_turned.f k d (p % 8)) (fun k => vendmeterref_turned.mono _ _ k) (tv_at d (p % 8) hd (by omega)).2.1
theorem refMoved_ev (a b : Int) (ha : 0 ≤ a ∧ a ≤ 9) (hb : 0 ≤ b ∧ b ≤ 9) : Ev (fun k => vendmeterref_Moved.f k a b) (mv a b, 0) :=
  Ev.ofMono (f := fun k => vendmeterref_Moved.f k a b) (fun k => vendmeterref_Moved.mono _ _ k) (mv_at a b ha hb).2.1
/-- What j digits from the right fold to, the last one at the place fr. -/
def fold (s : ByteArray) (fr : Int) : Nat → Int
  | 0 => 0
  | j + 1 => mv (fold s fr j) (tv (bt s ((s.size : Int) - 1 - (j : Int)) - 48) ((fr + (j : Int)) % 8))
theorem ok_dig {s : ByteArray} (hok : okFrom s s.size 0 = true) {j : Nat} (hj : j < s.size) : 0 ≤ bt s ((s.size : Int) - 1 - (j : Int)) - 48 ∧ bt s ((s.size : Int) - 1 - (j : Int)) - 48 ≤ 9 := by
  have hk := okFrom_at hok (s.size - 1 - j) (by omega) (by omega)
  unfold okAt at hk
  rw [decide_eq_true_eq, show ((s.size - 1 - j : Nat) : Int) = (s.size : Int) - 1 - (j : Int) by omega] at hk
  omega
theorem fold_bd {s : ByteArray} (hok : okFrom s s.size 0 = true) (fr : Int) (hf : 0 ≤ fr) : ∀ j, j ≤ s.size → 0 ≤ fold s fr j ∧ fold s fr j ≤ 9
  | 0, _ => by simp [fold]
  | j + 1, h => (mv_at _ _ (fold_bd hok fr hf j (by omega)) (tv_at _ _ (ok_dig hok (by omega)) (by omega)).2.2).2.2
theorem check_all.ev {s : ByteArray} (hok : okFrom s s.size 0 = true) (hs : (s.size : Int) ≤ 300) (fr : Int) (hf : 0 ≤ fr ∧ fr ≤ 1) : Ev (fun k => check_all.f k s fr) (fold s fr s.size) := by
  unfold check_all.f
  have key := down (P := fun j => Ev (fun k => check_all.l0 k s fr (fold s fr j) (s.size : Int) (j : Int)) (fold s fr s.size)) (n := s.size) (by
    refine Ev.succ ?_
    simp only [check_all.l0]
    exact Ev.neg (by omega) (Ev.now _)) (by
    intro j hj ih
    have hd := ok_dig hok hj
    have hb := fold_bd hok fr hf.1 j (by omega)
    have ht := tv_at _ ((fr + (j : Int)) % 8) hd (by omega)
    refine Ev.succ ?_
    simp only [check_all.l0]
    rw [wr (a := (s.size : Int) - 1) ⟨by omega, by omega⟩, wr (a := (s.size : Int) - 1 - (j : Int)) ⟨by omega, by omega⟩, wr (a := fr + (j : Int)) ⟨by omega, by omega⟩, wr (a := (j : Int) + 1) ⟨by omega, by omega⟩]
    refine Ev.pos (by omega) (Ev.pos (by omega) (Ev.pos (by omega) ?_))
    rw [show (bt s ((s.size : Int) - 1 - (j : Int)) - 48) % 256 = bt s ((s.size : Int) - 1 - (j : Int)) - 48 by omega]
    refine Ev.bind (moved_ev _ _ hd (by omega)) ?_
    rw [(mv_at _ _ hb ht.2.2).1]
    exact Ev.letS ih)
  simpa [fold] using key
theorem vendmeterref_folded.ev {s : ByteArray} (hok : okFrom s s.size 0 = true) (hs : (s.size : Int) ≤ 300) (fr : Int) (hf : 0 ≤ fr ∧ fr ≤ 1) : Ev (fun k => vendmeterref_folded.f k s fr) (fold s fr s.size) := by
  unfold vendmeterref_folded.f
  have key := down (P := fun j => Ev (fun k => vendmeterref_folded.l0 k s (fr + (j : Int)) (fold s fr j) ((s.size : Int) - 1 - (j : Int))) (fold s fr s.size)) (n := s.size) (by
    refine Ev.succ ?_
    simp only [vendmeterref_folded.l0]
    exact Ev.neg (by omega) (Ev.now _)) (by
    intro j hj ih
    have hd := ok_dig hok hj
    have hb := fold_bd hok fr hf.1 j (by omega)
    have ht := tv_at _ ((fr + (j : Int)) % 8) hd (by omega)
    refine Ev.succ ?_
    simp only [vendmeterref_folded.l0]
    refine Ev.pos (by omega) (Ev.pos (by omega) (Ev.pos (by omega) ?_))
    rw [show (bt s ((s.size : Int) - 1 - (j : Int)) - 48) % 256 = bt s ((s.size : Int) - 1 - (j : Int)) - 48 by omega]
    refine Ev.bind (turned_ev _ _ hd (by omega)) (Ev.bind (refMoved_ev _ _ hb ht.2.2) ?_)
    dsimp only
    rw [wr (a := fr + (j : Int) + 1) ⟨by omega, by omega⟩, wr (a := (s.size : Int) - 1 - (j : Int) - 1) ⟨by omega, by omega⟩, show fr + (j : Int) + 1 = fr + ((j + 1 : Nat) : Int) by omega, show (s.size : Int) - 1 - (j : Int) - 1 = (s.size : Int) - 1 - ((j + 1 : Nat) : Int) by omega]
    exact ih)
  rw [wr (a := (s.size : Int) - 1) ⟨by omega, by omega⟩]
  simpa [fold] using key
def goodAns (s : ByteArray) : Bool := if digAns s = 0 then (if (s.size : Int) > 1 then fold s 0 s.size == 0 else false) else false
theorem check_Good.ev (s : ByteArray) : Ev (fun k => check_Good.f k s) (goodAns s) := by
  unfold check_Good.f goodAns
  refine Ev.bind (check_digits.ev s) (Ev.iteR (fun h => ?_) (fun h => Ev.now _))
  obtain ⟨h1, h2, hok⟩ := digAns_zero h
  exact Ev.iteR (fun g => Ev.bind (check_all.ev hok (by omega) 0 (by decide)) (Ev.now _)) (fun g => Ev.now _)
theorem vendmeterref_IsGood.ev (s : ByteArray) : Ev (fun k => vendmeterref_IsGood.f k s) (goodAns s) := by
  unfold vendmeterref_IsGood.f goodAns
  refine Ev.bind (vendmeterref_DigitsMay.ev s) (Ev.iteR (fun h => ?_) (fun h => Ev.now _))
  obtain ⟨h1, h2, hok⟩ := digAns_zero h
  by_cases g : (s.size : Int) > 1
  · exact Ev.eq (if_pos g).symm (Ev.pos (by omega) (Ev.bind (vendmeterref_folded.ev hok (by omega) 0 (by decide)) (Ev.now _)))
  · exact Ev.eq (if_neg g).symm (Ev.neg (by omega) (Ev.now _))

theorem V_bd {s : ByteArray} : ∀ {i : Nat}, (∀ j, j < i → okAt s j = true) → 0 ≤ V s i ∧ V s i < 10 ^ i
  | 0, _ => by simp [V]
  | i + 1, h => by
    have h1 := V_bd (i := i) (fun j hj => h j (by omega))
    have h2 := ok_bd (h i (by omega))
    simp only [V]
    rw [Int.pow_succ]
    generalize (10 : Int) ^ i = P at *
    omega
theorem V_lt {s : ByteArray} {i : Nat} (hi : i ≤ 10) (h : ∀ j, j < i → okAt s j = true) : 0 ≤ V s i ∧ V s i < 10000000000 := by
  have h1 := V_bd h
  have h2 := Nat.pow_le_pow_right (n := 10) (by decide) hi
  have h3 := Int.ofNat_le.2 h2
  rw [Int.natCast_pow, Int.natCast_pow] at h3
  have h4 : (10 : Int) ^ i ≤ 10000000000 := h3
  exact ⟨h1.1, Int.lt_of_lt_of_le h1.2 h4⟩
theorem ext_bt {s t : ByteArray} (hs : s.size = t.size) (h : ∀ i : Nat, i < s.size → bt s (i : Int) = bt t (i : Int)) : s = t := by
  apply ByteArray.ext; apply Array.ext
  · exact hs
  · intro i h1 h2
    have h1' : i < s.size := h1
    have h2' : i < t.size := h2
    have e := h i h1'
    rw [bt_nat s i h1', bt_nat t i h2'] at e
    have e2 : s[i].toNat = t[i].toNat := by omega
    exact UInt8.toNat_inj.1 e2
theorem mag_from {s : ByteArray} (hs : 10 ≤ s.size) (hok : ∀ j, j < 10 → okAt s j = true) : ∀ m i : Nat, i + m = 10 → Lib.parseUint10 (V s i).toNat ((s.extract 0 10).data.toList.drop i) = .ok (V s 10).toNat
  | 0, i, h => by
    have hl : (s.extract 0 10).data.toList.length = 10 := by simp; omega
    rw [List.drop_eq_nil_of_le (by omega), show i = 10 by omega]
    rfl
  | m + 1, i, h => by
    have hl : (s.extract 0 10).data.toList.length = 10 := by simp; omega
    have ih := mag_from hs hok m (i + 1) (by omega)
    have hv := V_lt (s := s) (i := i) (by omega) (fun j hj => hok j (by omega))
    have hb := ok_bd (hok i (by omega))
    rw [List.drop_eq_getElem_cons (by omega)]
    have hx : i < (s.extract 0 10).size := by simp; omega
    have hc : bt s (i : Int) = ((((s.extract 0 10).data.toList[i]'(by omega)).toNat : Nat) : Int) := by
      rw [bt_nat s i (by omega)]
      congr 2
      have e1 : (s.extract 0 10)[i] = s[0 + i] := ByteArray.getElem_extract hx
      rw [ByteArray.getElem_eq_getElem_data] at e1
      rw [Array.getElem_toList, e1]
      congr 1
      omega
    have e : (V s (i + 1)).toNat = (V s i).toNat * 10 + (((s.extract 0 10).data.toList[i]'(by omega)).toNat - 48) := by
      simp only [V]
      rw [hc]
      rw [hc] at hb
      omega
    rw [e] at ih
    rw [hc] at hb
    simp only [Lib.parseUint10]
    rw [if_pos ⟨by omega, by omega⟩]
    first
      | exact ih
      | (rw [if_neg (by omega)]; exact ih)
      | (rw [if_neg (by omega), if_neg (by omega)]; exact ih)
theorem atoi_ten {s : ByteArray} (hs : 10 ≤ s.size) (hok : ∀ j, j < 10 → okAt s j = true) : Lib.atoiAll (s.extract 0 10).data.toList = .ok (V s 10) := by
  have h := mag_from hs hok 10 0 rfl
  have hv := V_lt (s := s) (i := 10) (Nat.le_refl _) hok
  rw [List.drop_zero] at h
  have hl : (s.extract 0 10).data.toList.length = 10 := by simp; omega
  have hb := ok_bd (hok 0 (by omega))
  have hx : 0 < (s.extract 0 10).size := by simp; omega
  have hc : bt s ((0 : Nat) : Int) = ((((s.extract 0 10).data.toList[0]'(by omega)).toNat : Nat) : Int) := by
    rw [bt_nat s 0 (by omega)]
    congr 2
    have e1 : (s.extract 0 10)[0] = s[0 + 0] := ByteArray.getElem_extract hx
    rw [ByteArray.getElem_eq_getElem_data] at e1
    rw [Array.getElem_toList, e1]
  rw [hc] at hb
  obtain ⟨l, hL⟩ : ∃ l, (s.extract 0 10).data.toList = l := ⟨_, rfl⟩
  simp only [hL] at hl hb h ⊢
  cases l with
  | nil => simp at hl
  | cons c r =>
    simp only [List.getElem_cons_zero] at hb
    rw [show (V s 0).toNat = 0 from rfl] at h
    unfold Lib.atoiAll
    simp only
    rw [if_neg (by omega)]
    unfold Lib.parseMag
    rw [if_neg (by simp), h]
    simp only
    rw [if_neg (by rintro ⟨_, g⟩; omega), if_neg (by rintro ⟨g, _⟩; omega), if_neg (by omega)]
    congr 1
    omega
def numB (m : Nat) : ByteArray := ((vendmeterref_NumberOf.f 40 (m : Int)).getD (⟨#[]⟩, 0)).1
def mkB (m d : Nat) : ByteArray := ⟨#[48, 48, 48, 48, 48, 48, 48, 48, UInt8.ofNat (48 + m / 10), UInt8.ofNat (48 + m % 10), UInt8.ofNat (48 + d)]⟩
theorem num_all : ∀ m : Fin 50, vendmeterref_NumberOf.f 40 (m.val : Int) = some (numB m.val, 0) ∧ (numB m.val).size = 11 ∧ V (numB m.val) 10 = (m.val : Int) := by decide +kernel
theorem mk_all : ∀ m : Fin 50, ∀ d : Fin 10, fold (mkB m.val d.val) 0 11 = 0 → mkB m.val d.val = numB m.val := by decide +kernel
theorem mk_bt : ∀ m : Fin 50, ∀ d : Fin 10, (∀ i : Fin 8, bt (mkB m.val d.val) ((i.val : Nat) : Int) = 48) ∧ bt (mkB m.val d.val) 8 = 48 + (m.val : Int) / 10 ∧ bt (mkB m.val d.val) 9 = 48 + (m.val : Int) % 10 ∧ bt (mkB m.val d.val) 10 = 48 + (d.val : Int) ∧ (mkB m.val d.val).size = 11 := by decide +kernel
theorem V10 (s : ByteArray) : V s 10 = 10 * (10 * (10 * (10 * (10 * (10 * (10 * (10 * (10 * (10 * 0 + (bt s 0 - 48)) + (bt s 1 - 48)) + (bt s 2 - 48)) + (bt s 3 - 48)) + (bt s 4 - 48)) + (bt s 5 - 48)) + (bt s 6 - 48)) + (bt s 7 - 48)) + (bt s 8 - 48)) + (bt s 9 - 48) := rfl
theorem num_only {s : ByteArray} (hs : s.size = 11) (hok : ∀ j, j < 11 → okAt s j = true) (hv : V s 10 < 50) (hf : fold s 0 11 = 0) : s = numB (V s 10).toNat := by
  have b0 : 48 ≤ bt s 0 ∧ bt s 0 ≤ 57 := ok_bd (hok 0 (by omega))
  have b1 : 48 ≤ bt s 1 ∧ bt s 1 ≤ 57 := ok_bd (hok 1 (by omega))
  have b2 : 48 ≤ bt s 2 ∧ bt s 2 ≤ 57 := ok_bd (hok 2 (by omega))
  have b3 : 48 ≤ bt s 3 ∧ bt s 3 ≤ 57 := ok_bd (hok 3 (by omega))
  have b4 : 48 ≤ bt s 4 ∧ bt s 4 ≤ 57 := ok_bd (hok 4 (by omega))
  have b5 : 48 ≤ bt s 5 ∧ bt s 5 ≤ 57 := ok_bd (hok 5 (by omega))
  have b6 : 48 ≤ bt s 6 ∧ bt s 6 ≤ 57 := ok_bd (hok 6 (by omega))
  have b7 : 48 ≤ bt s 7 ∧ bt s 7 ≤ 57 := ok_bd (hok 7 (by omega))
  have b8 : 48 ≤ bt s 8 ∧ bt s 8 ≤ 57 := ok_bd (hok 8 (by omega))
  have b9 : 48 ≤ bt s 9 ∧ bt s 9 ≤ 57 := ok_bd (hok 9 (by omega))
  have b10 : 48 ≤ bt s 10 ∧ bt s 10 ≤ 57 := ok_bd (hok 10 (by omega))
  have e := V10 s
  have hp := V_lt (s := s) (i := 10) (Nat.le_refl _) (fun j hj => hok j (by omega))
  obtain ⟨m, hm⟩ : ∃ m : Nat, V s 10 = (m : Int) := ⟨(V s 10).toNat, by omega⟩
  obtain ⟨d, hd⟩ : ∃ d : Nat, bt s 10 = 48 + (d : Int) := ⟨(bt s 10 - 48).toNat, by omega⟩
  have hm50 : m < 50 := by omega
  have hd10 : d < 10 := by omega
  have hM := mk_bt ⟨m, hm50⟩ ⟨d, hd10⟩
  have hE : s = mkB m d := by
    refine ext_bt (by rw [hs]; exact hM.2.2.2.2.symm) (fun i hi => ?_)
    rw [hm] at e
    rw [hs] at hi
    have h8 := hM.2.1
    have h9 := hM.2.2.1
    have h10 := hM.2.2.2.1
    dsimp only at h8 h9 h10
    rcases Nat.lt_or_ge i 8 with g | g
    · have := hM.1 ⟨i, g⟩
      dsimp only at this
      rw [this]
      rcases (show i = 0 ∨ i = 1 ∨ i = 2 ∨ i = 3 ∨ i = 4 ∨ i = 5 ∨ i = 6 ∨ i = 7 by omega) with rfl | rfl | rfl | rfl | rfl | rfl | rfl | rfl
      · show bt s 0 = 48; omega
      · show bt s 1 = 48; omega
      · show bt s 2 = 48; omega
      · show bt s 3 = 48; omega
      · show bt s 4 = 48; omega
      · show bt s 5 = 48; omega
      · show bt s 6 = 48; omega
      · show bt s 7 = 48; omega
    · rcases (show i = 8 ∨ i = 9 ∨ i = 10 by omega) with rfl | rfl | rfl
      · show bt s 8 = bt (mkB m d) 8; omega
      · show bt s 9 = bt (mkB m d) 9; omega
      · show bt s 10 = bt (mkB m d) 10; omega
  have hfin := mk_all ⟨m, hm50⟩ ⟨d, hd10⟩ (by dsimp only; rw [← hE]; exact hf)
  rw [hm, Int.toNat_natCast]
  exact hE.trans hfin
def metAns (s : ByteArray) : Int × Int := if s.size = 11 then (if digAns s = 0 then (if fold s 0 11 = 0 then (if V s 10 < 50 then (V s 10, 0) else (0, 18)) else (0, 8)) else (0, digAns s)) else (0, 6)
theorem num_ev (m : Nat) (h : m < 50) : Ev (fun k => vendmeterref_NumberOf.f k (m : Int)) (numB m, 0) :=
  Ev.ofMono (f := fun k => vendmeterref_NumberOf.f k (m : Int)) (fun k => vendmeterref_NumberOf.mono _ k) (num_all ⟨m, h⟩).1
theorem bl_eq {a b : ByteArray} (h : a.toList = b.toList) : a = b := by
  rw [ByteArray.toList_eq, ByteArray.toList_eq] at h
  exact ByteArray.ext (Array.ext' h)
theorem named_l0 {s : ByteArray} (hs : s.size = 11) (hok : ∀ j, j < 11 → okAt s j = true) (hf : fold s 0 11 = 0) : ∀ n i : Nat, i + n = 50 → (V s 10 < 50 → (i : Int) ≤ V s 10) → Ev (fun k => vendmeterref_MeterNamed.l0 k s (i : Int)) (if V s 10 < 50 then (V s 10, 0) else (0, 18))
  | 0, i, h, hi => by
    have hv := V_lt (s := s) (i := 10) (Nat.le_refl _) (fun j hj => hok j (by omega))
    rw [if_neg (fun g => by have := hi g; omega)]
    refine Ev.succ ?_
    simp only [vendmeterref_MeterNamed.l0]
    exact Ev.neg (by omega) (Ev.now _)
  | n + 1, i, h, hi => by
    have hv := V_lt (s := s) (i := 10) (Nat.le_refl _) (fun j hj => hok j (by omega))
    have hN := num_all ⟨i, by omega⟩
    dsimp only at hN
    refine Ev.succ ?_
    simp only [vendmeterref_MeterNamed.l0]
    refine Ev.pos (by omega) (Ev.bind (num_ev i (by omega)) ?_)
    by_cases g : V s 10 = (i : Int)
    · have e := num_only hs hok (by omega) hf
      rw [g, Int.toNat_natCast] at e
      rw [if_pos (by omega), g]
      exact Ev.pos (by dsimp only; rw [← e]) (Ev.now _)
    · refine Ev.neg (fun e => g ?_) ?_
      · have e2 : numB i = s := bl_eq e
        rw [← e2]; exact hN.2.2
      · rw [wr (a := (i : Int) + 1) ⟨by omega, by omega⟩, show (i : Int) + 1 = ((i + 1 : Nat) : Int) by omega]
        exact named_l0 hs hok hf n (i + 1) (by omega) (fun g2 => by have := hi g2; omega)
theorem ref_named (s : ByteArray) : Ev (fun k => vendmeterref_MeterNamed.f k s) (metAns s) := by
  unfold vendmeterref_MeterNamed.f metAns
  by_cases hs : s.size = 11
  · rw [if_pos hs]
    refine Ev.pos (by omega) (Ev.bind (vendmeterref_DigitsMay.ev s) (Ev.iteR (fun h => ?_) (fun h => Ev.now _)))
    obtain ⟨h1, h2, hok⟩ := digAns_zero h
    have hall : ∀ j, j < 11 → okAt s j = true := fun j hj => okFrom_at hok j (by omega) (by omega)
    have hg : goodAns s = (fold s 0 11 == 0) := by unfold goodAns; rw [if_pos h, if_pos (by omega), hs]
    refine Ev.bind (vendmeterref_IsGood.ev s) ?_
    rw [hg]
    by_cases hf : fold s 0 11 = 0
    · rw [if_pos hf]
      exact Ev.pos (by simp [hf]) (named_l0 hs hall hf 50 0 rfl (fun _ => (V_lt (s := s) (i := 10) (Nat.le_refl _) (fun j hj => hall j (by omega))).1))
    · rw [if_neg hf]
      exact Ev.neg (by simp [hf]) (Ev.now _)
  · rw [if_neg hs]
    exact Ev.neg (by omega) (Ev.now _)
theorem code_named (s : ByteArray) : Ev (fun k => receipt_Meter.f k s) (metAns s) := by
  unfold receipt_Meter.f metAns
  by_cases hs : s.size = 11
  · rw [if_pos hs]
    refine Ev.pos (by omega) (Ev.bind (check_Rest.ev s) ?_)
    by_cases h : digAns s = 0
    · obtain ⟨h1, h2, hok⟩ := digAns_zero h
      have hall : ∀ j, j < 11 → okAt s j = true := fun j hj => okFrom_at hok j (by omega) (by omega)
      have hg : goodAns s = (fold s 0 11 == 0) := by unfold goodAns; rw [if_pos h, if_pos (by omega), hs]
      have hr : (restAns s).2 = 0 := by unfold restAns; rw [if_pos h]
      rw [if_pos h]
      refine Ev.pos hr (Ev.bind (check_Good.ev s) ?_)
      rw [hg]
      by_cases hf : fold s 0 11 = 0
      · rw [if_pos hf]
        refine Ev.pos (by simp [hf]) (Ev.pos (by decide) (Ev.pos (by omega) ?_))
        have ha := atoi_ten (s := s) (by omega) (fun j hj => hall j (by omega))
        have hz : (s.extract 0 10).size ≤ 1000000 := by rw [ByteArray.size_extract]; omega
        unfold strconv_Atoi_17.f
        rw [if_pos hz, ha]
        refine Ev.letS (Ev.pos rfl ?_)
        by_cases hv : V s 10 < 50
        · rw [if_pos hv]; exact Ev.neg (by dsimp only; omega) (Ev.now _)
        · rw [if_neg hv]; exact Ev.pos (by dsimp only; omega) (Ev.now _)
      · rw [if_neg hf]
        exact Ev.neg (by simp [hf]) (Ev.now _)
    · have hr : restAns s = (0, digAns s) := by unfold restAns; rw [if_neg h]
      rw [if_neg h, hr]
      exact Ev.neg h (Ev.now _)
  · rw [if_neg hs]
    exact Ev.neg (by omega) (Ev.now _)
theorem ReceiptMeters : vendmeterlaw_ReceiptMeters.Pure := by
  intro s _
  refine Ev.rounds ?_
  unfold vendmeterlaw_ReceiptMeters.f
  exact Ev.bind (code_named s) (Ev.bind (ref_named s) (Ev.pos rfl (Ev.ret (by simp))))

end Go.Proofs.YthacfmjljglbiaaDoor.Pure
