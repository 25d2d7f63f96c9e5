/- vendmeterlaw.CheckRests returns true at every text: check.Rest answers as the reference does. No condition. -/
import Derived.Test.YtccokgnohmafjaaPCheckRestsx1
import Derived.Test.YtccokgnohmafjaaXLib
set_option linter.unusedVariables false
set_option linter.unusedSimpArgs false
namespace Go.Proofs.Ytccokgnohmafjaa.Pure
open Go.RowKit Go.Proofs.Ytccokgnohmafjaa.PCheckRests Go.Proofs.YtccokgnohmafjaaW.PrintWords Go.Proofs.YtccokgnohmafjaaW.PrintLast Go.Proofs.YtccokgnohmafjaaW.PrintMore Go.Proofs.YtccokgnohmafjaaW.XLib

def okAt (s : ByteArray) (p : Nat) : Bool := decide (48 ≤ bt s (p : Int) ∧ bt s (p : Int) ≤ 57)
def okFrom (s : ByteArray) : Nat → Nat → Bool
  | 0, _ => true
  | m + 1, p => okAt s p && okFrom s m (p + 1)
def digAns (s : ByteArray) : Int := if (s.size : Int) < 1 then 1 else if (s.size : Int) > 200 then 1 else if okFrom s s.size 0 = true then 0 else 7
theorem bt_nat (s : ByteArray) (p : Nat) (h : p < s.size) : bt s (p : Int) = ((s[p]'h).toNat : Int) := by
  unfold bt
  rw [dif_pos (show (p : Int).toNat < s.size by simpa using h)]
  simp
theorem okFrom_at {s : ByteArray} : ∀ {m p : Nat}, okFrom s m p = true → ∀ i, p ≤ i → i < p + m → okAt s i = true
  | 0, p, _, i, h1, h2 => by omega
  | m + 1, p, h, i, h1, h2 => by
    simp only [okFrom, Bool.and_eq_true] at h
    rcases Nat.eq_or_lt_of_le h1 with e | e
    · rw [← e]; exact h.1
    · exact okFrom_at h.2 i e (by omega)
theorem decode_ok (s : ByteArray) (p : Nat) (h : p < s.size) (hk : okAt s p = true) : Utf8.decode s p = ((bt s (p : Int)).toNat, 1) := by
  unfold okAt at hk
  rw [decide_eq_true_eq, bt_nat s p h] at hk
  rw [decode_ascii s p h (by omega), bt_nat s p h]
  simp
theorem decode_no (s : ByteArray) (p : Nat) (h : p < s.size) (hk : okAt s p = false) : ((Utf8.decode s p).1 : Int) < 48 ∨ ((Utf8.decode s p).1 : Int) > 57 := by
  unfold okAt at hk
  rw [decide_eq_false_iff_not, bt_nat s p h] at hk
  by_cases h8 : (s[p]'h).toNat < 128
  · rw [decode_ascii s p h h8]
    dsimp only
    omega
  · have := (decode_high s p h (by omega)).1
    omega
theorem check_digits.l0_ev (s : ByteArray) : ∀ m p : Nat, p + m = s.size → Ev (fun k => check_digits.l0 k s p) (if okFrom s m p = true then 0 else 7)
  | 0, p, h => by
    refine Ev.succ ?_
    simp only [check_digits.l0]
    exact Ev.neg (by omega) (Ev.ret (by simp [okFrom]))
  | m + 1, p, h => by
    refine Ev.succ ?_
    simp only [check_digits.l0]
    refine Ev.pos (by omega) ?_
    by_cases hk : okAt s p = true
    · have hd := decode_ok s p (by omega) hk
      have hb := hk
      unfold okAt at hb
      rw [decide_eq_true_eq] at hb
      rw [hd]
      dsimp only
      refine Ev.neg (by omega) (Ev.neg (by omega) ?_)
      have ih := check_digits.l0_ev s m (p + 1) (by omega)
      simpa [okFrom, hk] using ih
    · have hk' : okAt s p = false := Bool.eq_false_iff.mpr hk
      refine Ev.eq (show (7 : Int) = _ by simp [okFrom, hk']) ?_
      rcases decode_no s p (by omega) hk' with g | g
      · exact Ev.pos g (Ev.now _)
      · exact Ev.neg (by omega) (Ev.pos g (Ev.now _))
theorem empty_iff (s : ByteArray) : s.toList.isEmpty = true ↔ (s.size : Int) < 1 := by
  rw [ByteArray.toList_eq, List.isEmpty_iff_length_eq_zero]
  show s.size = 0 ↔ _
  omega
theorem check_digits.ev (s : ByteArray) : Ev (fun k => check_digits.f k s) (digAns s) := by
  unfold check_digits.f digAns
  by_cases h : (s.size : Int) < 1
  · exact Ev.eq (if_pos h).symm (Ev.pos ((empty_iff s).2 h) (Ev.now _))
  · refine Ev.eq (if_neg h).symm (Ev.neg (fun z => h ((empty_iff s).1 z)) (Ev.iteR (fun g => Ev.now _) (fun g => ?_)))
    exact check_digits.l0_ev s s.size 0 (by omega)
theorem vendmeterref_Digit.eq (a : Int) : vendmeterref_Digit.f a = some (decide (48 ≤ a ∧ a ≤ 57)) := by
  unfold vendmeterref_Digit.f
  by_cases h : 48 ≤ a
  · rw [if_pos h]; simp [h]
  · rw [if_neg h]; simp [h]
theorem vendmeterref_DigitsMay.l0_ev (s : ByteArray) (hs : (s.size : Int) ≤ 200) : ∀ m p : Nat, p + m = s.size → Ev (fun k => vendmeterref_DigitsMay.l0 k s (p : Int)) (if okFrom s m p = true then 0 else 7)
  | 0, p, h => by
    refine Ev.succ ?_
    simp only [vendmeterref_DigitsMay.l0]
    exact Ev.neg (by omega) (Ev.ret (by simp [okFrom]))
  | m + 1, p, h => by
    refine Ev.succ ?_
    simp only [vendmeterref_DigitsMay.l0, vendmeterref_Digit.eq, Option.bind_some]
    refine Ev.pos (by omega) (Ev.pos (by omega) ?_)
    rw [wr (a := (p : Int) + 1) ⟨by omega, by omega⟩]
    by_cases hk : okAt s p = true
    · refine Ev.pos hk ?_
      have ih := vendmeterref_DigitsMay.l0_ev s hs m (p + 1) (by omega)
      simpa [okFrom, hk] using ih
    · have hk' : okAt s p = false := Bool.eq_false_iff.mpr hk
      exact Ev.eq (show (7 : Int) = _ by simp [okFrom, hk']) (Ev.neg hk (Ev.now _))
theorem vendmeterref_DigitsMay.ev (s : ByteArray) : Ev (fun k => vendmeterref_DigitsMay.f k s) (digAns s) := by
  have jT : Ev (fun k => vendmeterref_DigitsMay.j0 k s true) 1 := Ev.step (f := fun _ => some 1) (fun k => rfl) (Ev.now _)
  unfold vendmeterref_DigitsMay.f digAns
  refine Ev.iteR (fun h => jT) (fun h => ?_)
  by_cases g : (s.size : Int) > 200
  · rw [decide_eq_true g]
    exact Ev.eq (if_pos g).symm jT
  · rw [decide_eq_false g]
    refine Ev.eq (if_neg g).symm (Ev.succ ?_)
    simp only [vendmeterref_DigitsMay.j0, Bool.false_eq_true, if_false]
    exact vendmeterref_DigitsMay.l0_ev s (by omega) s.size 0 (by omega)

def V (s : ByteArray) : Nat → Int
  | 0 => 0
  | i + 1 => 10 * V s i + (bt s (i : Int) - 48)
def restAns (s : ByteArray) : Int × Int := if digAns s = 0 then (V s s.size % 97, 0) else (0, digAns s)
theorem ok_bd {s : ByteArray} {p : Nat} (h : okAt s p = true) : 48 ≤ bt s (p : Int) ∧ bt s (p : Int) ≤ 57 := by
  unfold okAt at h
  rwa [decide_eq_true_eq] at h
theorem digAns_zero {s : ByteArray} (h : digAns s = 0) : 1 ≤ (s.size : Int) ∧ (s.size : Int) ≤ 200 ∧ okFrom s s.size 0 = true := by
  unfold digAns at h
  split at h
  · omega
  · split at h
    · omega
    · split at h
      · rename_i a b c; exact ⟨by omega, by omega, c⟩
      · omega
theorem check_Rest.ev (s : ByteArray) : Ev (fun k => check_Rest.f k s) (restAns s) := by
  unfold check_Rest.f restAns
  refine Ev.bind (check_digits.ev s) (Ev.iteR (fun h => ?_) (fun h => Ev.now _))
  obtain ⟨h1, h2, hok⟩ := digAns_zero h
  have key := down (P := fun p => Ev (fun k => check_Rest.l0 k s p (V s p % 97)) (V s s.size % 97, 0)) (n := s.size) (by
    refine Ev.succ ?_
    simp only [check_Rest.l0]
    exact Ev.neg (by omega) (Ev.now _)) (by
    intro p hp ih
    have hk := okFrom_at hok p (by omega) (by omega)
    have hb := ok_bd hk
    refine Ev.succ ?_
    simp only [check_Rest.l0, decode_ok s p hp hk]
    refine Ev.pos hp ?_
    have e : (((bt s (p : Int)).toNat : Nat) : Int) = bt s (p : Int) := by omega
    simp only [V] at ih
    rw [e, IntWalk.wrap32_in (bt s (p : Int) - 48) ⟨by omega, by omega⟩, wr (a := bt s (p : Int) - 48) ⟨by omega, by omega⟩]
    generalize bt s (p : Int) = c at *
    generalize V s p = v at *
    rw [wr (a := v % 97 * 10) ⟨by omega, by omega⟩, wr (a := v % 97 * 10 + (c - 48)) ⟨by omega, by omega⟩, tm (by omega), show (v % 97 * 10 + (c - 48)) % 97 = (10 * v + (c - 48)) % 97 by omega]
    exact ih)
  simpa [V] using key
theorem modStep (n w c v q : Int) : ((n + w * c) % 97 + (10 * w) % 97 * v) % 97 = (n + w * (10 * v + c)) % 97 := by
  have a : (n + w * c) % 97 = n + w * c - 97 * ((n + w * c) / 97) := by omega
  have b : (10 * w) % 97 = 10 * w - 97 * ((10 * w) / 97) := by omega
  rw [a, b]
  generalize (n + w * c) / 97 = x
  generalize (10 * w) / 97 = y
  have e : n + w * c - 97 * x + (10 * w - 97 * y) * v = n + w * (10 * v + c) + 97 * (-(x + y * v)) := by grind
  rw [e, Int.add_mul_emod_self_left]
theorem vendmeterref_Rested.ev (s : ByteArray) : Ev (fun k => vendmeterref_Rested.f k s) (restAns s) := by
  unfold vendmeterref_Rested.f restAns
  refine Ev.bind (vendmeterref_DigitsMay.ev s) (Ev.iteR (fun h => ?_) (fun h => Ev.now _))
  obtain ⟨h1, h2, hok⟩ := digAns_zero h
  have key : ∀ i : Nat, i ≤ s.size → ∀ n w : Int, 0 ≤ n → n < 97 → 0 ≤ w → w < 97 → (n + w * V s i) % 97 = V s s.size % 97 → Ev (fun k => vendmeterref_Rested.l0 k s n w ((i : Int) - 1)) (V s s.size % 97, 0) := by
    intro i
    induction i with
    | zero =>
      intro _ n w n0 n1 _ _ e
      refine Ev.succ ?_
      simp only [vendmeterref_Rested.l0]
      simp only [V, Int.mul_zero, Int.add_zero] at e
      exact Ev.neg (by omega) (Ev.ret (by rw [← e]; congr 1; omega))
    | succ i ih =>
      intro hi n w n0 n1 w0 w1 e
      have hk := okFrom_at hok i (by omega) (by omega)
      have hb := ok_bd hk
      refine Ev.succ ?_
      simp only [vendmeterref_Rested.l0]
      rw [show (((i + 1 : Nat) : Int) - 1) = (i : Int) by omega]
      refine Ev.pos (by omega) (Ev.pos (by omega) (Ev.pos (by omega) ?_))
      simp only [V] at e
      generalize bt s (i : Int) = c at *
      have hm : 0 ≤ w * (c - 48) ∧ w * (c - 48) ≤ 96 * 9 := ⟨Int.mul_nonneg w0 (by omega), Int.le_trans (Int.mul_le_mul_of_nonneg_right (show w ≤ 96 by omega) (by omega)) (by omega)⟩
      have st := modStep n w (c - 48) (V s i) 0
      rw [show (c - 48) % 256 = c - 48 by omega, wr (a := w * (c - 48)) ⟨by omega, by omega⟩, wr (a := n + w * (c - 48)) ⟨by omega, by omega⟩, wr (a := 10 * w) ⟨by omega, by omega⟩, wr (a := (i : Int) - 1) ⟨by omega, by omega⟩, tm (by omega), tm (by omega)]
      generalize w * (c - 48) = x at *
      exact ih (by omega) _ _ (by omega) (by omega) (by omega) (by omega) (st.trans e)
  have k0 := key s.size (Nat.le_refl _) 0 1 (by decide) (by decide) (by decide) (by decide) (by rw [Int.one_mul, Int.zero_add])
  rw [wr (a := (s.size : Int) - 1) ⟨by omega, by omega⟩]
  exact k0
theorem CheckRests : vendmeterlaw_CheckRests.Pure := by
  intro s _
  refine Ev.rounds ?_
  unfold vendmeterlaw_CheckRests.f
  exact Ev.bind (check_Rest.ev s) (Ev.bind (vendmeterref_Rested.ev s) (Ev.pos rfl (Ev.ret (by simp))))

end Go.Proofs.Ytccokgnohmafjaa.Pure
