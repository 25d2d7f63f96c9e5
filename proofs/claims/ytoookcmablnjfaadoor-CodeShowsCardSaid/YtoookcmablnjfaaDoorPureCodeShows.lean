/- vendmeterlaw.CodeShows returns true at every meter: readback.Code writes the number with noughts ahead to eighteen digits, as the reference does, or tells the same fault. No condition. -/
import Derived.Test.YtoookcmablnjfaaDoorPCodeShowsxL
import Derived.Test.YtoookcmablnjfaaDoorXLib
set_option linter.unusedVariables false
set_option linter.unusedSimpArgs false
namespace Go.Proofs.YtoookcmablnjfaaDoor.Pure
open Go.RowKit Go.Proofs.YtoookcmablnjfaaDoor.PCodeShows Go.Proofs.YtoookcmablnjfaaDoorW.PrintWords Go.Proofs.YtoookcmablnjfaaDoorW.PrintLast Go.Proofs.YtoookcmablnjfaaDoorW.PrintMore Go.Proofs.YtoookcmablnjfaaDoorW.XLib

def lenN (n : Nat) : Nat := if n = 0 then 0 else Nat.log2 n + 1
theorem lenN_le (n m : Nat) : lenN n ≤ m ↔ n < 2 ^ m := by
  unfold lenN
  by_cases h : n = 0
  · subst h; simp [Nat.two_pow_pos]
  · rw [if_neg h, Nat.succ_le_iff, Nat.log2_lt h]
theorem lenN_shift (n k : Nat) (h : 2 ^ k ≤ n) : lenN n = k + lenN (n / 2 ^ k) := by
  have key : ∀ m, lenN n ≤ m ↔ k + lenN (n / 2 ^ k) ≤ m := by
    intro m
    rw [lenN_le]
    rcases Nat.lt_or_ge m k with hm | hm
    · have h1 : 2 ^ m ≤ 2 ^ k := Nat.pow_le_pow_right (by decide) (by omega)
      constructor
      · intro h2; omega
      · intro h2; omega
    · obtain ⟨j, rfl⟩ : ∃ j, m = k + j := ⟨m - k, by omega⟩
      rw [show k + lenN (n / 2 ^ k) ≤ k + j ↔ lenN (n / 2 ^ k) ≤ j by omega, lenN_le, Nat.div_lt_iff_lt_mul (Nat.two_pow_pos k), Nat.pow_add, Nat.mul_comm]
  exact Nat.le_antisymm ((key _).2 (Nat.le_refl _)) ((key _).1 (Nat.le_refl _))
theorem lenN_bitLen : ∀ (f x : Nat), x < 2 ^ f → Lib.bitLenAux f x = lenN x
  | 0, x, h => by
    have : x = 0 := by simpa using h
    subst this
    rfl
  | f + 1, x, h => by
    simp only [Lib.bitLenAux]
    by_cases hx : x = 0
    · rw [if_pos hx, hx]; rfl
    · rw [if_neg hx, lenN_bitLen f (x / 2) (by rw [Nat.pow_succ] at h; omega)]
      by_cases h1 : x = 1
      · subst h1; decide
      · have := lenN_shift x 1 (by omega)
        rw [this]
theorem bits_Len64.ev (x : Nat) (hx : x < 18446744073709551616) : Ev (fun k => bits_Len64.f k (x : Int)) ((lenN x : Nat) : Int) := by
  unfold bits_Len64.f
  refine Ev.pos ⟨by omega, by omega⟩ (Ev.eq ?_ (Ev.now _))
  rw [Int.toNat_natCast]
  unfold Lib.bitLen
  rw [lenN_bitLen 64 x hx]
theorem u64w {a : Int} (h : 0 ≤ a ∧ a < 18446744073709551616) : IntKind.u64.wrap a = a := by simp [IntKind.wrap, IntKind.bits, IntKind.signed]; omega
def memF (H : Int) (b : Nat) : Nat → List Int
  | 0 => []
  | i + 1 => (if b.testBit i then [H - (i : Int)] else []) ++ memF H b i
theorem memF_len (H : Int) (b : Nat) : ∀ i, (memF H b i).length ≤ i
  | 0 => Nat.le_refl _
  | i + 1 => by
    have := memF_len H b i
    simp only [memF, List.length_append]
    split <;> simp <;> omega
theorem memF_high (H : Int) (b : Nat) : ∀ d i, b < 2 ^ i → memF H b (i + d) = memF H b i
  | 0, _, _ => rfl
  | d + 1, i, h => by
    rw [← Nat.add_assoc]
    simp only [memF]
    rw [memF_high H b d i h, Nat.testBit_lt_two_pow (Nat.lt_of_lt_of_le h (Nat.pow_le_pow_right (by decide) (Nat.le_add_right i d)))]
    rfl
theorem top_bit (b : Nat) (h : b ≠ 0) : b.testBit (lenN b - 1) = true ∧ b < 2 ^ lenN b ∧ 1 ≤ lenN b := by
  have h1 : 1 ≤ lenN b := by unfold lenN; rw [if_neg h]; omega
  have h2 := (lenN_le b (lenN b)).1 (Nat.le_refl _)
  refine ⟨?_, h2, h1⟩
  have h3 : ¬ b < 2 ^ (lenN b - 1) := fun h4 => by have := (lenN_le b (lenN b - 1)).2 h4; omega
  rw [Nat.testBit_eq_decide_div_mod_eq, decide_eq_true_eq]
  have h5 : b / 2 ^ (lenN b - 1) < 2 := by
    rw [Nat.div_lt_iff_lt_mul (Nat.two_pow_pos _), Nat.mul_comm, ← Nat.pow_succ, show (lenN b - 1).succ = lenN b by omega]
    exact h2
  have h6 : 0 < b / 2 ^ (lenN b - 1) := Nat.div_pos (by omega) (Nat.two_pow_pos _)
  omega
theorem memF_cons (H : Int) (b : Nat) (h : b ≠ 0) (hb : b < 18446744073709551616) : memF H b 64 = (H - ((lenN b - 1 : Nat) : Int)) :: memF H b (lenN b - 1) := by
  obtain ⟨t, h2, h1⟩ := top_bit b h
  have h64 : lenN b ≤ 64 := (lenN_le b 64).2 hb
  have e := memF_high H b (64 - lenN b) (lenN b) h2
  rw [show lenN b + (64 - lenN b) = 64 by omega] at e
  rw [e]
  obtain ⟨m, hm⟩ : ∃ m, lenN b = m + 1 := ⟨lenN b - 1, by omega⟩
  rw [hm] at t ⊢
  simp only [memF, Nat.add_sub_cancel] at t ⊢
  rw [if_pos t]; rfl
theorem memF_zero (H : Int) : ∀ i, memF H 0 i = []
  | 0 => rfl
  | i + 1 => by simp [memF, memF_zero H i]
theorem memF_mem (H : Int) (b : Nat) (x : Int) : ∀ i, x ∈ memF H b i ↔ ∃ j, j < i ∧ b.testBit j = true ∧ x = H - (j : Int)
  | 0 => by simp [memF]
  | i + 1 => by
    simp only [memF, List.mem_append, memF_mem H b x i]
    constructor
    · rintro (h | ⟨j, h1, h2, h3⟩)
      · by_cases ht : b.testBit i = true
        · rw [if_pos ht] at h
          exact ⟨i, by omega, ht, by simpa using h⟩
        · rw [if_neg ht] at h
          simp at h
      · exact ⟨j, by omega, h2, h3⟩
    · rintro ⟨j, h1, h2, h3⟩
      by_cases hj : j = i
      · subst hj
        exact .inl (by rw [if_pos h2]; simpa using h3)
      · exact .inr ⟨j, by omega, h2, h3⟩
theorem memF_last (H : Int) (b : Nat) : ∀ i, 0 < (memF H b (i + 1)).length → ((memF H b (i + 1)).getD ((memF H b (i + 1)).length - 1) 0 = H ↔ b.testBit 0 = true)
  | 0, h => by
    simp only [memF, List.append_nil] at h ⊢
    by_cases ht : b.testBit 0 = true
    · simp [ht]
    · simp [ht] at h
  | i + 1, h => by
    by_cases he : 0 < (memF H b (i + 1)).length
    · have ih := memF_last H b i he
      have e : (memF H b (i + 1 + 1)).getD ((memF H b (i + 1 + 1)).length - 1) 0 = (memF H b (i + 1)).getD ((memF H b (i + 1)).length - 1) 0 := by
        rw [show memF H b (i + 1 + 1) = (if b.testBit (i + 1) then [H - ((i + 1 : Nat) : Int)] else []) ++ memF H b (i + 1) from rfl]
        rw [List.getD_eq_getElem?_getD, List.getD_eq_getElem?_getD, List.length_append, List.getElem?_append_right (by omega)]
        congr 2
        omega
      rw [e]
      exact ih
    · have h0 : memF H b (i + 1) = [] := List.eq_nil_of_length_eq_zero (by omega)
      have hb0 : ¬ b.testBit 0 = true := by
        intro ht
        have := (memF_mem H b (H - ((0 : Nat) : Int)) (i + 1)).2 ⟨0, by omega, ht, rfl⟩
        rw [h0] at this
        simp at this
      rw [show memF H b (i + 1 + 1) = (if b.testBit (i + 1) then [H - ((i + 1 : Nat) : Int)] else []) ++ memF H b (i + 1) from rfl, h0] at h ⊢
      by_cases ht : b.testBit (i + 1) = true
      · rw [if_pos ht]
        constructor
        · intro e
          have : H - ((i + 1 : Nat) : Int) = H := by simpa using e
          omega
        · intro e; exact absurd e hb0
      · rw [if_neg ht] at h
        simp at h
def mayW (H : Int) (b : Nat) : Bool := decide ((H = 0 ∧ b = 0) ∨ ((1 ≤ H ∧ H ≤ 1048575) ∧ b % 2 = 1 ∧ ((lenN b : Nat) : Int) ≤ H))
theorem mayW_H {H : Int} {b : Nat} (h : mayW H b = true) : 0 ≤ H ∧ H ≤ 1048575 := by
  unfold mayW at h
  rw [decide_eq_true_eq] at h
  omega
theorem and_one (b : Nat) (hb : b < 18446744073709551616) : Go.bits .and .u64 (b : Int) 1 = ((b % 2 : Nat) : Int) := by
  have := u64_and_nat b 1 hb (by decide)
  rw [Nat.and_one_is_mod] at this
  exact this
theorem window_may.ev (H : Int) (b : Nat) (hb : b < 18446744073709551616) : Ev (fun k => window_may.f k H (b : Int)) (mayW H b) := by
  unfold window_may.f
  have h64 : lenN b ≤ 64 := (lenN_le b 64).2 hb
  by_cases h1 : H < 1
  · refine Ev.pos h1 (Ev.ret ?_)
    unfold mayW
    rw [Bool.eq_iff_iff]
    simp only [Bool.and_eq_true, beq_iff_eq, decide_eq_true_eq]
    omega
  · refine Ev.neg h1 ?_
    by_cases h2 : H ≤ 1048575
    · refine Ev.pos h2 ?_
      rw [and_one b hb]
      by_cases h3 : b % 2 = 1
      · refine Ev.pos (by omega) (Ev.bind (bits_Len64.ev b hb) (Ev.ret ?_))
        unfold mayW mn
        rw [decide_eq_decide]
        split <;> omega
      · refine Ev.neg (by omega) (Ev.ret ?_)
        unfold mayW
        symm
        rw [decide_eq_false_iff_not]
        omega
    · refine Ev.neg h2 (Ev.ret ?_)
      unfold mayW
      symm
      rw [decide_eq_false_iff_not]
      omega
theorem memF_low (H : Int) (b c : Nat) : ∀ i, (∀ j, j < i → b.testBit j = c.testBit j) → memF H b i = memF H c i
  | 0, _ => rfl
  | i + 1, h => by
    simp only [memF]
    rw [memF_low H b c i (fun j hj => h j (by omega)), h i (by omega)]
theorem shl_one (t : Nat) (ht : t < 64) : shl .u64 1 (t : Int) = ((2 ^ t : Nat) : Int) := by
  unfold shl
  have h1 : 2 ^ t < 18446744073709551616 := Nat.pow_lt_pow_right (by decide) ht
  rw [Int.toNat_natCast, show min t IntKind.u64.bits = t by show min t 64 = t; omega, Int.one_mul]
  have e : (2 : Int) ^ t = ((2 ^ t : Nat) : Int) := by simp
  rw [e]
  generalize 2 ^ t = q at h1
  rw [u64w ⟨by omega, by omega⟩]
theorem clear_top (b : Nat) (h : b ≠ 0) (hb : b < 18446744073709551616) : ∃ c : Nat, Go.bits .andNot .u64 (b : Int) ((2 ^ (lenN b - 1) : Nat) : Int) = (c : Int) ∧ c < 2 ^ (lenN b - 1) ∧ ∀ j, j < lenN b - 1 → b.testBit j = c.testBit j := by
  obtain ⟨t, h2, h1⟩ := top_bit b h
  have h64 : lenN b ≤ 64 := (lenN_le b 64).2 hb
  have hp : 2 ^ (lenN b - 1) < 18446744073709551616 := Nat.pow_lt_pow_right (by decide) (show lenN b - 1 < 64 by omega)
  refine ⟨b &&& (18446744073709551615 - 2 ^ (lenN b - 1)), u64_andNot_nat b _ hb hp, ?_, ?_⟩
  · apply Nat.lt_pow_two_of_testBit
    intro j hj
    rw [Nat.testBit_and]
    by_cases e : j = lenN b - 1
    · subst e
      have : (18446744073709551615 - 2 ^ (lenN b - 1)) = 2 ^ 64 - (2 ^ (lenN b - 1) + 1) := by omega
      rw [this, Nat.testBit_two_pow_sub_succ (by omega : 2 ^ (lenN b - 1) < 2 ^ 64)]
      simp
    · rw [Nat.testBit_lt_two_pow (Nat.lt_of_lt_of_le h2 (Nat.pow_le_pow_right (by decide) (by omega)))]
      rfl
  · intro j hj
    have : (18446744073709551615 - 2 ^ (lenN b - 1)) = 2 ^ 64 - (2 ^ (lenN b - 1) + 1) := by omega
    rw [Nat.testBit_and, this, Nat.testBit_two_pow_sub_succ (by omega : 2 ^ (lenN b - 1) < 2 ^ 64), Nat.testBit_two_pow_of_ne (by omega)]
    simp [show j < 64 by omega]
def usedAns (H : Int) (b : Nat) : List Int × Int := if mayW H b then (memF H b 64, 0) else ([], 5)
theorem window_Used.ev (H : Int) (b : Nat) (hb : b < 18446744073709551616) : Ev (fun k => window_Used.f k H (b : Int)) (usedAns H b) := by
  unfold window_Used.f usedAns
  refine Ev.bind (window_may.ev H b hb) ?_
  by_cases hm : mayW H b = true
  · rw [if_pos hm]
    refine Ev.pos hm ?_
    have hH := mayW_H hm
    generalize hB : (b : Int) = B
    have key : ∀ (n c : Nat) (acc : List Int), lenN c ≤ n → c < 18446744073709551616 → acc.length + lenN c ≤ 64 → Ev (fun k => window_Used.l0 k acc (c : Int) H B) (acc ++ memF H c 64, 0) := by
      intro n
      induction n with
      | zero =>
        intro c acc hn hc _
        have c0 : c = 0 := by
          have := (lenN_le c 0).1 hn
          omega
        subst c0
        refine Ev.step (f := fun _ => some (acc, 0)) (fun k => ?_) (Ev.ret (by rw [memF_zero, List.append_nil]))
        simp only [window_Used.l0]; rw [if_pos (show ((0 : Nat) : Int) = 0 from rfl)]
      | succ n ih =>
        intro c acc hn hc ha
        by_cases c0 : c = 0
        · subst c0
          refine Ev.step (f := fun _ => some (acc, 0)) (fun k => ?_) (Ev.ret (by rw [memF_zero, List.append_nil]))
          simp only [window_Used.l0]; rw [if_pos (show ((0 : Nat) : Int) = 0 from rfl)]
        · obtain ⟨t, h2, h1⟩ := top_bit c c0
          have h64 : lenN c ≤ 64 := (lenN_le c 64).2 hc
          obtain ⟨e, he, hel, hlow⟩ := clear_top c c0 hc
          have hel2 := (lenN_le e (lenN c - 1)).2 hel
          have hlt : e < 18446744073709551616 := Nat.lt_of_lt_of_le hel (Nat.pow_le_pow_right (by decide) (show lenN c - 1 ≤ 64 by omega))
          have z := ih e (acc ++ [H - ((lenN c - 1 : Nat) : Int)]) (by omega) hlt (by simp; omega)
          refine Ev.step (f := fun k => (bits_Len64.f k (c : Int)).bind fun t105 => if acc.length < 17592186044416 then (if 0 ≤ (wrap64 (t105 - 1)) then (window_Used.l0 k (acc ++ [wrap64 (H - (wrap64 (t105 - 1)))]) (Go.bits .andNot .u64 (c : Int) (shl .u64 1 (wrap64 (t105 - 1)))) H B) else none) else none) (fun k => ?_) ?_
          · simp only [window_Used.l0]; rw [if_neg (by omega)]
          · refine Ev.bind (bits_Len64.ev c hc) (Ev.pos (by omega) ?_)
            rw [wr (a := ((lenN c : Nat) : Int) - 1) ⟨by omega, by omega⟩, show ((lenN c : Nat) : Int) - 1 = ((lenN c - 1 : Nat) : Int) by omega, wr (a := H - ((lenN c - 1 : Nat) : Int)) ⟨by omega, by omega⟩, shl_one _ (by omega), he]
            refine Ev.pos (by omega) (Ev.eq ?_ z)
            rw [memF_cons H c c0 hc, List.append_assoc, List.singleton_append, memF_low H c e _ hlow]
            have := memF_high H e (64 - (lenN c - 1)) (lenN c - 1) hel
            rw [show lenN c - 1 + (64 - (lenN c - 1)) = 64 by omega] at this
            rw [this]
    rw [← hB]
    have := key 64 b [] ((lenN_le b 64).2 hb) hb (by simp; exact (lenN_le b 64).2 hb)
    rw [hB] at this
    rw [hB]
    rw [← hB] at this ⊢
    simpa using this
  · rw [if_neg hm]
    exact Ev.neg hm (Ev.now _)
def inM (me rev cr bad lock : Int) : Prop := (0 ≤ me ∧ me < 50) ∧ (0 ≤ rev ∧ rev ≤ 15) ∧ (0 ≤ cr ∧ cr ≤ 99999999) ∧ (0 ≤ bad ∧ bad < 5) ∧ (0 ≤ lock ∧ lock ≤ 30) ∧ (bad = 0 ∨ lock = 0)
instance (me rev cr bad lock : Int) : Decidable (inM me rev cr bad lock) := by unfold inM; infer_instance
def mayM (me rev cr H : Int) (b : Nat) (bad lock : Int) : Bool := decide (inM me rev cr bad lock) && mayW H b
theorem mayM_no {me rev cr bad lock : Int} (H : Int) (b : Nat) (h : ¬ inM me rev cr bad lock) : mayM me rev cr H b bad lock = false := by unfold mayM; rw [decide_eq_false h]; rfl
theorem mayM_yes {me rev cr bad lock : Int} (H : Int) (b : Nat) (h : inM me rev cr bad lock) : mayM me rev cr H b bad lock = mayW H b := by unfold mayM; rw [decide_eq_true h]; rfl
theorem mayM_in {me rev cr H : Int} {b : Nat} {bad lock : Int} (h : mayM me rev cr H b bad lock = true) : inM me rev cr bad lock ∧ mayW H b = true := by
  unfold mayM at h
  rw [Bool.and_eq_true, decide_eq_true_eq] at h
  exact h
theorem used_code (H : Int) (b : Nat) : ((usedAns H b).2 == 0) = mayW H b := by
  unfold usedAns
  cases mayW H b <;> rfl
theorem meter_may.ev (me rev cr H : Int) (b : Nat) (bad lock : Int) (hb : b < 18446744073709551616) : Ev (fun k => meter_may.f k me rev cr H (b : Int) bad lock) (mayM me rev cr H b bad lock) := by
  have jT : ∀ r, r = false → Ev (fun k => meter_may.j0 k true me rev cr H (b : Int) bad lock) r := by
    rintro r rfl
    exact Ev.step (f := fun _ => some false) (fun k => rfl) (Ev.now _)
  have no := fun h => mayM_no (me := me) (rev := rev) (cr := cr) (bad := bad) (lock := lock) H b h
  unfold meter_may.f
  refine Ev.split (fun h => jT _ (no (by unfold inM; omega))) (fun h1 => Ev.split (fun h => jT _ (no (by unfold inM; omega))) (fun h2 => Ev.split (fun h => jT _ (no (by unfold inM; omega))) (fun h3 => Ev.split (fun h => jT _ (no (by unfold inM; omega))) (fun h4 => Ev.split (fun h => jT _ (no (by unfold inM; omega))) (fun h5 => ?_)))))
  by_cases h6 : cr > 99999999
  · rw [decide_eq_true h6]
    exact jT _ (no (by unfold inM; omega))
  · rw [decide_eq_false h6]
    refine Ev.succ ?_
    simp only [meter_may.j0, Bool.false_eq_true, if_false]
    have hu : inM me rev cr bad lock → Ev (fun k => (window_Used.f k H (b : Int)).bind fun z => some (z.2 == 0)) (mayM me rev cr H b bad lock) := by
      intro h
      refine Ev.bind (window_Used.ev H b hb) (Ev.ret ?_)
      rw [used_code, mayM_yes H b h]
    refine Ev.split (fun h => Ev.ret (no (by unfold inM; omega)).symm) (fun g1 => Ev.split (fun h => Ev.ret (no (by unfold inM; omega)).symm) (fun g2 => Ev.split (fun h => Ev.ret (no (by unfold inM; omega)).symm) (fun g3 => Ev.split (fun h => Ev.ret (no (by unfold inM; omega)).symm) (fun g4 => Ev.split (fun g5 => Ev.split (fun h => Ev.ret (no (by unfold inM; omega)).symm) (fun g6 => hu (by unfold inM; omega))) (fun g5 => hu (by unfold inM; omega))))))
def meterList (me rev cr H : Int) (b : Nat) (bad lock : Int) : List Int := [cr, me + 256 * (rev + 256 * (bad + 256 * lock)), H, (b : Int) % 4294967296, (b : Int) / 4294967296]
def wordsAns (me rev cr H : Int) (b : Nat) (bad lock : Int) : List Int × Int := if mayM me rev cr H b bad lock then (meterList me rev cr H b bad lock, 0) else ([], 5)
theorem flags_eq (me rev bad lock : Nat) (h1 : me < 50) (h2 : rev ≤ 15) (h3 : bad < 5) (h4 : lock ≤ 30) :
    Go.bits .or .u32 (Go.bits .or .u32 (Go.bits .or .u32 ((((lock : Int) % 4294967296) * 16777216) % 4294967296) ((((bad : Int) % 4294967296) * 65536) % 4294967296)) ((((rev : Int) % 4294967296) * 256) % 4294967296)) ((me : Int) % 4294967296) = (me : Int) + 256 * ((rev : Int) + 256 * ((bad : Int) + 256 * (lock : Int))) := by
  rw [show (((lock : Int) % 4294967296) * 16777216) % 4294967296 = ((2 ^ 24 * lock : Nat) : Int) by omega, show (((bad : Int) % 4294967296) * 65536) % 4294967296 = ((bad * 65536 : Nat) : Int) by omega, show (((rev : Int) % 4294967296) * 256) % 4294967296 = ((rev * 256 : Nat) : Int) by omega, show (me : Int) % 4294967296 = (me : Int) by omega]
  rw [u32_or_nat _ _ (by omega) (by omega), ← Nat.two_pow_add_eq_or_of_lt (show bad * 65536 < 2 ^ 24 by omega), show 2 ^ 24 * lock + bad * 65536 = 2 ^ 16 * (256 * lock + bad) by omega]
  rw [u32_or_nat _ _ (by omega) (by omega), ← Nat.two_pow_add_eq_or_of_lt (show rev * 256 < 2 ^ 16 by omega), show 2 ^ 16 * (256 * lock + bad) + rev * 256 = 2 ^ 8 * (256 * (256 * lock + bad) + rev) by omega]
  rw [u32_or_nat _ _ (by omega) (by omega), ← Nat.two_pow_add_eq_or_of_lt (show me < 2 ^ 8 by omega)]
  omega
theorem meter_Words.ev (me rev cr H : Int) (b : Nat) (bad lock : Int) (hb : b < 18446744073709551616) : Ev (fun k => meter_Words.f k me rev cr H (b : Int) bad lock) (wordsAns me rev cr H b bad lock) := by
  unfold meter_Words.f wordsAns
  refine Ev.bind (meter_may.ev me rev cr H b bad lock hb) (Ev.iteR (fun h => Ev.ret ?_) (fun h => Ev.now _))
  obtain ⟨⟨h1, h2, h3, h4, h5, _⟩, hw⟩ := mayM_in h
  have hH := mayW_H hw
  obtain ⟨me, rfl⟩ := Int.eq_ofNat_of_zero_le h1.1
  obtain ⟨rev, rfl⟩ := Int.eq_ofNat_of_zero_le h2.1
  obtain ⟨bad, rfl⟩ := Int.eq_ofNat_of_zero_le h4.1
  obtain ⟨lock, rfl⟩ := Int.eq_ofNat_of_zero_le h5.1
  unfold meterList
  rw [flags_eq me rev bad lock (by omega) (by omega) (by omega) (by omega), show cr % 4294967296 = cr by omega, show H % 4294967296 = H by omega, show ((b : Int) / 4294967296) % 4294967296 = (b : Int) / 4294967296 by omega]
theorem vendmeterref_In.eq (a b c : Int) : vendmeterref_In.f a b c = some (decide (b ≤ a ∧ a ≤ c)) := by
  unfold vendmeterref_In.f
  by_cases h : b ≤ a
  · rw [if_pos h]; simp [h]
  · rw [if_neg h]; simp [h]
theorem vendmeterref_bitAt.ev (b i : Nat) (hb : b < 18446744073709551616) (hi : i ≤ 64) : Ev (fun k => vendmeterref_bitAt.f k (b : Int) (i : Int)) (b.testBit i) := by
  unfold vendmeterref_bitAt.f
  have key := down (P := fun j => Ev (fun k => vendmeterref_bitAt.l0 k ((b / 2 ^ j : Nat) : Int) (i : Int) (j : Int)) (b.testBit i)) (n := i) (by
    refine Ev.step (f := fun _ => some (b.testBit i)) (fun k => ?_) (Ev.now _)
    rw [Nat.testBit_eq_decide_div_mod_eq]
    generalize b / 2 ^ i = q
    simp only [vendmeterref_bitAt.l0]
    rw [if_neg (by omega), tm (by omega)]
    congr 1
    rw [Bool.eq_iff_iff]
    simp only [beq_iff_eq, decide_eq_true_eq]
    omega) (by
    intro j hj ih
    refine Ev.step (fun k => ?_) ih
    have hlt : b / 2 ^ j ≤ b := Nat.div_le_self _ _
    rw [Nat.pow_succ, ← Nat.div_div_eq_div_mul]
    generalize b / 2 ^ j = q at hlt
    simp only [vendmeterref_bitAt.l0]
    rw [if_pos (by omega), td (by omega), u64w ⟨by omega, by omega⟩, wn (show j < 65 by omega) (by omega)]
    rfl)
  simpa using key
theorem vendmeterref_members.ev (H : Int) (b : Nat) (hb : b < 18446744073709551616) (hH : 0 ≤ H ∧ H ≤ 1048575) : Ev (fun k => vendmeterref_members.f k H (b : Int)) (memF H b 64) := by
  unfold vendmeterref_members.f
  have key : ∀ i : Nat, i ≤ 64 → ∀ acc : List Int, acc.length + i ≤ 64 → Ev (fun k => vendmeterref_members.l0 k acc ((i : Int) - 1) H (b : Int)) (acc ++ memF H b i) := by
    intro i
    induction i with
    | zero =>
      intro _ acc _
      refine Ev.step (f := fun _ => some acc) (fun k => ?_) (Ev.ret (by simp [memF]))
      simp only [vendmeterref_members.l0]; rw [if_neg (by omega)]
    | succ i ih =>
      intro hi acc hacc
      refine Ev.step (f := fun k => (vendmeterref_bitAt.f k (b : Int) (i : Int)).bind fun t => if t = true then (if acc.length < 17592186044416 then vendmeterref_members.l0 k (acc ++ [H - (i : Int)]) ((i : Int) - 1) H (b : Int) else none) else vendmeterref_members.l0 k acc ((i : Int) - 1) H (b : Int)) (fun k => ?_) ?_
      · simp only [vendmeterref_members.l0]
        rw [if_pos (by omega), show ((i + 1 : Nat) : Int) - 1 = (i : Int) by omega, wr (a := H - (i : Int)) ⟨by omega, by omega⟩, wr (a := (i : Int) - 1) ⟨by omega, by omega⟩]
      · refine Ev.bind (vendmeterref_bitAt.ev b i hb (by omega)) ?_
        simp only [memF]
        by_cases ht : b.testBit i = true
        · refine Ev.pos ht (Ev.pos (by omega) (Ev.eq ?_ (ih (by omega) (acc ++ [H - (i : Int)]) (by simp; omega))))
          rw [if_pos ht, List.append_assoc]
        · refine Ev.neg ht (Ev.eq ?_ (ih (by omega) acc (by omega)))
          rw [if_neg ht, List.nil_append]
  simpa using key 64 (by omega) [] (by simp)
theorem vendmeterref_WindowMay.ev (H : Int) (b : Nat) (hb : b < 18446744073709551616) : Ev (fun k => vendmeterref_WindowMay.f k H (b : Int)) (mayW H b) := by
  unfold vendmeterref_WindowMay.f
  by_cases h0 : H = 0
  · refine Ev.pos h0 (Ev.ret ?_)
    unfold mayW
    rw [Bool.eq_iff_iff]
    simp only [beq_iff_eq, decide_eq_true_eq]
    omega
  · refine Ev.neg h0 ?_
    rw [vendmeterref_In.eq]
    refine Ev.letS ?_
    by_cases h1 : 1 ≤ H ∧ H ≤ 1048575
    · refine Ev.pos (by simpa using h1) (Ev.bind (vendmeterref_members.ev H b hb (by omega)) ?_)
      have hlen := memF_len H b 64
      by_cases hz : b = 0
      · subst hz
        rw [memF_zero]
        refine Ev.neg (by decide) (Ev.ret ?_)
        unfold mayW
        symm
        rw [decide_eq_false_iff_not]
        omega
      · have hc := memF_cons H b hz hb
        have hp : 0 < (memF H b 64).length := by rw [hc]; simp
        have hl := memF_last H b 63 hp
        have hd : rd (memF H b 64) 0 = H - ((lenN b - 1 : Nat) : Int) := by rw [hc]; rfl
        obtain ⟨_, _, hn1⟩ := top_bit b hz
        refine Ev.pos (by omega) (Ev.pos (by omega) ?_)
        rw [hd]
        by_cases h2 : H - ((lenN b - 1 : Nat) : Int) ≥ 1
        · refine Ev.pos h2 ?_
          rw [wr (a := ((memF H b 64).length : Int) - 1) ⟨by omega, by omega⟩]
          refine Ev.pos (by omega) (Ev.pos (by omega) (Ev.ret ?_))
          rw [show ((memF H b 64).length : Int) - 1 = (((memF H b 64).length - 1 : Nat) : Int) by omega, rd_nat]
          unfold mayW
          rw [Bool.eq_iff_iff]
          simp only [beq_iff_eq, decide_eq_true_eq]
          rw [hl, Nat.testBit_zero, decide_eq_true_eq]
          omega
        · refine Ev.neg h2 (Ev.ret ?_)
          unfold mayW
          symm
          rw [decide_eq_false_iff_not]
          omega
    · refine Ev.neg (by simpa using h1) (Ev.ret ?_)
      unfold mayW
      symm
      rw [decide_eq_false_iff_not]
      omega
theorem vendmeterref_MeterMay.ev (me rev cr H : Int) (b : Nat) (bad lock : Int) (hb : b < 18446744073709551616) : Ev (fun k => vendmeterref_MeterMay.f k me rev cr H (b : Int) bad lock) (mayM me rev cr H b bad lock) := by
  have jT : ∀ r, r = false → Ev (fun k => vendmeterref_MeterMay.j0 k true me rev cr H (b : Int) bad lock) r := by
    rintro r rfl
    exact Ev.step (f := fun _ => some false) (fun k => rfl) (Ev.now _)
  have j1T : ∀ r, r = false → Ev (fun k => vendmeterref_MeterMay.j1 k true me rev cr H (b : Int) bad lock) r := by
    rintro r rfl
    exact Ev.step (f := fun _ => some false) (fun k => rfl) (Ev.now _)
  have no := fun h => mayM_no (me := me) (rev := rev) (cr := cr) (bad := bad) (lock := lock) H b h
  unfold vendmeterref_MeterMay.f
  simp only [vendmeterref_In.eq, Option.bind_some]
  by_cases h1 : 0 ≤ me ∧ me ≤ 49
  · by_cases h2 : 0 ≤ rev ∧ rev ≤ 15
    · by_cases h3 : 0 ≤ cr ∧ cr ≤ 99999999
      · simp only [h1, h2, h3, and_self, decide_true, if_true, Bool.not_true]
        refine Ev.succ ?_
        simp only [vendmeterref_MeterMay.j0, vendmeterref_In.eq, Option.bind_some, Bool.false_eq_true, if_false]
        by_cases h4 : 0 ≤ bad ∧ bad ≤ 4
        · by_cases h5 : 0 ≤ lock ∧ lock ≤ 30
          · simp only [h4, h5, and_self, decide_true, if_true, Bool.not_true]
            refine Ev.succ ?_
            simp only [vendmeterref_MeterMay.j1, Bool.false_eq_true, if_false]
            have hu : inM me rev cr bad lock → Ev (fun k => (vendmeterref_WindowMay.f k H (b : Int)).bind fun z => some z) (mayM me rev cr H b bad lock) := by
              intro h
              exact Ev.bind (vendmeterref_WindowMay.ev H b hb) (Ev.ret (mayM_yes H b h).symm)
            exact Ev.split (fun g => hu (by unfold inM; omega)) (fun g => Ev.split (fun g2 => hu (by unfold inM; omega)) (fun g2 => Ev.ret (no (by unfold inM; omega)).symm))
          · simp only [h4, h5, and_self, decide_true, decide_false, if_true, Bool.not_false]
            exact j1T _ (no (by unfold inM; omega))
        · simp only [h4, decide_false, Bool.false_eq_true, if_false]
          exact j1T _ (no (by unfold inM; omega))
      · simp only [h1, h2, h3, and_self, decide_true, decide_false, if_true, Bool.not_false]
        exact jT _ (no (by unfold inM; omega))
    · simp only [h1, h2, and_self, decide_true, decide_false, if_true, Bool.false_eq_true, if_false]
      exact jT _ (no (by unfold inM; omega))
  · simp only [h1, decide_false, Bool.false_eq_true, if_false]
    exact jT _ (no (by unfold inM; omega))
def dB (u : Nat) : ByteArray := ⟨(Lib.decDigits u).toArray⟩
theorem dd_len : ∀ (d u : Nat), u < 10 ^ (d + 1) → (Lib.decDigits u).length ≤ d + 1
  | 0, u, h => by rw [Lib.decDigits_one (by simpa using h)]; simp
  | d + 1, u, h => by
    by_cases h10 : u < 10
    · rw [Lib.decDigits_one h10]; simp
    · rw [Lib.decDigits, dif_neg h10]
      have := dd_len d (u / 10) (by rw [Nat.div_lt_iff_lt_mul (by decide)]; rw [Nat.pow_succ] at h; omega)
      simp
      omega
theorem dB_size (u : Nat) (h : u ≤ 9223372036854775807) : (dB u).size ≤ 21 := by
  have := dd_len 20 u (by omega)
  exact this
theorem dB_big (u : Nat) (h : ¬ u < 10) : dB u = dB (u / 10) ++ dB (u % 10) := by
  unfold dB
  rw [Lib.decDigits, dif_neg h, Lib.decDigits_one (show u % 10 < 10 by omega)]
  apply ByteArray.ext; apply Array.ext'
  simp
theorem dec_ev (u : Nat) (h : u ≤ 9223372036854775807) : Ev (fun k => vendmeterref_Dec.f k (u : Int)) (dB u) := by
  induction u using Nat.strongRecOn with
  | ind u ih =>
    refine Ev.succ ?_
    simp only [vendmeterref_Dec.f]
    refine Ev.pos (by omega) (Ev.succ ?_)
    simp only [vendmeterref_Dec.j0]
    by_cases h10 : u < 10
    · refine Ev.pos (decide_eq_true (by omega)) (Ev.eq ?_ (Ev.now _))
      rw [wr ⟨by omega, by omega⟩, show ((48 + (u : Int)) % 256) = ((48 + u : Nat) : Int) by omega]
      unfold dB strOfNums
      rw [Lib.decDigits_one h10]
      rfl
    · refine Ev.neg (by rw [decide_eq_true_eq]; omega) (Ev.neg (by omega) ?_)
      rw [show wrap64 (Int.tdiv (u : Int) 10) = ((u / 10 : Nat) : Int) by rw [td (by omega), wr ⟨by omega, by omega⟩]; rfl, show Int.tmod (u : Int) 10 = ((u % 10 : Nat) : Int) by rw [tm (by omega)]; rfl]
      refine Ev.bind (ih (u / 10) (by omega) (by omega)) (Ev.bind (ih (u % 10) (by omega) (by omega)) ?_)
      have s1 := dB_size (u / 10) (by omega)
      have s2 := dB_size (u % 10) (by omega)
      refine Ev.pos (by omega) (Ev.eq (dB_big u h10).symm (Ev.now _))
theorem itoa_f (a : Int) (h : 0 ≤ a ∧ a ≤ 9223372036854775807) : strconv_Itoa_41.f a = some (dB a.toNat) := by
  unfold strconv_Itoa_41.f
  rw [if_pos ⟨by omega, h.2⟩]
  obtain ⟨u, rfl⟩ := Int.eq_ofNat_of_zero_le h.1
  rw [Lib.itoa_nonneg]
  rfl

def rp (m : Nat) (s : ByteArray) : ByteArray := (⟨(Lib.repeatL (⟨#[48]⟩ : ByteArray).data.toList m).toArray⟩ : ByteArray) ++ s
theorem rp_zero (s : ByteArray) : rp 0 s = s := by apply ByteArray.ext; apply Array.ext'; simp [rp, Lib.repeatL]
theorem rp_succ (m : Nat) (s : ByteArray) : rp (m + 1) s = rp m ((⟨#[48]⟩ : ByteArray) ++ s) := by
  unfold rp
  rw [Lib.repeatL_add, Lib.repeatL_one]
  apply ByteArray.ext; apply Array.ext'
  simp
theorem rp_size (m : Nat) (s : ByteArray) : (rp m s).size = m + s.size := by
  unfold rp
  rw [ByteArray.size_append]
  show (Lib.repeatL _ m).length + _ = _
  rw [Lib.repeatL_length]
  show m * 1 + _ = _
  omega
theorem pad_ev : ∀ (m : Nat) (s : ByteArray), s.size + m = 18 → Ev (fun k => vendmeterref_padded.l0 k 18 s) (rp m s)
  | 0, s, h => by
    refine Ev.succ ?_
    simp only [vendmeterref_padded.l0]
    exact Ev.neg (by omega) (Ev.eq (rp_zero s).symm (Ev.now _))
  | m + 1, s, h => by
    refine Ev.succ ?_
    simp only [vendmeterref_padded.l0]
    have z : (⟨#[48]⟩ : ByteArray).size = 1 := rfl
    have ih := pad_ev m ((⟨#[48]⟩ : ByteArray) ++ s) (by rw [ByteArray.size_append, z]; omega)
    rw [rp_succ]
    exact Ev.pos (by omega) (Ev.pos (by omega) ih)
def codeAns (me rev cr H : Int) (b : Nat) (bad lock : Int) : ByteArray × Int := if mayM me rev cr H b bad lock = true then (rp (18 - (dB (((cr * 1048576 + H) * 50 + me) * 97).toNat).size) (dB (((cr * 1048576 + H) * 50 + me) * 97).toNat), 0) else ((⟨#[]⟩ : ByteArray), 5)
theorem CodeShows : vendmeterlaw_CodeShows.Pure := by
  intro me rev cr H b' bad lock _ _ _ _ hb _ _
  have h1 := wfu64 hb
  obtain ⟨b, rfl⟩ := Int.eq_ofNat_of_zero_le h1.1
  have hb2 : b < 18446744073709551616 := by omega
  refine Ev.rounds ?_
  unfold vendmeterlaw_CodeShows.f
  have key : mayM me rev cr H b bad lock = true → (0 ≤ ((cr * 1048576 + H) * 50 + me) * 97 ∧ ((cr * 1048576 + H) * 50 + me) * 97 < 1000000000000000000) ∧ (0 ≤ cr ∧ cr ≤ 99999999) ∧ (0 ≤ H ∧ H ≤ 1048575) ∧ (0 ≤ me ∧ me ≤ 49) := by
    intro h
    obtain ⟨⟨h1, h2, h3, h4, h5, _⟩, hw⟩ := mayM_in h
    have hH := mayW_H hw
    omega
  have hc : Ev (fun k => readback_Code.f k me rev cr H (b : Int) bad lock) (codeAns me rev cr H b bad lock) := by
    unfold readback_Code.f codeAns
    refine Ev.bind (meter_Words.ev me rev cr H b bad lock hb2) ?_
    unfold wordsAns
    by_cases hm : mayM me rev cr H b bad lock = true
    · obtain ⟨hv, hcr, hH, hme⟩ := key hm
      rw [if_pos hm, if_pos hm]
      refine Ev.pos (by first | rfl | trivial) ?_
      rw [wr (a := cr * 1048576) ⟨by omega, by omega⟩, wr (a := cr * 1048576 + H) ⟨by omega, by omega⟩, wr (a := (cr * 1048576 + H) * 50) ⟨by omega, by omega⟩, wr (a := (cr * 1048576 + H) * 50 + me) ⟨by omega, by omega⟩, wr (a := ((cr * 1048576 + H) * 50 + me) * 97) ⟨by omega, by omega⟩, itoa_f _ ⟨by omega, by omega⟩]
      refine Ev.letS ?_
      have hl : (dB (((cr * 1048576 + H) * 50 + me) * 97).toNat).size ≤ 18 := dd_len 17 _ (by omega)
      generalize dB (((cr * 1048576 + H) * 50 + me) * 97).toNat = s at hl ⊢
      rw [show wrap64 (18 - (s.size : Int)) = ((18 - s.size : Nat) : Int) by rw [wr ⟨by omega, by omega⟩]; omega]
      unfold strings_Repeat.f
      rw [if_pos ⟨⟨by omega, by omega⟩, by show 1 * _ ≤ _; omega⟩, Int.toNat_natCast]
      have hs := rp_size (18 - s.size) s
      unfold rp at hs ⊢
      rw [ByteArray.size_append] at hs
      exact Ev.letS (Ev.pos (by omega) (Ev.now _))
    · rw [if_neg hm, if_neg hm]
      exact Ev.neg (by decide) (Ev.now _)
  have hr : Ev (fun k => vendmeterref_Coded.f k me rev cr H (b : Int) bad lock) (codeAns me rev cr H b bad lock) := by
    unfold vendmeterref_Coded.f codeAns
    refine Ev.bind (vendmeterref_MeterMay.ev me rev cr H b bad lock hb2) (Ev.iteR (fun hm => ?_) (fun _ => Ev.now _))
    obtain ⟨hv, hcr, hH, hme⟩ := key hm
    rw [wr (a := 1048576 * cr) ⟨by omega, by omega⟩, wr (a := 1048576 * cr + H) ⟨by omega, by omega⟩, wr (a := 50 * (1048576 * cr + H)) ⟨by omega, by omega⟩, wr (a := 50 * (1048576 * cr + H) + me) ⟨by omega, by omega⟩, wr (a := 97 * (50 * (1048576 * cr + H) + me)) ⟨by omega, by omega⟩]
    obtain ⟨u, hu⟩ : ∃ u : Nat, ((cr * 1048576 + H) * 50 + me) * 97 = (u : Int) := ⟨(((cr * 1048576 + H) * 50 + me) * 97).toNat, by omega⟩
    rw [show 97 * (50 * (1048576 * cr + H) + me) = (u : Int) by omega, hu, Int.toNat_natCast]
    unfold vendmeterref_padded.f
    have hl : (dB u).size ≤ 18 := dd_len 17 _ (by omega)
    exact Ev.bind (Ev.bind (dec_ev u (by omega)) (pad_ev (18 - (dB u).size) (dB u) (by omega))) (Ev.now _)
  exact Ev.bind hc (Ev.bind hr (Ev.pos rfl (Ev.ret (by simp))))

end Go.Proofs.YtoookcmablnjfaaDoor.Pure
