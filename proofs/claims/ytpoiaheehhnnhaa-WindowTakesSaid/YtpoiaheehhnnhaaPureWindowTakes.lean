/- vendmeterlaw.WindowTakes returns true at every window and number: window.Take answers as the reference does. No condition. -/
import Derived.Test.YtpoiaheehhnnhaaPWindowTakesxL
import Derived.Test.YtpoiaheehhnnhaaXLib
set_option linter.unusedVariables false
set_option linter.unusedSimpArgs false
namespace Go.Proofs.Ytpoiaheehhnnhaa.Pure
open Go.RowKit Go.Proofs.Ytpoiaheehhnnhaa.PWindowTakes Go.Proofs.YtpoiaheehhnnhaaW.PrintWords Go.Proofs.YtpoiaheehhnnhaaW.PrintLast Go.Proofs.YtpoiaheehhnnhaaW.PrintMore Go.Proofs.YtpoiaheehhnnhaaW.XLib

def lenN (n : Nat) : Nat := if n = 0 then 0 else Nat.log2 n + 1
theorem lenN_le (n m : Nat) : lenN n ≤ m ↔ n < 2 ^ m := by
  unfold lenN
  by_cases h : n = 0
  · subst h; simp [Nat.two_pow_pos]
  · rw [if_neg h, Nat.succ_le_iff, Nat.log2_lt h]
theorem lenN_shift (n k : Nat) (h : 2 ^ k ≤ n) : lenN n = k + lenN (n / 2 ^ k) := by
  have key : ∀ m, lenN n ≤ m ↔ k + lenN (n / 2 ^ k) ≤ m := by
    intro m
    rw [lenN_le]
    rcases Nat.lt_or_ge m k with hm | hm
    · have h1 : 2 ^ m ≤ 2 ^ k := Nat.pow_le_pow_right (by decide) (by omega)
      constructor
      · intro h2; omega
      · intro h2; omega
    · obtain ⟨j, rfl⟩ : ∃ j, m = k + j := ⟨m - k, by omega⟩
      rw [show k + lenN (n / 2 ^ k) ≤ k + j ↔ lenN (n / 2 ^ k) ≤ j by omega, lenN_le, Nat.div_lt_iff_lt_mul (Nat.two_pow_pos k), Nat.pow_add, Nat.mul_comm]
  exact Nat.le_antisymm ((key _).2 (Nat.le_refl _)) ((key _).1 (Nat.le_refl _))
def len8 : ByteArray := (⟨#[0, 1, 2, 2, 3, 3, 3, 3, 4, 4, 4, 4, 4, 4, 4, 4, 5, 5, 5, 5, 5, 5, 5, 5, 5, 5, 5, 5, 5, 5, 5, 5, 6, 6, 6, 6, 6, 6, 6, 6, 6, 6, 6, 6, 6, 6, 6, 6, 6, 6, 6, 6, 6, 6, 6, 6, 6, 6, 6, 6, 6, 6, 6, 6, 7, 7, 7, 7, 7, 7, 7, 7, 7, 7, 7, 7, 7, 7, 7, 7, 7, 7, 7, 7, 7, 7, 7, 7, 7, 7, 7, 7, 7, 7, 7, 7, 7, 7, 7, 7, 7, 7, 7, 7, 7, 7, 7, 7, 7, 7, 7, 7, 7, 7, 7, 7, 7, 7, 7, 7, 7, 7, 7, 7, 7, 7, 7, 7, 8, 8, 8, 8, 8, 8, 8, 8, 8, 8, 8, 8, 8, 8, 8, 8, 8, 8, 8, 8, 8, 8, 8, 8, 8, 8, 8, 8, 8, 8, 8, 8, 8, 8, 8, 8, 8, 8, 8, 8, 8, 8, 8, 8, 8, 8, 8, 8, 8, 8, 8, 8, 8, 8, 8, 8, 8, 8, 8, 8, 8, 8, 8, 8, 8, 8, 8, 8, 8, 8, 8, 8, 8, 8, 8, 8, 8, 8, 8, 8, 8, 8, 8, 8, 8, 8, 8, 8, 8, 8, 8, 8, 8, 8, 8, 8, 8, 8, 8, 8, 8, 8, 8, 8, 8, 8, 8, 8, 8, 8, 8, 8, 8, 8, 8, 8, 8, 8, 8, 8, 8, 8, 8, 8, 8, 8, 8, 8]⟩ : ByteArray)
set_option maxRecDepth 100000 in
theorem bt_len8 : ∀ n : Nat, n < 256 → bt len8 (n : Int) = ((lenN n : Nat) : Int) := by decide +kernel
set_option maxRecDepth 100000 in
theorem len64_j_eq (k : Nat) (x o : Int) : bits_Len64.j0 (k + 1) x o = if x ≥ 65536 then (if x / 65536 ≥ 256 then (if 0 ≤ ((x / 65536 / 256) % 256) then (if ((x / 65536 / 256) % 256) < 256 then (some (wrap64 (wrap64 (wrap64 (o + 16) + 8) + (wrap64 (bt len8 ((x / 65536 / 256) % 256)))))) else none) else none) else (if 0 ≤ ((x / 65536) % 256) then (if ((x / 65536) % 256) < 256 then (some (wrap64 (wrap64 (o + 16) + (wrap64 (bt len8 ((x / 65536) % 256)))))) else none) else none)) else (if x ≥ 256 then (if 0 ≤ ((x / 256) % 256) then (if ((x / 256) % 256) < 256 then (some (wrap64 (wrap64 (o + 8) + (wrap64 (bt len8 ((x / 256) % 256)))))) else none) else none) else (if 0 ≤ (x % 256) then (if (x % 256) < 256 then (some (wrap64 (o + (wrap64 (bt len8 (x % 256)))))) else none) else none)) := rfl
theorem len64_j (x : Nat) (hx : x < 4294967296) (o : Nat) (ho : o ≤ 32) : Ev (fun k => bits_Len64.j0 k (x : Int) (o : Int)) ((o + lenN x : Nat) : Int) := by
  have hb : lenN x ≤ 32 := (lenN_le x 32).2 hx
  have e1 : ((x : Int) / 65536 / 256) % 256 = ((x / 65536 / 256 : Nat) : Int) := by omega
  refine Ev.step (f := fun _ => some ((o + lenN x : Nat) : Int)) (fun k => ?_) (Ev.now _)
  rw [len64_j_eq]
  by_cases h1 : 65536 ≤ x
  · have s1 := lenN_shift x 16 h1
    rw [if_pos (by omega)]
    by_cases h2 : 256 ≤ x / 65536
    · have s2 := lenN_shift (x / 65536) 8 h2
      rw [if_pos (by omega), e1, if_pos (by omega), if_pos (by omega), bt_len8 _ (by omega)]
      have s3 : lenN x = 24 + lenN (x / 65536 / 256) := by rw [s1]; simp only [Nat.reducePow] at s2 ⊢; rw [s2]; omega
      rw [wr (a := (o : Int) + 16) ⟨by omega, by omega⟩, wr (a := (o : Int) + 16 + 8) ⟨by omega, by omega⟩, wr (a := ((lenN (x / 65536 / 256) : Nat) : Int)) ⟨by omega, by omega⟩, wr ⟨by omega, by omega⟩]
      congr 1
      omega
    · have e2 : ((x : Int) / 65536) % 256 = ((x / 65536 : Nat) : Int) := by omega
      rw [if_neg (by omega), e2, if_pos (by omega), if_pos (by omega), bt_len8 _ (by omega)]
      have s3 : lenN x = 16 + lenN (x / 65536) := by rw [s1]
      rw [wr (a := (o : Int) + 16) ⟨by omega, by omega⟩, wr (a := ((lenN (x / 65536) : Nat) : Int)) ⟨by omega, by omega⟩, wr ⟨by omega, by omega⟩]
      congr 1
      omega
  · rw [if_neg (by omega)]
    by_cases h2 : 256 ≤ x
    · have s2 := lenN_shift x 8 h2
      have e2 : ((x : Int) / 256) % 256 = ((x / 256 : Nat) : Int) := by omega
      rw [if_pos (by omega), e2, if_pos (by omega), if_pos (by omega), bt_len8 _ (by omega)]
      have s3 : lenN x = 8 + lenN (x / 256) := by rw [s2]
      rw [wr (a := (o : Int) + 8) ⟨by omega, by omega⟩, wr (a := ((lenN (x / 256) : Nat) : Int)) ⟨by omega, by omega⟩, wr ⟨by omega, by omega⟩]
      congr 1
      omega
    · have e2 : (x : Int) % 256 = ((x : Nat) : Int) := by omega
      rw [if_neg (by omega), e2, if_pos (by omega), if_pos (by omega), bt_len8 _ (by omega), wr (a := ((lenN x : Nat) : Int)) ⟨by omega, by omega⟩, wr ⟨by omega, by omega⟩]
      congr 1
theorem bits_Len64.ev (x : Nat) (hx : x < 18446744073709551616) : Ev (fun k => bits_Len64.f k (x : Int)) ((lenN x : Nat) : Int) := by
  unfold bits_Len64.f
  by_cases h : 4294967296 ≤ x
  · have s := lenN_shift x 32 h
    refine Ev.pos (by omega) ?_
    have := len64_j (x / 4294967296) (by omega) 32 (by omega)
    rw [show ((x : Int) / 4294967296) = ((x / 4294967296 : Nat) : Int) by omega, s]
    exact this
  · refine Ev.neg (by omega) ?_
    have := len64_j x (by omega) 0 (by omega)
    rw [Nat.zero_add] at this
    exact this
theorem vendmeterref_In.eq (a b c : Int) : vendmeterref_In.f a b c = some (decide (b ≤ a ∧ a ≤ c)) := by
  unfold vendmeterref_In.f
  by_cases h : b ≤ a
  · rw [if_pos h]; simp [h]
  · rw [if_neg h]; simp [h]
theorem u64w {a : Int} (h : 0 ≤ a ∧ a < 18446744073709551616) : IntKind.u64.wrap a = a := by simp [IntKind.wrap, IntKind.bits, IntKind.signed]; omega
theorem vendmeterref_bitAt.ev (b i : Nat) (hb : b < 18446744073709551616) (hi : i ≤ 64) : Ev (fun k => vendmeterref_bitAt.f k (b : Int) (i : Int)) (b.testBit i) := by
  unfold vendmeterref_bitAt.f
  have key := down (P := fun j => Ev (fun k => vendmeterref_bitAt.l0 k ((b / 2 ^ j : Nat) : Int) (i : Int) (j : Int)) (b.testBit i)) (n := i) (by
    refine Ev.step (f := fun _ => some (b.testBit i)) (fun k => ?_) (Ev.now _)
    rw [Nat.testBit_eq_decide_div_mod_eq]
    generalize b / 2 ^ i = q
    simp only [vendmeterref_bitAt.l0]
    rw [if_neg (by omega), tm (by omega)]
    congr 1
    rw [Bool.eq_iff_iff]
    simp only [beq_iff_eq, decide_eq_true_eq]
    omega) (by
    intro j hj ih
    refine Ev.step (fun k => ?_) ih
    have hlt : b / 2 ^ j ≤ b := Nat.div_le_self _ _
    rw [Nat.pow_succ, ← Nat.div_div_eq_div_mul]
    generalize b / 2 ^ j = q at hlt
    simp only [vendmeterref_bitAt.l0]
    rw [if_pos (by omega), td (by omega), u64w ⟨by omega, by omega⟩, wn (show j < 65 by omega) (by omega)]
    rfl)
  simpa using key
def memF (H : Int) (b : Nat) : Nat → List Int
  | 0 => []
  | i + 1 => (if b.testBit i then [H - (i : Int)] else []) ++ memF H b i
theorem memF_len (H : Int) (b : Nat) : ∀ i, (memF H b i).length ≤ i
  | 0 => Nat.le_refl _
  | i + 1 => by
    have := memF_len H b i
    simp only [memF, List.length_append]
    split <;> simp <;> omega
theorem vendmeterref_members.ev (H : Int) (b : Nat) (hb : b < 18446744073709551616) (hH : 0 ≤ H ∧ H ≤ 1048575) : Ev (fun k => vendmeterref_members.f k H (b : Int)) (memF H b 64) := by
  unfold vendmeterref_members.f
  have key : ∀ i : Nat, i ≤ 64 → ∀ acc : List Int, acc.length + i ≤ 64 → Ev (fun k => vendmeterref_members.l0 k acc ((i : Int) - 1) H (b : Int)) (acc ++ memF H b i) := by
    intro i
    induction i with
    | zero =>
      intro _ acc _
      refine Ev.step (f := fun _ => some acc) (fun k => ?_) (Ev.ret (by simp [memF]))
      simp only [vendmeterref_members.l0]; rw [if_neg (by omega)]
    | succ i ih =>
      intro hi acc hacc
      refine Ev.step (f := fun k => (vendmeterref_bitAt.f k (b : Int) (i : Int)).bind fun t => if t = true then (if acc.length < 17592186044416 then vendmeterref_members.l0 k (acc ++ [H - (i : Int)]) ((i : Int) - 1) H (b : Int) else none) else vendmeterref_members.l0 k acc ((i : Int) - 1) H (b : Int)) (fun k => ?_) ?_
      · simp only [vendmeterref_members.l0]
        rw [if_pos (by omega), show ((i + 1 : Nat) : Int) - 1 = (i : Int) by omega, wr (a := H - (i : Int)) ⟨by omega, by omega⟩, wr (a := (i : Int) - 1) ⟨by omega, by omega⟩]
      · refine Ev.bind (vendmeterref_bitAt.ev b i hb (by omega)) ?_
        simp only [memF]
        by_cases ht : b.testBit i = true
        · refine Ev.pos ht (Ev.pos (by omega) (Ev.eq ?_ (ih (by omega) (acc ++ [H - (i : Int)]) (by simp; omega))))
          rw [if_pos ht, List.append_assoc]
        · refine Ev.neg ht (Ev.eq ?_ (ih (by omega) acc (by omega)))
          rw [if_neg ht, List.nil_append]
  simpa using key 64 (by omega) [] (by simp)
theorem memF_high (H : Int) (b : Nat) : ∀ d i, b < 2 ^ i → memF H b (i + d) = memF H b i
  | 0, _, _ => rfl
  | d + 1, i, h => by
    rw [← Nat.add_assoc]
    simp only [memF]
    rw [memF_high H b d i h, Nat.testBit_lt_two_pow (Nat.lt_of_lt_of_le h (Nat.pow_le_pow_right (by decide) (Nat.le_add_right i d)))]
    rfl
theorem top_bit (b : Nat) (h : b ≠ 0) : b.testBit (lenN b - 1) = true ∧ b < 2 ^ lenN b ∧ 1 ≤ lenN b := by
  have h1 : 1 ≤ lenN b := by unfold lenN; rw [if_neg h]; omega
  have h2 := (lenN_le b (lenN b)).1 (Nat.le_refl _)
  refine ⟨?_, h2, h1⟩
  have h3 : ¬ b < 2 ^ (lenN b - 1) := fun h4 => by have := (lenN_le b (lenN b - 1)).2 h4; omega
  rw [Nat.testBit_eq_decide_div_mod_eq, decide_eq_true_eq]
  have h5 : b / 2 ^ (lenN b - 1) < 2 := by
    rw [Nat.div_lt_iff_lt_mul (Nat.two_pow_pos _), Nat.mul_comm, ← Nat.pow_succ, show (lenN b - 1).succ = lenN b by omega]
    exact h2
  have h6 : 0 < b / 2 ^ (lenN b - 1) := Nat.div_pos (by omega) (Nat.two_pow_pos _)
  omega
theorem memF_cons (H : Int) (b : Nat) (h : b ≠ 0) (hb : b < 18446744073709551616) : memF H b 64 = (H - ((lenN b - 1 : Nat) : Int)) :: memF H b (lenN b - 1) := by
  obtain ⟨t, h2, h1⟩ := top_bit b h
  have h64 : lenN b ≤ 64 := (lenN_le b 64).2 hb
  have e := memF_high H b (64 - lenN b) (lenN b) h2
  rw [show lenN b + (64 - lenN b) = 64 by omega] at e
  rw [e]
  obtain ⟨m, hm⟩ : ∃ m, lenN b = m + 1 := ⟨lenN b - 1, by omega⟩
  rw [hm] at t ⊢
  simp only [memF, Nat.add_sub_cancel] at t ⊢
  rw [if_pos t]; rfl
theorem memF_zero (H : Int) : ∀ i, memF H 0 i = []
  | 0 => rfl
  | i + 1 => by simp [memF, memF_zero H i]
theorem memF_mem (H : Int) (b : Nat) (x : Int) : ∀ i, x ∈ memF H b i ↔ ∃ j, j < i ∧ b.testBit j = true ∧ x = H - (j : Int)
  | 0 => by simp [memF]
  | i + 1 => by
    simp only [memF, List.mem_append, memF_mem H b x i]
    constructor
    · rintro (h | ⟨j, h1, h2, h3⟩)
      · by_cases ht : b.testBit i = true
        · rw [if_pos ht] at h
          exact ⟨i, by omega, ht, by simpa using h⟩
        · rw [if_neg ht] at h
          simp at h
      · exact ⟨j, by omega, h2, h3⟩
    · rintro ⟨j, h1, h2, h3⟩
      by_cases hj : j = i
      · subst hj
        exact .inl (by rw [if_pos h2]; simpa using h3)
      · exact .inr ⟨j, by omega, h2, h3⟩
theorem memF_last (H : Int) (b : Nat) : ∀ i, 0 < (memF H b (i + 1)).length → ((memF H b (i + 1)).getD ((memF H b (i + 1)).length - 1) 0 = H ↔ b.testBit 0 = true)
  | 0, h => by
    simp only [memF, List.append_nil] at h ⊢
    by_cases ht : b.testBit 0 = true
    · simp [ht]
    · simp [ht] at h
  | i + 1, h => by
    by_cases he : 0 < (memF H b (i + 1)).length
    · have ih := memF_last H b i he
      have e : (memF H b (i + 1 + 1)).getD ((memF H b (i + 1 + 1)).length - 1) 0 = (memF H b (i + 1)).getD ((memF H b (i + 1)).length - 1) 0 := by
        rw [show memF H b (i + 1 + 1) = (if b.testBit (i + 1) then [H - ((i + 1 : Nat) : Int)] else []) ++ memF H b (i + 1) from rfl]
        rw [List.getD_eq_getElem?_getD, List.getD_eq_getElem?_getD, List.length_append, List.getElem?_append_right (by omega)]
        congr 2
        omega
      rw [e]
      exact ih
    · have h0 : memF H b (i + 1) = [] := List.eq_nil_of_length_eq_zero (by omega)
      have hb0 : ¬ b.testBit 0 = true := by
        intro ht
        have := (memF_mem H b (H - ((0 : Nat) : Int)) (i + 1)).2 ⟨0, by omega, ht, rfl⟩
        rw [h0] at this
        simp at this
      rw [show memF H b (i + 1 + 1) = (if b.testBit (i + 1) then [H - ((i + 1 : Nat) : Int)] else []) ++ memF H b (i + 1) from rfl, h0] at h ⊢
      by_cases ht : b.testBit (i + 1) = true
      · rw [if_pos ht]
        constructor
        · intro e
          have : H - ((i + 1 : Nat) : Int) = H := by simpa using e
          omega
        · intro e; exact absurd e hb0
      · rw [if_neg ht] at h
        simp at h
def mayW (H : Int) (b : Nat) : Bool := decide ((H = 0 ∧ b = 0) ∨ ((1 ≤ H ∧ H ≤ 1048575) ∧ b % 2 = 1 ∧ ((lenN b : Nat) : Int) ≤ H))
theorem mayW_H {H : Int} {b : Nat} (h : mayW H b = true) : 0 ≤ H ∧ H ≤ 1048575 := by
  unfold mayW at h
  rw [decide_eq_true_eq] at h
  omega
theorem and_one (b : Nat) (hb : b < 18446744073709551616) : Go.bits .and .u64 (b : Int) 1 = ((b % 2 : Nat) : Int) := by
  have := u64_and_nat b 1 hb (by decide)
  rw [Nat.and_one_is_mod] at this
  exact this
theorem window_may.ev (H : Int) (b : Nat) (hb : b < 18446744073709551616) : Ev (fun k => window_may.f k H (b : Int)) (mayW H b) := by
  unfold window_may.f
  have h64 : lenN b ≤ 64 := (lenN_le b 64).2 hb
  by_cases h1 : H < 1
  · refine Ev.pos h1 (Ev.ret ?_)
    unfold mayW
    rw [Bool.eq_iff_iff]
    simp only [Bool.and_eq_true, beq_iff_eq, decide_eq_true_eq]
    omega
  · refine Ev.neg h1 ?_
    by_cases h2 : H ≤ 1048575
    · refine Ev.pos h2 ?_
      rw [and_one b hb]
      by_cases h3 : b % 2 = 1
      · refine Ev.pos (by omega) (Ev.bind (bits_Len64.ev b hb) (Ev.ret ?_))
        unfold mayW mn
        rw [decide_eq_decide]
        split <;> omega
      · refine Ev.neg (by omega) (Ev.ret ?_)
        unfold mayW
        symm
        rw [decide_eq_false_iff_not]
        omega
    · refine Ev.neg h2 (Ev.ret ?_)
      unfold mayW
      symm
      rw [decide_eq_false_iff_not]
      omega
theorem vendmeterref_WindowMay.ev (H : Int) (b : Nat) (hb : b < 18446744073709551616) : Ev (fun k => vendmeterref_WindowMay.f k H (b : Int)) (mayW H b) := by
  unfold vendmeterref_WindowMay.f
  by_cases h0 : H = 0
  · refine Ev.pos h0 (Ev.ret ?_)
    unfold mayW
    rw [Bool.eq_iff_iff]
    simp only [beq_iff_eq, decide_eq_true_eq]
    omega
  · refine Ev.neg h0 ?_
    rw [vendmeterref_In.eq]
    refine Ev.letS ?_
    by_cases h1 : 1 ≤ H ∧ H ≤ 1048575
    · refine Ev.pos (by simpa using h1) (Ev.bind (vendmeterref_members.ev H b hb (by omega)) ?_)
      have hlen := memF_len H b 64
      by_cases hz : b = 0
      · subst hz
        rw [memF_zero]
        refine Ev.neg (by decide) (Ev.ret ?_)
        unfold mayW
        symm
        rw [decide_eq_false_iff_not]
        omega
      · have hc := memF_cons H b hz hb
        have hp : 0 < (memF H b 64).length := by rw [hc]; simp
        have hl := memF_last H b 63 hp
        have hd : rd (memF H b 64) 0 = H - ((lenN b - 1 : Nat) : Int) := by rw [hc]; rfl
        obtain ⟨_, _, hn1⟩ := top_bit b hz
        refine Ev.pos (by omega) (Ev.pos (by omega) ?_)
        rw [hd]
        by_cases h2 : H - ((lenN b - 1 : Nat) : Int) ≥ 1
        · refine Ev.pos h2 ?_
          rw [wr (a := ((memF H b 64).length : Int) - 1) ⟨by omega, by omega⟩]
          refine Ev.pos (by omega) (Ev.pos (by omega) (Ev.ret ?_))
          rw [show ((memF H b 64).length : Int) - 1 = (((memF H b 64).length - 1 : Nat) : Int) by omega, rd_nat]
          unfold mayW
          rw [Bool.eq_iff_iff]
          simp only [beq_iff_eq, decide_eq_true_eq]
          rw [hl, Nat.testBit_zero, decide_eq_true_eq]
          omega
        · refine Ev.neg h2 (Ev.ret ?_)
          unfold mayW
          symm
          rw [decide_eq_false_iff_not]
          omega
    · refine Ev.neg (by simpa using h1) (Ev.ret ?_)
      unfold mayW
      symm
      rw [decide_eq_false_iff_not]
      omega
def judgeW (H : Int) (b : Nat) (id : Int) : Int :=
  if mayW H b then (if 1 ≤ id ∧ id ≤ 1048575 then (if H - id ≥ 64 then 13 else if 0 ≤ H - id ∧ b.testBit (H - id).toNat = true then 14 else 0) else 2) else 5
theorem shr_bit (b : Nat) (hb : b < 18446744073709551616) (x : Int) (h0 : 0 ≤ x) (h1 : x < 64) : Go.bits .and .u64 (shr .u64 (b : Int) x) 1 = ((b / 2 ^ x.toNat % 2 : Nat) : Int) := by
  unfold shr
  rw [show min x.toNat IntKind.u64.bits = x.toNat by show min x.toNat 64 = x.toNat; omega]
  have e : (b : Int) / 2 ^ x.toNat = ((b / 2 ^ x.toNat : Nat) : Int) := by simp
  rw [e]
  exact and_one _ (Nat.lt_of_le_of_lt (Nat.div_le_self _ _) hb)
theorem window_Judge.ev (H : Int) (b : Nat) (id : Int) (hb : b < 18446744073709551616) (hid : -9223372036854775808 ≤ id ∧ id ≤ 9223372036854775807) : Ev (fun k => window_Judge.f k H (b : Int) id) (judgeW H b id) := by
  unfold window_Judge.f judgeW
  refine Ev.bind (window_may.ev H b hb) ?_
  by_cases hm : mayW H b = true
  · rw [if_pos hm]
    refine Ev.pos hm ?_
    have hH := mayW_H hm
    by_cases h1 : id < 1
    · rw [if_neg (show ¬ (1 ≤ id ∧ id ≤ 1048575) by omega)]
      exact Ev.pos h1 (Ev.step (f := fun _ => some 2) (fun k => rfl) (Ev.now _))
    · refine Ev.neg h1 ?_
      by_cases h2 : id > 1048575
      · rw [if_neg (show ¬ (1 ≤ id ∧ id ≤ 1048575) by omega)]
        exact Ev.step (f := fun _ => some 2) (fun k => by simp only [window_Judge.j0, h2, decide_true, if_true]) (Ev.now _)
      · rw [if_pos (show 1 ≤ id ∧ id ≤ 1048575 by omega), wr (a := H - id) ⟨by omega, by omega⟩]
        generalize hx : H - id = x
        refine Ev.step (f := fun _ => if x ≥ 64 then some 13 else if x ≥ 0 then (if 0 ≤ x then (if Go.bits .and .u64 (shr .u64 (b : Int) x) 1 = 1 then some 14 else some 0) else none) else some 0) (fun k => by simp only [window_Judge.j0, h2, decide_false]; rfl) ?_
        refine Ev.iteR (fun h3 => Ev.now _) (fun h3 => ?_)
        by_cases h4 : x ≥ 0
        · refine Ev.pos h4 (Ev.pos h4 ?_)
          rw [shr_bit b hb x h4 (by omega)]
          have tb := Nat.testBit_eq_decide_div_mod_eq (x := b) (i := x.toNat)
          generalize b / 2 ^ x.toNat = q at tb
          by_cases h5 : q % 2 = 1
          · exact Ev.eq (if_pos ⟨h4, by rw [tb]; simpa using h5⟩).symm (Ev.pos (by omega) (Ev.now _))
          · exact Ev.eq (if_neg (fun z => h5 (by have := z.2; rw [tb] at this; simpa using this))).symm (Ev.neg (by omega) (Ev.now _))
        · exact Ev.eq (if_neg (fun z => h4 z.1)).symm (Ev.neg h4 (Ev.now _))
  · rw [if_neg hm]
    exact Ev.neg hm (Ev.now _)
theorem vendmeterref_Judged.ev (H : Int) (b : Nat) (id : Int) (hb : b < 18446744073709551616) : Ev (fun k => vendmeterref_Judged.f k H (b : Int) id) (judgeW H b id) := by
  unfold vendmeterref_Judged.f judgeW
  refine Ev.bind (vendmeterref_WindowMay.ev H b hb) ?_
  by_cases hm : mayW H b = true
  · rw [if_pos hm]
    refine Ev.pos hm ?_
    have hH := mayW_H hm
    rw [vendmeterref_In.eq]
    refine Ev.letS ?_
    by_cases h1 : 1 ≤ id ∧ id ≤ 1048575
    · rw [if_pos h1, wr (a := H - 64) ⟨by omega, by omega⟩]
      refine Ev.pos (by simpa using h1) ?_
      by_cases h2 : H - id ≥ 64
      · rw [if_pos h2]; exact Ev.pos (by omega) (Ev.now _)
      · rw [if_neg h2]
        refine Ev.neg (by omega) (Ev.bind (vendmeterref_members.ev H b hb hH) ?_)
        have key : ∀ (l : List Int), l.length ≤ 64 → ∀ d i : Nat, i + d = l.length → Ev (fun k => vendmeterref_Judged.l0 k id l (i : Int)) (if id ∈ l.drop i then 14 else 0) := by
          intro l hl d
          induction d with
          | zero =>
            intro i hi
            refine Ev.step (f := fun _ => some 0) (fun k => ?_) (Ev.ret ?_)
            · simp only [vendmeterref_Judged.l0]; rw [if_neg (by omega)]
            · rw [List.drop_of_length_le (by omega)]; rfl
          | succ d ih =>
            intro i hi
            rw [drop_getD l i 0 (by omega)]
            by_cases e : l.getD i 0 = id
            · refine Ev.step (f := fun _ => some 14) (fun k => ?_) (Ev.ret ?_)
              · simp only [vendmeterref_Judged.l0, rd_nat]; rw [if_pos (by omega), if_pos (by omega), if_pos e]
              · rw [e, if_pos List.mem_cons_self]
            · refine Ev.step (fun k => ?_) (Ev.eq ?_ (ih (i + 1) (by omega)))
              · simp only [vendmeterref_Judged.l0, rd_nat]; rw [if_pos (by omega), if_pos (by omega), if_neg e, wn (show i < l.length by omega) (by omega)]
              · have : id ∈ l.getD i 0 :: l.drop (i + 1) ↔ id ∈ l.drop (i + 1) := by rw [List.mem_cons]; exact ⟨fun h => h.resolve_left (fun z => e z.symm), .inr⟩
                by_cases hc : id ∈ l.drop (i + 1)
                · rw [if_pos hc, if_pos (this.2 hc)]
                · rw [if_neg hc, if_neg (fun z => hc (this.1 z))]
        have k0 := key (memF H b 64) (memF_len H b 64) (memF H b 64).length 0 (by omega)
        rw [List.drop_zero] at k0
        refine Ev.eq ?_ k0
        have : id ∈ memF H b 64 ↔ (0 ≤ H - id ∧ b.testBit (H - id).toNat = true) := by
          rw [memF_mem]
          constructor
          · rintro ⟨j, h3, h4, rfl⟩
            refine ⟨by omega, ?_⟩
            rw [show (H - (H - (j : Int))).toNat = j by omega]
            exact h4
          · rintro ⟨h3, h4⟩
            exact ⟨(H - id).toNat, by omega, h4, by omega⟩
        by_cases hc : id ∈ memF H b 64
        · rw [if_pos hc, if_pos (this.1 hc)]
        · rw [if_neg hc, if_neg (fun z => hc (this.2 z))]
    · rw [if_neg h1]
      exact Ev.neg (by simpa using h1) (Ev.now _)
  · rw [if_neg hm]
    exact Ev.neg hm (Ev.now _)
def takeBits (H : Int) (b : Nat) (id : Int) : Nat := if id > H then (b * 2 ^ (id - H).toNat % 18446744073709551616) ||| 1 else b ||| 2 ^ (H - id).toNat
theorem takeBits_pos {H : Int} {b : Nat} {id : Int} (h : id > H) : takeBits H b id = (b * 2 ^ (id - H).toNat % 18446744073709551616) ||| 1 := if_pos h
theorem takeBits_neg {H : Int} {b : Nat} {id : Int} (h : ¬ id > H) : takeBits H b id = b ||| 2 ^ (H - id).toNat := if_neg h
def takeW (H : Int) (b : Nat) (id : Int) : Int × Int × Int :=
  if judgeW H b id = 0 then ((if id > H then id else H), ((takeBits H b id : Nat) : Int), 0) else (0, 0, judgeW H b id)
theorem judge_ok {H : Int} {b : Nat} {id : Int} (h : judgeW H b id = 0) : mayW H b = true ∧ 1 ≤ id ∧ id ≤ 1048575 ∧ H - id < 64 ∧ (0 ≤ H - id → b.testBit (H - id).toNat = false) := by
  unfold judgeW at h
  split at h
  · split at h
    · split at h
      · omega
      · split at h
        · omega
        · rename_i h1 h2 h3 h4
          refine ⟨h1, h2.1, h2.2, by omega, fun h5 => ?_⟩
          by_cases h6 : b.testBit (H - id).toNat = true
          · exact absurd ⟨h5, h6⟩ h4
          · simpa using h6
    · omega
  · omega
theorem u64wrap_mod (n : Nat) : IntKind.u64.wrap (n : Int) = ((n % 18446744073709551616 : Nat) : Int) := by simp [IntKind.wrap, IntKind.bits, IntKind.signed]
theorem two64 : (18446744073709551616 : Nat) = 2 ^ 64 := by decide
theorem shl_any (b s : Nat) : shl .u64 (b : Int) (s : Int) = ((b * 2 ^ s % 18446744073709551616 : Nat) : Int) := by
  unfold shl
  rw [Int.toNat_natCast]
  have e : (b : Int) * 2 ^ min s IntKind.u64.bits = ((b * 2 ^ min s 64 : Nat) : Int) := by show (b : Int) * 2 ^ min s 64 = _; simp
  rw [e, u64wrap_mod]
  congr 1
  rcases Nat.lt_or_ge s 64 with h | h
  · rw [Nat.min_eq_left (by omega)]
  · rw [Nat.min_eq_right h, two64]
    obtain ⟨j, rfl⟩ : ∃ j, s = 64 + j := ⟨s - 64, by omega⟩
    rw [Nat.mul_mod_left, Nat.pow_add, ← Nat.mul_assoc, Nat.mul_right_comm, Nat.mul_mod_left]
theorem window_Take.ev (H : Int) (b : Nat) (id : Int) (hb : b < 18446744073709551616) (hid : -9223372036854775808 ≤ id ∧ id ≤ 9223372036854775807) : Ev (fun k => window_Take.f k H (b : Int) id) (takeW H b id) := by
  unfold window_Take.f takeW
  refine Ev.bind (window_Judge.ev H b id hb hid) ?_
  refine Ev.iteR (fun h => ?_) (fun h => Ev.now _)
  · obtain ⟨hm, h1, h2, h3, _⟩ := judge_ok h
    have hH := mayW_H hm
    by_cases hp : id > H
    · rw [takeBits_pos hp, show (if id > H then id else H) = id from if_pos hp, wr (a := id - H) ⟨by omega, by omega⟩]
      refine Ev.pos hp (Ev.pos (by omega) (Ev.ret ?_))
      obtain ⟨s, hs⟩ := Int.eq_ofNat_of_zero_le (show 0 ≤ id - H by omega)
      rw [hs, shl_any, Int.toNat_natCast]
      have := u64_or_nat (b * 2 ^ s % 18446744073709551616) 1 (Nat.mod_lt _ (by decide)) (by decide)
      rw [show ((1 : Nat) : Int) = 1 from rfl] at this
      rw [this]
    · rw [takeBits_neg hp, show (if id > H then id else H) = H from if_neg hp, wr (a := H - id) ⟨by omega, by omega⟩]
      refine Ev.neg hp (Ev.pos (by omega) (Ev.ret ?_))
      obtain ⟨s, hs⟩ := Int.eq_ofNat_of_zero_le (show 0 ≤ H - id by omega)
      have h64 : 2 ^ s < 18446744073709551616 := Nat.pow_lt_pow_right (by decide) (show s < 64 by omega)
      have e := shl_any 1 s
      rw [Nat.one_mul, Nat.mod_eq_of_lt h64, show ((1 : Nat) : Int) = 1 from rfl] at e
      rw [hs, e, Int.toNat_natCast, u64_or_nat b _ hb h64]
theorem window_of_val (high : Int) (l : List Int) (T : Nat) (hh : 0 ≤ high ∧ high ≤ 1048575) (hl : l.length ≤ 65) (hT : T < 18446744073709551616) (hc : ∀ i : Nat, i < 64 → l.count (high - (i : Int)) = (T.testBit i).toNat) :
    Ev (fun k => vendmeterref_windowOf.f k high l) (high, (T : Int)) := by
  unfold vendmeterref_windowOf.f
  have half : ∀ i : Nat, 2 * (T / 2 ^ (i + 1)) + (T.testBit i).toNat = T / 2 ^ i := by
    intro i
    rw [Nat.pow_succ, ← Nat.div_div_eq_div_mul, Nat.testBit_eq_decide_div_mod_eq]
    generalize T / 2 ^ i = q
    by_cases h : q % 2 = 1
    · simp only [h, decide_true, Bool.toNat_true]; omega
    · simp only [h, decide_false, Bool.toNat_false]; omega
  have key : ∀ i : Nat, i ≤ 64 → Ev (fun k => vendmeterref_windowOf.l0 k high l ((i : Int) - 1) high ((T / 2 ^ i : Nat) : Int)) (high, (T : Int)) := by
    intro i
    induction i with
    | zero =>
      intro _
      refine Ev.step (f := fun _ => some (high, (T : Int))) (fun k => ?_) (Ev.now _)
      simp only [vendmeterref_windowOf.l0]
      rw [if_neg (by omega), Nat.pow_zero, Nat.div_one]
    | succ i ih =>
      intro hi
      have hf := half i
      have hci := hc i (by omega)
      have hle : T / 2 ^ i ≤ T := Nat.div_le_self _ _
      have ih' := ih (by omega)
      generalize T / 2 ^ i = q at *
      generalize T / 2 ^ (i + 1) = p at *
      have inner : ∀ d j : Nat, j + d = l.length → ∀ v : Nat, v + (l.drop j).count (high - (i : Int)) = q → Ev (fun k => vendmeterref_windowOf.l1 k high l (i : Int) (j : Int) high (v : Int)) (high, (T : Int)) := by
        intro d
        induction d with
        | zero =>
          intro j hj v hv
          rw [List.drop_of_length_le (by omega)] at hv
          refine Ev.step (fun k => ?_) ih'
          simp only [vendmeterref_windowOf.l1]
          rw [if_neg (by omega), wr (a := (i : Int) - 1) ⟨by omega, by omega⟩]
          congr 2 <;> simpa using hv
        | succ d ihd =>
          intro j hj v hv
          rw [drop_getD l j 0 (by omega), List.count_cons] at hv
          by_cases e : l.getD j 0 = high - (i : Int)
          · rw [if_pos (by simpa using e)] at hv
            refine Ev.step (fun k => ?_) (ihd (j + 1) (by omega) (v + 1) (by omega))
            simp only [vendmeterref_windowOf.l1, rd_nat]
            rw [if_pos (by omega), if_pos (by omega), wr (a := high - (i : Int)) ⟨by omega, by omega⟩, if_pos e, wn (show j < l.length by omega) (by omega), show (v : Int) + 1 = ((v + 1 : Nat) : Int) by omega, u64wrap_mod, Nat.mod_eq_of_lt (by omega)]
          · rw [if_neg (by simpa using e)] at hv
            refine Ev.step (fun k => ?_) (ihd (j + 1) (by omega) v (by omega))
            simp only [vendmeterref_windowOf.l1, rd_nat]
            rw [if_pos (by omega), if_pos (by omega), wr (a := high - (i : Int)) ⟨by omega, by omega⟩, if_neg e, wn (show j < l.length by omega) (by omega)]
      refine Ev.step (fun k => ?_) (inner l.length 0 (by omega) (2 * p) (by rw [List.drop_zero]; omega))
      simp only [vendmeterref_windowOf.l0]
      rw [if_pos (by omega), show ((i + 1 : Nat) : Int) - 1 = (i : Int) by omega, show 2 * (p : Int) = ((2 * p : Nat) : Int) by omega, u64wrap_mod, Nat.mod_eq_of_lt (by omega)]
      rfl
  have k0 := key 64 (Nat.le_refl _)
  rw [Nat.div_eq_of_lt (by rw [← two64]; exact hT)] at k0
  exact k0
theorem memF_count (H : Int) (b : Nat) (x : Int) : ∀ n : Nat, (memF H b n).count x = if 0 ≤ H - x ∧ H - x < (n : Int) then (b.testBit (H - x).toNat).toNat else 0
  | 0 => by rw [if_neg (by omega)]; rfl
  | n + 1 => by
    simp only [memF, List.count_append, memF_count H b x n]
    by_cases e : H - x = (n : Int)
    · have a1 : ¬ (0 ≤ H - x ∧ H - x < (n : Int)) := by omega
      have a2 : 0 ≤ H - x ∧ H - x < ((n + 1 : Nat) : Int) := by omega
      rw [if_neg a1, if_pos a2, e, Int.toNat_natCast, Nat.add_zero]
      by_cases ht : b.testBit n = true
      · rw [if_pos ht, ht, show x = H - (n : Int) by omega]
        simp
      · have hf : b.testBit n = false := by simpa using ht
        rw [if_neg ht, hf]
        rfl
    · have z : (if b.testBit n = true then [H - (n : Int)] else []).count x = 0 := by
        split
        · rw [List.count_eq_zero]
          simp
          omega
        · rfl
      rw [z, Nat.zero_add]
      by_cases h : 0 ≤ H - x ∧ H - x < (n : Int)
      · rw [if_pos h, if_pos (by omega)]
      · rw [if_neg h, if_neg (by omega)]
theorem vendmeterref_TakenBy.ev (H : Int) (b : Nat) (id : Int) (hb : b < 18446744073709551616) : Ev (fun k => vendmeterref_TakenBy.f k H (b : Int) id) (takeW H b id) := by
  unfold vendmeterref_TakenBy.f takeW
  refine Ev.bind (vendmeterref_Judged.ev H b id hb) ?_
  refine Ev.iteR (fun h => ?_) (fun h => Ev.now _)
  · obtain ⟨hm, h1, h2, h3, h4⟩ := judge_ok h
    have hH := mayW_H hm
    have hlen := memF_len H b 64
    by_cases hp : id > H
    · rw [show (if id > H then id else H) = id from if_pos hp]
      refine Ev.pos hp (Ev.bind (vendmeterref_members.ev H b hb hH) (Ev.pos (by omega) (Ev.bind (window_of_val id _ (takeBits H b id) (by omega) (by simp; omega) ?_ ?_) (Ev.now _))))
      · rw [takeBits_pos hp, two64]
        exact Nat.or_lt_two_pow (Nat.mod_lt _ (by decide)) (by decide)
      · intro i hi
        obtain ⟨s, hs⟩ := Int.eq_ofNat_of_zero_le (show 0 ≤ id - H by omega)
        rw [takeBits_pos hp, hs, Int.toNat_natCast, List.count_append, memF_count, Nat.testBit_or, two64, Nat.testBit_mod_two_pow, Nat.mul_comm b, Nat.testBit_two_pow_mul, List.count_singleton]
        rcases Nat.eq_zero_or_pos i with rfl | hi0
        · rw [if_neg (by omega)]
          have e0 : (id == id - ((0 : Nat) : Int)) = true := by rw [beq_iff_eq]; omega
          rw [e0]
          have e1 : ¬ (0 ≥ s) := by omega
          simp [e1]
        · have e0 : (id == id - (i : Int)) = false := by rw [beq_eq_false_iff_ne]; omega
          rw [e0]
          have t1 : Nat.testBit 1 i = false := by
            rw [Nat.testBit_eq_decide_div_mod_eq, Nat.div_eq_of_lt (Nat.one_lt_two_pow (by omega))]
            rfl
          rw [t1]
          by_cases hs2 : s ≤ i
          · rw [if_pos (by omega), show (H - (id - (i : Int))).toNat = i - s by omega]
            simp [hi, hs2]
          · rw [if_neg (by omega)]
            simp [hs2]
    · rw [show (if id > H then id else H) = H from if_neg hp]
      refine Ev.neg hp (Ev.bind (vendmeterref_members.ev H b hb hH) (Ev.pos (by omega) (Ev.bind (window_of_val H _ (takeBits H b id) hH (by simp; omega) ?_ ?_) (Ev.now _))))
      · rw [takeBits_neg hp, two64]
        exact Nat.or_lt_two_pow (by rw [← two64]; exact hb) (Nat.pow_lt_pow_right (by decide) (by omega))
      · intro i hi
        obtain ⟨s, hs⟩ := Int.eq_ofNat_of_zero_le (show 0 ≤ H - id by omega)
        have h5 := h4 (by omega)
        rw [hs, Int.toNat_natCast] at h5
        rw [takeBits_neg hp, hs, Int.toNat_natCast, List.count_append, memF_count, Nat.testBit_or, Nat.testBit_two_pow, List.count_singleton, show H - (H - (i : Int)) = (i : Int) by omega, if_pos (by omega), Int.toNat_natCast]
        by_cases e : s = i
        · subst e
          have e0 : (id == H - (s : Int)) = true := by rw [beq_iff_eq]; omega
          rw [e0, h5]
          simp
        · have e0 : (id == H - (i : Int)) = false := by rw [beq_eq_false_iff_ne]; omega
          rw [e0]
          simp [e]

theorem WindowTakes : vendmeterlaw_WindowTakes.Pure := by
  intro H b' id hH hb hid
  have h1 := wfu64 hb
  obtain ⟨b, rfl⟩ := Int.eq_ofNat_of_zero_le h1.1
  refine Ev.rounds ?_
  unfold vendmeterlaw_WindowTakes.f
  exact Ev.bind (window_Take.ev H b id (by omega) (wf64 hid)) (Ev.bind (vendmeterref_TakenBy.ev H b id (by omega)) (Ev.pos (by simp) (Ev.ret (by simp))))

end Go.Proofs.Ytpoiaheehhnnhaa.Pure
