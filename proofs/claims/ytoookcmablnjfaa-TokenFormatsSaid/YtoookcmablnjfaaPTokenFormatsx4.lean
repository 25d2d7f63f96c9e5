-- written by this session's program wip/xp/xprint.py (it drives the kit's print and adds to it)
import Derived.Test.YtoookcmablnjfaaPTokenFormatsx0
import Derived.Test.YtoookcmablnjfaaPTokenFormatsx2
import Derived.Test.YtoookcmablnjfaaPTokenFormatsx3
namespace Go.Proofs.Ytoookcmablnjfaa.PTokenFormats
open Go.RowKit Go.Proofs.YtoookcmablnjfaaW.PrintWords Go.Proofs.YtoookcmablnjfaaW.PrintLast Go.Proofs.YtoookcmablnjfaaW.PrintMore
attribute [local go_sem] max2_int min2_int max_two min_two max_three min_three max_four min_four   -- for this text's walks alone
set_option linter.unusedVariables false
set_option linter.unusedSimpArgs false

theorem bt_wrap {n : Int} (h : -9223372036854775808 ≤ n ∧ n ≤ 9223372036854775807) : wrap64 n = n := by unfold wrap64; omega
theorem field_no {lo n : Int} (h : ¬ (0 ≤ lo ∧ 1 ≤ n ∧ n ≤ 64 ∧ lo + n ≤ 96)) : words_field.f lo n = some false := by
  unfold words_field.f
  split
  · split
    · split
      · split
        · rw [bt_wrap (by omega)]; simp only [Option.some.injEq, decide_eq_false_iff_not]; omega
        · rfl
      · rfl
    · rfl
  · rfl
theorem field_yes {lo n : Int} (h : 0 ≤ lo ∧ 1 ≤ n ∧ n ≤ 64 ∧ lo + n ≤ 96) : words_field.f lo n = some true := by
  unfold words_field.f
  rw [if_pos (by omega), if_pos (by omega), if_pos (by omega), if_pos (by omega), bt_wrap (by omega)]
  simp only [Option.some.injEq, decide_eq_true_eq]; omega
def btx (w0 w1 w2 : Int) : Nat → Int
  | 0 => w0
  | 1 => w1
  | _ => w2
theorem bit_low (a U : Int) {rr : Nat} (hr : rr < 32) : (a + 4294967296 * U) / 2 ^ rr % 2 = a / 2 ^ rr % 2 := by
  have e : (4294967296 : Int) = 2 ^ rr * (2 ^ (31 - rr) * 2) := by
    rw [← Int.pow_succ, ← Int.pow_add, show rr + (31 - rr + 1) = 32 by omega]; rfl
  have hp : (2 : Int) ^ rr ≠ 0 := Int.ne_of_gt (Int.pow_pos (by decide))
  rw [e, Int.mul_assoc, Int.add_mul_ediv_left _ _ hp, Int.mul_comm (2 ^ (31 - rr)) 2, Int.mul_assoc]
  omega
theorem bit_at {V w0 w1 w2 : Int} (hV : wval [w0, w1, w2] = V) (h0 : 0 ≤ w0 ∧ w0 < 4294967296) (h1 : 0 ≤ w1 ∧ w1 < 4294967296) (h2 : 0 ≤ w2 ∧ w2 < 4294967296) {a q rr : Nat} (ha : a < 96) (hq : a / 32 = q) (hr : a % 32 = rr) : btx w0 w1 w2 q / 2 ^ rr % 2 = V / 2 ^ a % 2 := by
  have hr2 : rr < 32 := by omega
  have ev : V = w0 + 4294967296 * (w1 + 4294967296 * w2) := by rw [← hV]; simp only [wval]; omega
  have hq3 : q < 3 := by omega
  have ea : a = 32 * q + rr := by omega
  have ed : V / 2 ^ a = V / 2 ^ (32 * q) / 2 ^ rr := by rw [ea, Int.pow_add, Int.ediv_ediv_of_nonneg (Int.le_of_lt (Int.pow_pos (by decide)))]
  rw [ed]
  match q, hq3 with
  | 0, _ =>
    rw [show V / 2 ^ (32 * 0) = w0 + 4294967296 * (w1 + 4294967296 * w2) by rw [show (2 : Int) ^ (32 * 0) = 1 from rfl, Int.ediv_one, ev], bit_low _ _ hr2]; rfl
  | 1, _ =>
    rw [show V / 2 ^ (32 * 1) = w1 + 4294967296 * w2 by rw [show (2 : Int) ^ (32 * 1) = 4294967296 by decide]; omega, bit_low _ _ hr2]; rfl
  | 2, _ =>
    rw [show V / 2 ^ (32 * 2) = w2 by rw [show (2 : Int) ^ (32 * 2) = 18446744073709551616 by decide]; omega]; rfl
theorem bit_mod (A : Int) (m : Nat) : A % 2 ^ (m + 1) = A / 2 % 2 ^ m * 2 + A % 2 := by
  have hP : (0 : Int) < 2 ^ m := Int.pow_pos (by decide)
  rw [Int.pow_succ, Int.mul_comm (2 ^ m) 2]
  generalize (2 : Int) ^ m = P at *
  have h := Int.mul_ediv_add_emod (A / 2) P
  have h1 := Int.emod_nonneg (A / 2) (show P ≠ 0 by omega)
  have h2 := Int.emod_lt_of_pos (A / 2) hP
  refine ((Int.ediv_emod_unique (a := A) (b := 2 * P) (q := A / 2 / P) (r := A / 2 % P * 2 + A % 2) (by omega)).2 ⟨?_, by omega, by omega⟩).2
  rw [Int.mul_assoc]
  generalize P * (A / 2 / P) = t at *
  omega
theorem bit_next {V : Int} {L n k : Nat} (hk : k + 1 ≤ n) : V / 2 ^ (L + k) % 2 ^ (n - k) = V / 2 ^ (L + (k + 1)) % 2 ^ (n - (k + 1)) * 2 + V / 2 ^ (L + k) % 2 := by
  have e : V / 2 ^ (L + (k + 1)) = V / 2 ^ (L + k) / 2 := by
    rw [show L + (k + 1) = (L + k) + 1 by omega, Int.pow_succ, Int.ediv_ediv_of_nonneg (Int.le_of_lt (Int.pow_pos (by decide)))]
  rw [e, show n - k = (n - (k + 1)) + 1 by omega, bit_mod]
theorem bit_or {v b : Int} (hv : 0 ≤ v ∧ v * 2 + b < 18446744073709551616) (hb : 0 ≤ b ∧ b < 2) : Go.bits .or .u64 (IntKind.u64.wrap (v * 2)) (IntKind.u64.wrap b) = v * 2 + b := by
  rw [wu64 (a := v * 2) ⟨by omega, by omega⟩, wu64 (a := b) ⟨hb.1, by omega⟩]
  exact bits_join .u64 64 (by decide) (fun n a c => wu64 ⟨a, by have := c; omega⟩) 1 (v * 2) b (by omega) (by omega) (by omega) hb.1 (by omega) (by omega)
theorem bit_and {x : Int} (hx : 0 ≤ x ∧ x < 4294967296) (rr : Nat) : Go.bits .and .u32 (x / 2 ^ rr) 1 = x / 2 ^ rr % 2 := by
  have h0 : 0 ≤ x / 2 ^ rr := Int.ediv_nonneg hx.1 (Int.le_of_lt (Int.pow_pos (by decide)))
  have h1 : x / 2 ^ rr ≤ x := Int.ediv_le_self _ hx.1
  exact bits_mask .u32 32 (by decide) (fun n a c => by rw [IntKind.wrap_u32']; exact Int.emod_eq_of_lt a (by omega)) 1 (by decide) _ h0 (by omega)
theorem bit_new {V w0 w1 w2 x v : Int} {L n k a q rr : Nat} (hV : wval [w0, w1, w2] = V) (h0 : 0 ≤ w0 ∧ w0 < 4294967296) (h1 : 0 ≤ w1 ∧ w1 < 4294967296) (h2 : 0 ≤ w2 ∧ w2 < 4294967296) (hk : k + 1 ≤ n) (hn : n ≤ 64) (hl : L + k = a) (ha : a < 96) (hq : a / 32 = q) (hr : a % 32 = rr) (hx : btx w0 w1 w2 q = x) (hv : V / 2 ^ (L + (k + 1)) % 2 ^ (n - (k + 1)) = v) :
    Go.bits .or .u64 (IntKind.u64.wrap (v * 2)) (IntKind.u64.wrap (Go.bits .and .u32 (x / 2 ^ rr) 1)) = V / 2 ^ (L + k) % 2 ^ (n - k) := by
  have hxb : 0 ≤ x ∧ x < 4294967296 := by
    rw [← hx]
    match q with
    | 0 => exact h0
    | 1 => exact h1
    | q + 2 => exact h2
  have e1 := bit_at hV h0 h1 h2 ha hq hr
  rw [hx] at e1
  rw [bit_and hxb, e1, bit_next hk, hv, hl]
  have hp : (0 : Int) < 2 ^ (n - (k + 1)) ∧ (2 : Int) ^ (n - (k + 1)) ≤ 9223372036854775808 := by
    refine ⟨Int.pow_pos (by decide), ?_⟩
    have h := Nat.pow_le_pow_right (n := 2) (by decide) (show n - (k + 1) ≤ 31 + 32 by omega)
    have h2 : ((2 ^ (n - (k + 1)) : Nat) : Int) ≤ ((2 ^ (31 + 32) : Nat) : Int) := Int.ofNat_le.2 h
    rw [Int.natCast_pow] at h2
    exact h2
  have v0 : 0 ≤ v := by rw [← hv]; exact Int.emod_nonneg _ (by omega)
  have v1 : v < 2 ^ (n - (k + 1)) := by rw [← hv]; exact Int.emod_lt_of_pos _ hp.1
  exact bit_or ⟨v0, by omega⟩ ⟨by omega, by omega⟩

theorem len_tab : ∀ t : Fin 256, ∃ m : Fin 9, bt (⟨#[0, 1, 2, 2, 3, 3, 3, 3, 4, 4, 4, 4, 4, 4, 4, 4, 5, 5, 5, 5, 5, 5, 5, 5, 5, 5, 5, 5, 5, 5, 5, 5, 6, 6, 6, 6, 6, 6, 6, 6, 6, 6, 6, 6, 6, 6, 6, 6, 6, 6, 6, 6, 6, 6, 6, 6, 6, 6, 6, 6, 6, 6, 6, 6, 7, 7, 7, 7, 7, 7, 7, 7, 7, 7, 7, 7, 7, 7, 7, 7, 7, 7, 7, 7, 7, 7, 7, 7, 7, 7, 7, 7, 7, 7, 7, 7, 7, 7, 7, 7, 7, 7, 7, 7, 7, 7, 7, 7, 7, 7, 7, 7, 7, 7, 7, 7, 7, 7, 7, 7, 7, 7, 7, 7, 7, 7, 7, 7, 8, 8, 8, 8, 8, 8, 8, 8, 8, 8, 8, 8, 8, 8, 8, 8, 8, 8, 8, 8, 8, 8, 8, 8, 8, 8, 8, 8, 8, 8, 8, 8, 8, 8, 8, 8, 8, 8, 8, 8, 8, 8, 8, 8, 8, 8, 8, 8, 8, 8, 8, 8, 8, 8, 8, 8, 8, 8, 8, 8, 8, 8, 8, 8, 8, 8, 8, 8, 8, 8, 8, 8, 8, 8, 8, 8, 8, 8, 8, 8, 8, 8, 8, 8, 8, 8, 8, 8, 8, 8, 8, 8, 8, 8, 8, 8, 8, 8, 8, 8, 8, 8, 8, 8, 8, 8, 8, 8, 8, 8, 8, 8, 8, 8, 8, 8, 8, 8, 8, 8, 8, 8, 8, 8, 8, 8, 8, 8]⟩ : ByteArray) (t.val : Int) = (m.val : Int) ∧ t.val < 2 ^ m.val ∧ (0 < t.val → 2 ^ (m.val - 1) ≤ t.val ∧ 0 < m.val) ∧ (t.val = 0 → m.val = 0) := by decide +kernel
def LenP (a : Int) (r : Nat) : Prop := a < 2 ^ r ∧ (0 < a → 2 ^ (r - 1) ≤ a ∧ 0 < r) ∧ (a = 0 → r = 0)
set_option maxRecDepth 100000 in
theorem len_q (q : Int) (h : 0 ≤ q ∧ q < 256) : ∃ m : Nat, m ≤ 8 ∧ wrap64 (bt (⟨#[0, 1, 2, 2, 3, 3, 3, 3, 4, 4, 4, 4, 4, 4, 4, 4, 5, 5, 5, 5, 5, 5, 5, 5, 5, 5, 5, 5, 5, 5, 5, 5, 6, 6, 6, 6, 6, 6, 6, 6, 6, 6, 6, 6, 6, 6, 6, 6, 6, 6, 6, 6, 6, 6, 6, 6, 6, 6, 6, 6, 6, 6, 6, 6, 7, 7, 7, 7, 7, 7, 7, 7, 7, 7, 7, 7, 7, 7, 7, 7, 7, 7, 7, 7, 7, 7, 7, 7, 7, 7, 7, 7, 7, 7, 7, 7, 7, 7, 7, 7, 7, 7, 7, 7, 7, 7, 7, 7, 7, 7, 7, 7, 7, 7, 7, 7, 7, 7, 7, 7, 7, 7, 7, 7, 7, 7, 7, 7, 8, 8, 8, 8, 8, 8, 8, 8, 8, 8, 8, 8, 8, 8, 8, 8, 8, 8, 8, 8, 8, 8, 8, 8, 8, 8, 8, 8, 8, 8, 8, 8, 8, 8, 8, 8, 8, 8, 8, 8, 8, 8, 8, 8, 8, 8, 8, 8, 8, 8, 8, 8, 8, 8, 8, 8, 8, 8, 8, 8, 8, 8, 8, 8, 8, 8, 8, 8, 8, 8, 8, 8, 8, 8, 8, 8, 8, 8, 8, 8, 8, 8, 8, 8, 8, 8, 8, 8, 8, 8, 8, 8, 8, 8, 8, 8, 8, 8, 8, 8, 8, 8, 8, 8, 8, 8, 8, 8, 8, 8, 8, 8, 8, 8, 8, 8, 8, 8, 8, 8, 8, 8, 8, 8, 8, 8, 8, 8]⟩ : ByteArray) q) = (m : Int) ∧ LenP q m := by
  obtain ⟨Q, rfl⟩ : ∃ Q : Nat, q = (Q : Int) := ⟨q.toNat, by omega⟩
  obtain ⟨⟨m, hm⟩, h1, h2, h3, h4⟩ := len_tab ⟨Q, by omega⟩
  simp only at h1 h2 h3 h4
  refine ⟨m, by omega, by rw [h1]; unfold wrap64; omega, ?_, fun hq => ?_, fun hq => h4 (by omega)⟩
  · have := Int.ofNat_lt.2 h2; rw [Int.natCast_pow] at this; exact this
  · obtain ⟨a, b⟩ := h3 (by omega)
    have := Int.ofNat_le.2 a; rw [Int.natCast_pow] at this; exact ⟨this, b⟩
theorem LenP.up {a : Int} {m s : Nat} (hq : 1 ≤ a / 2 ^ s) (h : LenP (a / 2 ^ s) m) : LenP a (m + s) := by
  have hp : (0 : Int) < 2 ^ s := Int.pow_pos (by decide)
  obtain ⟨h1, h2, _⟩ := h
  obtain ⟨h2, h3⟩ := h2 (by omega)
  refine ⟨?_, fun _ => ⟨?_, by omega⟩, fun h0 => by rw [h0, Int.zero_ediv] at hq; omega⟩
  · rw [Int.pow_add]; exact (Int.ediv_lt_iff_lt_mul hp).1 h1
  · rw [show m + s - 1 = (m - 1) + s by omega, Int.pow_add]; exact (Int.le_ediv_iff_mul_le hp).1 h2
theorem len_w {a b : Int} (h : 0 ≤ a ∧ a ≤ 100 ∧ 0 ≤ b ∧ b ≤ 100) : wrap64 (a + b) = a + b := by unfold wrap64; omega
set_option maxRecDepth 100000 in
theorem len_j0 (x c : Int) (h : 0 ≤ x ∧ x < 4294967296) (hc : 0 ≤ c ∧ c ≤ 32) : ∃ m : Nat, m ≤ 32 ∧ bits_Len64.j0 1 x c = some (c + m) ∧ LenP x m := by
  simp only [bits_Len64.j0]
  have e8 : (2 : Int) ^ 8 = 256 := rfl
  have e16 : (2 : Int) ^ 16 = 65536 := rfl
  have e24 : (2 : Int) ^ 24 = 16777216 := rfl
  by_cases c1 : x ≥ 65536
  · rw [if_pos c1]
    by_cases c2 : x / 65536 ≥ 256
    · rw [if_pos c2, if_pos (by omega), if_pos (by omega), Int.emod_eq_of_lt (by omega) (by omega)]
      obtain ⟨m, hm, e, hp⟩ := len_q (x / 65536 / 256) ⟨by omega, by omega⟩
      rw [e, len_w (b := 16) ⟨by omega, by omega, by omega, by omega⟩, len_w (b := 8) ⟨by omega, by omega, by omega, by omega⟩, len_w ⟨by omega, by omega, by omega, by omega⟩]
      refine ⟨m + 24, by omega, congrArg some (by omega), LenP.up (by rw [e24]; omega) ?_⟩
      rw [e24, show x / 16777216 = x / 65536 / 256 by omega]; exact hp
    · rw [if_neg c2, if_pos (by omega), if_pos (by omega), Int.emod_eq_of_lt (by omega) (by omega)]
      obtain ⟨m, hm, e, hp⟩ := len_q (x / 65536) ⟨by omega, by omega⟩
      rw [e, len_w (b := 16) ⟨by omega, by omega, by omega, by omega⟩, len_w ⟨by omega, by omega, by omega, by omega⟩]
      refine ⟨m + 16, by omega, congrArg some (by omega), LenP.up (by rw [e16]; omega) ?_⟩
      rw [e16]; exact hp
  · rw [if_neg c1]
    by_cases c2 : x ≥ 256
    · rw [if_pos c2, if_pos (by omega), if_pos (by omega), Int.emod_eq_of_lt (by omega) (by omega)]
      obtain ⟨m, hm, e, hp⟩ := len_q (x / 256) ⟨by omega, by omega⟩
      rw [e, len_w (b := 8) ⟨by omega, by omega, by omega, by omega⟩, len_w ⟨by omega, by omega, by omega, by omega⟩]
      refine ⟨m + 8, by omega, congrArg some (by omega), LenP.up (by rw [e8]; omega) ?_⟩
      rw [e8]; exact hp
    · rw [if_neg c2, if_pos (by omega), if_pos (by omega), Int.emod_eq_of_lt (by omega) (by omega)]
      obtain ⟨m, hm, e, hp⟩ := len_q x ⟨by omega, by omega⟩
      rw [e, len_w ⟨by omega, by omega, by omega, by omega⟩]
      exact ⟨m, by omega, rfl, hp⟩
theorem len_f (a : Int) (h : 0 ≤ a ∧ a < 18446744073709551616) : ∃ m : Nat, m ≤ 64 ∧ bits_Len64.f 1 a = some (m : Int) ∧ LenP a m := by
  unfold bits_Len64.f
  have e32 : (2 : Int) ^ 32 = 4294967296 := rfl
  by_cases c : a ≥ 4294967296
  · rw [if_pos c]
    obtain ⟨m, hm, e, hp⟩ := len_j0 (a / 4294967296) 32 ⟨by omega, by omega⟩ ⟨by decide, by decide⟩
    refine ⟨m + 32, by omega, by rw [e]; exact congrArg some (by omega), LenP.up (by rw [e32]; omega) ?_⟩
    rw [e32]; exact hp
  · rw [if_neg c]
    obtain ⟨m, hm, e, hp⟩ := len_j0 a 0 ⟨by omega, by omega⟩ ⟨by decide, by decide⟩
    exact ⟨m, by omega, by rw [e]; exact congrArg some (by omega), hp⟩
theorem len_gt {a : Int} {m n : Nat} (h0 : 0 ≤ a) (h : LenP a m) : (n < m) = ((2 : Int) ^ n ≤ a) := by
  obtain ⟨h1, h2, h6⟩ := h
  refine propext ⟨fun hn => ?_, fun hn => ?_⟩
  · rcases Int.lt_or_le 0 a with hp | hp
    · obtain ⟨h3, h4⟩ := h2 hp
      have := Nat.pow_le_pow_right (n := 2) (by decide) (show n ≤ m - 1 by omega)
      have := Int.ofNat_le.2 this
      rw [Int.natCast_pow, Int.natCast_pow] at this
      exact Int.le_trans this h3
    · have ha : a = 0 := by omega
      have := h6 ha
      omega
  · rcases Nat.lt_or_ge n m with h | h
    · exact h
    · have := Nat.pow_le_pow_right (n := 2) (by decide) h
      have := Int.ofNat_le.2 this
      rw [Int.natCast_pow, Int.natCast_pow] at this
      have h3 : (2 : Int) ^ n ≤ a := hn
      have h4 : (((2 : Nat) : Int)) ^ m ≤ ((2 : Nat) : Int) ^ n := this
      have h5 : (((2 : Nat) : Int)) = 2 := rfl
      rw [h5] at h4
      omega

def puv (V v : Int) (L i : Nat) : Int := V - V / 2 ^ L % 2 ^ i * 2 ^ L + v % 2 ^ i * 2 ^ L
theorem pu_mod (A : Int) (i : Nat) : A % 2 ^ (i + 1) = A % 2 ^ i + A / 2 ^ i % 2 * 2 ^ i := by
  have hp : (0 : Int) < 2 ^ i := Int.pow_pos (by decide)
  rw [Int.pow_succ]
  generalize (2 : Int) ^ i = P at *
  have h := Int.mul_ediv_add_emod A P
  have h1 := Int.emod_nonneg A (show P ≠ 0 by omega)
  have h2 := Int.emod_lt_of_pos A hp
  have h3 := Int.mul_ediv_add_emod (A / P) 2
  have h4 : A / P % 2 = 0 ∨ A / P % 2 = 1 := by omega
  refine ((Int.ediv_emod_unique (a := A) (b := P * 2) (q := A / P / 2) (r := A % P + A / P % 2 * P) (by omega)).2 ⟨?_, ?_, ?_⟩).2
  · generalize A / P / 2 = q at *
    generalize A / P % 2 = c at *
    generalize A / P = Q at *
    generalize A % P = r at *
    subst h3
    subst h
    grind
  · rcases h4 with h4 | h4 <;> rw [h4] <;> omega
  · rcases h4 with h4 | h4 <;> rw [h4] <;> omega
theorem puv_zero (V v : Int) (L : Nat) : puv V v L 0 = V := by
  simp [puv]
theorem puv_step (V v : Int) (L i : Nat) : puv V v L (i + 1) = puv V v L i + (v / 2 ^ i % 2 - V / 2 ^ (L + i) % 2) * 2 ^ (L + i) := by
  unfold puv
  rw [pu_mod, pu_mod, Int.pow_add, ← Int.ediv_ediv_of_nonneg (Int.le_of_lt (Int.pow_pos (by decide)))]
  generalize V / 2 ^ L % 2 ^ i = m
  generalize V / 2 ^ L / 2 ^ i % 2 = c
  generalize v % 2 ^ i = u
  generalize v / 2 ^ i % 2 = b
  generalize (2 : Int) ^ L = P
  generalize (2 : Int) ^ i = Q
  grind
theorem puv_hi (V v : Int) (L i : Nat) : puv V v L i / 2 ^ (L + i) = V / 2 ^ (L + i) := by
  have hp : (0 : Int) < 2 ^ L := Int.pow_pos (by decide)
  have hq : (0 : Int) < 2 ^ i := Int.pow_pos (by decide)
  rw [Int.pow_add, ← Int.ediv_ediv_of_nonneg (Int.le_of_lt hp), ← Int.ediv_ediv_of_nonneg (Int.le_of_lt hp)]
  unfold puv
  generalize (2 : Int) ^ L = P at *
  generalize (2 : Int) ^ i = Q at *
  have h := Int.mul_ediv_add_emod V P
  have h1 := Int.emod_nonneg V (show P ≠ 0 by omega)
  have h2 := Int.emod_lt_of_pos V hp
  have h3 := Int.mul_ediv_add_emod (V / P) Q
  have h5 := Int.emod_nonneg v (show Q ≠ 0 by omega)
  have h6 := Int.emod_lt_of_pos v hq
  have e : (V - V / P % Q * P + v % Q * P) / P = Q * (V / P / Q) + v % Q := by
    refine ((Int.ediv_emod_unique (b := P) (r := V % P) hp).2 ⟨?_, h1, h2⟩).1
    generalize V / P / Q = H at *
    generalize V / P % Q = m at *
    generalize V / P = A at *
    generalize v % Q = u at *
    generalize V % P = r at *
    subst h3
    subst h
    grind
  rw [e]
  refine ((Int.ediv_emod_unique (b := Q) (r := v % Q) hq).2 ⟨?_, h5, h6⟩).1
  generalize V / P / Q = H
  omega
theorem nat_clear (x r : Nat) (hr : r < 32) (hx : x < 4294967296) : x &&& (4294967295 - 2 ^ r) = 2 ^ (r + 1) * (x / 2 ^ (r + 1)) + x % 2 ^ r := by
  apply Nat.eq_of_testBit_eq
  intro j
  have e : (4294967295 - 2 ^ r : Nat) = 2 ^ 32 - (2 ^ r + 1) := by omega
  have hl : x % 2 ^ r < 2 ^ (r + 1) := Nat.lt_trans (Nat.mod_lt _ (Nat.two_pow_pos r)) (Nat.pow_lt_pow_right (by decide) (Nat.lt_succ_self r))
  have h2 : 2 ^ r < 2 ^ 32 := Nat.pow_lt_pow_right (by decide) hr
  rw [Nat.testBit_and, e, Nat.testBit_two_pow_sub_succ h2, Nat.testBit_two_pow, Nat.testBit_two_pow_mul_add _ hl, Nat.testBit_mod_two_pow, Nat.testBit_div_two_pow]
  by_cases hj : j < r + 1
  · rw [if_pos hj]
    by_cases hjr : j = r
    · subst hjr; simp
    · have : j < r := by omega
      have h3 : j < 32 := by omega
      have h4 : ¬ r = j := by omega
      simp [this, h3, h4]
  · rw [if_neg hj]
    by_cases h3 : j < 32
    · have h4 : ¬ r = j := by omega
      have h5 : j - (r + 1) + (r + 1) = j := by omega
      simp [h3, h4, h5]
    · have h5 : j - (r + 1) + (r + 1) = j := by omega
      have h6 : x.testBit j = false := Nat.testBit_lt_two_pow (Nat.lt_of_lt_of_le hx (Nat.pow_le_pow_right (n := 2) (by decide) (show 32 ≤ j by omega)))
      simp [h3, h5, h6]
theorem nat_clear2 (x r : Nat) : 2 ^ (r + 1) * (x / 2 ^ (r + 1)) + x % 2 ^ r + x / 2 ^ r % 2 * 2 ^ r = x := by
  have h := Nat.div_add_mod x (2 ^ r)
  have h2 := Nat.div_add_mod (x / 2 ^ r) 2
  rw [Nat.pow_succ, ← Nat.div_div_eq_div_mul]
  generalize (2 : Nat) ^ r = P at *
  generalize x / P % 2 = c at *
  generalize x / P / 2 = q at *
  generalize x / P = Q at *
  generalize x % P = l at *
  subst h2
  subst h
  grind
theorem nat_set (h r l : Nat) (hl : l < 2 ^ r) : (2 ^ (r + 1) * h + l) ||| 2 ^ r = 2 ^ (r + 1) * h + l + 2 ^ r := by
  have h1 : l < 2 ^ (r + 1) := Nat.lt_trans hl (Nat.pow_lt_pow_right (by decide) (Nat.lt_succ_self r))
  have e1 := Nat.two_pow_add_eq_or_of_lt hl 1
  have h2 : 2 ^ r * 1 + l < 2 ^ (r + 1) := by rw [Nat.pow_succ]; omega
  have e2 := Nat.two_pow_add_eq_or_of_lt h2 h
  have e3 := Nat.two_pow_add_eq_or_of_lt h1 h
  rw [show 2 ^ (r + 1) * h + l + 2 ^ r = 2 ^ (r + 1) * h + (2 ^ r * 1 + l) by omega, e2, e1, e3, Nat.or_assoc, Nat.mul_one, Nat.or_comm l]
theorem put_bits {x : Int} {r : Nat} (hr : r < 32) (hx : 0 ≤ x ∧ x < 4294967296) : Go.bits .andNot .u32 x (2 ^ r) = x - x / 2 ^ r % 2 * 2 ^ r ∧ Go.bits .or .u32 (x - x / 2 ^ r % 2 * 2 ^ r) (2 ^ r) = x - x / 2 ^ r % 2 * 2 ^ r + 2 ^ r ∧ 0 ≤ x - x / 2 ^ r % 2 * 2 ^ r ∧ x - x / 2 ^ r % 2 * 2 ^ r + 2 ^ r < 4294967296 ∧ (2 : Int) ^ r < 4294967296 := by
  obtain ⟨X, rfl⟩ : ∃ X : Nat, x = (X : Int) := ⟨x.toNat, by omega⟩
  have hX : X < 4294967296 := by omega
  have hp : (2 : Nat) ^ r < 4294967296 := Nat.pow_lt_pow_right (a := 2) (by decide) hr
  have ep : ((2 : Int) ^ r) = ((2 ^ r : Nat) : Int) := by rw [Int.natCast_pow]; rfl
  have hc := nat_clear X r hr hX
  have hc2 := nat_clear2 X r
  have hl : X % 2 ^ r < 2 ^ r := Nat.mod_lt _ (Nat.two_pow_pos r)
  have hs := nat_set (X / 2 ^ (r + 1)) r (X % 2 ^ r) hl
  obtain ⟨y, hy⟩ : ∃ y, 2 ^ (r + 1) * (X / 2 ^ (r + 1)) + X % 2 ^ r = y := ⟨_, rfl⟩
  rw [hy] at hc hc2 hs
  have ey : (X : Int) - (X : Int) / 2 ^ r % 2 * 2 ^ r = (y : Int) := by
    rw [ep]
    have h := congrArg (Nat.cast : Nat → Int) hc2
    simp only [Int.natCast_add, Int.natCast_mul, Int.natCast_emod, Int.natCast_ediv] at h
    have h2 : (X : Int) / ((2 ^ r : Nat) : Int) % ((2 : Nat) : Int) = (X : Int) / ((2 ^ r : Nat) : Int) % 2 := rfl
    rw [h2] at h
    omega
  have hyl : y ||| 2 ^ r < 2 ^ 32 := Nat.or_lt_two_pow (by have : y ≤ X := by rw [← hc2]; exact Nat.le_add_right _ _
                                                           omega) hp
  rw [ey, ep, u32_andNot _ _ hx.1 hx.2 (by omega) (by omega), u32_or _ _ (by omega) (by omega) (by omega) (by omega)]
  simp only [Int.toNat_natCast]
  rw [hc, hs]
  rw [hs] at hyl
  refine ⟨rfl, by rw [Int.natCast_add], by omega, by omega, by omega⟩
def puw (w0 w1 w2 : Int) (q : Nat) (y : Int) : Array Value := #[.int .u32 (if q = 0 then y else w0), .int .u32 (if q = 1 then y else w1), .int .u32 (if q = 2 then y else w2)]
theorem puw_set (w0 w1 w2 y : Int) {q : Nat} (hq : q < 3) : (#[.int .u32 w0, .int .u32 w1, .int .u32 w2] : Array Value).setIfInBounds q (.int .u32 y) = puw w0 w1 w2 q y := by
  match q, hq with
  | 0, _ => rfl
  | 1, _ => rfl
  | 2, _ => rfl
theorem puw_set2 (w0 w1 w2 x y : Int) {q : Nat} (hq : q < 3) : (puw w0 w1 w2 q x).setIfInBounds q (.int .u32 y) = puw w0 w1 w2 q y := by
  match q, hq with
  | 0, _ => rfl
  | 1, _ => rfl
  | 2, _ => rfl
theorem puw_val (w0 w1 w2 y : Int) {q : Nat} (hq : q < 3) : wval [if q = 0 then y else w0, if q = 1 then y else w1, if q = 2 then y else w2] = wval [w0, w1, w2] + (y - btx w0 w1 w2 q) * 2 ^ (32 * q) := by
  match q, hq with
  | 0, _ => simp only [wval, btx, show (2 : Int) ^ (32 * 0) = 1 from rfl]; simp; omega
  | 1, _ => simp only [wval, btx, show (2 : Int) ^ (32 * 1) = 4294967296 by decide]; simp; omega
  | 2, _ => simp only [wval, btx, show (2 : Int) ^ (32 * 2) = 18446744073709551616 by decide]; simp; omega
theorem btx_bd {w0 w1 w2 : Int} (h0 : 0 ≤ w0 ∧ w0 < 4294967296) (h1 : 0 ≤ w1 ∧ w1 < 4294967296) (h2 : 0 ≤ w2 ∧ w2 < 4294967296) (q : Nat) : 0 ≤ btx w0 w1 w2 q ∧ btx w0 w1 w2 q < 4294967296 := by
  match q with
  | 0 => exact h0
  | 1 => exact h1
  | q + 2 => exact h2
theorem pu_round {V v w0 w1 w2 b : Int} {L i a q r : Nat} (hV : wval [w0, w1, w2] = puv V v L i) (h0 : 0 ≤ w0 ∧ w0 < 4294967296) (h1 : 0 ≤ w1 ∧ w1 < 4294967296) (h2 : 0 ≤ w2 ∧ w2 < 4294967296) (hl : L + i = a) (ha : a < 96) (hq : a / 32 = q) (hr : a % 32 = r) (hb : v / 2 ^ i % 2 = b) :
    wval [if q = 0 then btx w0 w1 w2 q - btx w0 w1 w2 q / 2 ^ r % 2 * 2 ^ r + b * 2 ^ r else w0, if q = 1 then btx w0 w1 w2 q - btx w0 w1 w2 q / 2 ^ r % 2 * 2 ^ r + b * 2 ^ r else w1, if q = 2 then btx w0 w1 w2 q - btx w0 w1 w2 q / 2 ^ r % 2 * 2 ^ r + b * 2 ^ r else w2] = puv V v L (i + 1) := by
  have hq3 : q < 3 := by omega
  have e := bit_at rfl h0 h1 h2 ha hq hr
  rw [puw_val _ _ _ _ hq3, puv_step, hb, e, hV, ← hl, puv_hi, hl]
  have ep : (2 : Int) ^ a = 2 ^ r * 2 ^ (32 * q) := by rw [← Int.pow_add]; congr 1; omega
  rw [ep]
  generalize (2 : Int) ^ r = P
  generalize (2 : Int) ^ (32 * q) = Q
  generalize V / (P * Q) % 2 = c
  generalize btx w0 w1 w2 q = x
  grind

set_option maxHeartbeats 4000000 in
set_option maxRecDepth 100000 in
theorem words_Put.bad (w : World) (w0 w1 w2 lo n v : Int) (h : ¬ (0 ≤ lo ∧ 1 ≤ n ∧ n ≤ 64 ∧ lo + n ≤ 96)) :
    Calls Try.prog 27 #[.agg #[.int .u32 w0, .int .u32 w1, .int .u32 w2], .int .i64 lo, .int .i64 n, .int .u64 v] w fun e w' => e = .returned (.tuple #[.agg #[.int .u32 0, .int .u32 0, .int .u32 0], .int .i64 2]) ∧ Below w.heap.size w w' := by
  have hu63 := Try.underlying24
  have HF := Aside0.mk (field_no h)
  clear h
  have B4 := blk_new (w.alloc (.cells #[.int .u32 w0, .int .u32 w1, .int .u32 w2] 24)) (.cells #[.int .u32 0, .int .u32 0, .int .u32 0] 24)
  have HB := Aside0.mk (below_alloc (below_alloc (Below.refl w.heap.size w) (.cells #[.int .u32 w0, .int .u32 w1, .int .u32 w2] 24)) (.cells #[.int .u32 0, .int .u32 0, .int .u32 0] 24))
  rw [World.size_alloc] at B4
  have HB4 := Aside0.mk B4
  clear B4
  go_enter Try.func27, Try.ntmps27
  go_wp2_with (first | (go_at_call 59; refine (words_field.calls _ _ _ _ HF.out).mono ?_; rintro e wa ⟨rfl, hd⟩; have HB1 := Aside0.mk (below_then HB.out HB.out.size hd.below); have HC1 := Aside0.mk (blk_below HB4.out hd.below); clear hd) | ((with_reducible refine gate_store (t := 24) (p := 8) rfl ?_); refine seg.list rfl rfl 24 (.tmp 8) _ rfl 24 (w.heap.size + 1) 0 #[.int .u32 0, .int .u32 0, .int .u32 0] #[.int .u32 0, .int .u32 0, .int .u32 0] [.int .u32 0, .int .u32 0, .int .u32 0] rfl rfl (by kernel_rfl) (by simp [Value.oneCell']) HC1.out (by simp) rfl ?_; intro w9 bx hgr))
  refine bodyPost_ret (results_ct (p := 8) (u := 9) rfl _ w9 (w.heap.size + 1) 24 _ (0, 0) _ rfl bx Try.underlying24 rfl (by kernel_rfl)) rfl ?_
  exact ⟨rfl, seg.below HB1.out hgr (Nat.le_succ _)⟩
set_option maxHeartbeats 4000000 in
set_option maxRecDepth 100000 in
theorem words_Put.over (w : World) (w0 w1 w2 v : Int) (lo n : Nat) (hn : 1 ≤ n) (hn2 : n ≤ 64) (hl : lo + n ≤ 96) (hv : 0 ≤ v ∧ v < 18446744073709551616) (hvn : 2 ^ n ≤ v) :
    Calls Try.prog 27 #[.agg #[.int .u32 w0, .int .u32 w1, .int .u32 w2], .int .i64 (lo : Int), .int .i64 (n : Int), .int .u64 v] w fun e w' => e = .returned (.tuple #[.agg #[.int .u32 0, .int .u32 0, .int .u32 0], .int .i64 2]) ∧ Below w.heap.size w w' := by
  have hu63 := Try.underlying24
  have HF := Aside0.mk (field_yes (lo := (lo : Int)) (n := (n : Int)) ⟨by omega, by omega, by omega, by omega⟩)
  obtain ⟨m, hm, hM, hP⟩ := len_f v hv
  have HM := Aside0.mk hM
  have hgt : decide (n < m) = true := decide_eq_true (by have := (len_gt (n := n) hv.1 hP).mpr hvn; omega)
  clear hn hn2 hl hv hvn hm hM hP
  have B4 := blk_new (w.alloc (.cells #[.int .u32 w0, .int .u32 w1, .int .u32 w2] 24)) (.cells #[.int .u32 0, .int .u32 0, .int .u32 0] 24)
  have HB := Aside0.mk (below_alloc (below_alloc (Below.refl w.heap.size w) (.cells #[.int .u32 w0, .int .u32 w1, .int .u32 w2] 24)) (.cells #[.int .u32 0, .int .u32 0, .int .u32 0] 24))
  rw [World.size_alloc] at B4
  have HB4 := Aside0.mk B4
  clear B4
  go_enter Try.func27, Try.ntmps27
  go_wp2_with (first | (go_at_call 59; refine (words_field.calls _ _ _ _ HF.out).mono ?_; rintro e wa ⟨rfl, hd⟩; have HB1 := Aside0.mk (below_then HB.out HB.out.size hd.below); have HC1 := Aside0.mk (blk_below HB4.out hd.below); clear hd) | (go_at_call 60; refine (bits_Len64.calls 1 _ _ _ HM.out).mono ?_; rintro e wb ⟨rfl, hd⟩; have HB2 := Aside0.mk (below_then HB1.out HB1.out.size hd.below); have HC2 := Aside0.mk (blk_below HC1.out hd.below); clear hd) | ((with_reducible refine gate_store (t := 24) (p := 8) rfl ?_); refine seg.list rfl rfl 24 (.tmp 8) _ rfl 24 (w.heap.size + 1) 0 #[.int .u32 0, .int .u32 0, .int .u32 0] #[.int .u32 0, .int .u32 0, .int .u32 0] [.int .u32 0, .int .u32 0, .int .u32 0] rfl rfl (by kernel_rfl) (by simp [Value.oneCell']) HC2.out (by simp) rfl ?_; intro w9 bx hgr))
  refine bodyPost_ret (results_ct (p := 8) (u := 9) rfl _ w9 (w.heap.size + 1) 24 _ (0, 0) _ rfl bx Try.underlying24 rfl (by kernel_rfl)) rfl ?_
  exact ⟨rfl, seg.below HB2.out hgr (Nat.le_succ _)⟩
set_option maxHeartbeats 8000000 in
set_option maxRecDepth 100000 in
theorem words_Put.at_ (w : World) (w0 w1 w2 v : Int) (h0 : 0 ≤ w0 ∧ w0 < 4294967296) (h1 : 0 ≤ w1 ∧ w1 < 4294967296) (h2 : 0 ≤ w2 ∧ w2 < 4294967296) (lo n : Nat) (hn : 1 ≤ n) (hn2 : n ≤ 64) (hl : lo + n ≤ 96) (hv : 0 ≤ v ∧ v < 18446744073709551616) (hvn : v < 2 ^ n) :
    Calls Try.prog 27 #[.agg #[.int .u32 w0, .int .u32 w1, .int .u32 w2], .int .i64 (lo : Int), .int .i64 (n : Int), .int .u64 v] w fun e w' => e = .returned (.tuple #[.agg #[.int .u32 ((fpv (wval [w0, w1, w2]) v lo n) % 4294967296), .int .u32 ((fpv (wval [w0, w1, w2]) v lo n) / 4294967296 % 4294967296), .int .u32 ((fpv (wval [w0, w1, w2]) v lo n) / 18446744073709551616 % 4294967296)], .int .i64 0]) ∧ Below w.heap.size w w' := by
  have hu63 := Try.underlying24
  have HF := Aside0.mk (field_yes (lo := (lo : Int)) (n := (n : Int)) ⟨by omega, by omega, by omega, by omega⟩)
  have HN := Aside0.mk (And.intro hn (And.intro hn2 (And.intro hl (And.intro hv hvn))))
  have HX := Aside0.mk (And.intro h0 (And.intro h1 h2))
  obtain ⟨m, hm, hM, hP⟩ := len_f v hv
  have HM := Aside0.mk hM
  have hgt : decide (n < m) = false := decide_eq_false (by have := (len_gt (n := n) hv.1 hP).mp; intro hh; have := this (by omega); omega)
  clear hm hM hP hn hn2 hl hv hvn
  have B4 := blk_alloc (blk_new w (.cells #[.int .u32 w0, .int .u32 w1, .int .u32 w2] 24)) (.cells #[.int .u32 0, .int .u32 0, .int .u32 0] 24)
  have B8 := blk_new (w.alloc (.cells #[.int .u32 w0, .int .u32 w1, .int .u32 w2] 24)) (.cells #[.int .u32 0, .int .u32 0, .int .u32 0] 24)
  rw [World.size_alloc] at B8
  have HB := Aside0.mk (below_alloc (below_alloc (Below.refl w.heap.size w) (.cells #[.int .u32 w0, .int .u32 w1, .int .u32 w2] 24)) (.cells #[.int .u32 0, .int .u32 0, .int .u32 0] 24))
  have H4 := Aside0.mk B4
  have H8 := Aside0.mk B8
  obtain ⟨V, hVV⟩ : ∃ V, wval [w0, w1, w2] = V := ⟨_, rfl⟩
  rw [hVV]
  have HVV := Aside0.mk hVV
  clear h0 h1 h2 B4 B8 hVV
  go_enter Try.func27, Try.ntmps27
  go_wp2_with (first | (go_at_call 59; refine (words_field.calls _ _ _ _ HF.out).mono ?_; rintro e wa ⟨rfl, hd⟩; have HB1 := Aside0.mk (below_then HB.out HB.out.size hd.below); have J4 := Aside0.mk (blk_below H4.out hd.below); have J8 := Aside0.mk (blk_below H8.out hd.below); clear hd) | (go_at_call 60; refine (bits_Len64.calls 1 _ _ _ HM.out).mono ?_; rintro e wb ⟨rfl, hd⟩; have HB2 := Aside0.mk (below_then HB1.out HB1.out.size hd.below); have K4 := Aside0.mk (blk_below J4.out hd.below); have K8 := Aside0.mk (blk_below J8.out hd.below); clear hd))
  go_loopg [10, 11, 12, 25] n (fun kz v10 v11 v12 v25 w' => ∃ (i : Nat) (x0 x1 x2 : Int), v25 = .int .i64 (i : Int) ∧ Aside0 (i ≤ n ∧ kz = n - i) ∧ Aside0 (wval [x0, x1, x2] = puv V v lo i ∧ (0 ≤ x0 ∧ x0 < 4294967296) ∧ (0 ≤ x1 ∧ x1 < 4294967296) ∧ (0 ≤ x2 ∧ x2 < 4294967296)) ∧ Aside0 (w'.heap[w.heap.size]? = some (.cells #[.int .u32 x0, .int .u32 x1, .int .u32 x2] 24 (0, 0))) ∧ Aside0 (w'.heap[w.heap.size + 1]? = some (.cells #[.int .u32 0, .int .u32 0, .int .u32 0] 24 (0, 0))) ∧ Aside0 (Below w.heap.size w w'))
  case atStart => exact ⟨0, w0, w1, w2, rfl, ⟨by omega, by omega⟩, ⟨by rw [HVV.out, puv_zero], HX.out⟩, K4, K8, HB2⟩
  case round =>
    clear H4 H8 J4 J8 K4 K8 HB HB1 HB2 HX HVV HM HF hgt
    obtain ⟨i, x0, x1, x2, rfl, HI, HXX, B4, B8, HB⟩ := hrel
    by_cases hlt : i < n
    · have hltb : decide (i < n) = true := decide_eq_true hlt
      have hat : IntKind.i64.wrap ((lo : Int) + (i : Int)) = ((lo + i : Nat) : Int) := by rw [Go.IntKind.wrap_i64]; have := HN.out; omega
      obtain ⟨at_, hat_⟩ : ∃ at_, lo + i = at_ := ⟨_, rfl⟩
      rw [hat_] at hat
      have ha96 : at_ < 96 := by have := HN.out; omega
      obtain ⟨q, hq⟩ : ∃ q, at_ / 32 = q := ⟨_, rfl⟩
      obtain ⟨rr, hr⟩ : ∃ rr, at_ % 32 = rr := ⟨_, rfl⟩
      have eq_ : wrap64 ((at_ : Int) / 32) = (q : Int) := by rw [bt_wrap (by omega)]; omega
      have er_ : (at_ : Int) % 32 = (rr : Int) := by omega
      have er1_ : wrap64 (rr : Int) = (rr : Int) := bt_wrap (by omega)
      have hq3 : q < 3 := by omega
      have hcell : wr.cell? ⟨w.heap.size, q, none⟩ = some (.int .u32 (btx x0 x1 x2 q)) := by
        rw [blk_cell B4.out q]
        match q, hq3 with
        | 0, _ => rfl
        | 1, _ => rfl
        | 2, _ => rfl
      have hfz := blk_frozen B4.out q
      obtain ⟨x, hx⟩ : ∃ x, btx x0 x1 x2 q = x := ⟨_, rfl⟩
      rw [hx] at hcell
      have hr32 : rr < 32 := by omega
      have hxb : 0 ≤ x ∧ x < 4294967296 := by rw [← hx]; exact btx_bd HXX.out.2.1 HXX.out.2.2.1 HXX.out.2.2.2 q
      obtain ⟨p1, p2, p3, p4, p5⟩ := put_bits hr32 hxb
      have ePP : (2 : Int) ^ rr % 4294967296 = 2 ^ rr := Int.emod_eq_of_lt (Int.le_of_lt (Int.pow_pos (by decide))) p5
      obtain ⟨P, hP⟩ : ∃ P, (2 : Int) ^ rr % 4294967296 = P := ⟨_, rfl⟩
      have hPr : P = 2 ^ rr := by rw [← hP, ePP]
      obtain ⟨y, hy⟩ : ∃ y, x - x / 2 ^ rr % 2 * 2 ^ rr = y := ⟨_, rfl⟩
      rw [hy] at p1 p2 p3 p4
      rw [← hPr] at p1 p2
      have hv2 : 0 ≤ v / 2 ^ i ∧ v / 2 ^ i < 18446744073709551616 := ⟨Int.ediv_nonneg HN.out.2.2.2.1.1 (Int.le_of_lt (Int.pow_pos (by decide))), Int.lt_of_le_of_lt (Int.ediv_le_self _ HN.out.2.2.2.1.1) HN.out.2.2.2.1.2⟩
      have hmin : min i 64 = i := Nat.min_eq_left (by have := HN.out; omega)
      have hand : Go.bits .and .u64 (v / 2 ^ min i 64) 1 = v / 2 ^ i % 2 := by
        rw [hmin]
        exact bits_mask .u64 64 (by decide) (fun n a c => wu64 ⟨a, by have := c; omega⟩) 1 (by decide) _ hv2.1 (by have := hv2.2; omega)
      have HPU := Aside0.mk (fun b hb => pu_round (b := b) HXX.out.1 HXX.out.2.1 HXX.out.2.2.1 HXX.out.2.2.2 hat_ ha96 hq hr hb)
      rw [hx, hy] at HPU
      have HY := Aside0.mk (And.intro p3 (And.intro p4 (And.intro hPr (And.intro hlt hq3))))
      have hsw : wrap64 ((i : Int) + 1) = ((i + 1 : Nat) : Int) := by rw [bt_wrap (by have := HN.out; omega)]; omega
      have HBITS := Aside0.mk (And.intro HXX.out.2.1 (And.intro HXX.out.2.2.1 HXX.out.2.2.2))
      have HP0 := Aside0.mk (show (0 : Int) < 2 ^ rr from Int.pow_pos (by decide))
      have HSW := Aside0.mk hsw
      have HI2 := Aside0.mk HI.out
      rcases (show v / 2 ^ i % 2 = 0 ∨ v / 2 ^ i % 2 = 1 by omega) with hb | hb
      · have htest : (Go.bits .and .u64 (v / 2 ^ min i 64) 1 == 1) = false := by rw [hand, hb]; rfl
        have HW2 := Aside0.mk (HPU.out 0 hb)
        clear hat_ ha96 hq hr hx hlt hxb p3 p4 p5 ePP hPr hy hv2 hmin hand HPU hsw hb hr32
        go_wp2
        go_roundg (n - (i + 1))
        case measure => have := HI2.out; have := HY.out; omega
        case rel =>
          obtain ⟨q3, q4, qP, qlt, hq3'⟩ := HY.out
          refine ⟨i + 1, if q = 0 then y else x0, if q = 1 then y else x1, if q = 2 then y else x2, by rw [HSW.out], ⟨by omega, rfl⟩, ⟨?_, ?_, ?_, ?_⟩, ⟨?_⟩, ⟨blk_far B8.out (p := ⟨w.heap.size, q, none⟩) (by simp) _⟩, ⟨below_set HB.out (Nat.le_refl _)⟩⟩
          · have h := HW2.out; rw [Int.zero_mul, Int.add_zero] at h; exact h
          · have := HP0.out; split <;> first | exact HBITS.out.1 | exact ⟨q3, by omega⟩
          · have := HP0.out; split <;> first | exact HBITS.out.2.1 | exact ⟨q3, by omega⟩
          · have := HP0.out; split <;> first | exact HBITS.out.2.2 | exact ⟨q3, by omega⟩
          · have h := blk_set B4.out q (.int .u32 y); rw [puw_set _ _ _ _ hq3'] at h; exact h
      · have htest : (Go.bits .and .u64 (v / 2 ^ min i 64) 1 == 1) = true := by rw [hand, hb]; rfl
        obtain ⟨y2, hy2⟩ : ∃ y2, y + 2 ^ rr = y2 := ⟨_, rfl⟩
        have HW2 := Aside0.mk (HPU.out 1 hb)
        rw [Int.one_mul, hy2] at HW2
        replace p2 : Go.bits .or .u32 y P = y2 := by rw [p2, hPr]; exact hy2
        have HY2 := Aside0.mk (show 0 ≤ y2 ∧ y2 < 4294967296 by have := HP0.out; omega)
        clear hat_ ha96 hq hr hx hlt hxb p3 p4 p5 ePP hPr hy hv2 hmin hand HPU hsw hb hr32 hy2
        go_wp2
        go_roundg (n - (i + 1))
        case measure => have := HI2.out; have := HY.out; omega
        case rel =>
          obtain ⟨q3, q4, qP, qlt, hq3'⟩ := HY.out
          refine ⟨i + 1, if q = 0 then y2 else x0, if q = 1 then y2 else x1, if q = 2 then y2 else x2, by rw [HSW.out], ⟨by omega, rfl⟩, ⟨?_, ?_, ?_, ?_⟩, ⟨?_⟩, ⟨blk_far (blk_far B8.out (p := ⟨w.heap.size, q, none⟩) (by simp) _) (p := ⟨w.heap.size, q, none⟩) (by simp) _⟩, ⟨below_set (below_set HB.out (Nat.le_refl _)) (Nat.le_refl _)⟩⟩
          · exact HW2.out
          · split <;> first | exact HBITS.out.1 | exact HY2.out
          · split <;> first | exact HBITS.out.2.1 | exact HY2.out
          · split <;> first | exact HBITS.out.2.2 | exact HY2.out
          · have h := blk_set (blk_set B4.out q (.int .u32 y)) q (.int .u32 y2); rw [puw_set _ _ _ _ hq3', puw_set2 _ _ _ _ _ hq3'] at h; exact h
    · have hltb : decide (i < n) = false := decide_eq_false hlt
      obtain ⟨hi, _⟩ := HI.out
      obtain rfl : i = n := by omega
      have hfe : puv V v lo i = fpv V v lo i := by unfold puv fpv; rw [Int.emod_eq_of_lt HN.out.2.2.2.1.1 HN.out.2.2.2.2]
      obtain ⟨hw, b0, b1, b2⟩ := HXX.out
      rw [hfe] at hw
      have e0 : fpv V v lo i % 4294967296 = x0 := by rw [← hw]; simp only [wval]; omega
      have e1 : fpv V v lo i / 4294967296 % 4294967296 = x1 := by rw [← hw]; simp only [wval]; omega
      have e2 : fpv V v lo i / 18446744073709551616 % 4294967296 = x2 := by rw [← hw]; simp only [wval]; omega
      have HE := Aside0.mk (And.intro e0 (And.intro e1 e2))
      have c0 : wr.cell? ⟨w.heap.size, 0, none⟩ = some (.int .u32 x0) := (blk_cell B4.out 0).trans rfl
      have c1 : wr.cell? ⟨w.heap.size, 1, none⟩ = some (.int .u32 x1) := (blk_cell B4.out 1).trans rfl
      have c2 : wr.cell? ⟨w.heap.size, 2, none⟩ = some (.int .u32 x2) := (blk_cell B4.out 2).trans rfl
      clear hw b0 b1 b2 e0 e1 e2 hfe hi hlt
      go_wp2_with ((with_reducible refine gate_store (t := 24) (p := 8) rfl ?_); refine seg.list rfl rfl 24 (.tmp 8) _ rfl 24 (w.heap.size + 1) 0 #[.int .u32 0, .int .u32 0, .int .u32 0] #[.int .u32 x0, .int .u32 x1, .int .u32 x2] [.int .u32 x0, .int .u32 x1, .int .u32 x2] rfl rfl (by kernel_rfl) (by simp [Value.oneCell']) B8.out (by simp) rfl ?_; intro w9 bx hgr)
      refine bodyPost_ret (results_ct (p := 8) (u := 9) rfl _ w9 (w.heap.size + 1) 24 _ (0, 0) _ rfl bx Try.underlying24 rfl (by kernel_rfl)) rfl ?_
      exact ⟨by rw [HE.out.1, HE.out.2.1, HE.out.2.2]; rfl, seg.below HB.out hgr (Nat.le_succ _)⟩

/-! ### words_Put: function 27 (by hand) -/
def words_Put.f (a0_0 : Int) (a0_1 : Int) (a0_2 : Int) (a1 : Int) (a2 : Int) (a3 : Int) : Option (Int × Int × Int × Int) := if (0 ≤ a0_0 ∧ a0_0 < 4294967296) ∧ (0 ≤ a0_1 ∧ a0_1 < 4294967296) ∧ (0 ≤ a0_2 ∧ a0_2 < 4294967296) ∧ (0 ≤ a3 ∧ a3 < 18446744073709551616) then (if 0 ≤ a1 ∧ 1 ≤ a2 ∧ a2 ≤ 64 ∧ a1 + a2 ≤ 96 then (if a3 < 2 ^ a2.toNat then some ((fpv (wval [a0_0, a0_1, a0_2]) a3 a1.toNat a2.toNat) % 4294967296, (fpv (wval [a0_0, a0_1, a0_2]) a3 a1.toNat a2.toNat) / 4294967296 % 4294967296, (fpv (wval [a0_0, a0_1, a0_2]) a3 a1.toNat a2.toNat) / 18446744073709551616 % 4294967296, 0) else some (0, 0, 0, 2)) else some (0, 0, 0, 2)) else none
theorem words_Put.calls (a0_0 : Int) (a0_1 : Int) (a0_2 : Int) (a1 : Int) (a2 : Int) (a3 : Int) (r1 : Int) (r2 : Int) (r3 : Int) (r4 : Int) (w : World) (h : words_Put.f a0_0 a0_1 a0_2 a1 a2 a3 = some (r1, r2, r3, r4)) :
    Calls Try.prog 27 #[.agg #[.int .u32 a0_0, .int .u32 a0_1, .int .u32 a0_2], .int .i64 a1, .int .i64 a2, .int .u64 a3] w fun e w' => e = .returned (.tuple #[.agg #[.int .u32 r1, .int .u32 r2, .int .u32 r3], .int .i64 r4]) ∧ Below w.heap.size w w' := by
  unfold words_Put.f at h
  split at h
  · rename_i hc
    split at h
    · rename_i h0
      have e1 : ((a1.toNat : Nat) : Int) = a1 := Int.toNat_of_nonneg h0.1
      have e2 : ((a2.toNat : Nat) : Int) = a2 := Int.toNat_of_nonneg (by omega)
      split at h
      · rename_i h1
        simp only [Option.some.injEq, Prod.mk.injEq] at h
        obtain ⟨rfl, rfl, rfl, rfl⟩ := h
        have := words_Put.at_ w a0_0 a0_1 a0_2 a3 hc.1 hc.2.1 hc.2.2.1 a1.toNat a2.toNat (by omega) (by omega) (by omega) hc.2.2.2 h1
        rw [e1, e2] at this
        exact this
      · rename_i h1
        simp only [Option.some.injEq, Prod.mk.injEq] at h
        obtain ⟨rfl, rfl, rfl, rfl⟩ := h
        have := words_Put.over w a0_0 a0_1 a0_2 a3 a1.toNat a2.toNat (by omega) (by omega) (by omega) hc.2.2.2 (by omega)
        rw [e1, e2] at this
        exact this
    · rename_i h0
      simp only [Option.some.injEq, Prod.mk.injEq] at h
      obtain ⟨rfl, rfl, rfl, rfl⟩ := h
      exact words_Put.bad w a0_0 a0_1 a0_2 a1 a2 a3 h0
  · cases h

-- NOT PRINTED: function 61 (words_up)

theorem w32b {x : Int} (h : 0 ≤ x ∧ x < 4294967296) : x % 4294967296 = x := Int.emod_eq_of_lt h.1 h.2
theorem wmulb {x m : Int} (hx : 0 ≤ x ∧ x < 4294967296) (hm : 0 ≤ m ∧ m < 4294967296) : 0 ≤ x * m ∧ x * m ≤ 18446744065119617025 := ⟨Int.mul_nonneg hx.1 hm.1, Int.mul_le_mul (show x ≤ 4294967295 by omega) (show m ≤ 4294967295 by omega) hm.1 (by decide)⟩
def upC (f : Int → Int → Int) (w0 w1 w2 c : Int) : Nat → Int
  | 0 => c
  | 1 => f w0 c / 4294967296
  | 2 => f w1 (f w0 c / 4294967296) / 4294967296
  | _ => f w2 (f w1 (f w0 c / 4294967296) / 4294967296) / 4294967296
def upB (f : Int → Int → Int) (w0 w1 w2 c : Int) : Nat → Array Value
  | 0 => #[.int .u32 w0, .int .u32 w1, .int .u32 w2]
  | 1 => #[.int .u32 (f w0 c % 4294967296), .int .u32 w1, .int .u32 w2]
  | 2 => #[.int .u32 (f w0 c % 4294967296), .int .u32 (f w1 (upC f w0 w1 w2 c 1) % 4294967296), .int .u32 w2]
  | _ => #[.int .u32 (f w0 c % 4294967296), .int .u32 (f w1 (upC f w0 w1 w2 c 1) % 4294967296), .int .u32 (f w2 (upC f w0 w1 w2 c 2) % 4294967296)]
theorem upC_step (f : Int → Int → Int) (w0 w1 w2 c : Int) (i : Nat) (hi : i < 3) : upC f w0 w1 w2 c (i + 1) = f ([w0, w1, w2].getD i 0) (upC f w0 w1 w2 c i) / 4294967296 := by
  match i, hi with
  | 0, _ => rfl
  | 1, _ => rfl
  | 2, _ => rfl
theorem upB_at (f : Int → Int → Int) (w0 w1 w2 c : Int) (i : Nat) (hi : i < 3) : (upB f w0 w1 w2 c i)[i]? = some (.int .u32 ([w0, w1, w2].getD i 0)) := by
  match i, hi with
  | 0, _ => rfl
  | 1, _ => rfl
  | 2, _ => rfl
theorem upB_step (f : Int → Int → Int) (w0 w1 w2 c : Int) (i : Nat) (hi : i < 3) : (upB f w0 w1 w2 c i).setIfInBounds i (.int .u32 (f ([w0, w1, w2].getD i 0) (upC f w0 w1 w2 c i) % 4294967296)) = upB f w0 w1 w2 c (i + 1) := by
  match i, hi with
  | 0, _ => rfl
  | 1, _ => rfl
  | 2, _ => rfl
theorem w3_at {w0 w1 w2 : Int} (h0 : 0 ≤ w0 ∧ w0 < 4294967296) (h1 : 0 ≤ w1 ∧ w1 < 4294967296) (h2 : 0 ≤ w2 ∧ w2 < 4294967296) (i : Nat) (hi : i < 3) : 0 ≤ [w0, w1, w2].getD i 0 ∧ [w0, w1, w2].getD i 0 < 4294967296 := by
  match i, hi with
  | 0, _ => exact h0
  | 1, _ => exact h1
  | 2, _ => exact h2
theorem upC_bd (f : Int → Int → Int) (hf : ∀ x c, (0 ≤ x ∧ x < 4294967296) → (0 ≤ c ∧ c < 4294967296) → 0 ≤ f x c ∧ f x c < 18446744073709551616) {w0 w1 w2 c : Int} (h0 : 0 ≤ w0 ∧ w0 < 4294967296) (h1 : 0 ≤ w1 ∧ w1 < 4294967296) (h2 : 0 ≤ w2 ∧ w2 < 4294967296) (hc : 0 ≤ c ∧ c < 4294967296) : ∀ i, i ≤ 3 → 0 ≤ upC f w0 w1 w2 c i ∧ upC f w0 w1 w2 c i < 4294967296
  | 0, _ => hc
  | i + 1, hi => by
    rw [upC_step f w0 w1 w2 c i (by omega)]
    have := hf _ _ (w3_at h0 h1 h2 i (by omega)) (upC_bd f hf h0 h1 h2 hc i (by omega))
    omega

set_option maxHeartbeats 4000000 in
theorem words_Times1.calls (w : World) (x c m : Int) (g : Nat) (hg : w.cell? ⟨g, 0, none⟩ = some (.int .u32 m)) (hx : 0 ≤ x ∧ x < 4294967296) (hc : 0 ≤ c ∧ c < 4294967296) (hm : 0 ≤ m ∧ m < 4294967296) :
    Calls Try.prog 62 #[.int .u32 x, .int .u32 c, .pointer (some ⟨g, 0, none⟩)] w fun e w' => e = .returned (.tuple #[.int .u32 ((x * m + c) % 4294967296), .int .u32 ((x * m + c) / 4294967296)]) ∧ w' = w := by
  obtain ⟨b0, b1⟩ := wmulb hx hm
  obtain ⟨q, hq⟩ : ∃ q, x * m = q := ⟨_, rfl⟩
  rw [hq] at b0 b1 ⊢
  have e1 : IntKind.u64.wrap (IntKind.u64.wrap x * IntKind.u64.wrap m) = q := by rw [wu64 (a := x) ⟨hx.1, by omega⟩, wu64 (a := m) ⟨hm.1, by omega⟩, hq, wu64 ⟨b0, by omega⟩]
  have e2 : IntKind.u64.wrap (q % 4294967296 + IntKind.u64.wrap c) = q % 4294967296 + c := by rw [wu64 (a := c) ⟨hc.1, by omega⟩, wu64 ⟨by omega, by omega⟩]
  have HX := Aside0.mk (And.intro hc (And.intro b0 (And.intro b1 e2)))
  clear hx hc hm hq b0 b1 e2
  go_enter Try.func62, Try.ntmps62
  go_wp2
  go_ret2
  refine ⟨?_, rfl⟩
  obtain ⟨hc, b0, b1, e2⟩ := HX.out
  have z0 : IntKind.u64.wrap 0 = 0 := by decide
  have e3 : IntKind.u64.wrap (q % 4294967296 + c) = q % 4294967296 + c := wu64 ⟨by omega, by omega⟩
  have e4 : (q % 4294967296 + c) % 4294967296 = (q + c) % 4294967296 := by omega
  have e6 : (q / 4294967296 + (q % 4294967296 + c) / 4294967296) % 4294967296 = (q + c) / 4294967296 := by omega
  have e7 : q / 4294967296 % 4294967296 = q / 4294967296 := by omega
  have e8 : (q % 4294967296 + c) / 4294967296 % 4294967296 = (q % 4294967296 + c) / 4294967296 := by omega
  simp
  rw [e2, e3, e4]
  exact ⟨rfl, by first | exact e6 | (rw [e7, e8]; exact e6)⟩
set_option maxHeartbeats 8000000 in
set_option maxRecDepth 100000 in
theorem words_up.times (w : World) (w0 w1 w2 c m : Int) (gm : Nat) (hgm : w.heap[gm]? = some (.cells #[.int .u32 m] 22 (0, 0))) (h0 : 0 ≤ w0 ∧ w0 < 4294967296) (h1 : 0 ≤ w1 ∧ w1 < 4294967296) (h2 : 0 ≤ w2 ∧ w2 < 4294967296) (hc : 0 ≤ c ∧ c < 4294967296) (hm : 0 ≤ m ∧ m < 4294967296) :
    Calls Try.prog 61 #[.agg #[.int .u32 w0, .int .u32 w1, .int .u32 w2], .int .u32 c, .func (.func 62) #[] #[.pointer (some ⟨gm, 0, none⟩)]] w fun e w' => e = .returned (.tuple #[.agg (upB (fun x c => x * m + c) w0 w1 w2 c 3), .int .u32 (upC (fun x c => x * m + c) w0 w1 w2 c 3)]) ∧ Below w.heap.size w w' := by
  have hu63 := Try.underlying24
  have HCB := Aside0.mk (upC_bd (fun x c => x * m + c) (fun x c hx hc => ⟨by have := wmulb hx hm; omega, by have := wmulb hx hm; omega⟩) h0 h1 h2 hc)
  have HW := Aside0.mk (w3_at h0 h1 h2)
  have B2 := blk_alloc (blk_new w (.cells #[.int .u32 w0, .int .u32 w1, .int .u32 w2] 24)) (.cells #[.int .u32 0, .int .u32 0, .int .u32 0] 24)
  have B4 := blk_new (w.alloc (.cells #[.int .u32 w0, .int .u32 w1, .int .u32 w2] 24)) (.cells #[.int .u32 0, .int .u32 0, .int .u32 0] 24)
  have hb2 := below_alloc (below_alloc (Below.refl w.heap.size w) (.cells #[.int .u32 w0, .int .u32 w1, .int .u32 w2] 24)) (.cells #[.int .u32 0, .int .u32 0, .int .u32 0] 24)
  rw [World.size_alloc] at B4
  clear h0 h1 h2 hc
  go_enter Try.func61, Try.ntmps61
  go_wp2
  go_loopg [1, 9] 3 (fun kq v1 v9 w' => ∃ i : Nat, v1 = .int .u32 (upC (fun x c => x * m + c) w0 w1 w2 c i) ∧ v9 = .int .i64 (i : Int) ∧ i ≤ 3 ∧ kq = 3 - i ∧ Aside0 (w'.heap[w.heap.size]? = some (.cells (upB (fun x c => x * m + c) w0 w1 w2 c i) 24 (0, 0))) ∧ Aside0 (w'.heap[w.heap.size + 1]? = some (.cells #[.int .u32 0, .int .u32 0, .int .u32 0] 24 (0, 0))) ∧ Aside0 (Below w.heap.size w w'))
  case atStart => exact ⟨0, rfl, rfl, by decide, rfl, ⟨B2⟩, ⟨B4⟩, ⟨hb2⟩⟩
  case round =>
    clear B2 B4 hb2
    obtain ⟨i, rfl, rfl, hi, rfl, B2, B4, HB⟩ := hrel
    by_cases hlt : i < 3
    · have hltb : decide (i < 3) = true := decide_eq_true hlt
      have hcb := HCB.out i hi
      have hwb := HW.out i hlt
      obtain ⟨x, hx⟩ : ∃ x, [w0, w1, w2].getD i 0 = x := ⟨_, rfl⟩
      obtain ⟨ci, hci⟩ : ∃ ci, upC (fun x c => x * m + c) w0 w1 w2 c i = ci := ⟨_, rfl⟩
      have hc3 : wr.cell? ⟨w.heap.size, i, none⟩ = some (.int .u32 x) := by rw [blk_cell B2.out i, upB_at _ _ _ _ _ i hlt, hx]
      have hf3 := blk_frozen B2.out i
      rw [hx] at hwb
      rw [hci] at hcb ⊢
      have HXC := Aside0.mk (And.intro hx hci)
      have HBD := Aside0.mk (And.intro hwb hcb)
      clear hx hci hwb hcb
      go_wp2_with (go_at_call 62; refine (words_Times1.calls _ x ci m gm ((blk_cell (blk_below hgm HB.out) 0).trans rfl) HBD.out.1 HBD.out.2 hm).mono ?_; rintro e wq ⟨rfl, rfl⟩)
      go_roundg (3 - (i + 1))
      case measure => omega
      case rel =>
        refine ⟨i + 1, by rw [upC_step _ _ _ _ _ i hlt, HXC.out.1, HXC.out.2], by first | rfl | simp, by omega, rfl, ⟨?_⟩, ⟨blk_far B4.out (p := ⟨w.heap.size, i, none⟩) (by simp) _⟩, ⟨below_set HB.out (Nat.le_refl _)⟩⟩
        rw [← upB_step _ _ _ _ _ i hlt, HXC.out.1, HXC.out.2]
        exact blk_set B2.out i _
    · have hltb : decide (i < 3) = false := decide_eq_false hlt
      obtain rfl : i = 3 := by omega
      obtain ⟨e0, e1, e2, hE⟩ : ∃ e0 e1 e2, upB (fun x c => x * m + c) w0 w1 w2 c 3 = #[e0, e1, e2] ∧ e0.oneCell' = true ∧ e1.oneCell' = true ∧ e2.oneCell' = true := ⟨_, _, _, rfl, rfl, rfl, rfl⟩
      obtain ⟨hE, o0, o1, o2⟩ := hE
      rw [hE] at B2
      have HE := Aside0.mk hE
      have x0 : wr.cell? ⟨w.heap.size, 0, none⟩ = some e0 := (blk_cell B2.out 0).trans rfl
      have x1 : wr.cell? ⟨w.heap.size, 1, none⟩ = some e1 := (blk_cell B2.out 1).trans rfl
      have x2 : wr.cell? ⟨w.heap.size, 2, none⟩ = some e2 := (blk_cell B2.out 2).trans rfl
      have O := Aside0.mk (And.intro o0 (And.intro o1 o2))
      clear o0 o1 o2 hE
      go_wp2_with ((with_reducible refine gate_store (t := 24) (p := 6) rfl ?_); refine seg.list rfl rfl 24 (.tmp 6) _ rfl 24 (w.heap.size + 1) 0 #[.int .u32 0, .int .u32 0, .int .u32 0] #[e0, e1, e2] [e0, e1, e2] rfl rfl (by kernel_rfl) (by simp [O.out.1, O.out.2.1, O.out.2.2]) B4.out (by simp) rfl ?_; intro w9 bx hgr)
      refine bodyPost_ret (results_ct (p := 6) (u := 7) rfl _ w9 (w.heap.size + 1) 24 _ (0, 0) _ rfl bx Try.underlying24 rfl (by kernel_rfl)) rfl ?_
      exact ⟨by rw [HE.out]; rfl, seg.below HB.out hgr (Nat.le_succ _)⟩
theorem up_times (w0 w1 w2 m : Int) (h0 : 0 ≤ w0 ∧ w0 < 4294967296) (h1 : 0 ≤ w1 ∧ w1 < 4294967296) (h2 : 0 ≤ w2 ∧ w2 < 4294967296) (hm : 0 ≤ m ∧ m < 4294967296) : upB (fun x c => x * m + c) w0 w1 w2 0 3 = #[.int .u32 ((wval [w0, w1, w2] * m) % 4294967296), .int .u32 ((wval [w0, w1, w2] * m) / 4294967296 % 4294967296), .int .u32 ((wval [w0, w1, w2] * m) / 18446744073709551616 % 4294967296)] ∧ upC (fun x c => x * m + c) w0 w1 w2 0 3 = (wval [w0, w1, w2] * m) / 79228162514264337593543950336 % 4294967296 := by
  have b0 := wmulb h0 hm
  have b1 := wmulb h1 hm
  have b2 := wmulb h2 hm
  have e : wval [w0, w1, w2] * m = w0 * m + 4294967296 * (w1 * m) + 18446744073709551616 * (w2 * m) := by simp only [wval]; grind
  rw [e]
  simp only [upB, upC]
  generalize w0 * m = p0 at *
  generalize w1 * m = p1 at *
  generalize w2 * m = p2 at *
  rw [show (p0 + 0) % 4294967296 = (p0 + 4294967296 * p1 + 18446744073709551616 * p2) % 4294967296 by omega, show (p1 + (p0 + 0) / 4294967296) % 4294967296 = (p0 + 4294967296 * p1 + 18446744073709551616 * p2) / 4294967296 % 4294967296 by omega, show (p2 + (p1 + (p0 + 0) / 4294967296) / 4294967296) % 4294967296 = (p0 + 4294967296 * p1 + 18446744073709551616 * p2) / 18446744073709551616 % 4294967296 by omega]
  exact ⟨rfl, by omega⟩
set_option maxHeartbeats 4000000 in
set_option maxRecDepth 100000 in
theorem words_Times.at_ (w : World) (w0 w1 w2 m : Int) (h0 : 0 ≤ w0 ∧ w0 < 4294967296) (h1 : 0 ≤ w1 ∧ w1 < 4294967296) (h2 : 0 ≤ w2 ∧ w2 < 4294967296) (hm : 0 ≤ m ∧ m < 4294967296) :
    Calls Try.prog 28 #[.agg #[.int .u32 w0, .int .u32 w1, .int .u32 w2], .int .u32 m] w fun e w' => e = .returned (.tuple #[.agg #[.int .u32 ((wval [w0, w1, w2] * m) % 4294967296), .int .u32 ((wval [w0, w1, w2] * m) / 4294967296 % 4294967296), .int .u32 ((wval [w0, w1, w2] * m) / 18446744073709551616 % 4294967296)], .int .u32 ((wval [w0, w1, w2] * m) / 79228162514264337593543950336 % 4294967296)]) ∧ Below w.heap.size w w' := by
  have hu63 := Try.underlying24
  obtain ⟨e1, e2⟩ := up_times w0 w1 w2 m h0 h1 h2 hm
  have B0 := blk_alloc (blk_alloc (blk_new w (.cells #[.int .u32 w0, .int .u32 w1, .int .u32 w2] 24)) (.cells #[.int .u32 m] 22)) (.cells #[.int .u32 0, .int .u32 0, .int .u32 0] 24)
  have B1 := blk_alloc (blk_new (w.alloc (.cells #[.int .u32 w0, .int .u32 w1, .int .u32 w2] 24)) (.cells #[.int .u32 m] 22)) (.cells #[.int .u32 0, .int .u32 0, .int .u32 0] 24)
  rw [World.size_alloc] at B1
  have B2 := blk_new ((w.alloc (.cells #[.int .u32 w0, .int .u32 w1, .int .u32 w2] 24)).alloc (.cells #[.int .u32 m] 22)) (.cells #[.int .u32 0, .int .u32 0, .int .u32 0] 24)
  rw [World.size_alloc, World.size_alloc] at B2
  have HB := Aside0.mk (below_alloc (below_alloc (below_alloc (Below.refl w.heap.size w) (.cells #[.int .u32 w0, .int .u32 w1, .int .u32 w2] 24)) (.cells #[.int .u32 m] 22)) (.cells #[.int .u32 0, .int .u32 0, .int .u32 0] 24))
  have HB0 := Aside0.mk B0
  have HB1 := Aside0.mk B1
  have HB2 := Aside0.mk B2
  clear B0 B1 B2
  have HU := Aside0.mk (words_up.times (((w.alloc (.cells #[.int .u32 w0, .int .u32 w1, .int .u32 w2] 24)).alloc (.cells #[.int .u32 m] 22)).alloc (.cells #[.int .u32 0, .int .u32 0, .int .u32 0] 24)) w0 w1 w2 0 m (w.heap.size + 1) HB1.out h0 h1 h2 (by decide) hm)
  rw [e1, e2] at HU
  clear h0 h1 h2 hm e1 e2
  go_enter Try.func28, Try.ntmps28
  go_wp2_with (first | (go_at_call 61; refine HU.out.mono ?_; rintro e wq ⟨rfl, hb⟩; have HBB := Aside0.mk (below_then HB.out HB.out.size hb); have HBR := Aside0.mk (blk_below HB2.out hb); clear hb) | ((with_reducible refine gate_store (t := 24) (p := 4) rfl ?_); refine seg.list rfl rfl 24 (.tmp 4) _ rfl 24 (w.heap.size + 1 + 1) 0 #[.int .u32 0, .int .u32 0, .int .u32 0] #[.int .u32 ((wval [w0, w1, w2] * m) % 4294967296), .int .u32 ((wval [w0, w1, w2] * m) / 4294967296 % 4294967296), .int .u32 ((wval [w0, w1, w2] * m) / 18446744073709551616 % 4294967296)] [.int .u32 ((wval [w0, w1, w2] * m) % 4294967296), .int .u32 ((wval [w0, w1, w2] * m) / 4294967296 % 4294967296), .int .u32 ((wval [w0, w1, w2] * m) / 18446744073709551616 % 4294967296)] rfl rfl (by kernel_rfl) (by simp [Value.oneCell']) HBR.out (by simp) rfl ?_; intro w9 bx hgr))
  refine bodyPost_ret (results_ct (p := 4) (u := 5) rfl _ w9 (w.heap.size + 1 + 1) 24 _ (0, 0) _ rfl bx Try.underlying24 rfl (by kernel_rfl)) rfl ?_
  exact ⟨rfl, seg.below HBB.out hgr (by omega)⟩

/-! ### words_Times: function 28 (by hand) -/
def words_Times.f (a0_0 : Int) (a0_1 : Int) (a0_2 : Int) (a1 : Int) : Option (Int × Int × Int × Int) := if (0 ≤ a0_0 ∧ a0_0 < 4294967296) ∧ (0 ≤ a0_1 ∧ a0_1 < 4294967296) ∧ (0 ≤ a0_2 ∧ a0_2 < 4294967296) ∧ (0 ≤ a1 ∧ a1 < 4294967296) then some ((wval [a0_0, a0_1, a0_2] * a1) % 4294967296, (wval [a0_0, a0_1, a0_2] * a1) / 4294967296 % 4294967296, (wval [a0_0, a0_1, a0_2] * a1) / 18446744073709551616 % 4294967296, (wval [a0_0, a0_1, a0_2] * a1) / 79228162514264337593543950336 % 4294967296) else none
theorem words_Times.calls (a0_0 : Int) (a0_1 : Int) (a0_2 : Int) (a1 : Int) (r1 : Int) (r2 : Int) (r3 : Int) (r4 : Int) (w : World) (h : words_Times.f a0_0 a0_1 a0_2 a1 = some (r1, r2, r3, r4)) :
    Calls Try.prog 28 #[.agg #[.int .u32 a0_0, .int .u32 a0_1, .int .u32 a0_2], .int .u32 a1] w fun e w' => e = .returned (.tuple #[.agg #[.int .u32 r1, .int .u32 r2, .int .u32 r3], .int .u32 r4]) ∧ Below w.heap.size w w' := by
  unfold words_Times.f at h
  split at h
  · rename_i hc
    simp only [Option.some.injEq, Prod.mk.injEq] at h
    obtain ⟨rfl, rfl, rfl, rfl⟩ := h
    exact words_Times.at_ w a0_0 a0_1 a0_2 a1 hc.1 hc.2.1 hc.2.2.1 hc.2.2.2
  · cases h

theorem tk_e3 {v : Int} (h : 0 ≤ v ∧ v < 79228162514264337593543950336) : wval [v % 4294967296, v / 4294967296 % 4294967296, v / 18446744073709551616 % 4294967296] = v := by
  simp only [wval]
  omega
theorem tk_put (W : World) (V v : Int) (lo n : Nat) (hV : 0 ≤ V ∧ V < 2 ^ lo) (hv : 0 ≤ v ∧ v < 2 ^ n) (hn : 1 ≤ n) (hn2 : n ≤ 64) (hl : lo + n ≤ 96) :
    Calls Try.prog 27 #[.agg #[.int .u32 (V % 4294967296), .int .u32 (V / 4294967296 % 4294967296), .int .u32 (V / 18446744073709551616 % 4294967296)], .int .i64 (lo : Int), .int .i64 (n : Int), .int .u64 v] W fun e w' => e = .returned (.tuple #[.agg #[.int .u32 ((V + v * 2 ^ lo) % 4294967296), .int .u32 ((V + v * 2 ^ lo) / 4294967296 % 4294967296), .int .u32 ((V + v * 2 ^ lo) / 18446744073709551616 % 4294967296)], .int .i64 0]) ∧ Below W.heap.size W w' := by
  have hp : (2 : Int) ^ lo ≤ 79228162514264337593543950336 := by
    have h := Nat.pow_le_pow_right (n := 2) (by decide) (show lo ≤ 96 by omega)
    have h2 := Int.ofNat_le.2 h
    rw [Int.natCast_pow] at h2
    exact h2
  have hp2 : (2 : Int) ^ n ≤ 18446744073709551616 := by
    have h := Nat.pow_le_pow_right (n := 2) (by decide) hn2
    have h2 := Int.ofNat_le.2 h
    rw [Int.natCast_pow] at h2
    exact h2
  have h := words_Put.at_ W (V % 4294967296) (V / 4294967296 % 4294967296) (V / 18446744073709551616 % 4294967296) v (by omega) (by omega) (by omega) lo n hn hn2 hl ⟨hv.1, by omega⟩ hv.2
  have e : fpv (wval [V % 4294967296, V / 4294967296 % 4294967296, V / 18446744073709551616 % 4294967296]) v lo n = V + v * 2 ^ lo := by
    rw [tk_e3 ⟨hV.1, by omega⟩, fpv, Int.ediv_eq_zero_of_lt hV.1 hV.2]
    simp
  rw [e] at h
  exact h
def tkAt : Nat → Int
  | 0 => 0
  | 1 => 16
  | 2 => 37
  | 3 => 57
  | _ => 59
def tkV (c i a t : Int) : Nat → Int
  | 0 => 0
  | 1 => t
  | 2 => t + a * 65536
  | 3 => t + a * 65536 + i * 137438953472
  | _ => t + a * 65536 + i * 137438953472 + c * 144115188075855872
theorem tk_ix0 (W : World) (c i a t : Int) : (Instr.index 64 (.agg #[.int .i64 16, .int .i64 t, .int .i64 21, .int .i64 a, .int .i64 20, .int .i64 i, .int .i64 2, .int .i64 c]) (.int .i64 0)).run Try.prog W = .ok (.agg #[.int .i64 16, .int .i64 t]) W := by
  simp [Instr.index, run_underlying Try.underlying64, asIntOf, go_sem]
theorem tk_ix1 (W : World) (c i a t : Int) : (Instr.index 64 (.agg #[.int .i64 16, .int .i64 t, .int .i64 21, .int .i64 a, .int .i64 20, .int .i64 i, .int .i64 2, .int .i64 c]) (.int .i64 1)).run Try.prog W = .ok (.agg #[.int .i64 21, .int .i64 a]) W := by
  simp [Instr.index, run_underlying Try.underlying64, asIntOf, go_sem]
theorem tk_ix2 (W : World) (c i a t : Int) : (Instr.index 64 (.agg #[.int .i64 16, .int .i64 t, .int .i64 21, .int .i64 a, .int .i64 20, .int .i64 i, .int .i64 2, .int .i64 c]) (.int .i64 2)).run Try.prog W = .ok (.agg #[.int .i64 20, .int .i64 i]) W := by
  simp [Instr.index, run_underlying Try.underlying64, asIntOf, go_sem]
theorem tk_ix3 (W : World) (c i a t : Int) : (Instr.index 64 (.agg #[.int .i64 16, .int .i64 t, .int .i64 21, .int .i64 a, .int .i64 20, .int .i64 i, .int .i64 2, .int .i64 c]) (.int .i64 3)).run Try.prog W = .ok (.agg #[.int .i64 2, .int .i64 c]) W := by
  simp [Instr.index, run_underlying Try.underlying64, asIntOf, go_sem]

set_option maxHeartbeats 8000000 in
set_option maxRecDepth 100000 in
theorem token_Words.bad (w : World) (c i a t er : Int) (hf : token_fault.f c i a t = some er) (he : er ≠ 0) :
    Calls Try.prog 10 #[.agg #[.int .i64 c, .int .i64 i, .int .i64 a, .int .i64 t]] w fun e w' => e = .returned (.tuple #[.agg #[.int .u32 0, .int .u32 0, .int .u32 0], .int .i64 er]) ∧ Below w.heap.size w w' := by
  have hu24 := Try.underlying24
  have hu28 := Try.underlying28
  have HF := Aside0.mk hf
  have t1 : (er != 0) = true := bne_iff_ne.mpr he
  have t2 : (er == 0) = false := beq_eq_false_iff_ne.mpr he
  have HB := Aside0.mk (below_alloc (below_alloc (Below.refl w.heap.size w) (.cells #[.int .i64 c, .int .i64 i, .int .i64 a, .int .i64 t] 28)) (.cells #[.int .u32 0, .int .u32 0, .int .u32 0] 24))
  have B2 := blk_new (w.alloc (.cells #[.int .i64 c, .int .i64 i, .int .i64 a, .int .i64 t] 28)) (.cells #[.int .u32 0, .int .u32 0, .int .u32 0] 24)
  rw [World.size_alloc] at B2
  have H2 := Aside0.mk B2
  clear B2 hf he
  go_enter Try.func10, Try.ntmps10
  go_wp2_with (first | (go_at_call 26; refine (token_fault.calls _ _ _ _ _ _ HF.out).mono ?_; rintro e wa ⟨rfl, hb⟩; have J2 := Aside0.mk (blk_below H2.out hb); have JB := Aside0.mk (below_then HB.out HB.out.size hb); clear hb) | ((with_reducible refine gate_store (t := 24) (p := 2) rfl ?_); refine seg.list rfl rfl 24 (.tmp 2) _ rfl 24 (w.heap.size + 1) 0 #[.int .u32 0, .int .u32 0, .int .u32 0] #[.int .u32 0, .int .u32 0, .int .u32 0] [.int .u32 0, .int .u32 0, .int .u32 0] rfl rfl (by kernel_rfl) (by simp [Value.oneCell']) J2.out (by simp) rfl ?_; intro w9 bx hgr))
  refine bodyPost_ret (results_ct (p := 2) (u := 3) rfl _ w9 (w.heap.size + 1) 24 _ (0, 0) _ rfl bx Try.underlying24 rfl (by kernel_rfl)) rfl ?_
  exact ⟨rfl, seg.below JB.out hgr (Nat.le_succ _)⟩
set_option maxHeartbeats 8000000 in
set_option maxRecDepth 100000 in
theorem token_Words.at_ (w : World) (c i a t : Int) (hf : token_fault.f c i a t = some 0) (hc : 0 ≤ c ∧ c ≤ 3) (hi : 0 ≤ i ∧ i ≤ 1048575) (ha : 0 ≤ a ∧ a ≤ 2097151) (ht : 0 ≤ t ∧ t ≤ 65535) :
    Calls Try.prog 10 #[.agg #[.int .i64 c, .int .i64 i, .int .i64 a, .int .i64 t]] w fun e w' => e = .returned (.tuple #[.agg #[.int .u32 (((t + a * 65536 + i * 137438953472 + c * 144115188075855872) * 97) % 4294967296), .int .u32 (((t + a * 65536 + i * 137438953472 + c * 144115188075855872) * 97) / 4294967296 % 4294967296), .int .u32 (((t + a * 65536 + i * 137438953472 + c * 144115188075855872) * 97) / 18446744073709551616 % 4294967296)], .int .i64 0]) ∧ Below w.heap.size w w' := by
  have hu24 := Try.underlying24
  have hu28 := Try.underlying28
  have hu63 := Try.underlying63
  have hu64 := Try.underlying64
  have HF := Aside0.mk hf
  have HR := Aside0.mk (And.intro hc (And.intro hi (And.intro ha ht)))
  have wc_ : IntKind.u64.wrap c = c := wu64 ⟨by omega, by omega⟩
  have wi_ : IntKind.u64.wrap i = i := wu64 ⟨by omega, by omega⟩
  have wa_ : IntKind.u64.wrap a = a := wu64 ⟨by omega, by omega⟩
  have wt_ : IntKind.u64.wrap t = t := wu64 ⟨by omega, by omega⟩
  have HB := Aside0.mk (below_alloc (below_alloc (Below.refl w.heap.size w) (.cells #[.int .i64 c, .int .i64 i, .int .i64 a, .int .i64 t] 28)) (.cells #[.int .u32 0, .int .u32 0, .int .u32 0] 24))
  have B1 := blk_alloc (blk_new w (.cells #[.int .i64 c, .int .i64 i, .int .i64 a, .int .i64 t] 28)) (.cells #[.int .u32 0, .int .u32 0, .int .u32 0] 24)
  have B2 := blk_new (w.alloc (.cells #[.int .i64 c, .int .i64 i, .int .i64 a, .int .i64 t] 28)) (.cells #[.int .u32 0, .int .u32 0, .int .u32 0] 24)
  rw [World.size_alloc] at B2
  have H1 := Aside0.mk B1
  have H2 := Aside0.mk B2
  clear B1 B2 hf hc hi ha ht
  go_enter Try.func10, Try.ntmps10
  go_wp2_with (go_at_call 26; refine (token_fault.calls _ _ _ _ _ _ HF.out).mono ?_; rintro e wa ⟨rfl, hb⟩; have J1 := Aside0.mk (blk_below H1.out hb); have J2 := Aside0.mk (blk_below H2.out hb); have JB := Aside0.mk (below_then HB.out HB.out.size hb); have JT := Aside0.mk (blk_new wa (.cells #[.int .u32 0, .int .u32 0, .int .u32 0] 24)); have y0_ : ∀ o, (wa.alloc o).cell? ⟨w.heap.size, 0, none⟩ = some (.int .i64 c) := fun o => (blk_cell (blk_alloc J1.out o) 0).trans rfl; have y1_ : ∀ o, (wa.alloc o).cell? ⟨w.heap.size, 1, none⟩ = some (.int .i64 i) := fun o => (blk_cell (blk_alloc J1.out o) 1).trans rfl; have y2_ : ∀ o, (wa.alloc o).cell? ⟨w.heap.size, 2, none⟩ = some (.int .i64 a) := fun o => (blk_cell (blk_alloc J1.out o) 2).trans rfl; have y3_ : ∀ o, (wa.alloc o).cell? ⟨w.heap.size, 3, none⟩ = some (.int .i64 t) := fun o => (blk_cell (blk_alloc J1.out o) 3).trans rfl; clear hb)
  clear y0_ y1_ y2_ y3_
  have HBA := Aside0.mk (below_alloc JB.out (.cells #[.int .u32 0, .int .u32 0, .int .u32 0] 24))
  have K2 := Aside0.mk (blk_alloc J2.out (.cells #[.int .u32 0, .int .u32 0, .int .u32 0] 24))
  go_loopg [6, 8, 28] 4 (fun kq v6 v8 v28 w' => ∃ (n : Nat) (ii aa : Int), v28 = .int .i64 ii ∧ v6 = .int .i64 aa ∧ Aside0 (n ≤ 4 ∧ kq = 4 - n ∧ ii = (n : Int) ∧ aa = tkAt n) ∧ Aside0 (w'.heap[wa.heap.size]? = some (.cells #[.int .u32 (tkV c i a t n % 4294967296), .int .u32 (tkV c i a t n / 4294967296 % 4294967296), .int .u32 (tkV c i a t n / 18446744073709551616 % 4294967296)] 24 (0, 0))) ∧ Aside0 (w'.heap[w.heap.size + 1]? = some (.cells #[.int .u32 0, .int .u32 0, .int .u32 0] 24 (0, 0))) ∧ Aside0 (Below w.heap.size w w'))
  case atStart => exact ⟨0, 0, 0, rfl, rfl, ⟨by decide, rfl, rfl, rfl⟩, JT, K2, HBA⟩
  case round =>
    have JL := Aside0.mk (blk_lt J2.out)
    have JS := Aside0.mk JB.out.size
    clear JT K2 HBA J1 J2 JB H1 H2 HB HF
    obtain ⟨n, ii, aa, rfl, rfl, HI, B5, B2, HB⟩ := hrel
    have hn5 : n = 0 ∨ n = 1 ∨ n = 2 ∨ n = 3 ∨ n = 4 := by have := HI.out.1; omega
    rcases hn5 with rfl | rfl | rfl | rfl | rfl
    · obtain ⟨rfl, rfl⟩ : ii = 0 ∧ aa = 0 := ⟨HI.out.2.2.1, HI.out.2.2.2⟩
      have hix := fun W : World => tk_ix0 W c i a t
      go_wp2_with (first | ((with_reducible refine gate_store (t := 63) (p := 8) rfl ?_); refine seg.list rfl rfl 63 (.tmp 8) _ rfl 63 wr.heap.size 0 #[.int .i64 0, .int .i64 0] #[.int .i64 16, .int .i64 t] [.int .i64 16, .int .i64 t] rfl rfl (by kernel_rfl) (by simp [Value.oneCell']) (blk_new wr _) (by simp) rfl ?_; intro wb b8 hg; have Q8 := Aside0.mk b8; have Q5 := Aside0.mk (seg.far (blk_alloc B5.out _) hg (Nat.ne_of_lt (blk_lt B5.out))); have Q2 := Aside0.mk (seg.far (blk_alloc B2.out _) hg (Nat.ne_of_lt (blk_lt B2.out))); have QB := Aside0.mk (seg.below (below_alloc HB.out _) hg HB.out.size); have QL := Aside0.mk (blk_lt B5.out); have f0_ : wb.cell? ⟨wr.heap.size, 0, none⟩ = some (.int .i64 16) := (blk_cell Q8.out 0).trans rfl; have f1_ : wb.cell? ⟨wr.heap.size, 1, none⟩ = some (.int .i64 t) := (blk_cell Q8.out 1).trans rfl; have x0_ : wb.cell? ⟨wa.heap.size, 0, none⟩ = some (.int .u32 (tkV c i a t 0 % 4294967296)) := (blk_cell Q5.out 0).trans rfl; have x1_ : wb.cell? ⟨wa.heap.size, 1, none⟩ = some (.int .u32 (tkV c i a t 0 / 4294967296 % 4294967296)) := (blk_cell Q5.out 1).trans rfl; have x2_ : wb.cell? ⟨wa.heap.size, 2, none⟩ = some (.int .u32 (tkV c i a t 0 / 18446744073709551616 % 4294967296)) := (blk_cell Q5.out 2).trans rfl; clear b8 hg) | (go_at_call 27; refine (tk_put _ (tkV c i a t 0) t 0 16 (by have := HR.out; simp only [tkV]; omega) (by have := HR.out; omega) (by decide) (by decide) (by decide)).mono ?_; rintro e wc ⟨rfl, hb⟩; have R5 := Aside0.mk (blk_below Q5.out hb); have R2 := Aside0.mk (blk_below Q2.out hb); have RB := Aside0.mk (below_then QB.out QB.out.size hb); have g0_ : wc.cell? ⟨wr.heap.size, 0, none⟩ = some (.int .i64 16) := (blk_cell (blk_below Q8.out hb) 0).trans rfl; have R8 := Aside0.mk (blk_below Q8.out hb); clear hb f0_ f1_ x0_ x1_ x2_) | ((with_reducible refine gate_store (t := 24) (p := 5) rfl ?_); refine seg.list rfl rfl 24 (.tmp 5) _ rfl 24 (wa.heap.size) 0 #[.int .u32 (tkV c i a t 0 % 4294967296), .int .u32 (tkV c i a t 0 / 4294967296 % 4294967296), .int .u32 (tkV c i a t 0 / 18446744073709551616 % 4294967296)] #[.int .u32 ((tkV c i a t 0 + t) % 4294967296), .int .u32 ((tkV c i a t 0 + t) / 4294967296 % 4294967296), .int .u32 ((tkV c i a t 0 + t) / 18446744073709551616 % 4294967296)] [.int .u32 ((tkV c i a t 0 + t) % 4294967296), .int .u32 ((tkV c i a t 0 + t) / 4294967296 % 4294967296), .int .u32 ((tkV c i a t 0 + t) / 18446744073709551616 % 4294967296)] rfl rfl (by kernel_rfl) (by simp [Value.oneCell']) R5.out (by simp) rfl ?_; intro wd b5 hg; have T5 := Aside0.mk b5; have T2 := Aside0.mk (seg.far R2.out hg (by have := JL.out; omega)); have TB := Aside0.mk (seg.below RB.out hg (by have := JS.out; omega)); have h0_ : wd.cell? ⟨wr.heap.size, 0, none⟩ = some (.int .i64 16) := (blk_cell (seg.far R8.out hg (Nat.ne_of_gt QL.out)) 0).trans rfl; clear b5 hg g0_))
      go_roundg 3
      case measure => have := HI.out; omega
      case rel => exact ⟨1, 1, 16, by first | rfl | simp, by first | rfl | simp, ⟨by decide, by decide, rfl, rfl⟩, ⟨by have h := T5.out; rw [show tkV c i a t 0 + t = tkV c i a t 1 from by simp only [tkV]; omega] at h; exact h⟩, T2, TB⟩
    · obtain ⟨rfl, rfl⟩ : ii = 1 ∧ aa = 16 := ⟨HI.out.2.2.1, HI.out.2.2.2⟩
      have hix := fun W : World => tk_ix1 W c i a t
      go_wp2_with (first | ((with_reducible refine gate_store (t := 63) (p := 8) rfl ?_); refine seg.list rfl rfl 63 (.tmp 8) _ rfl 63 wr.heap.size 0 #[.int .i64 0, .int .i64 0] #[.int .i64 21, .int .i64 a] [.int .i64 21, .int .i64 a] rfl rfl (by kernel_rfl) (by simp [Value.oneCell']) (blk_new wr _) (by simp) rfl ?_; intro wb b8 hg; have Q8 := Aside0.mk b8; have Q5 := Aside0.mk (seg.far (blk_alloc B5.out _) hg (Nat.ne_of_lt (blk_lt B5.out))); have Q2 := Aside0.mk (seg.far (blk_alloc B2.out _) hg (Nat.ne_of_lt (blk_lt B2.out))); have QB := Aside0.mk (seg.below (below_alloc HB.out _) hg HB.out.size); have QL := Aside0.mk (blk_lt B5.out); have f0_ : wb.cell? ⟨wr.heap.size, 0, none⟩ = some (.int .i64 21) := (blk_cell Q8.out 0).trans rfl; have f1_ : wb.cell? ⟨wr.heap.size, 1, none⟩ = some (.int .i64 a) := (blk_cell Q8.out 1).trans rfl; have x0_ : wb.cell? ⟨wa.heap.size, 0, none⟩ = some (.int .u32 (tkV c i a t 1 % 4294967296)) := (blk_cell Q5.out 0).trans rfl; have x1_ : wb.cell? ⟨wa.heap.size, 1, none⟩ = some (.int .u32 (tkV c i a t 1 / 4294967296 % 4294967296)) := (blk_cell Q5.out 1).trans rfl; have x2_ : wb.cell? ⟨wa.heap.size, 2, none⟩ = some (.int .u32 (tkV c i a t 1 / 18446744073709551616 % 4294967296)) := (blk_cell Q5.out 2).trans rfl; clear b8 hg) | (go_at_call 27; refine (tk_put _ (tkV c i a t 1) a 16 21 (by have := HR.out; simp only [tkV]; omega) (by have := HR.out; omega) (by decide) (by decide) (by decide)).mono ?_; rintro e wc ⟨rfl, hb⟩; have R5 := Aside0.mk (blk_below Q5.out hb); have R2 := Aside0.mk (blk_below Q2.out hb); have RB := Aside0.mk (below_then QB.out QB.out.size hb); have g0_ : wc.cell? ⟨wr.heap.size, 0, none⟩ = some (.int .i64 21) := (blk_cell (blk_below Q8.out hb) 0).trans rfl; have R8 := Aside0.mk (blk_below Q8.out hb); clear hb f0_ f1_ x0_ x1_ x2_) | ((with_reducible refine gate_store (t := 24) (p := 5) rfl ?_); refine seg.list rfl rfl 24 (.tmp 5) _ rfl 24 (wa.heap.size) 0 #[.int .u32 (tkV c i a t 1 % 4294967296), .int .u32 (tkV c i a t 1 / 4294967296 % 4294967296), .int .u32 (tkV c i a t 1 / 18446744073709551616 % 4294967296)] #[.int .u32 ((tkV c i a t 1 + a * 2 ^ 16) % 4294967296), .int .u32 ((tkV c i a t 1 + a * 2 ^ 16) / 4294967296 % 4294967296), .int .u32 ((tkV c i a t 1 + a * 2 ^ 16) / 18446744073709551616 % 4294967296)] [.int .u32 ((tkV c i a t 1 + a * 2 ^ 16) % 4294967296), .int .u32 ((tkV c i a t 1 + a * 2 ^ 16) / 4294967296 % 4294967296), .int .u32 ((tkV c i a t 1 + a * 2 ^ 16) / 18446744073709551616 % 4294967296)] rfl rfl (by kernel_rfl) (by simp [Value.oneCell']) R5.out (by simp) rfl ?_; intro wd b5 hg; have T5 := Aside0.mk b5; have T2 := Aside0.mk (seg.far R2.out hg (by have := JL.out; omega)); have TB := Aside0.mk (seg.below RB.out hg (by have := JS.out; omega)); have h0_ : wd.cell? ⟨wr.heap.size, 0, none⟩ = some (.int .i64 21) := (blk_cell (seg.far R8.out hg (Nat.ne_of_gt QL.out)) 0).trans rfl; clear b5 hg g0_))
      go_roundg 2
      case measure => have := HI.out; omega
      case rel => exact ⟨2, 2, 37, by first | rfl | simp, by first | rfl | simp, ⟨by decide, by decide, rfl, rfl⟩, ⟨by have h := T5.out; rw [show tkV c i a t 1 + a * 2 ^ 16 = tkV c i a t 2 from by simp only [tkV]; omega] at h; exact h⟩, T2, TB⟩
    · obtain ⟨rfl, rfl⟩ : ii = 2 ∧ aa = 37 := ⟨HI.out.2.2.1, HI.out.2.2.2⟩
      have hix := fun W : World => tk_ix2 W c i a t
      go_wp2_with (first | ((with_reducible refine gate_store (t := 63) (p := 8) rfl ?_); refine seg.list rfl rfl 63 (.tmp 8) _ rfl 63 wr.heap.size 0 #[.int .i64 0, .int .i64 0] #[.int .i64 20, .int .i64 i] [.int .i64 20, .int .i64 i] rfl rfl (by kernel_rfl) (by simp [Value.oneCell']) (blk_new wr _) (by simp) rfl ?_; intro wb b8 hg; have Q8 := Aside0.mk b8; have Q5 := Aside0.mk (seg.far (blk_alloc B5.out _) hg (Nat.ne_of_lt (blk_lt B5.out))); have Q2 := Aside0.mk (seg.far (blk_alloc B2.out _) hg (Nat.ne_of_lt (blk_lt B2.out))); have QB := Aside0.mk (seg.below (below_alloc HB.out _) hg HB.out.size); have QL := Aside0.mk (blk_lt B5.out); have f0_ : wb.cell? ⟨wr.heap.size, 0, none⟩ = some (.int .i64 20) := (blk_cell Q8.out 0).trans rfl; have f1_ : wb.cell? ⟨wr.heap.size, 1, none⟩ = some (.int .i64 i) := (blk_cell Q8.out 1).trans rfl; have x0_ : wb.cell? ⟨wa.heap.size, 0, none⟩ = some (.int .u32 (tkV c i a t 2 % 4294967296)) := (blk_cell Q5.out 0).trans rfl; have x1_ : wb.cell? ⟨wa.heap.size, 1, none⟩ = some (.int .u32 (tkV c i a t 2 / 4294967296 % 4294967296)) := (blk_cell Q5.out 1).trans rfl; have x2_ : wb.cell? ⟨wa.heap.size, 2, none⟩ = some (.int .u32 (tkV c i a t 2 / 18446744073709551616 % 4294967296)) := (blk_cell Q5.out 2).trans rfl; clear b8 hg) | (go_at_call 27; refine (tk_put _ (tkV c i a t 2) i 37 20 (by have := HR.out; simp only [tkV]; omega) (by have := HR.out; omega) (by decide) (by decide) (by decide)).mono ?_; rintro e wc ⟨rfl, hb⟩; have R5 := Aside0.mk (blk_below Q5.out hb); have R2 := Aside0.mk (blk_below Q2.out hb); have RB := Aside0.mk (below_then QB.out QB.out.size hb); have g0_ : wc.cell? ⟨wr.heap.size, 0, none⟩ = some (.int .i64 20) := (blk_cell (blk_below Q8.out hb) 0).trans rfl; have R8 := Aside0.mk (blk_below Q8.out hb); clear hb f0_ f1_ x0_ x1_ x2_) | ((with_reducible refine gate_store (t := 24) (p := 5) rfl ?_); refine seg.list rfl rfl 24 (.tmp 5) _ rfl 24 (wa.heap.size) 0 #[.int .u32 (tkV c i a t 2 % 4294967296), .int .u32 (tkV c i a t 2 / 4294967296 % 4294967296), .int .u32 (tkV c i a t 2 / 18446744073709551616 % 4294967296)] #[.int .u32 ((tkV c i a t 2 + i * 2 ^ 37) % 4294967296), .int .u32 ((tkV c i a t 2 + i * 2 ^ 37) / 4294967296 % 4294967296), .int .u32 ((tkV c i a t 2 + i * 2 ^ 37) / 18446744073709551616 % 4294967296)] [.int .u32 ((tkV c i a t 2 + i * 2 ^ 37) % 4294967296), .int .u32 ((tkV c i a t 2 + i * 2 ^ 37) / 4294967296 % 4294967296), .int .u32 ((tkV c i a t 2 + i * 2 ^ 37) / 18446744073709551616 % 4294967296)] rfl rfl (by kernel_rfl) (by simp [Value.oneCell']) R5.out (by simp) rfl ?_; intro wd b5 hg; have T5 := Aside0.mk b5; have T2 := Aside0.mk (seg.far R2.out hg (by have := JL.out; omega)); have TB := Aside0.mk (seg.below RB.out hg (by have := JS.out; omega)); have h0_ : wd.cell? ⟨wr.heap.size, 0, none⟩ = some (.int .i64 20) := (blk_cell (seg.far R8.out hg (Nat.ne_of_gt QL.out)) 0).trans rfl; clear b5 hg g0_))
      go_roundg 1
      case measure => have := HI.out; omega
      case rel => exact ⟨3, 3, 57, by first | rfl | simp, by first | rfl | simp, ⟨by decide, by decide, rfl, rfl⟩, ⟨by have h := T5.out; rw [show tkV c i a t 2 + i * 2 ^ 37 = tkV c i a t 3 from by simp only [tkV]; omega] at h; exact h⟩, T2, TB⟩
    · obtain ⟨rfl, rfl⟩ : ii = 3 ∧ aa = 57 := ⟨HI.out.2.2.1, HI.out.2.2.2⟩
      have hix := fun W : World => tk_ix3 W c i a t
      go_wp2_with (first | ((with_reducible refine gate_store (t := 63) (p := 8) rfl ?_); refine seg.list rfl rfl 63 (.tmp 8) _ rfl 63 wr.heap.size 0 #[.int .i64 0, .int .i64 0] #[.int .i64 2, .int .i64 c] [.int .i64 2, .int .i64 c] rfl rfl (by kernel_rfl) (by simp [Value.oneCell']) (blk_new wr _) (by simp) rfl ?_; intro wb b8 hg; have Q8 := Aside0.mk b8; have Q5 := Aside0.mk (seg.far (blk_alloc B5.out _) hg (Nat.ne_of_lt (blk_lt B5.out))); have Q2 := Aside0.mk (seg.far (blk_alloc B2.out _) hg (Nat.ne_of_lt (blk_lt B2.out))); have QB := Aside0.mk (seg.below (below_alloc HB.out _) hg HB.out.size); have QL := Aside0.mk (blk_lt B5.out); have f0_ : wb.cell? ⟨wr.heap.size, 0, none⟩ = some (.int .i64 2) := (blk_cell Q8.out 0).trans rfl; have f1_ : wb.cell? ⟨wr.heap.size, 1, none⟩ = some (.int .i64 c) := (blk_cell Q8.out 1).trans rfl; have x0_ : wb.cell? ⟨wa.heap.size, 0, none⟩ = some (.int .u32 (tkV c i a t 3 % 4294967296)) := (blk_cell Q5.out 0).trans rfl; have x1_ : wb.cell? ⟨wa.heap.size, 1, none⟩ = some (.int .u32 (tkV c i a t 3 / 4294967296 % 4294967296)) := (blk_cell Q5.out 1).trans rfl; have x2_ : wb.cell? ⟨wa.heap.size, 2, none⟩ = some (.int .u32 (tkV c i a t 3 / 18446744073709551616 % 4294967296)) := (blk_cell Q5.out 2).trans rfl; clear b8 hg) | (go_at_call 27; refine (tk_put _ (tkV c i a t 3) c 57 2 (by have := HR.out; simp only [tkV]; omega) (by have := HR.out; omega) (by decide) (by decide) (by decide)).mono ?_; rintro e wc ⟨rfl, hb⟩; have R5 := Aside0.mk (blk_below Q5.out hb); have R2 := Aside0.mk (blk_below Q2.out hb); have RB := Aside0.mk (below_then QB.out QB.out.size hb); have g0_ : wc.cell? ⟨wr.heap.size, 0, none⟩ = some (.int .i64 2) := (blk_cell (blk_below Q8.out hb) 0).trans rfl; have R8 := Aside0.mk (blk_below Q8.out hb); clear hb f0_ f1_ x0_ x1_ x2_) | ((with_reducible refine gate_store (t := 24) (p := 5) rfl ?_); refine seg.list rfl rfl 24 (.tmp 5) _ rfl 24 (wa.heap.size) 0 #[.int .u32 (tkV c i a t 3 % 4294967296), .int .u32 (tkV c i a t 3 / 4294967296 % 4294967296), .int .u32 (tkV c i a t 3 / 18446744073709551616 % 4294967296)] #[.int .u32 ((tkV c i a t 3 + c * 2 ^ 57) % 4294967296), .int .u32 ((tkV c i a t 3 + c * 2 ^ 57) / 4294967296 % 4294967296), .int .u32 ((tkV c i a t 3 + c * 2 ^ 57) / 18446744073709551616 % 4294967296)] [.int .u32 ((tkV c i a t 3 + c * 2 ^ 57) % 4294967296), .int .u32 ((tkV c i a t 3 + c * 2 ^ 57) / 4294967296 % 4294967296), .int .u32 ((tkV c i a t 3 + c * 2 ^ 57) / 18446744073709551616 % 4294967296)] rfl rfl (by kernel_rfl) (by simp [Value.oneCell']) R5.out (by simp) rfl ?_; intro wd b5 hg; have T5 := Aside0.mk b5; have T2 := Aside0.mk (seg.far R2.out hg (by have := JL.out; omega)); have TB := Aside0.mk (seg.below RB.out hg (by have := JS.out; omega)); have h0_ : wd.cell? ⟨wr.heap.size, 0, none⟩ = some (.int .i64 2) := (blk_cell (seg.far R8.out hg (Nat.ne_of_gt QL.out)) 0).trans rfl; clear b5 hg g0_))
      go_roundg 0
      case measure => have := HI.out; omega
      case rel => exact ⟨4, 4, 59, by first | rfl | simp, by first | rfl | simp, ⟨by decide, by decide, rfl, rfl⟩, ⟨by have h := T5.out; rw [show tkV c i a t 3 + c * 2 ^ 57 = tkV c i a t 4 from by simp only [tkV]; omega] at h; exact h⟩, T2, TB⟩
    · obtain ⟨rfl, rfl⟩ : ii = 4 ∧ aa = 59 := ⟨HI.out.2.2.1, HI.out.2.2.2⟩
      have hV : 0 ≤ tkV c i a t 4 ∧ tkV c i a t 4 < 79228162514264337593543950336 := by have := HR.out; simp only [tkV]; omega
      have HT := Aside0.mk (fun W : World => words_Times.at_ W (tkV c i a t 4 % 4294967296) (tkV c i a t 4 / 4294967296 % 4294967296) (tkV c i a t 4 / 18446744073709551616 % 4294967296) 97 (by omega) (by omega) (by omega) ⟨by decide, by decide⟩)
      rw [tk_e3 hV] at HT
      have x0_ : wr.cell? ⟨wa.heap.size, 0, none⟩ = some (.int .u32 (tkV c i a t 4 % 4294967296)) := (blk_cell B5.out 0).trans rfl
      have x1_ : wr.cell? ⟨wa.heap.size, 1, none⟩ = some (.int .u32 (tkV c i a t 4 / 4294967296 % 4294967296)) := (blk_cell B5.out 1).trans rfl
      have x2_ : wr.cell? ⟨wa.heap.size, 2, none⟩ = some (.int .u32 (tkV c i a t 4 / 18446744073709551616 % 4294967296)) := (blk_cell B5.out 2).trans rfl
      obtain ⟨d0, hd0⟩ : ∃ d0, tkV c i a t 4 * 97 % 4294967296 = d0 := ⟨_, rfl⟩
      obtain ⟨d1, hd1⟩ : ∃ d1, tkV c i a t 4 * 97 / 4294967296 % 4294967296 = d1 := ⟨_, rfl⟩
      obtain ⟨d2, hd2⟩ : ∃ d2, tkV c i a t 4 * 97 / 18446744073709551616 % 4294967296 = d2 := ⟨_, rfl⟩
      rw [hd0, hd1, hd2] at HT
      have HD := Aside0.mk (And.intro hd0 (And.intro hd1 hd2))
      clear hV hd0 hd1 hd2
      go_upto_region 13 with (first | (go_at_call 28; refine (HT.out _).mono ?_; rintro e wb ⟨rfl, hb⟩; have Q5 := Aside0.mk (blk_below B5.out hb); have Q2 := Aside0.mk (blk_below B2.out hb); have QB := Aside0.mk (below_then HB.out HB.out.size hb); clear hb x0_ x1_ x2_) | ((with_reducible refine gate_store (t := 24) (p := 5) rfl ?_); refine seg.list rfl rfl 24 (.tmp 5) _ rfl 24 wa.heap.size 0 #[.int .u32 (tkV c i a t 4 % 4294967296), .int .u32 (tkV c i a t 4 / 4294967296 % 4294967296), .int .u32 (tkV c i a t 4 / 18446744073709551616 % 4294967296)] #[.int .u32 d0, .int .u32 d1, .int .u32 d2] [.int .u32 d0, .int .u32 d1, .int .u32 d2] rfl rfl (by kernel_rfl) (by simp [Value.oneCell']) Q5.out (by simp) rfl ?_; intro wc b5 hg; have R5 := Aside0.mk b5; have R2 := Aside0.mk (seg.far Q2.out hg (by have := JL.out; omega)); have RB := Aside0.mk (seg.below QB.out hg (by have := JS.out; omega)); clear b5 hg))
      have z0_ : wc.cell? ⟨wa.heap.size, 0, none⟩ = some (.int .u32 d0) := (blk_cell R5.out 0).trans rfl
      have z1_ : wc.cell? ⟨wa.heap.size, 1, none⟩ = some (.int .u32 d1) := (blk_cell R5.out 1).trans rfl
      have z2_ : wc.cell? ⟨wa.heap.size, 2, none⟩ = some (.int .u32 d2) := (blk_cell R5.out 2).trans rfl
      go_wp2_with ((with_reducible refine gate_store (t := 24) (p := 2) rfl ?_); refine seg.list rfl rfl 24 (.tmp 2) _ rfl 24 (w.heap.size + 1) 0 #[.int .u32 0, .int .u32 0, .int .u32 0] #[.int .u32 d0, .int .u32 d1, .int .u32 d2] [.int .u32 d0, .int .u32 d1, .int .u32 d2] rfl rfl (by kernel_rfl) (by simp [Value.oneCell']) R2.out (by simp) rfl ?_; intro w9 bx hgr)
      refine bodyPost_ret (results_ct (p := 2) (u := 3) rfl _ w9 (w.heap.size + 1) 24 _ (0, 0) _ rfl bx Try.underlying24 rfl (by kernel_rfl)) rfl ?_
      obtain ⟨hd0, hd1, hd2⟩ := HD.out
      exact ⟨by rw [← hd0, ← hd1, ← hd2]; rfl, seg.below RB.out hgr (Nat.le_succ _)⟩

/-! ### token_Words: function 10 (by hand) -/
def token_Words.f (a0_0 : Int) (a0_1 : Int) (a0_2 : Int) (a0_3 : Int) : Option (Int × Int × Int × Int) := (token_fault.f a0_0 a0_1 a0_2 a0_3).bind fun er => if er = 0 then (if (0 ≤ a0_0 ∧ a0_0 ≤ 3) ∧ (0 ≤ a0_1 ∧ a0_1 ≤ 1048575) ∧ (0 ≤ a0_2 ∧ a0_2 ≤ 2097151) ∧ (0 ≤ a0_3 ∧ a0_3 ≤ 65535) then some ((((a0_3 + a0_2 * 65536 + a0_1 * 137438953472 + a0_0 * 144115188075855872) * 97)) % 4294967296, (((a0_3 + a0_2 * 65536 + a0_1 * 137438953472 + a0_0 * 144115188075855872) * 97)) / 4294967296 % 4294967296, (((a0_3 + a0_2 * 65536 + a0_1 * 137438953472 + a0_0 * 144115188075855872) * 97)) / 18446744073709551616 % 4294967296, 0) else none) else some (0, 0, 0, er)
theorem token_Words.calls (a0_0 : Int) (a0_1 : Int) (a0_2 : Int) (a0_3 : Int) (r1 : Int) (r2 : Int) (r3 : Int) (r4 : Int) (w : World) (h : token_Words.f a0_0 a0_1 a0_2 a0_3 = some (r1, r2, r3, r4)) :
    Calls Try.prog 10 #[.agg #[.int .i64 a0_0, .int .i64 a0_1, .int .i64 a0_2, .int .i64 a0_3]] w fun e w' => e = .returned (.tuple #[.agg #[.int .u32 r1, .int .u32 r2, .int .u32 r3], .int .i64 r4]) ∧ Below w.heap.size w w' := by
  unfold token_Words.f at h
  obtain ⟨er, hf, h⟩ := Option.bind_eq_some_iff.mp h
  split at h
  · rename_i h0
    subst h0
    split at h
    · rename_i hc
      simp only [Option.some.injEq, Prod.mk.injEq] at h
      obtain ⟨rfl, rfl, rfl, rfl⟩ := h
      exact token_Words.at_ w a0_0 a0_1 a0_2 a0_3 hf hc.1 hc.2.1 hc.2.2.1 hc.2.2.2
    · cases h
  · rename_i h0
    simp only [Option.some.injEq, Prod.mk.injEq] at h
    obtain ⟨rfl, rfl, rfl, rfl⟩ := h
    exact token_Words.bad w a0_0 a0_1 a0_2 a0_3 er hf h0

/-! ### bits_Mul32: function 63 -/
def bits_Mul32.f (a0 : Int) (a1 : Int) : Option (Int × Int) := some (((IntKind.u64.wrap ((IntKind.u64.wrap (a0)) * (IntKind.u64.wrap (a1)))) / 4294967296) % 4294967296, (IntKind.u64.wrap ((IntKind.u64.wrap (a0)) * (IntKind.u64.wrap (a1)))) % 4294967296)
set_option maxHeartbeats 8000000 in
set_option maxRecDepth 100000 in
theorem bits_Mul32.calls (a0 : Int) (a1 : Int) (r1 : Int) (r2 : Int) (w : World) (h : bits_Mul32.f a0 a1 = some (r1, r2)) :
    Calls Try.prog 63 #[.int .u32 a0, .int .u32 a1] w fun e w' => e = .returned (.tuple #[.int .u32 r1, .int .u32 r2]) ∧ Drawn0 w w' := by
  have H : (some (((IntKind.u64.wrap ((IntKind.u64.wrap (a0)) * (IntKind.u64.wrap (a1)))) / 4294967296) % 4294967296, (IntKind.u64.wrap ((IntKind.u64.wrap (a0)) * (IntKind.u64.wrap (a1)))) % 4294967296)) = some (r1, r2) := h
  clear h
  simp only [Option.some.injEq, Prod.mk.injEq] at H
  obtain ⟨rfl, rfl⟩ := H
  go_enter Try.func63, Try.ntmps63
  go_wp2
  go_ret2
  exact ⟨by first | rfl | (simp; done) | (simp [*]; done), by repeat (first | exact Drawn0.refl _ | apply Drawn0.step)⟩

/-! ### bits_Mul64: function 91 -/
def bits_Mul64.f (a0 : Int) (a1 : Int) : Option (Int × Int) := some (IntKind.u64.wrap ((IntKind.u64.wrap ((IntKind.u64.wrap ((a0 / 4294967296) * (a1 / 4294967296))) + ((IntKind.u64.wrap ((IntKind.u64.wrap ((a0 / 4294967296) * (Go.bits .and .u64 a1 4294967295))) + ((IntKind.u64.wrap ((Go.bits .and .u64 a0 4294967295) * (Go.bits .and .u64 a1 4294967295))) / 4294967296))) / 4294967296))) + ((IntKind.u64.wrap ((Go.bits .and .u64 (IntKind.u64.wrap ((IntKind.u64.wrap ((a0 / 4294967296) * (Go.bits .and .u64 a1 4294967295))) + ((IntKind.u64.wrap ((Go.bits .and .u64 a0 4294967295) * (Go.bits .and .u64 a1 4294967295))) / 4294967296))) 4294967295) + (IntKind.u64.wrap ((Go.bits .and .u64 a0 4294967295) * (a1 / 4294967296))))) / 4294967296)), IntKind.u64.wrap (a0 * a1))
set_option maxHeartbeats 8000000 in
set_option maxRecDepth 100000 in
theorem bits_Mul64.calls (a0 : Int) (a1 : Int) (r1 : Int) (r2 : Int) (w : World) (h : bits_Mul64.f a0 a1 = some (r1, r2)) :
    Calls Try.prog 91 #[.int .u64 a0, .int .u64 a1] w fun e w' => e = .returned (.tuple #[.int .u64 r1, .int .u64 r2]) ∧ Drawn0 w w' := by
  have H : (some (IntKind.u64.wrap ((IntKind.u64.wrap ((IntKind.u64.wrap ((a0 / 4294967296) * (a1 / 4294967296))) + ((IntKind.u64.wrap ((IntKind.u64.wrap ((a0 / 4294967296) * (Go.bits .and .u64 a1 4294967295))) + ((IntKind.u64.wrap ((Go.bits .and .u64 a0 4294967295) * (Go.bits .and .u64 a1 4294967295))) / 4294967296))) / 4294967296))) + ((IntKind.u64.wrap ((Go.bits .and .u64 (IntKind.u64.wrap ((IntKind.u64.wrap ((a0 / 4294967296) * (Go.bits .and .u64 a1 4294967295))) + ((IntKind.u64.wrap ((Go.bits .and .u64 a0 4294967295) * (Go.bits .and .u64 a1 4294967295))) / 4294967296))) 4294967295) + (IntKind.u64.wrap ((Go.bits .and .u64 a0 4294967295) * (a1 / 4294967296))))) / 4294967296)), IntKind.u64.wrap (a0 * a1))) = some (r1, r2) := h
  clear h
  simp only [Option.some.injEq, Prod.mk.injEq] at H
  obtain ⟨rfl, rfl⟩ := H
  go_enter Try.func91, Try.ntmps91
  go_wp2
  go_ret2
  exact ⟨by first | rfl | (simp; done) | (simp [*]; done), by repeat (first | exact Drawn0.refl _ | apply Drawn0.step)⟩

/-! ### bits_Mul: function 70 -/
def bits_Mul.f (a0 : Int) (a1 : Int) : Option (Int × Int) := (bits_Mul64.f a0 a1).bind fun bt121 => (some (bt121.1, bt121.2))
set_option maxHeartbeats 8000000 in
set_option maxRecDepth 100000 in
theorem bits_Mul.calls (a0 : Int) (a1 : Int) (r1 : Int) (r2 : Int) (w : World) (h : bits_Mul.f a0 a1 = some (r1, r2)) :
    Calls Try.prog 70 #[.int .u64 a0, .int .u64 a1] w fun e w' => e = .returned (.tuple #[.int .u64 r1, .int .u64 r2]) ∧ Drawn0 w w' := by
  have H : ((bits_Mul64.f a0 a1).bind fun bt121 => (some (bt121.1, bt121.2))) = some (r1, r2) := h
  clear h
  replace H := Option.bind_eq_some_iff.mp H
  obtain ⟨⟨t121, t122⟩, A30, H⟩ := H
  replace H : (some (t121, t122)) = some (r1, r2) := H
  have A3 := Aside0.mk A30
  clear A30
  simp only [Option.some.injEq, Prod.mk.injEq] at H
  obtain ⟨rfl, rfl⟩ := H
  go_enter Try.func70, Try.ntmps70
  go_wp2_with (first | ((with_reducible refine gate_callee (f := 91) rfl ?_); refine goesL_ (some 25) rfl rfl Try.func91 (by kernel_rfl) rfl #[.int .u64 a0, .int .u64 a1] rfl (by (try simp only [List.map_toArray, List.map_cons, List.map_nil]); first | done | rfl | (simp only [List.length_drop, List.length_take]; rfl)) ?_; (with_reducible refine (bits_Mul64.calls a0 a1 t121 t122 _ A3.out).mono ?_); rintro e w' ⟨rfl, ⟨nd, rfl⟩⟩; refine ⟨_, rfl, ?_⟩))
  go_ret2
  exact ⟨by first | rfl | (simp; done) | (simp [*]; done), by repeat (first | exact Drawn0.refl _ | apply Drawn0.step)⟩

end Go.Proofs.Ytoookcmablnjfaa.PTokenFormats
