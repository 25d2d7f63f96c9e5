/- vendmeterlaw.WorldBegins returns true at every terms and every two numbers: world.Begin answers as the reference does, and the terms are as they were. No condition. -/
import Derived.Test.YtoookcmablnjfaaPWorldBeginsxL
import Derived.Test.YtoookcmablnjfaaXWorldBeginsLib
set_option linter.unusedVariables false
set_option linter.unusedSimpArgs false
namespace Go.Proofs.Ytoookcmablnjfaa.Pure
open Go.RowKit Go.Proofs.Ytoookcmablnjfaa.PWorldBegins Go.Proofs.YtoookcmablnjfaaW.PrintWords Go.Proofs.YtoookcmablnjfaaW.PrintLast Go.Proofs.YtoookcmablnjfaaW.PrintMore Go.Proofs.YtoookcmablnjfaaW.XLib

theorem vendmeterref_In.eq (a b c : Int) : vendmeterref_In.f a b c = some (decide (b ≤ a ∧ a ≤ c)) := by
  unfold vendmeterref_In.f
  by_cases h : b ≤ a
  · rw [if_pos h]; simp [h]
  · rw [if_neg h]; simp [h]
theorem rd_step (l : List S126) (i : Nat) : rd_T126 l (i : Int) = l.getD i z126 := Eq.trans rfl rfl
def tarFault (l : List S126) : Int := if (l.length : Int) < 1 then 1 else if (l.length : Int) > 8 then 1 else if l.any tariff_Check.bad = true then 2 else if tariff_Check.rising l = true then (if (rd_T126 l ((l.length : Int) - 1)).f0 = 10000000 then 0 else 3) else 3
theorem tariff_Check.eq (l : List S126) : tariff_Check.f l = some (tarFault l) := by
  unfold tariff_Check.f tarFault
  repeat' split
  all_goals rfl
theorem vendmeterref_TariffFault.ev (l : List S126) : Ev (fun k => vendmeterref_TariffFault.f k l) (tarFault l) := by
  unfold vendmeterref_TariffFault.f tarFault
  simp only [vendmeterref_In.eq, Option.bind_some]
  by_cases h1 : (l.length : Int) < 1
  · rw [if_pos h1]; exact Ev.neg (by rw [decide_eq_true_eq]; omega) (Ev.now _)
  rw [if_neg h1]
  by_cases h8 : (l.length : Int) > 8
  · rw [if_pos h8]; exact Ev.neg (by rw [decide_eq_true_eq]; omega) (Ev.now _)
  rw [if_neg h8]
  refine Ev.pos (decide_eq_true (by omega)) ?_
  by_cases hb : l.any tariff_Check.bad = true
  · rw [if_pos hb]
    have key : ∀ d i : Nat, i + d = l.length → (l.drop i).any tariff_Check.bad = true → Ev (fun k => vendmeterref_TariffFault.l0 k l (i : Int)) 2 := by
      intro d
      induction d with
      | zero => intro i hi h; rw [List.drop_of_length_le (by omega)] at h; simp at h
      | succ d ih =>
        intro i hi h
        rw [drop_getD l i z126 (by omega), List.any_cons] at h
        by_cases hs : tariff_Check.bad (l.getD i z126) = true
        · simp only [tariff_Check.bad, Bool.or_eq_true, decide_eq_true_eq] at hs
          refine Ev.step (f := fun _ => some 2) (fun k => ?_) (Ev.now _)
          simp only [vendmeterref_TariffFault.l0, rd_step, vendmeterref_In.eq, Option.bind_some]; rw [if_pos (by omega), if_pos (by omega)]
          by_cases h0 : 1 ≤ (l.getD i z126).f0 ∧ (l.getD i z126).f0 ≤ 10000000
          · rw [if_pos (decide_eq_true h0), if_neg (by rw [decide_eq_true_eq]; omega)]
          · rw [if_neg (by rw [decide_eq_true_eq]; exact h0)]
        · rw [Bool.eq_false_iff.mpr hs, Bool.false_or] at h
          simp only [tariff_Check.bad, Bool.or_eq_true, decide_eq_true_eq] at hs
          refine Ev.step (f := fun k => vendmeterref_TariffFault.l0 k l ((i + 1 : Nat) : Int)) (fun k => ?_) (ih (i + 1) (by omega) h)
          simp only [vendmeterref_TariffFault.l0, rd_step, vendmeterref_In.eq, Option.bind_some]; rw [if_pos (by omega), if_pos (by omega), wn (show i < l.length by omega) (by omega)]
          rw [if_pos (decide_eq_true (by omega)), if_pos (decide_eq_true (by omega))]
    exact key l.length 0 (by omega) hb
  rw [if_neg hb]
  have hb' := Bool.eq_false_iff.mpr hb
  have key0 : ∀ {r : Int}, Ev (fun k => vendmeterref_TariffFault.l1 k l 1) r → Ev (fun k => vendmeterref_TariffFault.l0 k l 0) r := by
    intro r hr
    refine down (P := fun i => Ev (fun k => vendmeterref_TariffFault.l0 k l (i : Int)) r) (n := l.length) ?_ ?_
    · refine Ev.step (fun k => ?_) hr
      simp only [vendmeterref_TariffFault.l0]; rw [if_neg (by omega)]
    · intro i hi h
      have hs := (List.any_eq_false.1 hb') _ (getD_mem l i z126 hi)
      simp only [tariff_Check.bad, Bool.or_eq_true, decide_eq_true_eq] at hs
      refine Ev.step (fun k => ?_) h
      simp only [vendmeterref_TariffFault.l0, rd_step, vendmeterref_In.eq, Option.bind_some]; rw [if_pos (by omega), if_pos (by omega), wn hi (by omega)]
      rw [if_pos (decide_eq_true (by omega)), if_pos (decide_eq_true (by omega))]
  apply key0
  have hlen : 1 ≤ l.length := by omega
  have step : ∀ (k i : Nat), 1 ≤ i → i < l.length → vendmeterref_TariffFault.l1 (k + 1) l (i : Int) = if (rd_T126 l (i : Int)).f0 ≤ (rd_T126 l ((i : Int) - 1)).f0 then some 3 else vendmeterref_TariffFault.l1 k l ((i + 1 : Nat) : Int) := by
    intro k i h0 hi
    simp only [vendmeterref_TariffFault.l1]
    rw [wr (a := (i : Int) - 1) ⟨by omega, by omega⟩, if_pos (by omega), if_pos (by omega), if_pos (by omega), if_pos (by omega), wn hi (by omega)]
  have last : ∀ k, vendmeterref_TariffFault.l1 (k + 1) l (l.length : Int) = if (rd_T126 l ((l.length : Int) - 1)).f0 = 10000000 then some 0 else some 3 := by
    intro k
    simp only [vendmeterref_TariffFault.l1]
    rw [wr (a := (l.length : Int) - 1) ⟨by omega, by omega⟩, if_neg (by omega), if_pos (by omega), if_pos (by omega)]
  by_cases hr : tariff_Check.rising l = true
  · rw [if_pos hr]
    have hri := (tariff_Check.rising_iff l).1 hr
    refine downFrom (P := fun i => Ev (fun k => vendmeterref_TariffFault.l1 k l (i : Int)) _) (m := 1) (n := l.length) hlen ?_ ?_
    · refine Ev.step last ?_
      exact Ev.iteR (fun _ => Ev.now _) (fun _ => Ev.now _)
    · intro i h0 hi h
      refine Ev.step (f := fun k => vendmeterref_TariffFault.l1 k l ((i + 1 : Nat) : Int)) (fun k => ?_) h
      rw [step k i h0 hi, if_neg]
      have := hri (i - 1) (by omega)
      rw [show (((i - 1 : Nat) : Nat) : Int) = (i : Int) - 1 by omega, show (i : Int) - 1 + 1 = (i : Int) by omega] at this
      omega
  · rw [if_neg hr]
    have hex : ∃ i : Nat, 1 ≤ i ∧ i < l.length ∧ (rd_T126 l (i : Int)).f0 ≤ (rd_T126 l ((i : Int) - 1)).f0 := by
      refine Classical.not_not.1 fun hn => hr ((tariff_Check.rising_iff l).2 fun i hi => ?_)
      refine Classical.not_not.1 fun h => hn ⟨i + 1, by omega, hi, ?_⟩
      rw [show ((i + 1 : Nat) : Int) - 1 = (i : Int) by omega, show ((i + 1 : Nat) : Int) = (i : Int) + 1 by omega]
      omega
    obtain ⟨m, hm0, hm1, hm⟩ := hex
    refine downFrom (P := fun i => Ev (fun k => vendmeterref_TariffFault.l1 k l (i : Int)) 3) (m := 1) (n := m) hm0 ?_ ?_
    · refine Ev.step (f := fun _ => some 3) (fun k => ?_) (Ev.now _)
      rw [step k m hm0 hm1, if_pos hm]
    · intro i h0 hi h
      by_cases hc : (rd_T126 l (i : Int)).f0 ≤ (rd_T126 l ((i : Int) - 1)).f0
      · refine Ev.step (f := fun _ => some 3) (fun k => ?_) (Ev.now _)
        rw [step k i h0 (by omega), if_pos hc]
      · refine Ev.step (f := fun k => vendmeterref_TariffFault.l1 k l ((i + 1 : Nat) : Int)) (fun k => ?_) h
        rw [step k i h0 (by omega), if_neg hc]
theorem account_within.eq (a b c : Int) : account_within.f a b c = some (decide (b ≤ a ∧ a ≤ c)) := by
  unfold account_within.f
  by_cases h : b ≤ a
  · rw [if_pos h]; simp [h]
  · rw [if_neg h]; simp [h]
def termsF (l : List S126) (a b c d : Int) : Int := if tarFault l = 0 then (if (0 ≤ a ∧ a ≤ 100000) ∧ (0 ≤ b ∧ b ≤ 10000) ∧ (0 ≤ c ∧ c ≤ 10000) ∧ (0 ≤ d ∧ d ≤ 2097151) then 0 else 2) else tarFault l
theorem account_Check.eq (l : List S126) (a b c d : Int) : account_Check.f l a b c d = some (termsF l a b c d) := by
  unfold account_Check.f termsF
  rw [tariff_Check.eq]
  simp only [account_within.eq, Option.bind_some, decide_eq_true_eq]
  by_cases h0 : tarFault l = 0
  · rw [if_pos h0, if_pos h0]
    by_cases h1 : 0 ≤ a ∧ a ≤ 100000
    · rw [if_pos h1]
      by_cases h2 : 0 ≤ b ∧ b ≤ 10000
      · rw [if_pos h2]
        by_cases h3 : 0 ≤ c ∧ c ≤ 10000
        · rw [if_pos h3]
          by_cases h4 : 0 ≤ d ∧ d ≤ 2097151
          · rw [if_pos h4, if_pos ⟨h1, h2, h3, h4⟩]
          · rw [if_neg h4, if_neg (fun h => h4 h.2.2.2)]
        · rw [if_neg h3, if_neg (fun h => h3 h.2.2.1)]
      · rw [if_neg h2, if_neg (fun h => h2 h.2.1)]
    · rw [if_neg h1, if_neg (fun h => h1 h.1)]
  · rw [if_neg h0, if_neg h0]
theorem vendmeterref_TermsFault.ev (l : List S126) (a b c d : Int) : Ev (fun k => vendmeterref_TermsFault.f k l a b c d) (termsF l a b c d) := by
  unfold vendmeterref_TermsFault.f
  refine Ev.bind (vendmeterref_TariffFault.ev l) (Ev.some_ ?_)
  have h := account_Check.eq l a b c d
  unfold account_Check.f at h
  rw [tariff_Check.eq] at h
  simp only [vendmeterref_In.eq]
  simp only [account_within.eq] at h
  exact h
theorem vendmeterlaw_sameSteps.ev (l) (hl : l.length ≤ 1152921504606846976) : Ev (fun k => vendmeterlaw_sameSteps.f k l l) true := by
  unfold vendmeterlaw_sameSteps.f
  refine Ev.pos rfl (same_ev hl (fun k i hi => ?_) (fun k => ?_))
  · simp only [vendmeterlaw_sameSteps.l0]; rw [if_pos (by omega), if_pos (by omega), if_pos (by omega)]; simp
  · simp only [vendmeterlaw_sameSteps.l0]; rw [if_neg (by omega)]
theorem vendmeterlaw_sameTerms.ev (l : List S126) (a b c d : Int) (hl : l.length ≤ 1152921504606846976) : Ev (fun k => vendmeterlaw_sameTerms.f k l a b c d l a b c d) true := by
  unfold vendmeterlaw_sameTerms.f
  exact Ev.pos rfl (Ev.pos rfl (Ev.pos rfl (Ev.pos rfl (Ev.bind (vendmeterlaw_sameSteps.ev l hl) (Ev.now _)))))
theorem vendmeterlaw_steps.eq (l) (h : l.length * 16 ≤ 140737488351232) : vendmeterlaw_steps.f l = some l := by
  unfold vendmeterlaw_steps.f
  rw [if_pos (by simp only [List.length_nil]; omega)]; rfl
theorem vendmeterlaw_sameOracle.ev (l) (hl : l.length ≤ 1152921504606846976) : Ev (fun k => vendmeterlaw_sameOracle.f k l l) true := by
  unfold vendmeterlaw_sameOracle.f
  refine Ev.pos rfl (same_ev (l := fun k i => vendmeterlaw_sameOracle.l0 k i l l) hl (fun k i hi => ?_) (fun k => ?_))
  · simp only [vendmeterlaw_sameOracle.l0]; rw [if_pos (by omega), if_pos (by omega), if_pos (by omega)]; simp
  · simp only [vendmeterlaw_sameOracle.l0]; rw [if_neg (by omega)]
theorem vendmeterlaw_sameWords.ev (l) (hl : l.length ≤ 1152921504606846976) : Ev (fun k => vendmeterlaw_sameWords.f k l l) true := by
  unfold vendmeterlaw_sameWords.f
  refine Ev.pos rfl (same_ev hl (fun k i hi => ?_) (fun k => ?_))
  · simp only [vendmeterlaw_sameWords.l0]; rw [if_pos (by omega), if_pos (by omega), if_pos (by omega)]; simp
  · simp only [vendmeterlaw_sameWords.l0]; rw [if_neg (by omega)]
theorem rd_rec (l : List (List Int)) (i : Nat) : rd_L3 l (i : Int) = l.getD i [] := Eq.trans rfl rfl
theorem vendmeterlaw_sameRecords.ev (l : List (List Int)) (hl : l.length ≤ 4096) (hr : ∀ r ∈ l, r.length ≤ 4096) : Ev (fun k => vendmeterlaw_sameRecords.f k l l) true := by
  unfold vendmeterlaw_sameRecords.f
  refine Ev.pos rfl ?_
  refine down (P := fun i => Ev (fun k => vendmeterlaw_sameRecords.l0 k l l (i : Int)) true) (n := l.length) ?_ (fun i hi h => ?_)
  · refine Ev.step (f := fun _ => some true) (fun k => ?_) (Ev.now _)
    simp only [vendmeterlaw_sameRecords.l0]; rw [if_neg (by omega)]
  · have hw := vendmeterlaw_sameWords.ev (l.getD i []) (by have := hr _ (getD_mem l i [] hi); omega)
    refine Ev.step (f := fun k => (vendmeterlaw_sameWords.f k (l.getD i []) (l.getD i [])).bind fun t => if t = true then vendmeterlaw_sameRecords.l0 k l l ((i + 1 : Nat) : Int) else some false) (fun k => ?_) (Ev.bind hw (Ev.pos rfl h))
    simp only [vendmeterlaw_sameRecords.l0, rd_rec]
    rw [if_pos (by omega), if_pos (by omega), if_pos (by omega), wn hi (by omega)]
def lenN (n : Nat) : Nat := if n = 0 then 0 else Nat.log2 n + 1
theorem lenN_le (n m : Nat) : lenN n ≤ m ↔ n < 2 ^ m := by
  unfold lenN
  by_cases h : n = 0
  · subst h; simp [Nat.two_pow_pos]
  · rw [if_neg h, Nat.succ_le_iff, Nat.log2_lt h]
theorem lenN_shift (n k : Nat) (h : 2 ^ k ≤ n) : lenN n = k + lenN (n / 2 ^ k) := by
  have key : ∀ m, lenN n ≤ m ↔ k + lenN (n / 2 ^ k) ≤ m := by
    intro m
    rw [lenN_le]
    rcases Nat.lt_or_ge m k with hm | hm
    · have h1 : 2 ^ m ≤ 2 ^ k := Nat.pow_le_pow_right (by decide) (by omega)
      constructor
      · intro h2; omega
      · intro h2; omega
    · obtain ⟨j, rfl⟩ : ∃ j, m = k + j := ⟨m - k, by omega⟩
      rw [show k + lenN (n / 2 ^ k) ≤ k + j ↔ lenN (n / 2 ^ k) ≤ j by omega, lenN_le, Nat.div_lt_iff_lt_mul (Nat.two_pow_pos k), Nat.pow_add, Nat.mul_comm]
  exact Nat.le_antisymm ((key _).2 (Nat.le_refl _)) ((key _).1 (Nat.le_refl _))
def len8 : ByteArray := (⟨#[0, 1, 2, 2, 3, 3, 3, 3, 4, 4, 4, 4, 4, 4, 4, 4, 5, 5, 5, 5, 5, 5, 5, 5, 5, 5, 5, 5, 5, 5, 5, 5, 6, 6, 6, 6, 6, 6, 6, 6, 6, 6, 6, 6, 6, 6, 6, 6, 6, 6, 6, 6, 6, 6, 6, 6, 6, 6, 6, 6, 6, 6, 6, 6, 7, 7, 7, 7, 7, 7, 7, 7, 7, 7, 7, 7, 7, 7, 7, 7, 7, 7, 7, 7, 7, 7, 7, 7, 7, 7, 7, 7, 7, 7, 7, 7, 7, 7, 7, 7, 7, 7, 7, 7, 7, 7, 7, 7, 7, 7, 7, 7, 7, 7, 7, 7, 7, 7, 7, 7, 7, 7, 7, 7, 7, 7, 7, 7, 8, 8, 8, 8, 8, 8, 8, 8, 8, 8, 8, 8, 8, 8, 8, 8, 8, 8, 8, 8, 8, 8, 8, 8, 8, 8, 8, 8, 8, 8, 8, 8, 8, 8, 8, 8, 8, 8, 8, 8, 8, 8, 8, 8, 8, 8, 8, 8, 8, 8, 8, 8, 8, 8, 8, 8, 8, 8, 8, 8, 8, 8, 8, 8, 8, 8, 8, 8, 8, 8, 8, 8, 8, 8, 8, 8, 8, 8, 8, 8, 8, 8, 8, 8, 8, 8, 8, 8, 8, 8, 8, 8, 8, 8, 8, 8, 8, 8, 8, 8, 8, 8, 8, 8, 8, 8, 8, 8, 8, 8, 8, 8, 8, 8, 8, 8, 8, 8, 8, 8, 8, 8, 8, 8, 8, 8, 8, 8]⟩ : ByteArray)
set_option maxRecDepth 100000 in
theorem bt_len8 : ∀ n : Nat, n < 256 → bt len8 (n : Int) = ((lenN n : Nat) : Int) := by decide +kernel
set_option maxRecDepth 100000 in
theorem len64_j_eq (k : Nat) (x o : Int) : bits_Len64.j0 (k + 1) x o = if x ≥ 65536 then (if x / 65536 ≥ 256 then (if 0 ≤ ((x / 65536 / 256) % 256) then (if ((x / 65536 / 256) % 256) < 256 then (some (wrap64 (wrap64 (wrap64 (o + 16) + 8) + (wrap64 (bt len8 ((x / 65536 / 256) % 256)))))) else none) else none) else (if 0 ≤ ((x / 65536) % 256) then (if ((x / 65536) % 256) < 256 then (some (wrap64 (wrap64 (o + 16) + (wrap64 (bt len8 ((x / 65536) % 256)))))) else none) else none)) else (if x ≥ 256 then (if 0 ≤ ((x / 256) % 256) then (if ((x / 256) % 256) < 256 then (some (wrap64 (wrap64 (o + 8) + (wrap64 (bt len8 ((x / 256) % 256)))))) else none) else none) else (if 0 ≤ (x % 256) then (if (x % 256) < 256 then (some (wrap64 (o + (wrap64 (bt len8 (x % 256)))))) else none) else none)) := rfl
theorem len64_j (x : Nat) (hx : x < 4294967296) (o : Nat) (ho : o ≤ 32) : Ev (fun k => bits_Len64.j0 k (x : Int) (o : Int)) ((o + lenN x : Nat) : Int) := by
  have hb : lenN x ≤ 32 := (lenN_le x 32).2 hx
  have e1 : ((x : Int) / 65536 / 256) % 256 = ((x / 65536 / 256 : Nat) : Int) := by omega
  refine Ev.step (f := fun _ => some ((o + lenN x : Nat) : Int)) (fun k => ?_) (Ev.now _)
  rw [len64_j_eq]
  by_cases h1 : 65536 ≤ x
  · have s1 := lenN_shift x 16 h1
    rw [if_pos (by omega)]
    by_cases h2 : 256 ≤ x / 65536
    · have s2 := lenN_shift (x / 65536) 8 h2
      rw [if_pos (by omega), e1, if_pos (by omega), if_pos (by omega), bt_len8 _ (by omega)]
      have s3 : lenN x = 24 + lenN (x / 65536 / 256) := by rw [s1]; simp only [Nat.reducePow] at s2 ⊢; rw [s2]; omega
      rw [wr (a := (o : Int) + 16) ⟨by omega, by omega⟩, wr (a := (o : Int) + 16 + 8) ⟨by omega, by omega⟩, wr (a := ((lenN (x / 65536 / 256) : Nat) : Int)) ⟨by omega, by omega⟩, wr ⟨by omega, by omega⟩]
      congr 1
      omega
    · have e2 : ((x : Int) / 65536) % 256 = ((x / 65536 : Nat) : Int) := by omega
      rw [if_neg (by omega), e2, if_pos (by omega), if_pos (by omega), bt_len8 _ (by omega)]
      have s3 : lenN x = 16 + lenN (x / 65536) := by rw [s1]
      rw [wr (a := (o : Int) + 16) ⟨by omega, by omega⟩, wr (a := ((lenN (x / 65536) : Nat) : Int)) ⟨by omega, by omega⟩, wr ⟨by omega, by omega⟩]
      congr 1
      omega
  · rw [if_neg (by omega)]
    by_cases h2 : 256 ≤ x
    · have s2 := lenN_shift x 8 h2
      have e2 : ((x : Int) / 256) % 256 = ((x / 256 : Nat) : Int) := by omega
      rw [if_pos (by omega), e2, if_pos (by omega), if_pos (by omega), bt_len8 _ (by omega)]
      have s3 : lenN x = 8 + lenN (x / 256) := by rw [s2]
      rw [wr (a := (o : Int) + 8) ⟨by omega, by omega⟩, wr (a := ((lenN (x / 256) : Nat) : Int)) ⟨by omega, by omega⟩, wr ⟨by omega, by omega⟩]
      congr 1
      omega
    · have e2 : (x : Int) % 256 = ((x : Nat) : Int) := by omega
      rw [if_neg (by omega), e2, if_pos (by omega), if_pos (by omega), bt_len8 _ (by omega), wr (a := ((lenN x : Nat) : Int)) ⟨by omega, by omega⟩, wr ⟨by omega, by omega⟩]
      congr 1
theorem bits_Len64.ev (x : Nat) (hx : x < 18446744073709551616) : Ev (fun k => bits_Len64.f k (x : Int)) ((lenN x : Nat) : Int) := by
  unfold bits_Len64.f
  by_cases h : 4294967296 ≤ x
  · have s := lenN_shift x 32 h
    refine Ev.pos (by omega) ?_
    have := len64_j (x / 4294967296) (by omega) 32 (by omega)
    rw [show ((x : Int) / 4294967296) = ((x / 4294967296 : Nat) : Int) by omega, s]
    exact this
  · refine Ev.neg (by omega) ?_
    have := len64_j x (by omega) 0 (by omega)
    rw [Nat.zero_add] at this
    exact this
theorem u64w {a : Int} (h : 0 ≤ a ∧ a < 18446744073709551616) : IntKind.u64.wrap a = a := by simp [IntKind.wrap, IntKind.bits, IntKind.signed]; omega
def memF (H : Int) (b : Nat) : Nat → List Int
  | 0 => []
  | i + 1 => (if b.testBit i then [H - (i : Int)] else []) ++ memF H b i
theorem memF_len (H : Int) (b : Nat) : ∀ i, (memF H b i).length ≤ i
  | 0 => Nat.le_refl _
  | i + 1 => by
    have := memF_len H b i
    simp only [memF, List.length_append]
    split <;> simp <;> omega
theorem memF_high (H : Int) (b : Nat) : ∀ d i, b < 2 ^ i → memF H b (i + d) = memF H b i
  | 0, _, _ => rfl
  | d + 1, i, h => by
    rw [← Nat.add_assoc]
    simp only [memF]
    rw [memF_high H b d i h, Nat.testBit_lt_two_pow (Nat.lt_of_lt_of_le h (Nat.pow_le_pow_right (by decide) (Nat.le_add_right i d)))]
    rfl
theorem top_bit (b : Nat) (h : b ≠ 0) : b.testBit (lenN b - 1) = true ∧ b < 2 ^ lenN b ∧ 1 ≤ lenN b := by
  have h1 : 1 ≤ lenN b := by unfold lenN; rw [if_neg h]; omega
  have h2 := (lenN_le b (lenN b)).1 (Nat.le_refl _)
  refine ⟨?_, h2, h1⟩
  have h3 : ¬ b < 2 ^ (lenN b - 1) := fun h4 => by have := (lenN_le b (lenN b - 1)).2 h4; omega
  rw [Nat.testBit_eq_decide_div_mod_eq, decide_eq_true_eq]
  have h5 : b / 2 ^ (lenN b - 1) < 2 := by
    rw [Nat.div_lt_iff_lt_mul (Nat.two_pow_pos _), Nat.mul_comm, ← Nat.pow_succ, show (lenN b - 1).succ = lenN b by omega]
    exact h2
  have h6 : 0 < b / 2 ^ (lenN b - 1) := Nat.div_pos (by omega) (Nat.two_pow_pos _)
  omega
theorem memF_cons (H : Int) (b : Nat) (h : b ≠ 0) (hb : b < 18446744073709551616) : memF H b 64 = (H - ((lenN b - 1 : Nat) : Int)) :: memF H b (lenN b - 1) := by
  obtain ⟨t, h2, h1⟩ := top_bit b h
  have h64 : lenN b ≤ 64 := (lenN_le b 64).2 hb
  have e := memF_high H b (64 - lenN b) (lenN b) h2
  rw [show lenN b + (64 - lenN b) = 64 by omega] at e
  rw [e]
  obtain ⟨m, hm⟩ : ∃ m, lenN b = m + 1 := ⟨lenN b - 1, by omega⟩
  rw [hm] at t ⊢
  simp only [memF, Nat.add_sub_cancel] at t ⊢
  rw [if_pos t]; rfl
theorem memF_zero (H : Int) : ∀ i, memF H 0 i = []
  | 0 => rfl
  | i + 1 => by simp [memF, memF_zero H i]
theorem memF_mem (H : Int) (b : Nat) (x : Int) : ∀ i, x ∈ memF H b i ↔ ∃ j, j < i ∧ b.testBit j = true ∧ x = H - (j : Int)
  | 0 => by simp [memF]
  | i + 1 => by
    simp only [memF, List.mem_append, memF_mem H b x i]
    constructor
    · rintro (h | ⟨j, h1, h2, h3⟩)
      · by_cases ht : b.testBit i = true
        · rw [if_pos ht] at h
          exact ⟨i, by omega, ht, by simpa using h⟩
        · rw [if_neg ht] at h
          simp at h
      · exact ⟨j, by omega, h2, h3⟩
    · rintro ⟨j, h1, h2, h3⟩
      by_cases hj : j = i
      · subst hj
        exact .inl (by rw [if_pos h2]; simpa using h3)
      · exact .inr ⟨j, by omega, h2, h3⟩
theorem memF_last (H : Int) (b : Nat) : ∀ i, 0 < (memF H b (i + 1)).length → ((memF H b (i + 1)).getD ((memF H b (i + 1)).length - 1) 0 = H ↔ b.testBit 0 = true)
  | 0, h => by
    simp only [memF, List.append_nil] at h ⊢
    by_cases ht : b.testBit 0 = true
    · simp [ht]
    · simp [ht] at h
  | i + 1, h => by
    by_cases he : 0 < (memF H b (i + 1)).length
    · have ih := memF_last H b i he
      have e : (memF H b (i + 1 + 1)).getD ((memF H b (i + 1 + 1)).length - 1) 0 = (memF H b (i + 1)).getD ((memF H b (i + 1)).length - 1) 0 := by
        rw [show memF H b (i + 1 + 1) = (if b.testBit (i + 1) then [H - ((i + 1 : Nat) : Int)] else []) ++ memF H b (i + 1) from rfl]
        rw [List.getD_eq_getElem?_getD, List.getD_eq_getElem?_getD, List.length_append, List.getElem?_append_right (by omega)]
        congr 2
        omega
      rw [e]
      exact ih
    · have h0 : memF H b (i + 1) = [] := List.eq_nil_of_length_eq_zero (by omega)
      have hb0 : ¬ b.testBit 0 = true := by
        intro ht
        have := (memF_mem H b (H - ((0 : Nat) : Int)) (i + 1)).2 ⟨0, by omega, ht, rfl⟩
        rw [h0] at this
        simp at this
      rw [show memF H b (i + 1 + 1) = (if b.testBit (i + 1) then [H - ((i + 1 : Nat) : Int)] else []) ++ memF H b (i + 1) from rfl, h0] at h ⊢
      by_cases ht : b.testBit (i + 1) = true
      · rw [if_pos ht]
        constructor
        · intro e
          have : H - ((i + 1 : Nat) : Int) = H := by simpa using e
          omega
        · intro e; exact absurd e hb0
      · rw [if_neg ht] at h
        simp at h
def mayW (H : Int) (b : Nat) : Bool := decide ((H = 0 ∧ b = 0) ∨ ((1 ≤ H ∧ H ≤ 1048575) ∧ b % 2 = 1 ∧ ((lenN b : Nat) : Int) ≤ H))
theorem mayW_H {H : Int} {b : Nat} (h : mayW H b = true) : 0 ≤ H ∧ H ≤ 1048575 := by
  unfold mayW at h
  rw [decide_eq_true_eq] at h
  omega
theorem and_one (b : Nat) (hb : b < 18446744073709551616) : Go.bits .and .u64 (b : Int) 1 = ((b % 2 : Nat) : Int) := by
  have := u64_and_nat b 1 hb (by decide)
  rw [Nat.and_one_is_mod] at this
  exact this
theorem window_may.ev (H : Int) (b : Nat) (hb : b < 18446744073709551616) : Ev (fun k => window_may.f k H (b : Int)) (mayW H b) := by
  unfold window_may.f
  have h64 : lenN b ≤ 64 := (lenN_le b 64).2 hb
  by_cases h1 : H < 1
  · refine Ev.pos h1 (Ev.ret ?_)
    unfold mayW
    rw [Bool.eq_iff_iff]
    simp only [Bool.and_eq_true, beq_iff_eq, decide_eq_true_eq]
    omega
  · refine Ev.neg h1 ?_
    by_cases h2 : H ≤ 1048575
    · refine Ev.pos h2 ?_
      rw [and_one b hb]
      by_cases h3 : b % 2 = 1
      · refine Ev.pos (by omega) (Ev.bind (bits_Len64.ev b hb) (Ev.ret ?_))
        unfold mayW mn
        rw [decide_eq_decide]
        split <;> omega
      · refine Ev.neg (by omega) (Ev.ret ?_)
        unfold mayW
        symm
        rw [decide_eq_false_iff_not]
        omega
    · refine Ev.neg h2 (Ev.ret ?_)
      unfold mayW
      symm
      rw [decide_eq_false_iff_not]
      omega
theorem memF_low (H : Int) (b c : Nat) : ∀ i, (∀ j, j < i → b.testBit j = c.testBit j) → memF H b i = memF H c i
  | 0, _ => rfl
  | i + 1, h => by
    simp only [memF]
    rw [memF_low H b c i (fun j hj => h j (by omega)), h i (by omega)]
theorem shl_one (t : Nat) (ht : t < 64) : shl .u64 1 (t : Int) = ((2 ^ t : Nat) : Int) := by
  unfold shl
  have h1 : 2 ^ t < 18446744073709551616 := Nat.pow_lt_pow_right (by decide) ht
  rw [Int.toNat_natCast, show min t IntKind.u64.bits = t by show min t 64 = t; omega, Int.one_mul]
  have e : (2 : Int) ^ t = ((2 ^ t : Nat) : Int) := by simp
  rw [e]
  generalize 2 ^ t = q at h1
  rw [u64w ⟨by omega, by omega⟩]
theorem clear_top (b : Nat) (h : b ≠ 0) (hb : b < 18446744073709551616) : ∃ c : Nat, Go.bits .andNot .u64 (b : Int) ((2 ^ (lenN b - 1) : Nat) : Int) = (c : Int) ∧ c < 2 ^ (lenN b - 1) ∧ ∀ j, j < lenN b - 1 → b.testBit j = c.testBit j := by
  obtain ⟨t, h2, h1⟩ := top_bit b h
  have h64 : lenN b ≤ 64 := (lenN_le b 64).2 hb
  have hp : 2 ^ (lenN b - 1) < 18446744073709551616 := Nat.pow_lt_pow_right (by decide) (show lenN b - 1 < 64 by omega)
  refine ⟨b &&& (18446744073709551615 - 2 ^ (lenN b - 1)), u64_andNot_nat b _ hb hp, ?_, ?_⟩
  · apply Nat.lt_pow_two_of_testBit
    intro j hj
    rw [Nat.testBit_and]
    by_cases e : j = lenN b - 1
    · subst e
      have : (18446744073709551615 - 2 ^ (lenN b - 1)) = 2 ^ 64 - (2 ^ (lenN b - 1) + 1) := by omega
      rw [this, Nat.testBit_two_pow_sub_succ (by omega : 2 ^ (lenN b - 1) < 2 ^ 64)]
      simp
    · rw [Nat.testBit_lt_two_pow (Nat.lt_of_lt_of_le h2 (Nat.pow_le_pow_right (by decide) (by omega)))]
      rfl
  · intro j hj
    have : (18446744073709551615 - 2 ^ (lenN b - 1)) = 2 ^ 64 - (2 ^ (lenN b - 1) + 1) := by omega
    rw [Nat.testBit_and, this, Nat.testBit_two_pow_sub_succ (by omega : 2 ^ (lenN b - 1) < 2 ^ 64), Nat.testBit_two_pow_of_ne (by omega)]
    simp [show j < 64 by omega]
def usedAns (H : Int) (b : Nat) : List Int × Int := if mayW H b then (memF H b 64, 0) else ([], 5)
theorem window_Used.ev (H : Int) (b : Nat) (hb : b < 18446744073709551616) : Ev (fun k => window_Used.f k H (b : Int)) (usedAns H b) := by
  unfold window_Used.f usedAns
  refine Ev.bind (window_may.ev H b hb) ?_
  by_cases hm : mayW H b = true
  · rw [if_pos hm]
    refine Ev.pos hm ?_
    have hH := mayW_H hm
    generalize hB : (b : Int) = B
    have key : ∀ (n c : Nat) (acc : List Int), lenN c ≤ n → c < 18446744073709551616 → acc.length + lenN c ≤ 64 → Ev (fun k => window_Used.l0 k acc (c : Int) H B) (acc ++ memF H c 64, 0) := by
      intro n
      induction n with
      | zero =>
        intro c acc hn hc _
        have c0 : c = 0 := by
          have := (lenN_le c 0).1 hn
          omega
        subst c0
        refine Ev.step (f := fun _ => some (acc, 0)) (fun k => ?_) (Ev.ret (by rw [memF_zero, List.append_nil]))
        simp only [window_Used.l0]; rw [if_pos (show ((0 : Nat) : Int) = 0 from rfl)]
      | succ n ih =>
        intro c acc hn hc ha
        by_cases c0 : c = 0
        · subst c0
          refine Ev.step (f := fun _ => some (acc, 0)) (fun k => ?_) (Ev.ret (by rw [memF_zero, List.append_nil]))
          simp only [window_Used.l0]; rw [if_pos (show ((0 : Nat) : Int) = 0 from rfl)]
        · obtain ⟨t, h2, h1⟩ := top_bit c c0
          have h64 : lenN c ≤ 64 := (lenN_le c 64).2 hc
          obtain ⟨e, he, hel, hlow⟩ := clear_top c c0 hc
          have hel2 := (lenN_le e (lenN c - 1)).2 hel
          have hlt : e < 18446744073709551616 := Nat.lt_of_lt_of_le hel (Nat.pow_le_pow_right (by decide) (show lenN c - 1 ≤ 64 by omega))
          have z := ih e (acc ++ [H - ((lenN c - 1 : Nat) : Int)]) (by omega) hlt (by simp; omega)
          refine Ev.step (f := fun k => (bits_Len64.f k (c : Int)).bind fun t105 => if acc.length < 17592186044416 then (if 0 ≤ (wrap64 (t105 - 1)) then (window_Used.l0 k (acc ++ [wrap64 (H - (wrap64 (t105 - 1)))]) (Go.bits .andNot .u64 (c : Int) (shl .u64 1 (wrap64 (t105 - 1)))) H B) else none) else none) (fun k => ?_) ?_
          · simp only [window_Used.l0]; rw [if_neg (by omega)]
          · refine Ev.bind (bits_Len64.ev c hc) (Ev.pos (by omega) ?_)
            rw [wr (a := ((lenN c : Nat) : Int) - 1) ⟨by omega, by omega⟩, show ((lenN c : Nat) : Int) - 1 = ((lenN c - 1 : Nat) : Int) by omega, wr (a := H - ((lenN c - 1 : Nat) : Int)) ⟨by omega, by omega⟩, shl_one _ (by omega), he]
            refine Ev.pos (by omega) (Ev.eq ?_ z)
            rw [memF_cons H c c0 hc, List.append_assoc, List.singleton_append, memF_low H c e _ hlow]
            have := memF_high H e (64 - (lenN c - 1)) (lenN c - 1) hel
            rw [show lenN c - 1 + (64 - (lenN c - 1)) = 64 by omega] at this
            rw [this]
    rw [← hB]
    have := key 64 b [] ((lenN_le b 64).2 hb) hb (by simp; exact (lenN_le b 64).2 hb)
    rw [hB] at this
    rw [hB]
    rw [← hB] at this ⊢
    simpa using this
  · rw [if_neg hm]
    exact Ev.neg hm (Ev.now _)
def inM (me rev cr bad lock : Int) : Prop := (0 ≤ me ∧ me < 50) ∧ (0 ≤ rev ∧ rev ≤ 15) ∧ (0 ≤ cr ∧ cr ≤ 99999999) ∧ (0 ≤ bad ∧ bad < 5) ∧ (0 ≤ lock ∧ lock ≤ 30) ∧ (bad = 0 ∨ lock = 0)
instance (me rev cr bad lock : Int) : Decidable (inM me rev cr bad lock) := by unfold inM; infer_instance
def mayM (me rev cr H : Int) (b : Nat) (bad lock : Int) : Bool := decide (inM me rev cr bad lock) && mayW H b
theorem mayM_no {me rev cr bad lock : Int} (H : Int) (b : Nat) (h : ¬ inM me rev cr bad lock) : mayM me rev cr H b bad lock = false := by unfold mayM; rw [decide_eq_false h]; rfl
theorem mayM_yes {me rev cr bad lock : Int} (H : Int) (b : Nat) (h : inM me rev cr bad lock) : mayM me rev cr H b bad lock = mayW H b := by unfold mayM; rw [decide_eq_true h]; rfl
theorem mayM_in {me rev cr H : Int} {b : Nat} {bad lock : Int} (h : mayM me rev cr H b bad lock = true) : inM me rev cr bad lock ∧ mayW H b = true := by
  unfold mayM at h
  rw [Bool.and_eq_true, decide_eq_true_eq] at h
  exact h
theorem used_code (H : Int) (b : Nat) : ((usedAns H b).2 == 0) = mayW H b := by
  unfold usedAns
  cases mayW H b <;> rfl
theorem meter_may.ev (me rev cr H : Int) (b : Nat) (bad lock : Int) (hb : b < 18446744073709551616) : Ev (fun k => meter_may.f k me rev cr H (b : Int) bad lock) (mayM me rev cr H b bad lock) := by
  have jT : ∀ r, r = false → Ev (fun k => meter_may.j0 k true me rev cr H (b : Int) bad lock) r := by
    rintro r rfl
    exact Ev.step (f := fun _ => some false) (fun k => rfl) (Ev.now _)
  have no := fun h => mayM_no (me := me) (rev := rev) (cr := cr) (bad := bad) (lock := lock) H b h
  unfold meter_may.f
  refine Ev.split (fun h => jT _ (no (by unfold inM; omega))) (fun h1 => Ev.split (fun h => jT _ (no (by unfold inM; omega))) (fun h2 => Ev.split (fun h => jT _ (no (by unfold inM; omega))) (fun h3 => Ev.split (fun h => jT _ (no (by unfold inM; omega))) (fun h4 => Ev.split (fun h => jT _ (no (by unfold inM; omega))) (fun h5 => ?_)))))
  by_cases h6 : cr > 99999999
  · rw [decide_eq_true h6]
    exact jT _ (no (by unfold inM; omega))
  · rw [decide_eq_false h6]
    refine Ev.succ ?_
    simp only [meter_may.j0, Bool.false_eq_true, if_false]
    have hu : inM me rev cr bad lock → Ev (fun k => (window_Used.f k H (b : Int)).bind fun z => some (z.2 == 0)) (mayM me rev cr H b bad lock) := by
      intro h
      refine Ev.bind (window_Used.ev H b hb) (Ev.ret ?_)
      rw [used_code, mayM_yes H b h]
    refine Ev.split (fun h => Ev.ret (no (by unfold inM; omega)).symm) (fun g1 => Ev.split (fun h => Ev.ret (no (by unfold inM; omega)).symm) (fun g2 => Ev.split (fun h => Ev.ret (no (by unfold inM; omega)).symm) (fun g3 => Ev.split (fun h => Ev.ret (no (by unfold inM; omega)).symm) (fun g4 => Ev.split (fun g5 => Ev.split (fun h => Ev.ret (no (by unfold inM; omega)).symm) (fun g6 => hu (by unfold inM; omega))) (fun g5 => hu (by unfold inM; omega))))))
def meterList (me rev cr H : Int) (b : Nat) (bad lock : Int) : List Int := [cr, me + 256 * (rev + 256 * (bad + 256 * lock)), H, (b : Int) % 4294967296, (b : Int) / 4294967296]
def wordsAns (me rev cr H : Int) (b : Nat) (bad lock : Int) : List Int × Int := if mayM me rev cr H b bad lock then (meterList me rev cr H b bad lock, 0) else ([], 5)
theorem flags_eq (me rev bad lock : Nat) (h1 : me < 50) (h2 : rev ≤ 15) (h3 : bad < 5) (h4 : lock ≤ 30) :
    Go.bits .or .u32 (Go.bits .or .u32 (Go.bits .or .u32 ((((lock : Int) % 4294967296) * 16777216) % 4294967296) ((((bad : Int) % 4294967296) * 65536) % 4294967296)) ((((rev : Int) % 4294967296) * 256) % 4294967296)) ((me : Int) % 4294967296) = (me : Int) + 256 * ((rev : Int) + 256 * ((bad : Int) + 256 * (lock : Int))) := by
  rw [show (((lock : Int) % 4294967296) * 16777216) % 4294967296 = ((2 ^ 24 * lock : Nat) : Int) by omega, show (((bad : Int) % 4294967296) * 65536) % 4294967296 = ((bad * 65536 : Nat) : Int) by omega, show (((rev : Int) % 4294967296) * 256) % 4294967296 = ((rev * 256 : Nat) : Int) by omega, show (me : Int) % 4294967296 = (me : Int) by omega]
  rw [u32_or_nat _ _ (by omega) (by omega), ← Nat.two_pow_add_eq_or_of_lt (show bad * 65536 < 2 ^ 24 by omega), show 2 ^ 24 * lock + bad * 65536 = 2 ^ 16 * (256 * lock + bad) by omega]
  rw [u32_or_nat _ _ (by omega) (by omega), ← Nat.two_pow_add_eq_or_of_lt (show rev * 256 < 2 ^ 16 by omega), show 2 ^ 16 * (256 * lock + bad) + rev * 256 = 2 ^ 8 * (256 * (256 * lock + bad) + rev) by omega]
  rw [u32_or_nat _ _ (by omega) (by omega), ← Nat.two_pow_add_eq_or_of_lt (show me < 2 ^ 8 by omega)]
  omega
theorem meter_Words.ev (me rev cr H : Int) (b : Nat) (bad lock : Int) (hb : b < 18446744073709551616) : Ev (fun k => meter_Words.f k me rev cr H (b : Int) bad lock) (wordsAns me rev cr H b bad lock) := by
  unfold meter_Words.f wordsAns
  refine Ev.bind (meter_may.ev me rev cr H b bad lock hb) (Ev.iteR (fun h => Ev.ret ?_) (fun h => Ev.now _))
  obtain ⟨⟨h1, h2, h3, h4, h5, _⟩, hw⟩ := mayM_in h
  have hH := mayW_H hw
  obtain ⟨me, rfl⟩ := Int.eq_ofNat_of_zero_le h1.1
  obtain ⟨rev, rfl⟩ := Int.eq_ofNat_of_zero_le h2.1
  obtain ⟨bad, rfl⟩ := Int.eq_ofNat_of_zero_le h4.1
  obtain ⟨lock, rfl⟩ := Int.eq_ofNat_of_zero_le h5.1
  unfold meterList
  rw [flags_eq me rev bad lock (by omega) (by omega) (by omega) (by omega), show cr % 4294967296 = cr by omega, show H % 4294967296 = H by omega, show ((b : Int) / 4294967296) % 4294967296 = (b : Int) / 4294967296 by omega]
theorem fresh5 : slot_Fresh.f 5 = some ([1, 0, 0, 0, 0, 0, 0, 0, 0, 0, 0, 0], 0) := by decide +kernel
def madeAns (me : Int) : List Int × Int := if 0 ≤ me ∧ me ≤ 49 then ([1, 0, me, 0, 0, 0, 0, 0, 0, 0, 0, 0], 0) else ([], 2)
theorem mayM_new (me : Int) : mayM me 0 0 0 0 0 0 = decide (0 ≤ me ∧ me ≤ 49) := by
  by_cases h : 0 ≤ me ∧ me ≤ 49
  · rw [mayM_yes 0 0 (by unfold inM; omega), decide_eq_true h]; rfl
  · rw [mayM_no 0 0 (by unfold inM; omega), decide_eq_false h]
theorem pocket_Make.ev (me : Int) : Ev (fun k => pocket_Make.f k me) (madeAns me) := by
  unfold pocket_Make.f madeAns
  have hb := meter_may.ev me 0 0 0 0 0 0 (by decide)
  rw [mayM_new] at hb
  by_cases h : 0 ≤ me ∧ me ≤ 49
  · rw [decide_eq_true h] at hb
    refine Ev.eq (if_pos h).symm ?_
    have hbeg : Ev (fun k => meter_Begin.f k me) (me, 0, 0, 0, 0, 0, 0, 0) := by
      unfold meter_Begin.f
      exact Ev.bind hb (Ev.pos rfl (Ev.now _))
    refine Ev.bind hbeg (Ev.pos rfl ?_)
    have hw := meter_Words.ev me 0 0 0 0 0 0 (by decide)
    have e : wordsAns me 0 0 0 0 0 0 = ([0, me, 0, 0, 0], 0) := by
      unfold wordsAns
      rw [mayM_new, decide_eq_true h]
      simp [meterList]
    rw [e] at hw
    refine Ev.bind hw ?_
    rw [fresh5]
    exact Ev.letS (Ev.pos ⟨rfl, rfl⟩ (Ev.now _))
  · rw [decide_eq_false h] at hb
    refine Ev.eq (if_neg h).symm ?_
    have hbeg : Ev (fun k => meter_Begin.f k me) (0, 0, 0, 0, 0, 0, 0, 2) := by
      unfold meter_Begin.f
      exact Ev.bind hb (Ev.neg (by decide) (Ev.now _))
    exact Ev.bind hbeg (Ev.neg (by decide) (Ev.now _))
theorem vendmeterref_PocketMade.eq (me : Int) : vendmeterref_PocketMade.f me = some (madeAns me) := by
  unfold vendmeterref_PocketMade.f madeAns
  simp only [vendmeterref_In.eq, Option.bind_some]
  by_cases h : 0 ≤ me ∧ me ≤ 49
  · rw [if_pos h, if_pos (decide_eq_true h), show me % 4294967296 = me by omega]
  · rw [if_neg h, if_neg (by rw [decide_eq_true_eq]; exact h)]
theorem madeAns_len (me : Int) : (madeAns me).1.length ≤ 12 := by unfold madeAns; split <;> simp
def blankAns (a : Int) : List Int × Int := if 1 ≤ a ∧ a ≤ 2048 then (List.replicate a.toNat 0, 0) else ([], 1)
theorem cell_Blank.eq (a : Int) : cell_Blank.f a = some (blankAns a) := by
  unfold cell_Blank.f blankAns
  by_cases h : 1 ≤ a ∧ a ≤ 2048
  · rw [if_pos h, if_neg (by omega), if_neg (by omega), if_pos (by omega), if_pos (by omega)]
  · rw [if_neg h]
    by_cases h1 : a < 1
    · rw [if_pos h1]
    · rw [if_neg h1, if_pos (by omega)]
theorem vendmeterref_Blanked.ev (a : Int) : Ev (fun k => vendmeterref_Blanked.f k a) (blankAns a) := by
  unfold vendmeterref_Blanked.f blankAns
  simp only [vendmeterref_In.eq]
  refine Ev.letS (Ev.split (fun h => ?_) (fun h => ?_))
  · rw [decide_eq_true_eq] at h
    obtain ⟨n, rfl⟩ := Int.eq_ofNat_of_zero_le (show 0 ≤ a by omega)
    refine Ev.eq (if_pos h).symm ?_
    rw [Int.toNat_natCast]
    refine down (P := fun i => Ev (fun k => vendmeterref_Blanked.l0 k (n : Int) (List.replicate i 0) (i : Int)) (List.replicate n 0, 0)) (n := n) ?_ (fun i hi ih => ?_)
    · refine Ev.succ ?_
      simp only [vendmeterref_Blanked.l0]
      exact Ev.neg (by omega) (Ev.now _)
    · refine Ev.succ ?_
      simp only [vendmeterref_Blanked.l0]
      refine Ev.pos (by omega) (Ev.pos (by rw [List.length_replicate]; omega) ?_)
      rw [wn hi (by omega), ← List.replicate_succ']
      exact ih
  · rw [decide_eq_true_eq] at h
    exact Ev.eq (if_neg h).symm (Ev.now _)

def pocketsOf (n : Nat) : List (List Int) := (List.range n).map fun (i : Nat) => (madeAns (i : Int)).1
theorem pocketsOf_succ (n : Nat) : pocketsOf (n + 1) = pocketsOf n ++ [(madeAns (n : Int)).1] := by simp [pocketsOf, List.range_succ]
theorem pocketsOf_len (n : Nat) : (pocketsOf n).length = n := by simp [pocketsOf]
def begunAns (l : List S126) (a b c d n m : Int) : List S126 × Int × Int × Int × Int × List Int × List S129 × List (List Int) × Int :=
  if termsF l a b c d = 0 then (if (blankAns n).2 = 0 then (if 0 ≤ m ∧ m ≤ 50 then (l, a, b, c, d, (blankAns n).1, [], pocketsOf m.toNat, 0) else ([], 0, 0, 0, 0, [], [], [], 2)) else ([], 0, 0, 0, 0, [], [], [], (blankAns n).2)) else ([], 0, 0, 0, 0, [], [], [], termsF l a b c d)
theorem blank_len (n : Int) : (blankAns n).1.length ≤ 2048 := by
  unfold blankAns
  split
  · rw [List.length_replicate]; omega
  · simp
theorem world_clone.ev (l : List S126) (a b c d : Int) (ws : List Int) (hl : l.length * 16 ≤ 140737488351232) (hw : ws.length ≤ 2048) : Ev (fun k => world_clone.f k l a b c d ws [] []) (l, a, b, c, d, ws, [], []) := by
  unfold world_clone.f
  refine Ev.pos (by simp only [List.length_nil]; omega) (Ev.pos (by simp only [List.length_nil]; omega) (Ev.pos (by simp) ?_))
  refine Ev.succ ?_
  simp only [world_clone.l0, List.nil_append, List.length_nil]
  exact Ev.neg (by decide) (Ev.now _)
theorem world_Begin.ev (l : List S126) (a b c d n m : Int) (hl : l.length * 16 ≤ 140737488351232) : Ev (fun k => world_Begin.f k l a b c d n m) (begunAns l a b c d n m) := by
  unfold world_Begin.f begunAns
  rw [account_Check.eq, cell_Blank.eq]
  refine Ev.letS (Ev.iteR (fun h0 => Ev.letS (Ev.iteR (fun h1 => ?_) (fun h1 => Ev.now _))) (fun h0 => Ev.now _))
  by_cases h2 : m < 0
  · refine Ev.eq (if_neg (by omega)).symm (Ev.pos h2 (Ev.succ ?_))
    simp only [world_Begin.j0]
    exact Ev.pos (by first | rfl | trivial) (Ev.now _)
  · refine Ev.neg h2 (Ev.succ ?_)
    simp only [world_Begin.j0]
    by_cases h3 : m > 50
    · rw [decide_eq_true h3]
      exact Ev.eq (if_neg (by omega)).symm (Ev.pos (by first | rfl | trivial) (Ev.now _))
    · rw [decide_eq_false h3]
      obtain ⟨q, rfl⟩ := Int.eq_ofNat_of_zero_le (show 0 ≤ m by omega)
      refine Ev.eq (if_pos (by omega)).symm (Ev.neg (by decide) (Ev.bind (world_clone.ev l a b c d _ hl (blank_len n)) ?_))
      rw [Int.toNat_natCast]
      show Ev (fun k => world_Begin.l0 k (q : Int) ((0 : Nat) : Int) l a b c d (blankAns n).1 [] (pocketsOf 0)) _
      refine down (P := fun i => Ev (fun k => world_Begin.l0 k (q : Int) (i : Int) l a b c d (blankAns n).1 [] (pocketsOf i)) (l, a, b, c, d, (blankAns n).1, [], pocketsOf q, 0)) (n := q) ?_ (fun i hi ih => ?_)
      · refine Ev.succ ?_
        simp only [world_Begin.l0]
        exact Ev.neg (by omega) (Ev.now _)
      · refine Ev.succ ?_
        simp only [world_Begin.l0]
        refine Ev.pos (by omega) (Ev.bind (pocket_Make.ev (i : Int)) (Ev.pos (by rw [pocketsOf_len]; omega) ?_))
        rw [wn hi (by omega), ← pocketsOf_succ]
        exact ih
theorem rd_stepW (l : List S126) (i : Nat) : rd_T126 l (i : Int) = l.getD i z126 := Eq.trans rfl rfl
theorem vendmeterref_WorldCopy.ev (l : List S126) (a b c d : Int) (ws : List Int) (hl : l.length * 16 ≤ 140737488351232) (hw : ws.length ≤ 2048) : Ev (fun k => vendmeterref_WorldCopy.f k l a b c d ws [] []) (l, a, b, c, d, ws, [], []) := by
  unfold vendmeterref_WorldCopy.f
  have hl4 := hl
  refine down (P := fun i => Ev (fun k => vendmeterref_WorldCopy.l0 k (l.take i) (i : Int) l a b c d ws [] []) (l, a, b, c, d, ws, [], [])) (n := l.length) ?_ (fun i hi ih => ?_)
  · refine Ev.succ ?_
    simp only [vendmeterref_WorldCopy.l0]
    refine Ev.neg (by omega) ?_
    rw [List.take_length]
    refine down (P := fun i => Ev (fun k => vendmeterref_WorldCopy.l1 k (ws.take i) (i : Int) l a b c d ws [] []) (l, a, b, c, d, ws, [], [])) (n := ws.length) ?_ (fun i hi ih => ?_)
    · refine Ev.succ ?_
      simp only [vendmeterref_WorldCopy.l1]
      have ho : Ev (fun k => vendmeterref_OracleCopy.f k []) [] := by
        unfold vendmeterref_OracleCopy.f
        refine Ev.succ ?_
        simp only [vendmeterref_OracleCopy.l0]
        exact Ev.neg (by decide) (Ev.now _)
      refine Ev.neg (by omega) (Ev.bind ho ?_)
      refine Ev.succ ?_
      simp only [vendmeterref_WorldCopy.l2, List.take_length]
      exact Ev.neg (by decide) (Ev.now _)
    · refine Ev.succ ?_
      simp only [vendmeterref_WorldCopy.l1, rd_nat]
      refine Ev.pos (by omega) (Ev.pos (by omega) (Ev.pos (by rw [List.length_take]; omega) ?_))
      rw [wn hi (by omega), ← take_getD ws i 0 hi]
      exact ih
  · refine Ev.succ ?_
    simp only [vendmeterref_WorldCopy.l0, rd_stepW]
    refine Ev.pos (by omega) (Ev.pos (by omega) (Ev.pos (by rw [List.length_take]; omega) ?_))
    rw [wn hi (by omega), ← take_getD l i _ hi]
    exact ih
theorem vendmeterref_WorldBegun.ev (l : List S126) (a b c d n m : Int) (hl : l.length * 16 ≤ 140737488351232) : Ev (fun k => vendmeterref_WorldBegun.f k l a b c d n m) (begunAns l a b c d n m) := by
  unfold vendmeterref_WorldBegun.f begunAns
  refine Ev.bind (vendmeterref_TermsFault.ev l a b c d) (Ev.iteR (fun h0 => Ev.bind (vendmeterref_Blanked.ev n) (Ev.iteR (fun h1 => ?_) (fun h1 => Ev.now _))) (fun h0 => Ev.now _))
  simp only [vendmeterref_In.eq]
  refine Ev.letS ?_
  by_cases h2 : 0 ≤ m ∧ m ≤ 50
  · rw [decide_eq_true h2]
    obtain ⟨q, rfl⟩ := Int.eq_ofNat_of_zero_le h2.1
    refine Ev.eq (if_pos h2).symm (Ev.pos rfl (Ev.bind (vendmeterref_WorldCopy.ev l a b c d _ hl (blank_len n)) ?_))
    rw [Int.toNat_natCast]
    show Ev (fun k => vendmeterref_WorldBegun.l0 k (q : Int) ((0 : Nat) : Int) l a b c d (blankAns n).1 [] (pocketsOf 0)) _
    refine down (P := fun i => Ev (fun k => vendmeterref_WorldBegun.l0 k (q : Int) (i : Int) l a b c d (blankAns n).1 [] (pocketsOf i)) (l, a, b, c, d, (blankAns n).1, [], pocketsOf q, 0)) (n := q) ?_ (fun i hi ih => ?_)
    · refine Ev.succ ?_
      simp only [vendmeterref_WorldBegun.l0]
      exact Ev.neg (by omega) (Ev.now _)
    · refine Ev.succ ?_
      simp only [vendmeterref_WorldBegun.l0, vendmeterref_PocketMade.eq]
      refine Ev.pos (by omega) (Ev.letS (Ev.pos (by rw [pocketsOf_len]; omega) ?_))
      rw [wn hi (by omega), ← pocketsOf_succ]
      exact ih
  · rw [decide_eq_false h2]
    exact Ev.eq (if_neg h2).symm (Ev.neg (by decide) (Ev.now _))
theorem vendmeterlaw_sameWorld.ev (l : List S126) (a b c d : Int) (ws : List Int) (o : List S129) (p : List (List Int)) (hl : l.length ≤ 1152921504606846976) (hw : ws.length ≤ 1152921504606846976) (ho : o.length ≤ 1152921504606846976) (hp : p.length ≤ 4096) (hr : ∀ r ∈ p, r.length ≤ 4096) : Ev (fun k => vendmeterlaw_sameWorld.f k l a b c d ws o p l a b c d ws o p) true := by
  unfold vendmeterlaw_sameWorld.f
  exact Ev.bind (vendmeterlaw_sameTerms.ev l a b c d hl) (Ev.pos rfl (Ev.bind (vendmeterlaw_sameWords.ev ws hw) (Ev.pos rfl (Ev.bind (vendmeterlaw_sameOracle.ev o ho) (Ev.pos rfl (Ev.bind (vendmeterlaw_sameRecords.ev p hp hr) (Ev.now _)))))))
theorem begun_bd (l : List S126) (a b c d n m : Int) (hl : l.length * 16 ≤ 140737488351232) : (begunAns l a b c d n m).1.length ≤ 1152921504606846976 ∧ (begunAns l a b c d n m).2.2.2.2.2.1.length ≤ 1152921504606846976 ∧ (begunAns l a b c d n m).2.2.2.2.2.2.1.length ≤ 1152921504606846976 ∧ (begunAns l a b c d n m).2.2.2.2.2.2.2.1.length ≤ 4096 ∧ ∀ r ∈ (begunAns l a b c d n m).2.2.2.2.2.2.2.1, r.length ≤ 4096 := by
  have hb := blank_len n
  unfold begunAns
  split
  · split
    · split
      · dsimp only
        refine ⟨by omega, by omega, by simp, by rw [pocketsOf_len]; omega, fun r hr => ?_⟩
        obtain ⟨i, _, rfl⟩ := List.mem_map.1 hr
        have := madeAns_len (i : Int)
        omega
      · simp
    · simp
  · simp
theorem WorldBegins : vendmeterlaw_WorldBegins.Pure := by
  intro l a b c d n m h _ _ _ _ _ _
  have h4 := h.1
  obtain ⟨g1, g2, g3, g4, g5⟩ := begun_bd l a b c d n m h4
  refine Ev.rounds ?_
  unfold vendmeterlaw_WorldBegins.f vendmeterlaw_terms.f
  rw [vendmeterlaw_steps.eq l h4]
  exact Ev.letS (Ev.letS (Ev.bind (world_Begin.ev l a b c d n m h4) (Ev.bind (vendmeterref_WorldBegun.ev l a b c d n m h4) (Ev.pos rfl (Ev.bind (vendmeterlaw_sameWorld.ev _ _ _ _ _ _ _ _ g1 g2 g3 g4 g5) (Ev.pos rfl (Ev.bind (vendmeterlaw_sameTerms.ev l a b c d (by omega)) (Ev.now _))))))))

end Go.Proofs.Ytoookcmablnjfaa.Pure
