/- vendmeterlaw.AccountChecks returns true at every terms: account.Check answers as the reference does, and the terms are as they were. No condition. -/
import Derived.Test.YthmmadniaakapaaPAccountChecksxL
import Derived.Test.YthmmadniaakapaaXLib
set_option linter.unusedVariables false
set_option linter.unusedSimpArgs false
namespace Go.Proofs.Ythmmadniaakapaa.Pure
open Go.RowKit Go.Proofs.Ythmmadniaakapaa.PAccountChecks Go.Proofs.YthmmadniaakapaaW.PrintWords Go.Proofs.YthmmadniaakapaaW.PrintLast Go.Proofs.YthmmadniaakapaaW.PrintMore Go.Proofs.YthmmadniaakapaaW.XLib

theorem vendmeterref_In.eq (a b c : Int) : vendmeterref_In.f a b c = some (decide (b ≤ a ∧ a ≤ c)) := by
  unfold vendmeterref_In.f
  by_cases h : b ≤ a
  · rw [if_pos h]; simp [h]
  · rw [if_neg h]; simp [h]
theorem rd_step (l : List S125) (i : Nat) : rd_T125 l (i : Int) = l.getD i z125 := Eq.trans rfl rfl
def tarFault (l : List S125) : Int := if (l.length : Int) < 1 then 1 else if (l.length : Int) > 8 then 1 else if l.any tariff_Check.bad = true then 2 else if tariff_Check.rising l = true then (if (rd_T125 l ((l.length : Int) - 1)).f0 = 10000000 then 0 else 3) else 3
theorem tariff_Check.eq (l : List S125) : tariff_Check.f l = some (tarFault l) := by
  unfold tariff_Check.f tarFault
  repeat' split
  all_goals rfl
theorem vendmeterref_TariffFault.ev (l : List S125) : Ev (fun k => vendmeterref_TariffFault.f k l) (tarFault l) := by
  unfold vendmeterref_TariffFault.f tarFault
  simp only [vendmeterref_In.eq, Option.bind_some]
  by_cases h1 : (l.length : Int) < 1
  · rw [if_pos h1]; exact Ev.neg (by rw [decide_eq_true_eq]; omega) (Ev.now _)
  rw [if_neg h1]
  by_cases h8 : (l.length : Int) > 8
  · rw [if_pos h8]; exact Ev.neg (by rw [decide_eq_true_eq]; omega) (Ev.now _)
  rw [if_neg h8]
  refine Ev.pos (decide_eq_true (by omega)) ?_
  by_cases hb : l.any tariff_Check.bad = true
  · rw [if_pos hb]
    have key : ∀ d i : Nat, i + d = l.length → (l.drop i).any tariff_Check.bad = true → Ev (fun k => vendmeterref_TariffFault.l0 k l (i : Int)) 2 := by
      intro d
      induction d with
      | zero => intro i hi h; rw [List.drop_of_length_le (by omega)] at h; simp at h
      | succ d ih =>
        intro i hi h
        rw [drop_getD l i z125 (by omega), List.any_cons] at h
        by_cases hs : tariff_Check.bad (l.getD i z125) = true
        · simp only [tariff_Check.bad, Bool.or_eq_true, decide_eq_true_eq] at hs
          refine Ev.step (f := fun _ => some 2) (fun k => ?_) (Ev.now _)
          simp only [vendmeterref_TariffFault.l0, rd_step, vendmeterref_In.eq, Option.bind_some]; rw [if_pos (by omega), if_pos (by omega)]
          by_cases h0 : 1 ≤ (l.getD i z125).f0 ∧ (l.getD i z125).f0 ≤ 10000000
          · rw [if_pos (decide_eq_true h0), if_neg (by rw [decide_eq_true_eq]; omega)]
          · rw [if_neg (by rw [decide_eq_true_eq]; exact h0)]
        · rw [Bool.eq_false_iff.mpr hs, Bool.false_or] at h
          simp only [tariff_Check.bad, Bool.or_eq_true, decide_eq_true_eq] at hs
          refine Ev.step (f := fun k => vendmeterref_TariffFault.l0 k l ((i + 1 : Nat) : Int)) (fun k => ?_) (ih (i + 1) (by omega) h)
          simp only [vendmeterref_TariffFault.l0, rd_step, vendmeterref_In.eq, Option.bind_some]; rw [if_pos (by omega), if_pos (by omega), wn (show i < l.length by omega) (by omega)]
          rw [if_pos (decide_eq_true (by omega)), if_pos (decide_eq_true (by omega))]
    exact key l.length 0 (by omega) hb
  rw [if_neg hb]
  have hb' := Bool.eq_false_iff.mpr hb
  have key0 : ∀ {r : Int}, Ev (fun k => vendmeterref_TariffFault.l1 k l 1) r → Ev (fun k => vendmeterref_TariffFault.l0 k l 0) r := by
    intro r hr
    refine down (P := fun i => Ev (fun k => vendmeterref_TariffFault.l0 k l (i : Int)) r) (n := l.length) ?_ ?_
    · refine Ev.step (fun k => ?_) hr
      simp only [vendmeterref_TariffFault.l0]; rw [if_neg (by omega)]
    · intro i hi h
      have hs := (List.any_eq_false.1 hb') _ (getD_mem l i z125 hi)
      simp only [tariff_Check.bad, Bool.or_eq_true, decide_eq_true_eq] at hs
      refine Ev.step (fun k => ?_) h
      simp only [vendmeterref_TariffFault.l0, rd_step, vendmeterref_In.eq, Option.bind_some]; rw [if_pos (by omega), if_pos (by omega), wn hi (by omega)]
      rw [if_pos (decide_eq_true (by omega)), if_pos (decide_eq_true (by omega))]
  apply key0
  have hlen : 1 ≤ l.length := by omega
  have step : ∀ (k i : Nat), 1 ≤ i → i < l.length → vendmeterref_TariffFault.l1 (k + 1) l (i : Int) = if (rd_T125 l (i : Int)).f0 ≤ (rd_T125 l ((i : Int) - 1)).f0 then some 3 else vendmeterref_TariffFault.l1 k l ((i + 1 : Nat) : Int) := by
    intro k i h0 hi
    simp only [vendmeterref_TariffFault.l1]
    rw [wr (a := (i : Int) - 1) ⟨by omega, by omega⟩, if_pos (by omega), if_pos (by omega), if_pos (by omega), if_pos (by omega), wn hi (by omega)]
  have last : ∀ k, vendmeterref_TariffFault.l1 (k + 1) l (l.length : Int) = if (rd_T125 l ((l.length : Int) - 1)).f0 = 10000000 then some 0 else some 3 := by
    intro k
    simp only [vendmeterref_TariffFault.l1]
    rw [wr (a := (l.length : Int) - 1) ⟨by omega, by omega⟩, if_neg (by omega), if_pos (by omega), if_pos (by omega)]
  by_cases hr : tariff_Check.rising l = true
  · rw [if_pos hr]
    have hri := (tariff_Check.rising_iff l).1 hr
    refine downFrom (P := fun i => Ev (fun k => vendmeterref_TariffFault.l1 k l (i : Int)) _) (m := 1) (n := l.length) hlen ?_ ?_
    · refine Ev.step last ?_
      exact Ev.iteR (fun _ => Ev.now _) (fun _ => Ev.now _)
    · intro i h0 hi h
      refine Ev.step (f := fun k => vendmeterref_TariffFault.l1 k l ((i + 1 : Nat) : Int)) (fun k => ?_) h
      rw [step k i h0 hi, if_neg]
      have := hri (i - 1) (by omega)
      rw [show (((i - 1 : Nat) : Nat) : Int) = (i : Int) - 1 by omega, show (i : Int) - 1 + 1 = (i : Int) by omega] at this
      omega
  · rw [if_neg hr]
    have hex : ∃ i : Nat, 1 ≤ i ∧ i < l.length ∧ (rd_T125 l (i : Int)).f0 ≤ (rd_T125 l ((i : Int) - 1)).f0 := by
      refine Classical.not_not.1 fun hn => hr ((tariff_Check.rising_iff l).2 fun i hi => ?_)
      refine Classical.not_not.1 fun h => hn ⟨i + 1, by omega, hi, ?_⟩
      rw [show ((i + 1 : Nat) : Int) - 1 = (i : Int) by omega, show ((i + 1 : Nat) : Int) = (i : Int) + 1 by omega]
      omega
    obtain ⟨m, hm0, hm1, hm⟩ := hex
    refine downFrom (P := fun i => Ev (fun k => vendmeterref_TariffFault.l1 k l (i : Int)) 3) (m := 1) (n := m) hm0 ?_ ?_
    · refine Ev.step (f := fun _ => some 3) (fun k => ?_) (Ev.now _)
      rw [step k m hm0 hm1, if_pos hm]
    · intro i h0 hi h
      by_cases hc : (rd_T125 l (i : Int)).f0 ≤ (rd_T125 l ((i : Int) - 1)).f0
      · refine Ev.step (f := fun _ => some 3) (fun k => ?_) (Ev.now _)
        rw [step k i h0 (by omega), if_pos hc]
      · refine Ev.step (f := fun k => vendmeterref_TariffFault.l1 k l ((i + 1 : Nat) : Int)) (fun k => ?_) h
        rw [step k i h0 (by omega), if_neg hc]
theorem account_within.eq (a b c : Int) : account_within.f a b c = some (decide (b ≤ a ∧ a ≤ c)) := by
  unfold account_within.f
  by_cases h : b ≤ a
  · rw [if_pos h]; simp [h]
  · rw [if_neg h]; simp [h]
def termsF (l : List S125) (a b c d : Int) : Int := if tarFault l = 0 then (if (0 ≤ a ∧ a ≤ 100000) ∧ (0 ≤ b ∧ b ≤ 10000) ∧ (0 ≤ c ∧ c ≤ 10000) ∧ (0 ≤ d ∧ d ≤ 2097151) then 0 else 2) else tarFault l
theorem account_Check.eq (l : List S125) (a b c d : Int) : account_Check.f l a b c d = some (termsF l a b c d) := by
  unfold account_Check.f termsF
  rw [tariff_Check.eq]
  simp only [account_within.eq, Option.bind_some, decide_eq_true_eq]
  by_cases h0 : tarFault l = 0
  · rw [if_pos h0, if_pos h0]
    by_cases h1 : 0 ≤ a ∧ a ≤ 100000
    · rw [if_pos h1]
      by_cases h2 : 0 ≤ b ∧ b ≤ 10000
      · rw [if_pos h2]
        by_cases h3 : 0 ≤ c ∧ c ≤ 10000
        · rw [if_pos h3]
          by_cases h4 : 0 ≤ d ∧ d ≤ 2097151
          · rw [if_pos h4, if_pos ⟨h1, h2, h3, h4⟩]
          · rw [if_neg h4, if_neg (fun h => h4 h.2.2.2)]
        · rw [if_neg h3, if_neg (fun h => h3 h.2.2.1)]
      · rw [if_neg h2, if_neg (fun h => h2 h.2.1)]
    · rw [if_neg h1, if_neg (fun h => h1 h.1)]
  · rw [if_neg h0, if_neg h0]
theorem vendmeterref_TermsFault.ev (l : List S125) (a b c d : Int) : Ev (fun k => vendmeterref_TermsFault.f k l a b c d) (termsF l a b c d) := by
  unfold vendmeterref_TermsFault.f
  refine Ev.bind (vendmeterref_TariffFault.ev l) (Ev.some_ ?_)
  have h := account_Check.eq l a b c d
  unfold account_Check.f at h
  rw [tariff_Check.eq] at h
  simp only [vendmeterref_In.eq]
  simp only [account_within.eq] at h
  exact h
theorem vendmeterlaw_sameSteps.ev (l) (hl : l.length ≤ 1152921504606846976) : Ev (fun k => vendmeterlaw_sameSteps.f k l l) true := by
  unfold vendmeterlaw_sameSteps.f
  refine Ev.pos rfl (same_ev hl (fun k i hi => ?_) (fun k => ?_))
  · simp only [vendmeterlaw_sameSteps.l0]; rw [if_pos (by omega), if_pos (by omega), if_pos (by omega)]; simp
  · simp only [vendmeterlaw_sameSteps.l0]; rw [if_neg (by omega)]
theorem vendmeterlaw_sameTerms.ev (l : List S125) (a b c d : Int) (hl : l.length ≤ 1152921504606846976) : Ev (fun k => vendmeterlaw_sameTerms.f k l a b c d l a b c d) true := by
  unfold vendmeterlaw_sameTerms.f
  exact Ev.pos rfl (Ev.pos rfl (Ev.pos rfl (Ev.pos rfl (Ev.bind (vendmeterlaw_sameSteps.ev l hl) (Ev.now _)))))
theorem vendmeterlaw_steps.eq (l) (h : l.length * 16 ≤ 140737488351232) : vendmeterlaw_steps.f l = some l := by
  unfold vendmeterlaw_steps.f
  rw [if_pos (by simp only [List.length_nil]; omega)]; rfl

theorem AccountChecks : vendmeterlaw_AccountChecks.Pure := by
  intro l a b c d h _ _ _ _
  have h4 := h.1
  refine Ev.rounds ?_
  unfold vendmeterlaw_AccountChecks.f vendmeterlaw_terms.f
  rw [vendmeterlaw_steps.eq l h.1]
  refine Ev.letS ?_
  rw [account_Check.eq]
  exact Ev.letS (Ev.bind (vendmeterref_TermsFault.ev l a b c d) (Ev.pos rfl (Ev.bind (vendmeterlaw_sameTerms.ev l a b c d (by omega)) (Ev.now _))))

end Go.Proofs.Ythmmadniaakapaa.Pure
