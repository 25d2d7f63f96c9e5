/- vendmeterlaw.AccountOpens returns true at every number: account.Open answers as the reference does. No condition. -/
import Derived.Test.YtbdabpllbfemfaaPAccountOpensx3
import Derived.Test.YtbdabpllbfemfaaXLib
set_option linter.unusedVariables false
set_option linter.unusedSimpArgs false
namespace Go.Proofs.Ytbdabpllbfemfaa.Pure
open Go.RowKit Go.Proofs.Ytbdabpllbfemfaa.PAccountOpens Go.Proofs.YtbdabpllbfemfaaW.PrintWords Go.Proofs.YtbdabpllbfemfaaW.PrintLast Go.Proofs.YtbdabpllbfemfaaW.PrintMore Go.Proofs.YtbdabpllbfemfaaW.XLib

theorem rd_debt (l : List S31) (i : Nat) : rd_T31 l (i : Int) = l.getD i z31 := Eq.trans rfl rfl
def debtOk (d : S31) : Bool := decide (0 ≤ d.f0 ∧ d.f0 ≤ 1000000000 ∧ 0 ≤ d.f1 ∧ d.f1 ≤ 10000)
def debtFault (l : List S31) : Int := if (l.length : Int) > 8 then 1 else if l.all debtOk then 0 else 2
def owedOf : List S31 → Int
  | [] => 0
  | d :: l => d.f0 + owedOf l
theorem owed_bd (l : List S31) (h : l.all debtOk = true) : 0 ≤ owedOf l ∧ owedOf l ≤ 1000000000 * (l.length : Int) := by
  induction l with
  | nil => simp [owedOf]
  | cons d l ih =>
    simp only [List.all_cons, Bool.and_eq_true, debtOk, decide_eq_true_eq] at h
    have := ih h.2
    simp only [owedOf, List.length_cons]
    omega
theorem fault_zero {l : List S31} (h : debtFault l = 0) : l.length ≤ 8 ∧ l.all debtOk = true := by
  unfold debtFault at h
  split at h
  · omega
  · split at h
    · exact ⟨by omega, by assumption⟩
    · omega
theorem fault_cases (l : List S31) : debtFault l = 0 ∨ ¬ debtFault l = 0 := by omega
theorem debt_list_fault.ev (l : List S31) : Ev (fun k => debt_list_fault.f k l) (debtFault l) := by
  unfold debt_list_fault.f debtFault
  by_cases h8 : (l.length : Int) > 8
  · rw [if_pos h8]; exact Ev.pos h8 (Ev.now _)
  · rw [if_neg h8]
    refine Ev.neg h8 ?_
    have key : ∀ d i : Nat, i + d = l.length → Ev (fun k => debt_list_fault.l0 k l (l.length : Int) (i : Int)) (if (l.drop i).all debtOk then 0 else 2) := by
      intro d
      induction d with
      | zero =>
        intro i hi
        refine Ev.step (f := fun _ => some 0) (fun k => ?_) (Ev.ret ?_)
        · simp only [debt_list_fault.l0]; rw [if_neg (by omega)]
        · rw [List.drop_of_length_le (by omega)]; rfl
      | succ d ih =>
        intro i hi
        have hd := drop_getD l i z31 (by omega)
        rw [hd, List.all_cons]
        by_cases h : debtOk (l.getD i z31) = true
        · have h' := h
          simp only [debtOk, decide_eq_true_eq] at h'
          obtain ⟨a1, a2, a3, a4⟩ := h'
          refine Ev.step (f := fun k => debt_list_fault.l0 k l (l.length : Int) ((i + 1 : Nat) : Int)) (fun k => ?_) (Ev.eq ?_ (ih (i + 1) (by omega)))
          · simp only [debt_list_fault.l0, rd_debt]; rw [if_pos (by omega), if_pos (by omega), if_pos (by omega), if_neg (by omega), if_neg (by omega), if_neg (by omega), if_neg (by omega), wn (show i < l.length by omega) (by omega)]
          · rw [h, Bool.true_and]
        · refine Ev.step (f := fun _ => some 2) (fun k => ?_) (Ev.ret (by rw [Bool.eq_false_iff.2 h]; rfl))
          simp only [debtOk, decide_eq_true_eq] at h
          simp only [debt_list_fault.l0, rd_debt]; rw [if_pos (by omega), if_pos (by omega), if_pos (by omega)]
          by_cases b1 : (l.getD i z31).f0 < 0
          · rw [if_pos b1]
          · rw [if_neg b1]
            by_cases b2 : (l.getD i z31).f0 > 1000000000
            · rw [if_pos b2]
            · rw [if_neg b2]
              by_cases b3 : (l.getD i z31).f1 < 0
              · rw [if_pos b3]
              · rw [if_neg b3, if_pos (by omega)]
    exact key l.length 0 (by omega)
theorem debt_list_total.ev (l : List S31) (h8 : l.length ≤ 8) (hok : l.all debtOk = true) : Ev (fun k => debt_list_total.f k l) (owedOf l) := by
  unfold debt_list_total.f
  have key : ∀ (d i : Nat) (s : Int), i + d = l.length → 0 ≤ s → s ≤ 1000000000 * (i : Int) → Ev (fun k => debt_list_total.l0 k s l (l.length : Int) (i : Int)) (s + owedOf (l.drop i)) := by
    intro d
    induction d with
    | zero =>
      intro i s hi h1 h2
      refine Ev.step (f := fun _ => some s) (fun k => ?_) (Ev.ret ?_)
      · simp only [debt_list_total.l0]; rw [if_neg (by omega)]
      · rw [List.drop_of_length_le (by omega)]; simp [owedOf]
    | succ d ih =>
      intro i s hi h1 h2
      have hd := drop_getD l i z31 (by omega)
      have hm := List.all_eq_true.1 hok _ (getD_mem l i z31 (by omega))
      simp only [debtOk, decide_eq_true_eq] at hm
      refine Ev.step (f := fun k => debt_list_total.l0 k (s + (l.getD i z31).f0) l (l.length : Int) ((i + 1 : Nat) : Int)) (fun k => ?_) (Ev.eq ?_ (ih (i + 1) _ (by omega) (by omega) (by omega)))
      · simp only [debt_list_total.l0, rd_debt]; rw [if_pos (by omega), if_pos (by omega), if_pos (by omega), wn (show i < l.length by omega) (by omega), wr ⟨by omega, by omega⟩]
      · rw [hd]; simp only [owedOf, Int.add_assoc]
  exact Ev.eq (by simp) (key l.length 0 0 (by omega) (by omega) (by omega))
def totalAns (l : List S31) : Int × Int := if debtFault l = 0 then (owedOf l, 0) else (0, debtFault l)
theorem debt_Total.ev (l : List S31) : Ev (fun k => debt_Total.f k l) (totalAns l) := by
  unfold debt_Total.f totalAns
  refine Ev.bind (debt_list_fault.ev l) ?_
  by_cases h : debtFault l = 0
  · rw [if_pos h]; exact Ev.pos h (Ev.bind (debt_list_total.ev l (fault_zero h).1 (fault_zero h).2) (Ev.now _))
  · rw [if_neg h]; exact Ev.neg h (Ev.now _)
theorem vendmeterref_In.eq (a b c : Int) : vendmeterref_In.f a b c = some (decide (b ≤ a ∧ a ≤ c)) := by
  unfold vendmeterref_In.f
  by_cases h : b ≤ a
  · rw [if_pos h]; simp [h]
  · rw [if_neg h]; simp [h]
theorem account_within.eq (a b c : Int) : account_within.f a b c = some (decide (b ≤ a ∧ a ≤ c)) := by
  unfold account_within.f
  by_cases h : b ≤ a
  · rw [if_pos h]; simp [h]
  · rw [if_neg h]; simp [h]
def inA (me rev nx mo bo fr : Int) : Prop := (0 ≤ me ∧ me ≤ 49) ∧ (0 ≤ rev ∧ rev ≤ 15) ∧ (1 ≤ nx ∧ nx ≤ 1048576) ∧ (0 ≤ mo ∧ mo ≤ 2399) ∧ (0 ≤ bo ∧ bo ≤ 10000000) ∧ (-1 ≤ fr ∧ fr ≤ mo)
instance (me rev nx mo bo fr : Int) : Decidable (inA me rev nx mo bo fr) := by unfold inA; infer_instance
def mayA (me rev nx mo bo fr : Int) (l : List S31) : Bool := decide (debtFault l = 0) && decide (inA me rev nx mo bo fr)
theorem mayA_no {me rev nx mo bo fr : Int} (l : List S31) (h : ¬ inA me rev nx mo bo fr) : mayA me rev nx mo bo fr l = false := by unfold mayA; rw [decide_eq_false h, Bool.and_false]
theorem mayA_no' {l : List S31} (me rev nx mo bo fr : Int) (h : ¬ debtFault l = 0) : mayA me rev nx mo bo fr l = false := by unfold mayA; rw [decide_eq_false h, Bool.false_and]
theorem mayA_in {me rev nx mo bo fr : Int} {l : List S31} (h : mayA me rev nx mo bo fr l = true) : debtFault l = 0 ∧ inA me rev nx mo bo fr := by
  unfold mayA at h
  rw [Bool.and_eq_true, decide_eq_true_eq, decide_eq_true_eq] at h
  exact h
theorem mayA_yes {me rev nx mo bo fr : Int} {l : List S31} (h : debtFault l = 0) (h' : inA me rev nx mo bo fr) : mayA me rev nx mo bo fr l = true := by unfold mayA; rw [decide_eq_true h, decide_eq_true h']; rfl
theorem total_code (l : List S31) : (totalAns l).2 = debtFault l := by
  unfold totalAns
  split
  · rename_i h; exact h.symm
  · rfl
theorem account_may.ev (me rev nx mo bo fr : Int) (l : List S31) : Ev (fun k => account_may.f k me rev nx mo bo fr l) (mayA me rev nx mo bo fr l) := by
  unfold account_may.f
  refine Ev.bind (debt_Total.ev l) ?_
  rw [total_code]
  simp only [account_within.eq, Option.bind_some]
  have no := fun h => mayA_no (me := me) (rev := rev) (nx := nx) (mo := mo) (bo := bo) (fr := fr) l h
  by_cases h0 : debtFault l = 0
  · refine Ev.pos h0 ?_
    by_cases h1 : 0 ≤ me ∧ me ≤ 49
    · refine Ev.pos (decide_eq_true h1) ?_
      by_cases h2 : 0 ≤ rev ∧ rev ≤ 15
      · refine Ev.pos (decide_eq_true h2) ?_
        by_cases h3 : 1 ≤ nx ∧ nx ≤ 1048576
        · refine Ev.pos (decide_eq_true h3) ?_
          by_cases h4 : 0 ≤ mo ∧ mo ≤ 2399
          · refine Ev.pos (decide_eq_true h4) ?_
            by_cases h5 : 0 ≤ bo ∧ bo ≤ 10000000
            · refine Ev.pos (decide_eq_true h5) (Ev.ret ?_)
              by_cases h6 : -1 ≤ fr ∧ fr ≤ mo
              · rw [decide_eq_true h6, mayA_yes h0 ⟨h1, h2, h3, h4, h5, h6⟩]
              · rw [decide_eq_false h6, no (by unfold inA; omega)]
            · exact Ev.neg (by rw [decide_eq_false h5]; decide) (Ev.ret (no (by unfold inA; omega)).symm)
          · exact Ev.neg (by rw [decide_eq_false h4]; decide) (Ev.ret (no (by unfold inA; omega)).symm)
        · exact Ev.neg (by rw [decide_eq_false h3]; decide) (Ev.ret (no (by unfold inA; omega)).symm)
      · exact Ev.neg (by rw [decide_eq_false h2]; decide) (Ev.ret (no (by unfold inA; omega)).symm)
    · exact Ev.neg (by rw [decide_eq_false h1]; decide) (Ev.ret (no (by unfold inA; omega)).symm)
  · exact Ev.neg h0 (Ev.ret (mayA_no' _ _ _ _ _ _ h0).symm)
theorem vendmeterlaw_sameDebts.ev (l) (hl : l.length ≤ 1152921504606846976) : Ev (fun k => vendmeterlaw_sameDebts.f k l l) true := by
  unfold vendmeterlaw_sameDebts.f
  refine Ev.pos rfl (same_ev hl (fun k i hi => ?_) (fun k => ?_))
  · simp only [vendmeterlaw_sameDebts.l0]; rw [if_pos (by omega), if_pos (by omega), if_pos (by omega)]; simp
  · simp only [vendmeterlaw_sameDebts.l0]; rw [if_neg (by omega)]
theorem vendmeterlaw_sameAccount.ev (a b c d e f : Int) (l : List S31) (hl : l.length ≤ 1152921504606846976) : Ev (fun k => vendmeterlaw_sameAccount.f k a b c d e f l a b c d e f l) true := by
  unfold vendmeterlaw_sameAccount.f
  exact Ev.pos rfl (Ev.pos rfl (Ev.pos rfl (Ev.pos rfl (Ev.pos rfl (Ev.pos rfl (Ev.bind (vendmeterlaw_sameDebts.ev l hl) (Ev.now _)))))))

theorem AccountOpens : vendmeterlaw_AccountOpens.Pure := by
  intro me _
  refine Ev.rounds ?_
  unfold vendmeterlaw_AccountOpens.f account_Open.f vendmeterref_Opened.f
  have e := account_may.ev me 0 1 0 0 (-1) []
  simp only [vendmeterref_In.eq, Option.bind_some]
  by_cases h : 0 ≤ me ∧ me ≤ 49
  · rw [mayA_yes rfl (by unfold inA; omega)] at e
    simp only [h, and_self, decide_true, if_true]
    exact Ev.bind (Ev.bind e (Ev.now _)) (Ev.letS (Ev.pos rfl (Ev.bind (vendmeterlaw_sameAccount.ev _ _ _ _ _ _ [] (by simp)) (Ev.now _))))
  · rw [mayA_no _ (by unfold inA; omega)] at e
    simp only [h, decide_false]
    exact Ev.bind (Ev.bind e (Ev.now _)) (Ev.letS (Ev.pos rfl (Ev.bind (vendmeterlaw_sameAccount.ev _ _ _ _ _ _ [] (by simp)) (Ev.now _))))

end Go.Proofs.Ytbdabpllbfemfaa.Pure
