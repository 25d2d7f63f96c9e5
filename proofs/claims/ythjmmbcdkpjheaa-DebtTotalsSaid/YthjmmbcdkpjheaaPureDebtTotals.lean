/- vendmeterlaw.DebtTotals returns true at every list of debts: debt.Total answers as the reference does, and the list is as it was. No condition. -/
import Derived.Test.YthjmmbcdkpjheaaPDebtTotalsxL
import Derived.Test.YthjmmbcdkpjheaaXLib
set_option linter.unusedVariables false
set_option linter.unusedSimpArgs false
namespace Go.Proofs.Ythjmmbcdkpjheaa.Pure
open Go.RowKit Go.Proofs.Ythjmmbcdkpjheaa.PDebtTotals Go.Proofs.YthjmmbcdkpjheaaW.PrintWords Go.Proofs.YthjmmbcdkpjheaaW.PrintLast Go.Proofs.YthjmmbcdkpjheaaW.PrintMore Go.Proofs.YthjmmbcdkpjheaaW.XLib

theorem rd_debt (l : List S76) (i : Nat) : rd_T76 l (i : Int) = l.getD i z76 := Eq.trans rfl rfl
def debtOk (d : S76) : Bool := decide (0 ≤ d.f0 ∧ d.f0 ≤ 1000000000 ∧ 0 ≤ d.f1 ∧ d.f1 ≤ 10000)
def debtFault (l : List S76) : Int := if (l.length : Int) > 8 then 1 else if l.all debtOk then 0 else 2
def owedOf : List S76 → Int
  | [] => 0
  | d :: l => d.f0 + owedOf l
theorem owed_bd (l : List S76) (h : l.all debtOk = true) : 0 ≤ owedOf l ∧ owedOf l ≤ 1000000000 * (l.length : Int) := by
  induction l with
  | nil => simp [owedOf]
  | cons d l ih =>
    simp only [List.all_cons, Bool.and_eq_true, debtOk, decide_eq_true_eq] at h
    have := ih h.2
    simp only [owedOf, List.length_cons]
    omega
theorem fault_zero {l : List S76} (h : debtFault l = 0) : l.length ≤ 8 ∧ l.all debtOk = true := by
  unfold debtFault at h
  split at h
  · omega
  · split at h
    · exact ⟨by omega, by assumption⟩
    · omega
theorem fault_cases (l : List S76) : debtFault l = 0 ∨ ¬ debtFault l = 0 := by omega
theorem debt_list_fault.ev (l : List S76) : Ev (fun k => debt_list_fault.f k l) (debtFault l) := by
  unfold debt_list_fault.f debtFault
  by_cases h8 : (l.length : Int) > 8
  · rw [if_pos h8]; exact Ev.pos h8 (Ev.now _)
  · rw [if_neg h8]
    refine Ev.neg h8 ?_
    have key : ∀ d i : Nat, i + d = l.length → Ev (fun k => debt_list_fault.l0 k l (l.length : Int) (i : Int)) (if (l.drop i).all debtOk then 0 else 2) := by
      intro d
      induction d with
      | zero =>
        intro i hi
        refine Ev.step (f := fun _ => some 0) (fun k => ?_) (Ev.ret ?_)
        · simp only [debt_list_fault.l0]; rw [if_neg (by omega)]
        · rw [List.drop_of_length_le (by omega)]; rfl
      | succ d ih =>
        intro i hi
        have hd := drop_getD l i z76 (by omega)
        rw [hd, List.all_cons]
        by_cases h : debtOk (l.getD i z76) = true
        · have h' := h
          simp only [debtOk, decide_eq_true_eq] at h'
          obtain ⟨a1, a2, a3, a4⟩ := h'
          refine Ev.step (f := fun k => debt_list_fault.l0 k l (l.length : Int) ((i + 1 : Nat) : Int)) (fun k => ?_) (Ev.eq ?_ (ih (i + 1) (by omega)))
          · simp only [debt_list_fault.l0, rd_debt]; rw [if_pos (by omega), if_pos (by omega), if_pos (by omega), if_neg (by omega), if_neg (by omega), if_neg (by omega), if_neg (by omega), wn (show i < l.length by omega) (by omega)]
          · rw [h, Bool.true_and]
        · refine Ev.step (f := fun _ => some 2) (fun k => ?_) (Ev.ret (by rw [Bool.eq_false_iff.2 h]; rfl))
          simp only [debtOk, decide_eq_true_eq] at h
          simp only [debt_list_fault.l0, rd_debt]; rw [if_pos (by omega), if_pos (by omega), if_pos (by omega)]
          by_cases b1 : (l.getD i z76).f0 < 0
          · rw [if_pos b1]
          · rw [if_neg b1]
            by_cases b2 : (l.getD i z76).f0 > 1000000000
            · rw [if_pos b2]
            · rw [if_neg b2]
              by_cases b3 : (l.getD i z76).f1 < 0
              · rw [if_pos b3]
              · rw [if_neg b3, if_pos (by omega)]
    exact key l.length 0 (by omega)
theorem debt_list_total.ev (l : List S76) (h8 : l.length ≤ 8) (hok : l.all debtOk = true) : Ev (fun k => debt_list_total.f k l) (owedOf l) := by
  unfold debt_list_total.f
  have key : ∀ (d i : Nat) (s : Int), i + d = l.length → 0 ≤ s → s ≤ 1000000000 * (i : Int) → Ev (fun k => debt_list_total.l0 k s l (l.length : Int) (i : Int)) (s + owedOf (l.drop i)) := by
    intro d
    induction d with
    | zero =>
      intro i s hi h1 h2
      refine Ev.step (f := fun _ => some s) (fun k => ?_) (Ev.ret ?_)
      · simp only [debt_list_total.l0]; rw [if_neg (by omega)]
      · rw [List.drop_of_length_le (by omega)]; simp [owedOf]
    | succ d ih =>
      intro i s hi h1 h2
      have hd := drop_getD l i z76 (by omega)
      have hm := List.all_eq_true.1 hok _ (getD_mem l i z76 (by omega))
      simp only [debtOk, decide_eq_true_eq] at hm
      refine Ev.step (f := fun k => debt_list_total.l0 k (s + (l.getD i z76).f0) l (l.length : Int) ((i + 1 : Nat) : Int)) (fun k => ?_) (Ev.eq ?_ (ih (i + 1) _ (by omega) (by omega) (by omega)))
      · simp only [debt_list_total.l0, rd_debt]; rw [if_pos (by omega), if_pos (by omega), if_pos (by omega), wn (show i < l.length by omega) (by omega), wr ⟨by omega, by omega⟩]
      · rw [hd]; simp only [owedOf, Int.add_assoc]
  exact Ev.eq (by simp) (key l.length 0 0 (by omega) (by omega) (by omega))
def totalAns (l : List S76) : Int × Int := if debtFault l = 0 then (owedOf l, 0) else (0, debtFault l)
theorem debt_Total.ev (l : List S76) : Ev (fun k => debt_Total.f k l) (totalAns l) := by
  unfold debt_Total.f totalAns
  refine Ev.bind (debt_list_fault.ev l) ?_
  by_cases h : debtFault l = 0
  · rw [if_pos h]; exact Ev.pos h (Ev.bind (debt_list_total.ev l (fault_zero h).1 (fault_zero h).2) (Ev.now _))
  · rw [if_neg h]; exact Ev.neg h (Ev.now _)
theorem vendmeterref_In.eq (a b c : Int) : vendmeterref_In.f a b c = some (decide (b ≤ a ∧ a ≤ c)) := by
  unfold vendmeterref_In.f
  by_cases h : b ≤ a
  · rw [if_pos h]; simp [h]
  · rw [if_neg h]; simp [h]
theorem vendmeterref_DebtFault.ev (l : List S76) : Ev (fun k => vendmeterref_DebtFault.f k l) (debtFault l) := by
  unfold vendmeterref_DebtFault.f debtFault
  by_cases h8 : (l.length : Int) > 8
  · rw [if_pos h8]; exact Ev.pos h8 (Ev.now _)
  · rw [if_neg h8]
    refine Ev.neg h8 ?_
    have key : ∀ d i : Nat, i + d = l.length → Ev (fun k => vendmeterref_DebtFault.l0 k l (i : Int)) (if (l.drop i).all debtOk then 0 else 2) := by
      intro d
      induction d with
      | zero =>
        intro i hi
        refine Ev.step (f := fun _ => some 0) (fun k => ?_) (Ev.ret ?_)
        · simp only [vendmeterref_DebtFault.l0]; rw [if_neg (by omega)]
        · rw [List.drop_of_length_le (by omega)]; rfl
      | succ d ih =>
        intro i hi
        have hd := drop_getD l i z76 (by omega)
        rw [hd, List.all_cons]
        by_cases h0 : 0 ≤ (l.getD i z76).f0 ∧ (l.getD i z76).f0 ≤ 1000000000
        · by_cases h1 : 0 ≤ (l.getD i z76).f1 ∧ (l.getD i z76).f1 ≤ 10000
          · refine Ev.step (f := fun k => vendmeterref_DebtFault.l0 k l ((i + 1 : Nat) : Int)) (fun k => ?_) (Ev.eq ?_ (ih (i + 1) (by omega)))
            · simp only [vendmeterref_DebtFault.l0, rd_debt, vendmeterref_In.eq]; rw [if_pos (by omega), if_pos (by omega), wn (show i < l.length by omega) (by omega)]
              simp only [h0, h1, and_self, decide_true, Option.bind_some, if_true]
            · rw [show debtOk (l.getD i z76) = true by simp only [debtOk, decide_eq_true_eq]; exact ⟨h0.1, h0.2, h1.1, h1.2⟩, Bool.true_and]
          · refine Ev.step (f := fun _ => some 2) (fun k => ?_) (Ev.ret ?_)
            · simp only [vendmeterref_DebtFault.l0, rd_debt, vendmeterref_In.eq]; rw [if_pos (by omega), if_pos (by omega)]
              simp only [h0, h1, and_self, decide_true, decide_false, Option.bind_some, if_true]; rfl
            · rw [show debtOk (l.getD i z76) = false by simp only [debtOk, decide_eq_false_iff_not]; omega]; rfl
        · refine Ev.step (f := fun _ => some 2) (fun k => ?_) (Ev.ret ?_)
          · simp only [vendmeterref_DebtFault.l0, rd_debt, vendmeterref_In.eq]; rw [if_pos (by omega), if_pos (by omega)]
            simp only [h0, decide_false, Option.bind_some]; rfl
          · rw [show debtOk (l.getD i z76) = false by simp only [debtOk, decide_eq_false_iff_not]; omega]; rfl
    exact key l.length 0 (by omega)
def totalAnsR (l : List S76) : Int × Int := if debtFault l = 0 then (owedOf l, 0) else (0, debtFault l)
theorem vendmeterref_Owed.ev (l : List S76) : Ev (fun k => vendmeterref_Owed.f k l) (totalAnsR l) := by
  unfold vendmeterref_Owed.f totalAnsR
  refine Ev.bind (vendmeterref_DebtFault.ev l) ?_
  by_cases h : debtFault l = 0
  · rw [if_pos h]
    refine Ev.pos h ?_
    obtain ⟨h8, hok⟩ := fault_zero h
    have key : ∀ (d i : Nat) (s : Int), i + d = l.length → 0 ≤ s → s ≤ 1000000000 * (i : Int) → Ev (fun k => vendmeterref_Owed.l0 k l s (i : Int)) (s + owedOf (l.drop i), 0) := by
      intro d
      induction d with
      | zero =>
        intro i s hi h1 h2
        refine Ev.step (f := fun _ => some (s, 0)) (fun k => ?_) (Ev.ret ?_)
        · simp only [vendmeterref_Owed.l0]; rw [if_neg (by omega)]
        · rw [List.drop_of_length_le (by omega)]; simp [owedOf]
      | succ d ih =>
        intro i s hi h1 h2
        have hd := drop_getD l i z76 (by omega)
        have hm := List.all_eq_true.1 hok _ (getD_mem l i z76 (by omega))
        simp only [debtOk, decide_eq_true_eq] at hm
        refine Ev.step (f := fun k => vendmeterref_Owed.l0 k l (s + (l.getD i z76).f0) ((i + 1 : Nat) : Int)) (fun k => ?_) (Ev.eq ?_ (ih (i + 1) _ (by omega) (by omega) (by omega)))
        · simp only [vendmeterref_Owed.l0, rd_debt]; rw [if_pos (by omega), if_pos (by omega), wn (show i < l.length by omega) (by omega), wr ⟨by omega, by omega⟩]
        · rw [hd]; simp only [owedOf, Int.add_assoc]
    exact Ev.eq (by simp) (key l.length 0 0 (by omega) (by omega) (by omega))
  · rw [if_neg h]; exact Ev.neg h (Ev.now _)
theorem vendmeterlaw_sameDebts.ev (l) (hl : l.length ≤ 1152921504606846976) : Ev (fun k => vendmeterlaw_sameDebts.f k l l) true := by
  unfold vendmeterlaw_sameDebts.f
  refine Ev.pos rfl (same_ev hl (fun k i hi => ?_) (fun k => ?_))
  · simp only [vendmeterlaw_sameDebts.l0]; rw [if_pos (by omega), if_pos (by omega), if_pos (by omega)]; simp
  · simp only [vendmeterlaw_sameDebts.l0]; rw [if_neg (by omega)]
theorem vendmeterlaw_debts.eq (l) (h : l.length * 16 ≤ 140737488351232) : vendmeterlaw_debts.f l = some l := by
  unfold vendmeterlaw_debts.f
  rw [if_pos (by simp only [List.length_nil]; omega)]; rfl

theorem DebtTotals : vendmeterlaw_DebtTotals.Pure := by
  intro l h
  refine Ev.rounds ?_
  unfold vendmeterlaw_DebtTotals.f
  rw [vendmeterlaw_debts.eq l h.1]
  refine Ev.letS (Ev.bind (debt_Total.ev l) (Ev.bind (vendmeterref_Owed.ev l) (Ev.pos rfl (Ev.pos rfl (Ev.bind (vendmeterlaw_sameDebts.ev l (by have := h.1; omega)) (Ev.now _))))))

end Go.Proofs.Ythjmmbcdkpjheaa.Pure
