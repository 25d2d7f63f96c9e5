/- vendmeterlaw.DebtAges returns true at every list of debts and number of months: debt.Age answers as the reference does, and the list is as it was. No condition. -/
import Derived.Test.YthjmmbcdkpjheaaPDebtAgesxL
import Derived.Test.YthjmmbcdkpjheaaXLib
set_option linter.unusedVariables false
set_option linter.unusedSimpArgs false
namespace Go.Proofs.Ythjmmbcdkpjheaa.Pure
open Go.RowKit Go.Proofs.Ythjmmbcdkpjheaa.PDebtAges Go.Proofs.YthjmmbcdkpjheaaW.PrintWords Go.Proofs.YthjmmbcdkpjheaaW.PrintLast Go.Proofs.YthjmmbcdkpjheaaW.PrintMore Go.Proofs.YthjmmbcdkpjheaaW.XLib

theorem rd_debt (l : List S76) (i : Nat) : rd_T76 l (i : Int) = l.getD i z76 := Eq.trans rfl rfl
def debtOk (d : S76) : Bool := decide (0 ≤ d.f0 ∧ d.f0 ≤ 1000000000 ∧ 0 ≤ d.f1 ∧ d.f1 ≤ 10000)
def debtFault (l : List S76) : Int := if (l.length : Int) > 8 then 1 else if l.all debtOk then 0 else 2
def owedOf : List S76 → Int
  | [] => 0
  | d :: l => d.f0 + owedOf l
theorem owed_bd (l : List S76) (h : l.all debtOk = true) : 0 ≤ owedOf l ∧ owedOf l ≤ 1000000000 * (l.length : Int) := by
  induction l with
  | nil => simp [owedOf]
  | cons d l ih =>
    simp only [List.all_cons, Bool.and_eq_true, debtOk, decide_eq_true_eq] at h
    have := ih h.2
    simp only [owedOf, List.length_cons]
    omega
theorem fault_zero {l : List S76} (h : debtFault l = 0) : l.length ≤ 8 ∧ l.all debtOk = true := by
  unfold debtFault at h
  split at h
  · omega
  · split at h
    · exact ⟨by omega, by assumption⟩
    · omega
theorem fault_cases (l : List S76) : debtFault l = 0 ∨ ¬ debtFault l = 0 := by omega
theorem debt_list_fault.ev (l : List S76) : Ev (fun k => debt_list_fault.f k l) (debtFault l) := by
  unfold debt_list_fault.f debtFault
  by_cases h8 : (l.length : Int) > 8
  · rw [if_pos h8]; exact Ev.pos h8 (Ev.now _)
  · rw [if_neg h8]
    refine Ev.neg h8 ?_
    have key : ∀ d i : Nat, i + d = l.length → Ev (fun k => debt_list_fault.l0 k l (l.length : Int) (i : Int)) (if (l.drop i).all debtOk then 0 else 2) := by
      intro d
      induction d with
      | zero =>
        intro i hi
        refine Ev.step (f := fun _ => some 0) (fun k => ?_) (Ev.ret ?_)
        · simp only [debt_list_fault.l0]; rw [if_neg (by omega)]
        · rw [List.drop_of_length_le (by omega)]; rfl
      | succ d ih =>
        intro i hi
        have hd := drop_getD l i z76 (by omega)
        rw [hd, List.all_cons]
        by_cases h : debtOk (l.getD i z76) = true
        · have h' := h
          simp only [debtOk, decide_eq_true_eq] at h'
          obtain ⟨a1, a2, a3, a4⟩ := h'
          refine Ev.step (f := fun k => debt_list_fault.l0 k l (l.length : Int) ((i + 1 : Nat) : Int)) (fun k => ?_) (Ev.eq ?_ (ih (i + 1) (by omega)))
          · simp only [debt_list_fault.l0, rd_debt]; rw [if_pos (by omega), if_pos (by omega), if_pos (by omega), if_neg (by omega), if_neg (by omega), if_neg (by omega), if_neg (by omega), wn (show i < l.length by omega) (by omega)]
          · rw [h, Bool.true_and]
        · refine Ev.step (f := fun _ => some 2) (fun k => ?_) (Ev.ret (by rw [Bool.eq_false_iff.2 h]; rfl))
          simp only [debtOk, decide_eq_true_eq] at h
          simp only [debt_list_fault.l0, rd_debt]; rw [if_pos (by omega), if_pos (by omega), if_pos (by omega)]
          by_cases b1 : (l.getD i z76).f0 < 0
          · rw [if_pos b1]
          · rw [if_neg b1]
            by_cases b2 : (l.getD i z76).f0 > 1000000000
            · rw [if_pos b2]
            · rw [if_neg b2]
              by_cases b3 : (l.getD i z76).f1 < 0
              · rw [if_pos b3]
              · rw [if_neg b3, if_pos (by omega)]
    exact key l.length 0 (by omega)
theorem vendmeterref_In.eq (a b c : Int) : vendmeterref_In.f a b c = some (decide (b ≤ a ∧ a ≤ c)) := by
  unfold vendmeterref_In.f
  by_cases h : b ≤ a
  · rw [if_pos h]; simp [h]
  · rw [if_neg h]; simp [h]
theorem vendmeterref_DebtFault.ev (l : List S76) : Ev (fun k => vendmeterref_DebtFault.f k l) (debtFault l) := by
  unfold vendmeterref_DebtFault.f debtFault
  by_cases h8 : (l.length : Int) > 8
  · rw [if_pos h8]; exact Ev.pos h8 (Ev.now _)
  · rw [if_neg h8]
    refine Ev.neg h8 ?_
    have key : ∀ d i : Nat, i + d = l.length → Ev (fun k => vendmeterref_DebtFault.l0 k l (i : Int)) (if (l.drop i).all debtOk then 0 else 2) := by
      intro d
      induction d with
      | zero =>
        intro i hi
        refine Ev.step (f := fun _ => some 0) (fun k => ?_) (Ev.ret ?_)
        · simp only [vendmeterref_DebtFault.l0]; rw [if_neg (by omega)]
        · rw [List.drop_of_length_le (by omega)]; rfl
      | succ d ih =>
        intro i hi
        have hd := drop_getD l i z76 (by omega)
        rw [hd, List.all_cons]
        by_cases h0 : 0 ≤ (l.getD i z76).f0 ∧ (l.getD i z76).f0 ≤ 1000000000
        · by_cases h1 : 0 ≤ (l.getD i z76).f1 ∧ (l.getD i z76).f1 ≤ 10000
          · refine Ev.step (f := fun k => vendmeterref_DebtFault.l0 k l ((i + 1 : Nat) : Int)) (fun k => ?_) (Ev.eq ?_ (ih (i + 1) (by omega)))
            · simp only [vendmeterref_DebtFault.l0, rd_debt, vendmeterref_In.eq]; rw [if_pos (by omega), if_pos (by omega), wn (show i < l.length by omega) (by omega)]
              simp only [h0, h1, and_self, decide_true, Option.bind_some, if_true]
            · rw [show debtOk (l.getD i z76) = true by simp only [debtOk, decide_eq_true_eq]; exact ⟨h0.1, h0.2, h1.1, h1.2⟩, Bool.true_and]
          · refine Ev.step (f := fun _ => some 2) (fun k => ?_) (Ev.ret ?_)
            · simp only [vendmeterref_DebtFault.l0, rd_debt, vendmeterref_In.eq]; rw [if_pos (by omega), if_pos (by omega)]
              simp only [h0, h1, and_self, decide_true, decide_false, Option.bind_some, if_true]; rfl
            · rw [show debtOk (l.getD i z76) = false by simp only [debtOk, decide_eq_false_iff_not]; omega]; rfl
        · refine Ev.step (f := fun _ => some 2) (fun k => ?_) (Ev.ret ?_)
          · simp only [vendmeterref_DebtFault.l0, rd_debt, vendmeterref_In.eq]; rw [if_pos (by omega), if_pos (by omega)]
            simp only [h0, decide_false, Option.bind_some]; rfl
          · rw [show debtOk (l.getD i z76) = false by simp only [debtOk, decide_eq_false_iff_not]; omega]; rfl
    exact key l.length 0 (by omega)
def agedAns (l : List S76) (m : Int) : List S76 × Int := if debtFault l = 0 then (if 0 ≤ m ∧ m ≤ 2400 then (l.map (debt_Age.one m.toNat), 0) else ([], 2)) else ([], debtFault l)
theorem debt_Age.ev (l : List S76) (m : Int) : Ev (fun k => debt_Age.f k l m) (agedAns l m) := by
  unfold debt_Age.f agedAns
  refine Ev.bind (debt_list_fault.ev l) ?_
  by_cases h : debtFault l = 0
  · refine Ev.eq (if_pos h).symm ?_
    obtain ⟨h8, hok⟩ := fault_zero h
    refine Ev.pos h (Ev.pos ⟨hok, by omega⟩ ?_)
    by_cases h0 : m < 0
    · exact Ev.eq (if_neg (by omega)).symm (Ev.pos h0 (Ev.now _))
    · refine Ev.neg h0 ?_
      by_cases h1 : m > 2400
      · exact Ev.eq (if_neg (by omega)).symm (Ev.pos h1 (Ev.now _))
      · exact Ev.eq (if_pos (by omega)).symm (Ev.neg h1 (Ev.now _))
  · exact Ev.eq (if_neg h).symm (Ev.neg h (Ev.now _))
theorem ag_fix (o b : Int) (h : o * b / 10000 = 0) : ∀ n, debt_Age.ag n o b = o
  | 0 => rfl
  | n + 1 => by rw [debt_Age.ag, if_pos h]
theorem ag_step (n : Nat) (o b : Int) (ho : o ≤ 1000000000) : debt_Age.ag (n + 1) o b = debt_Age.ag n (mn (o + o * b / 10000) 1000000000) b := by
  by_cases h : o * b / 10000 = 0
  · rw [ag_fix o b h, h, Int.add_zero, show mn o 1000000000 = o by unfold mn; split <;> omega, ag_fix o b h]
  · rw [debt_Age.ag, if_neg h]
theorem vendmeterref_aged.ev (m : Nat) (hm : m ≤ 2400) (b : Int) (hb0 : 0 ≤ b) (hb1 : b ≤ 10000) : ∀ (d i : Nat) (o : Int), i + d = m → 0 ≤ o → o ≤ 1000000000 → Ev (fun k => vendmeterref_aged.l0 k (m : Int) (i : Int) o b) (debt_Age.ag d o b, b) := by
  intro d
  induction d with
  | zero =>
    intro i o hi h0 h1
    refine Ev.step (f := fun _ => some (o, b)) (fun k => ?_) (Ev.now _)
    simp only [vendmeterref_aged.l0]; rw [if_neg (by omega)]
  | succ d ih =>
    intro i o hi h0 h1
    obtain ⟨q0, q1⟩ := debt_Age.ag_bd 0 o b h0 h1 hb0 hb1
    have e1 : wrap64 (o + wrap64 (Int.tdiv (wrap64 (o * b)) 10000)) = o + o * b / 10000 := by
      generalize o * b = q at q0 q1 ⊢
      rw [wr (a := q) ⟨by omega, by omega⟩, td q0, wr (a := q / 10000) ⟨by omega, by omega⟩, wr ⟨by omega, by omega⟩]
    have q2 : 0 ≤ o * b / 10000 := by generalize o * b = q at q0 q1 ⊢; omega
    rw [ag_step d o b h1]
    by_cases hc : o + o * b / 10000 > 1000000000
    · refine Ev.step (f := fun k => vendmeterref_aged.l0 k (m : Int) ((i + 1 : Nat) : Int) 1000000000 b) (fun k => ?_) (Ev.eq ?_ (ih (i + 1) 1000000000 (by omega) (by omega) (by omega)))
      · simp only [vendmeterref_aged.l0]; rw [if_pos (by omega), e1, if_pos hc, wn (show i < m by omega) (by omega)]
      · rw [show mn (o + o * b / 10000) 1000000000 = 1000000000 by unfold mn; split <;> omega]
    · refine Ev.step (f := fun k => vendmeterref_aged.l0 k (m : Int) ((i + 1 : Nat) : Int) (o + o * b / 10000) b) (fun k => ?_) (Ev.eq ?_ (ih (i + 1) _ (by omega) (by omega) (by omega)))
      · simp only [vendmeterref_aged.l0]; rw [if_pos (by omega), e1, if_neg hc, wn (show i < m by omega) (by omega)]
      · rw [show mn (o + o * b / 10000) 1000000000 = o + o * b / 10000 by unfold mn; split <;> omega]
theorem vendmeterref_Aged.ev (l : List S76) (m : Int) : Ev (fun k => vendmeterref_Aged.f k l m) (agedAns l m) := by
  unfold vendmeterref_Aged.f agedAns
  refine Ev.bind (vendmeterref_DebtFault.ev l) ?_
  by_cases h : debtFault l = 0
  · refine Ev.eq (if_pos h).symm ?_
    obtain ⟨h8, hok⟩ := fault_zero h
    refine Ev.pos h ?_
    simp only [vendmeterref_In.eq, Option.bind_some]
    by_cases hm : 0 ≤ m ∧ m ≤ 2400
    · rw [if_pos hm]
      refine Ev.pos (decide_eq_true hm) ?_
      obtain ⟨n, rfl⟩ : ∃ n : Nat, m = n := ⟨m.toNat, by omega⟩
      rw [Int.toNat_natCast]
      have key : ∀ (d i : Nat) (a : List S76), i + d = l.length → a.length = i → Ev (fun k => vendmeterref_Aged.l0 k l (n : Int) a (i : Int)) (a ++ (l.drop i).map (debt_Age.one n), 0) := by
        intro d
        induction d with
        | zero =>
          intro i a hi ha
          refine Ev.step (f := fun _ => some (a, 0)) (fun k => ?_) (Ev.ret ?_)
          · simp only [vendmeterref_Aged.l0]; rw [if_neg (by omega)]
          · rw [List.drop_of_length_le (by omega)]; simp
        | succ d ih =>
          intro i a hi ha
          have hd := drop_getD l i z76 (by omega)
          have hmem := List.all_eq_true.1 hok _ (getD_mem l i z76 (by omega))
          simp only [debtOk, decide_eq_true_eq] at hmem
          refine Ev.step (f := fun k => (vendmeterref_aged.f k (rd_T76 l (i : Int)).f0 (rd_T76 l (i : Int)).f1 (n : Int)).bind fun bt => vendmeterref_Aged.l0 k l (n : Int) (a ++ [⟨bt.1, bt.2⟩]) ((i + 1 : Nat) : Int)) (fun k => ?_) ?_
          · simp only [vendmeterref_Aged.l0]; rw [if_pos (by omega), if_pos (by omega), wn (show i < l.length by omega) (by omega)]
            congr 1; funext bt; rw [if_pos (by omega)]
          · rw [rd_debt]
            unfold vendmeterref_aged.f
            refine Ev.bind (vendmeterref_aged.ev n (by omega) _ (by omega) (by omega) n 0 _ (by omega) (by omega) (by omega)) ?_
            refine Ev.eq ?_ (ih (i + 1) _ (by omega) (by simp [ha]))
            rw [hd, List.map_cons, List.append_assoc]
            rfl
      exact Ev.eq (by simp) (key l.length 0 [] (by omega) rfl)
    · rw [if_neg hm]; exact Ev.neg (by rw [decide_eq_true_eq]; exact hm) (Ev.now _)
  · exact Ev.eq (if_neg h).symm (Ev.neg h (Ev.now _))
theorem aged_len (l : List S76) (m : Int) : (agedAns l m).1.length ≤ l.length := by
  unfold agedAns
  repeat' split
  all_goals simp
theorem vendmeterlaw_sameDebts.ev (l) (hl : l.length ≤ 1152921504606846976) : Ev (fun k => vendmeterlaw_sameDebts.f k l l) true := by
  unfold vendmeterlaw_sameDebts.f
  refine Ev.pos rfl (same_ev hl (fun k i hi => ?_) (fun k => ?_))
  · simp only [vendmeterlaw_sameDebts.l0]; rw [if_pos (by omega), if_pos (by omega), if_pos (by omega)]; simp
  · simp only [vendmeterlaw_sameDebts.l0]; rw [if_neg (by omega)]
theorem vendmeterlaw_debts.eq (l) (h : l.length * 16 ≤ 140737488351232) : vendmeterlaw_debts.f l = some l := by
  unfold vendmeterlaw_debts.f
  rw [if_pos (by simp only [List.length_nil]; omega)]; rfl

theorem DebtAges : vendmeterlaw_DebtAges.Pure := by
  intro l m h _
  refine Ev.rounds ?_
  unfold vendmeterlaw_DebtAges.f
  rw [vendmeterlaw_debts.eq l h.1]
  have hl := h.1
  have ha := aged_len l m
  refine Ev.letS (Ev.bind (debt_Age.ev l m) (Ev.bind (vendmeterref_Aged.ev l m) (Ev.pos rfl (Ev.bind (vendmeterlaw_sameDebts.ev _ (by omega)) (Ev.pos rfl (Ev.bind (vendmeterlaw_sameDebts.ev l (by omega)) (Ev.now _)))))))

end Go.Proofs.Ythjmmbcdkpjheaa.Pure
