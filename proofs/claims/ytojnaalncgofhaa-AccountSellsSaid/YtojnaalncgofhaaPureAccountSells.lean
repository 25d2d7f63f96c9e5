/- vendmeterlaw.AccountSells returns true at every account, terms, tender and month: account.Sell answers as the reference does, and account and terms are as they were. No condition. -/
import Derived.Test.YtojnaalncgofhaaPAccountSellsxL
import Derived.Test.YtojnaalncgofhaaXAccountSellsLib
set_option linter.unusedVariables false
set_option linter.unusedSimpArgs false
namespace Go.Proofs.Ytojnaalncgofhaa.Pure
open Go.RowKit Go.Proofs.Ytojnaalncgofhaa.PAccountSells Go.Proofs.YtojnaalncgofhaaW.PrintWords Go.Proofs.YtojnaalncgofhaaW.PrintLast Go.Proofs.YtojnaalncgofhaaW.PrintMore Go.Proofs.YtojnaalncgofhaaW.XLib

theorem rd_debt (l : List S39) (i : Nat) : rd_T39 l (i : Int) = l.getD i z39 := Eq.trans rfl rfl
def debtOk (d : S39) : Bool := decide (0 ≤ d.f0 ∧ d.f0 ≤ 1000000000 ∧ 0 ≤ d.f1 ∧ d.f1 ≤ 10000)
def debtFault (l : List S39) : Int := if (l.length : Int) > 8 then 1 else if l.all debtOk then 0 else 2
def owedOf : List S39 → Int
  | [] => 0
  | d :: l => d.f0 + owedOf l
theorem owed_bd (l : List S39) (h : l.all debtOk = true) : 0 ≤ owedOf l ∧ owedOf l ≤ 1000000000 * (l.length : Int) := by
  induction l with
  | nil => simp [owedOf]
  | cons d l ih =>
    simp only [List.all_cons, Bool.and_eq_true, debtOk, decide_eq_true_eq] at h
    have := ih h.2
    simp only [owedOf, List.length_cons]
    omega
theorem fault_zero {l : List S39} (h : debtFault l = 0) : l.length ≤ 8 ∧ l.all debtOk = true := by
  unfold debtFault at h
  split at h
  · omega
  · split at h
    · exact ⟨by omega, by assumption⟩
    · omega
theorem fault_cases (l : List S39) : debtFault l = 0 ∨ ¬ debtFault l = 0 := by omega
theorem debt_list_fault.ev (l : List S39) : Ev (fun k => debt_list_fault.f k l) (debtFault l) := by
  unfold debt_list_fault.f debtFault
  by_cases h8 : (l.length : Int) > 8
  · rw [if_pos h8]; exact Ev.pos h8 (Ev.now _)
  · rw [if_neg h8]
    refine Ev.neg h8 ?_
    have key : ∀ d i : Nat, i + d = l.length → Ev (fun k => debt_list_fault.l0 k l (l.length : Int) (i : Int)) (if (l.drop i).all debtOk then 0 else 2) := by
      intro d
      induction d with
      | zero =>
        intro i hi
        refine Ev.step (f := fun _ => some 0) (fun k => ?_) (Ev.ret ?_)
        · simp only [debt_list_fault.l0]; rw [if_neg (by omega)]
        · rw [List.drop_of_length_le (by omega)]; rfl
      | succ d ih =>
        intro i hi
        have hd := drop_getD l i z39 (by omega)
        rw [hd, List.all_cons]
        by_cases h : debtOk (l.getD i z39) = true
        · have h' := h
          simp only [debtOk, decide_eq_true_eq] at h'
          obtain ⟨a1, a2, a3, a4⟩ := h'
          refine Ev.step (f := fun k => debt_list_fault.l0 k l (l.length : Int) ((i + 1 : Nat) : Int)) (fun k => ?_) (Ev.eq ?_ (ih (i + 1) (by omega)))
          · simp only [debt_list_fault.l0, rd_debt]; rw [if_pos (by omega), if_pos (by omega), if_pos (by omega), if_neg (by omega), if_neg (by omega), if_neg (by omega), if_neg (by omega), wn (show i < l.length by omega) (by omega)]
          · rw [h, Bool.true_and]
        · refine Ev.step (f := fun _ => some 2) (fun k => ?_) (Ev.ret (by rw [Bool.eq_false_iff.2 h]; rfl))
          simp only [debtOk, decide_eq_true_eq] at h
          simp only [debt_list_fault.l0, rd_debt]; rw [if_pos (by omega), if_pos (by omega), if_pos (by omega)]
          by_cases b1 : (l.getD i z39).f0 < 0
          · rw [if_pos b1]
          · rw [if_neg b1]
            by_cases b2 : (l.getD i z39).f0 > 1000000000
            · rw [if_pos b2]
            · rw [if_neg b2]
              by_cases b3 : (l.getD i z39).f1 < 0
              · rw [if_pos b3]
              · rw [if_neg b3, if_pos (by omega)]
    exact key l.length 0 (by omega)
theorem debt_list_total.ev (l : List S39) (h8 : l.length ≤ 8) (hok : l.all debtOk = true) : Ev (fun k => debt_list_total.f k l) (owedOf l) := by
  unfold debt_list_total.f
  have key : ∀ (d i : Nat) (s : Int), i + d = l.length → 0 ≤ s → s ≤ 1000000000 * (i : Int) → Ev (fun k => debt_list_total.l0 k s l (l.length : Int) (i : Int)) (s + owedOf (l.drop i)) := by
    intro d
    induction d with
    | zero =>
      intro i s hi h1 h2
      refine Ev.step (f := fun _ => some s) (fun k => ?_) (Ev.ret ?_)
      · simp only [debt_list_total.l0]; rw [if_neg (by omega)]
      · rw [List.drop_of_length_le (by omega)]; simp [owedOf]
    | succ d ih =>
      intro i s hi h1 h2
      have hd := drop_getD l i z39 (by omega)
      have hm := List.all_eq_true.1 hok _ (getD_mem l i z39 (by omega))
      simp only [debtOk, decide_eq_true_eq] at hm
      refine Ev.step (f := fun k => debt_list_total.l0 k (s + (l.getD i z39).f0) l (l.length : Int) ((i + 1 : Nat) : Int)) (fun k => ?_) (Ev.eq ?_ (ih (i + 1) _ (by omega) (by omega) (by omega)))
      · simp only [debt_list_total.l0, rd_debt]; rw [if_pos (by omega), if_pos (by omega), if_pos (by omega), wn (show i < l.length by omega) (by omega), wr ⟨by omega, by omega⟩]
      · rw [hd]; simp only [owedOf, Int.add_assoc]
  exact Ev.eq (by simp) (key l.length 0 0 (by omega) (by omega) (by omega))
def totalAns (l : List S39) : Int × Int := if debtFault l = 0 then (owedOf l, 0) else (0, debtFault l)
theorem debt_Total.ev (l : List S39) : Ev (fun k => debt_Total.f k l) (totalAns l) := by
  unfold debt_Total.f totalAns
  refine Ev.bind (debt_list_fault.ev l) ?_
  by_cases h : debtFault l = 0
  · rw [if_pos h]; exact Ev.pos h (Ev.bind (debt_list_total.ev l (fault_zero h).1 (fault_zero h).2) (Ev.now _))
  · rw [if_neg h]; exact Ev.neg h (Ev.now _)
theorem vendmeterref_In.eq (a b c : Int) : vendmeterref_In.f a b c = some (decide (b ≤ a ∧ a ≤ c)) := by
  unfold vendmeterref_In.f
  by_cases h : b ≤ a
  · rw [if_pos h]; simp [h]
  · rw [if_neg h]; simp [h]
theorem vendmeterref_DebtFault.ev (l : List S39) : Ev (fun k => vendmeterref_DebtFault.f k l) (debtFault l) := by
  unfold vendmeterref_DebtFault.f debtFault
  by_cases h8 : (l.length : Int) > 8
  · rw [if_pos h8]; exact Ev.pos h8 (Ev.now _)
  · rw [if_neg h8]
    refine Ev.neg h8 ?_
    have key : ∀ d i : Nat, i + d = l.length → Ev (fun k => vendmeterref_DebtFault.l0 k l (i : Int)) (if (l.drop i).all debtOk then 0 else 2) := by
      intro d
      induction d with
      | zero =>
        intro i hi
        refine Ev.step (f := fun _ => some 0) (fun k => ?_) (Ev.ret ?_)
        · simp only [vendmeterref_DebtFault.l0]; rw [if_neg (by omega)]
        · rw [List.drop_of_length_le (by omega)]; rfl
      | succ d ih =>
        intro i hi
        have hd := drop_getD l i z39 (by omega)
        rw [hd, List.all_cons]
        by_cases h0 : 0 ≤ (l.getD i z39).f0 ∧ (l.getD i z39).f0 ≤ 1000000000
        · by_cases h1 : 0 ≤ (l.getD i z39).f1 ∧ (l.getD i z39).f1 ≤ 10000
          · refine Ev.step (f := fun k => vendmeterref_DebtFault.l0 k l ((i + 1 : Nat) : Int)) (fun k => ?_) (Ev.eq ?_ (ih (i + 1) (by omega)))
            · simp only [vendmeterref_DebtFault.l0, rd_debt, vendmeterref_In.eq]; rw [if_pos (by omega), if_pos (by omega), wn (show i < l.length by omega) (by omega)]
              simp only [h0, h1, and_self, decide_true, Option.bind_some, if_true]
            · rw [show debtOk (l.getD i z39) = true by simp only [debtOk, decide_eq_true_eq]; exact ⟨h0.1, h0.2, h1.1, h1.2⟩, Bool.true_and]
          · refine Ev.step (f := fun _ => some 2) (fun k => ?_) (Ev.ret ?_)
            · simp only [vendmeterref_DebtFault.l0, rd_debt, vendmeterref_In.eq]; rw [if_pos (by omega), if_pos (by omega)]
              simp only [h0, h1, and_self, decide_true, decide_false, Option.bind_some, if_true]; rfl
            · rw [show debtOk (l.getD i z39) = false by simp only [debtOk, decide_eq_false_iff_not]; omega]; rfl
        · refine Ev.step (f := fun _ => some 2) (fun k => ?_) (Ev.ret ?_)
          · simp only [vendmeterref_DebtFault.l0, rd_debt, vendmeterref_In.eq]; rw [if_pos (by omega), if_pos (by omega)]
            simp only [h0, decide_false, Option.bind_some]; rfl
          · rw [show debtOk (l.getD i z39) = false by simp only [debtOk, decide_eq_false_iff_not]; omega]; rfl
    exact key l.length 0 (by omega)
theorem account_within.eq (a b c : Int) : account_within.f a b c = some (decide (b ≤ a ∧ a ≤ c)) := by
  unfold account_within.f
  by_cases h : b ≤ a
  · rw [if_pos h]; simp [h]
  · rw [if_neg h]; simp [h]
def inA (me rev nx mo bo fr : Int) : Prop := (0 ≤ me ∧ me ≤ 49) ∧ (0 ≤ rev ∧ rev ≤ 15) ∧ (1 ≤ nx ∧ nx ≤ 1048576) ∧ (0 ≤ mo ∧ mo ≤ 2399) ∧ (0 ≤ bo ∧ bo ≤ 10000000) ∧ (-1 ≤ fr ∧ fr ≤ mo)
instance (me rev nx mo bo fr : Int) : Decidable (inA me rev nx mo bo fr) := by unfold inA; infer_instance
def mayA (me rev nx mo bo fr : Int) (l : List S39) : Bool := decide (debtFault l = 0) && decide (inA me rev nx mo bo fr)
theorem mayA_no {me rev nx mo bo fr : Int} (l : List S39) (h : ¬ inA me rev nx mo bo fr) : mayA me rev nx mo bo fr l = false := by unfold mayA; rw [decide_eq_false h, Bool.and_false]
theorem mayA_no' {l : List S39} (me rev nx mo bo fr : Int) (h : ¬ debtFault l = 0) : mayA me rev nx mo bo fr l = false := by unfold mayA; rw [decide_eq_false h, Bool.false_and]
theorem mayA_in {me rev nx mo bo fr : Int} {l : List S39} (h : mayA me rev nx mo bo fr l = true) : debtFault l = 0 ∧ inA me rev nx mo bo fr := by
  unfold mayA at h
  rw [Bool.and_eq_true, decide_eq_true_eq, decide_eq_true_eq] at h
  exact h
theorem mayA_yes {me rev nx mo bo fr : Int} {l : List S39} (h : debtFault l = 0) (h' : inA me rev nx mo bo fr) : mayA me rev nx mo bo fr l = true := by unfold mayA; rw [decide_eq_true h, decide_eq_true h']; rfl
theorem total_code (l : List S39) : (totalAns l).2 = debtFault l := by
  unfold totalAns
  split
  · rename_i h; exact h.symm
  · rfl
theorem account_may.ev (me rev nx mo bo fr : Int) (l : List S39) : Ev (fun k => account_may.f k me rev nx mo bo fr l) (mayA me rev nx mo bo fr l) := by
  unfold account_may.f
  refine Ev.bind (debt_Total.ev l) ?_
  rw [total_code]
  simp only [account_within.eq, Option.bind_some]
  have no := fun h => mayA_no (me := me) (rev := rev) (nx := nx) (mo := mo) (bo := bo) (fr := fr) l h
  by_cases h0 : debtFault l = 0
  · refine Ev.pos h0 ?_
    by_cases h1 : 0 ≤ me ∧ me ≤ 49
    · refine Ev.pos (decide_eq_true h1) ?_
      by_cases h2 : 0 ≤ rev ∧ rev ≤ 15
      · refine Ev.pos (decide_eq_true h2) ?_
        by_cases h3 : 1 ≤ nx ∧ nx ≤ 1048576
        · refine Ev.pos (decide_eq_true h3) ?_
          by_cases h4 : 0 ≤ mo ∧ mo ≤ 2399
          · refine Ev.pos (decide_eq_true h4) ?_
            by_cases h5 : 0 ≤ bo ∧ bo ≤ 10000000
            · refine Ev.pos (decide_eq_true h5) (Ev.ret ?_)
              by_cases h6 : -1 ≤ fr ∧ fr ≤ mo
              · rw [decide_eq_true h6, mayA_yes h0 ⟨h1, h2, h3, h4, h5, h6⟩]
              · rw [decide_eq_false h6, no (by unfold inA; omega)]
            · exact Ev.neg (by rw [decide_eq_false h5]; decide) (Ev.ret (no (by unfold inA; omega)).symm)
          · exact Ev.neg (by rw [decide_eq_false h4]; decide) (Ev.ret (no (by unfold inA; omega)).symm)
        · exact Ev.neg (by rw [decide_eq_false h3]; decide) (Ev.ret (no (by unfold inA; omega)).symm)
      · exact Ev.neg (by rw [decide_eq_false h2]; decide) (Ev.ret (no (by unfold inA; omega)).symm)
    · exact Ev.neg (by rw [decide_eq_false h1]; decide) (Ev.ret (no (by unfold inA; omega)).symm)
  · exact Ev.neg h0 (Ev.ret (mayA_no' _ _ _ _ _ _ h0).symm)
theorem vendmeterref_AccountMay.ev (me rev nx mo bo fr : Int) (l : List S39) : Ev (fun k => vendmeterref_AccountMay.f k me rev nx mo bo fr l) (mayA me rev nx mo bo fr l) := by
  have jT : ∀ r, r = false → Ev (fun k => vendmeterref_AccountMay.j0 k true me rev nx mo bo fr l) r := by
    rintro r rfl
    exact Ev.step (f := fun _ => some false) (fun k => rfl) (Ev.now _)
  have no := fun h => mayA_no (me := me) (rev := rev) (nx := nx) (mo := mo) (bo := bo) (fr := fr) l h
  unfold vendmeterref_AccountMay.f
  refine Ev.bind (vendmeterref_DebtFault.ev l) ?_
  simp only [vendmeterref_In.eq, Option.bind_some]
  by_cases h0 : debtFault l = 0
  · refine Ev.pos h0 ?_
    by_cases h1 : 0 ≤ me ∧ me ≤ 49
    · refine Ev.pos (decide_eq_true h1) ?_
      by_cases h2 : 0 ≤ rev ∧ rev ≤ 15
      · rw [decide_eq_true h2]
        refine Ev.succ ?_
        simp only [vendmeterref_AccountMay.j0, vendmeterref_In.eq, Option.bind_some, Bool.not_true, Bool.false_eq_true, if_false]
        by_cases h3 : 1 ≤ nx ∧ nx ≤ 1048576
        · refine Ev.pos (decide_eq_true h3) ?_
          by_cases h4 : 0 ≤ mo ∧ mo ≤ 2399
          · refine Ev.pos (decide_eq_true h4) ?_
            by_cases h5 : 0 ≤ bo ∧ bo ≤ 10000000
            · refine Ev.pos (decide_eq_true h5) (Ev.ret ?_)
              by_cases h6 : -1 ≤ fr ∧ fr ≤ mo
              · rw [decide_eq_true h6, mayA_yes h0 ⟨h1, h2, h3, h4, h5, h6⟩]
              · rw [decide_eq_false h6, no (by unfold inA; omega)]
            · exact Ev.neg (by rw [decide_eq_false h5]; decide) (Ev.ret (no (by unfold inA; omega)).symm)
          · exact Ev.neg (by rw [decide_eq_false h4]; decide) (Ev.ret (no (by unfold inA; omega)).symm)
        · exact Ev.neg (by rw [decide_eq_false h3]; decide) (Ev.ret (no (by unfold inA; omega)).symm)
      · rw [decide_eq_false h2]
        exact jT _ (no (by unfold inA; omega))
    · exact Ev.neg (by rw [decide_eq_false h1]; decide) (jT _ (no (by unfold inA; omega)))
  · exact Ev.neg h0 (jT _ (mayA_no' _ _ _ _ _ _ h0))
theorem vendmeterref_AccountCopy.ev (me rev nx mo bo fr : Int) (l : List S39) (hl : l.length ≤ 8) : Ev (fun k => vendmeterref_AccountCopy.f k me rev nx mo bo fr l) (me, rev, nx, mo, bo, fr, l) := by
  unfold vendmeterref_AccountCopy.f
  have key := down (P := fun i => Ev (fun k => vendmeterref_AccountCopy.l0 k (l.take i) (i : Int) me rev nx mo bo fr l) (me, rev, nx, mo, bo, fr, l)) (n := l.length) (by
    refine Ev.step (f := fun _ => some (me, rev, nx, mo, bo, fr, l)) (fun k => ?_) (Ev.now _)
    simp only [vendmeterref_AccountCopy.l0]; rw [if_neg (by omega), List.take_length]) (by
    intro i hi ih
    refine Ev.step (fun k => ?_) ih
    simp only [vendmeterref_AccountCopy.l0, rd_debt]
    rw [if_pos (by omega), if_pos (by omega), if_pos (by rw [List.length_take]; omega), wn (show i < l.length by omega) (by omega), take_getD l i z39 (by omega)])
  exact key
def agedAns (l : List S39) (m : Int) : List S39 × Int := if debtFault l = 0 then (if 0 ≤ m ∧ m ≤ 2400 then (l.map (debt_Age.one m.toNat), 0) else ([], 2)) else ([], debtFault l)
theorem debt_Age.ev (l : List S39) (m : Int) : Ev (fun k => debt_Age.f k l m) (agedAns l m) := by
  unfold debt_Age.f agedAns
  refine Ev.bind (debt_list_fault.ev l) ?_
  by_cases h : debtFault l = 0
  · refine Ev.eq (if_pos h).symm ?_
    obtain ⟨h8, hok⟩ := fault_zero h
    refine Ev.pos h (Ev.pos ⟨hok, by omega⟩ ?_)
    by_cases h0 : m < 0
    · exact Ev.eq (if_neg (by omega)).symm (Ev.pos h0 (Ev.now _))
    · refine Ev.neg h0 ?_
      by_cases h1 : m > 2400
      · exact Ev.eq (if_neg (by omega)).symm (Ev.pos h1 (Ev.now _))
      · exact Ev.eq (if_pos (by omega)).symm (Ev.neg h1 (Ev.now _))
  · exact Ev.eq (if_neg h).symm (Ev.neg h (Ev.now _))
theorem ag_fix (o b : Int) (h : o * b / 10000 = 0) : ∀ n, debt_Age.ag n o b = o
  | 0 => rfl
  | n + 1 => by rw [debt_Age.ag, if_pos h]
theorem ag_step (n : Nat) (o b : Int) (ho : o ≤ 1000000000) : debt_Age.ag (n + 1) o b = debt_Age.ag n (mn (o + o * b / 10000) 1000000000) b := by
  by_cases h : o * b / 10000 = 0
  · rw [ag_fix o b h, h, Int.add_zero, show mn o 1000000000 = o by unfold mn; split <;> omega, ag_fix o b h]
  · rw [debt_Age.ag, if_neg h]
theorem vendmeterref_aged.ev (m : Nat) (hm : m ≤ 2400) (b : Int) (hb0 : 0 ≤ b) (hb1 : b ≤ 10000) : ∀ (d i : Nat) (o : Int), i + d = m → 0 ≤ o → o ≤ 1000000000 → Ev (fun k => vendmeterref_aged.l0 k (m : Int) (i : Int) o b) (debt_Age.ag d o b, b) := by
  intro d
  induction d with
  | zero =>
    intro i o hi h0 h1
    refine Ev.step (f := fun _ => some (o, b)) (fun k => ?_) (Ev.now _)
    simp only [vendmeterref_aged.l0]; rw [if_neg (by omega)]
  | succ d ih =>
    intro i o hi h0 h1
    obtain ⟨q0, q1⟩ := debt_Age.ag_bd 0 o b h0 h1 hb0 hb1
    have e1 : wrap64 (o + wrap64 (Int.tdiv (wrap64 (o * b)) 10000)) = o + o * b / 10000 := by
      generalize o * b = q at q0 q1 ⊢
      rw [wr (a := q) ⟨by omega, by omega⟩, td q0, wr (a := q / 10000) ⟨by omega, by omega⟩, wr ⟨by omega, by omega⟩]
    have q2 : 0 ≤ o * b / 10000 := by generalize o * b = q at q0 q1 ⊢; omega
    rw [ag_step d o b h1]
    by_cases hc : o + o * b / 10000 > 1000000000
    · refine Ev.step (f := fun k => vendmeterref_aged.l0 k (m : Int) ((i + 1 : Nat) : Int) 1000000000 b) (fun k => ?_) (Ev.eq ?_ (ih (i + 1) 1000000000 (by omega) (by omega) (by omega)))
      · simp only [vendmeterref_aged.l0]; rw [if_pos (by omega), e1, if_pos hc, wn (show i < m by omega) (by omega)]
      · rw [show mn (o + o * b / 10000) 1000000000 = 1000000000 by unfold mn; split <;> omega]
    · refine Ev.step (f := fun k => vendmeterref_aged.l0 k (m : Int) ((i + 1 : Nat) : Int) (o + o * b / 10000) b) (fun k => ?_) (Ev.eq ?_ (ih (i + 1) _ (by omega) (by omega) (by omega)))
      · simp only [vendmeterref_aged.l0]; rw [if_pos (by omega), e1, if_neg hc, wn (show i < m by omega) (by omega)]
      · rw [show mn (o + o * b / 10000) 1000000000 = o + o * b / 10000 by unfold mn; split <;> omega]
theorem vendmeterref_Aged.ev (l : List S39) (m : Int) : Ev (fun k => vendmeterref_Aged.f k l m) (agedAns l m) := by
  unfold vendmeterref_Aged.f agedAns
  refine Ev.bind (vendmeterref_DebtFault.ev l) ?_
  by_cases h : debtFault l = 0
  · refine Ev.eq (if_pos h).symm ?_
    obtain ⟨h8, hok⟩ := fault_zero h
    refine Ev.pos h ?_
    simp only [vendmeterref_In.eq, Option.bind_some]
    by_cases hm : 0 ≤ m ∧ m ≤ 2400
    · rw [if_pos hm]
      refine Ev.pos (decide_eq_true hm) ?_
      obtain ⟨n, rfl⟩ : ∃ n : Nat, m = n := ⟨m.toNat, by omega⟩
      rw [Int.toNat_natCast]
      have key : ∀ (d i : Nat) (a : List S39), i + d = l.length → a.length = i → Ev (fun k => vendmeterref_Aged.l0 k l (n : Int) a (i : Int)) (a ++ (l.drop i).map (debt_Age.one n), 0) := by
        intro d
        induction d with
        | zero =>
          intro i a hi ha
          refine Ev.step (f := fun _ => some (a, 0)) (fun k => ?_) (Ev.ret ?_)
          · simp only [vendmeterref_Aged.l0]; rw [if_neg (by omega)]
          · rw [List.drop_of_length_le (by omega)]; simp
        | succ d ih =>
          intro i a hi ha
          have hd := drop_getD l i z39 (by omega)
          have hmem := List.all_eq_true.1 hok _ (getD_mem l i z39 (by omega))
          simp only [debtOk, decide_eq_true_eq] at hmem
          refine Ev.step (f := fun k => (vendmeterref_aged.f k (rd_T39 l (i : Int)).f0 (rd_T39 l (i : Int)).f1 (n : Int)).bind fun bt => vendmeterref_Aged.l0 k l (n : Int) (a ++ [⟨bt.1, bt.2⟩]) ((i + 1 : Nat) : Int)) (fun k => ?_) ?_
          · simp only [vendmeterref_Aged.l0]; rw [if_pos (by omega), if_pos (by omega), wn (show i < l.length by omega) (by omega)]
            congr 1; funext bt; rw [if_pos (by omega)]
          · rw [rd_debt]
            unfold vendmeterref_aged.f
            refine Ev.bind (vendmeterref_aged.ev n (by omega) _ (by omega) (by omega) n 0 _ (by omega) (by omega) (by omega)) ?_
            refine Ev.eq ?_ (ih (i + 1) _ (by omega) (by simp [ha]))
            rw [hd, List.map_cons, List.append_assoc]
            rfl
      exact Ev.eq (by simp) (key l.length 0 [] (by omega) rfl)
    · rw [if_neg hm]; exact Ev.neg (by rw [decide_eq_true_eq]; exact hm) (Ev.now _)
  · exact Ev.eq (if_neg h).symm (Ev.neg h (Ev.now _))
theorem aged_len (l : List S39) (m : Int) : (agedAns l m).1.length ≤ l.length := by
  unfold agedAns
  repeat' split
  all_goals simp
def rollAns (mo bo : Int) (l : List S39) (m : Int) : List S39 × Int × Int × Int := if 0 ≤ m ∧ m ≤ 2399 then (if m < mo then (l, mo, bo, 23) else if m > mo then ((agedAns l (m - mo)).1, m, 0, 0) else (l, mo, bo, 0)) else (l, mo, bo, 2)
def rolledAns (me rev nx mo bo fr : Int) (l : List S39) (m : Int) : Int × Int × Int × Int × Int × Int × List S39 × Int := if mayA me rev nx mo bo fr l = true then (if (rollAns mo bo l m).2.2.2 = 0 then (me, rev, nx, (rollAns mo bo l m).2.1, (rollAns mo bo l m).2.2.1, fr, (rollAns mo bo l m).1, 0) else (0, 0, 0, 0, 0, 0, [], (rollAns mo bo l m).2.2.2)) else (0, 0, 0, 0, 0, 0, [], 5)
theorem account_roll.ev (mo bo : Int) (l : List S39) (m : Int) (h : 0 ≤ mo ∧ mo ≤ 2399) : Ev (fun k => account_roll.f k mo bo l m) (rollAns mo bo l m) := by
  unfold account_roll.f rollAns
  refine Ev.iteR (fun h1 => Ev.iteR (fun _ => Ev.now _) (fun h2 => Ev.iteR (fun h3 => ?_) (fun _ => Ev.now _))) (fun _ => Ev.now _)
  rw [wr (a := m - mo) ⟨by omega, by omega⟩]
  exact Ev.bind (debt_Age.ev l (m - mo)) (Ev.now _)
theorem rollAns_len (mo bo : Int) (l : List S39) (m : Int) : (rollAns mo bo l m).1.length ≤ l.length := by
  have := aged_len l (m - mo)
  unfold rollAns
  repeat' split
  all_goals first | exact this | exact Nat.le_refl _
theorem rolledAns_len (me rev nx mo bo fr : Int) (l : List S39) (m : Int) : (rolledAns me rev nx mo bo fr l m).2.2.2.2.2.2.1.length ≤ l.length := by
  have := rollAns_len mo bo l m
  unfold rolledAns
  repeat' split
  all_goals first | exact this | simp
theorem rollAns_code (mo bo : Int) (l : List S39) (m : Int) : ((rollAns mo bo l m).2.2.2 = 0) ↔ ((0 ≤ m ∧ m ≤ 2399) ∧ ¬ m < mo) := by
  unfold rollAns
  by_cases h1 : 0 ≤ m ∧ m ≤ 2399
  · rw [if_pos h1]
    by_cases h2 : m < mo
    · rw [if_pos h2]; simp [h2]
    · rw [if_neg h2]
      by_cases h3 : m > mo
      · rw [if_pos h3]; simp [h1, h2]
      · rw [if_neg h3]; simp [h1, h2]
  · rw [if_neg h1]; simp [h1]
theorem vendmeterref_Rolled.ev (me rev nx mo bo fr : Int) (l : List S39) (m : Int) : Ev (fun k => vendmeterref_Rolled.f k me rev nx mo bo fr l m) (rolledAns me rev nx mo bo fr l m) := by
  unfold vendmeterref_Rolled.f rolledAns
  refine Ev.bind (vendmeterref_AccountMay.ev me rev nx mo bo fr l) (Ev.iteR (fun h => ?_) (fun h => Ev.now _))
  obtain ⟨h0, hA⟩ := mayA_in h
  obtain ⟨h8, _⟩ := fault_zero h0
  unfold inA at hA
  simp only [vendmeterref_In.eq, Option.bind_some]
  unfold rollAns
  by_cases h1 : 0 ≤ m ∧ m ≤ 2399
  · simp only [if_pos h1]
    refine Ev.pos (decide_eq_true h1) ?_
    by_cases h2 : m < mo
    · simp only [if_pos h2]
      exact Ev.ret (by simp)
    · simp only [if_neg h2]
      refine Ev.bind (vendmeterref_AccountCopy.ev me rev nx mo bo fr l h8) ?_
      by_cases h3 : m = mo
      · rw [if_neg (by omega : ¬ m > mo)]
        exact Ev.pos h3 (Ev.ret (by simp))
      · rw [if_pos (by omega : m > mo)]
        refine Ev.neg h3 ?_
        rw [wr (a := m - mo) ⟨by omega, by omega⟩]
        exact Ev.bind (vendmeterref_Aged.ev l (m - mo)) (Ev.ret (by simp))
  · simp only [if_neg h1]
    exact Ev.neg (by rw [decide_eq_true_eq]; exact h1) (Ev.ret (by simp))
theorem rd_step (l : List S99) (i : Nat) : rd_T99 l (i : Int) = l.getD i z99 := Eq.trans rfl rfl
def tarFault (l : List S99) : Int := if (l.length : Int) < 1 then 1 else if (l.length : Int) > 8 then 1 else if l.any tariff_Check.bad = true then 2 else if tariff_Check.rising l = true then (if (rd_T99 l ((l.length : Int) - 1)).f0 = 10000000 then 0 else 3) else 3
theorem tariff_Check.eq (l : List S99) : tariff_Check.f l = some (tarFault l) := by
  unfold tariff_Check.f tarFault
  repeat' split
  all_goals rfl
theorem vendmeterref_TariffFault.ev (l : List S99) : Ev (fun k => vendmeterref_TariffFault.f k l) (tarFault l) := by
  unfold vendmeterref_TariffFault.f tarFault
  simp only [vendmeterref_In.eq, Option.bind_some]
  by_cases h1 : (l.length : Int) < 1
  · rw [if_pos h1]; exact Ev.neg (by rw [decide_eq_true_eq]; omega) (Ev.now _)
  rw [if_neg h1]
  by_cases h8 : (l.length : Int) > 8
  · rw [if_pos h8]; exact Ev.neg (by rw [decide_eq_true_eq]; omega) (Ev.now _)
  rw [if_neg h8]
  refine Ev.pos (decide_eq_true (by omega)) ?_
  by_cases hb : l.any tariff_Check.bad = true
  · rw [if_pos hb]
    have key : ∀ d i : Nat, i + d = l.length → (l.drop i).any tariff_Check.bad = true → Ev (fun k => vendmeterref_TariffFault.l0 k l (i : Int)) 2 := by
      intro d
      induction d with
      | zero => intro i hi h; rw [List.drop_of_length_le (by omega)] at h; simp at h
      | succ d ih =>
        intro i hi h
        rw [drop_getD l i z99 (by omega), List.any_cons] at h
        by_cases hs : tariff_Check.bad (l.getD i z99) = true
        · simp only [tariff_Check.bad, Bool.or_eq_true, decide_eq_true_eq] at hs
          refine Ev.step (f := fun _ => some 2) (fun k => ?_) (Ev.now _)
          simp only [vendmeterref_TariffFault.l0, rd_step, vendmeterref_In.eq, Option.bind_some]; rw [if_pos (by omega), if_pos (by omega)]
          by_cases h0 : 1 ≤ (l.getD i z99).f0 ∧ (l.getD i z99).f0 ≤ 10000000
          · rw [if_pos (decide_eq_true h0), if_neg (by rw [decide_eq_true_eq]; omega)]
          · rw [if_neg (by rw [decide_eq_true_eq]; exact h0)]
        · rw [Bool.eq_false_iff.mpr hs, Bool.false_or] at h
          simp only [tariff_Check.bad, Bool.or_eq_true, decide_eq_true_eq] at hs
          refine Ev.step (f := fun k => vendmeterref_TariffFault.l0 k l ((i + 1 : Nat) : Int)) (fun k => ?_) (ih (i + 1) (by omega) h)
          simp only [vendmeterref_TariffFault.l0, rd_step, vendmeterref_In.eq, Option.bind_some]; rw [if_pos (by omega), if_pos (by omega), wn (show i < l.length by omega) (by omega)]
          rw [if_pos (decide_eq_true (by omega)), if_pos (decide_eq_true (by omega))]
    exact key l.length 0 (by omega) hb
  rw [if_neg hb]
  have hb' := Bool.eq_false_iff.mpr hb
  have key0 : ∀ {r : Int}, Ev (fun k => vendmeterref_TariffFault.l1 k l 1) r → Ev (fun k => vendmeterref_TariffFault.l0 k l 0) r := by
    intro r hr
    refine down (P := fun i => Ev (fun k => vendmeterref_TariffFault.l0 k l (i : Int)) r) (n := l.length) ?_ ?_
    · refine Ev.step (fun k => ?_) hr
      simp only [vendmeterref_TariffFault.l0]; rw [if_neg (by omega)]
    · intro i hi h
      have hs := (List.any_eq_false.1 hb') _ (getD_mem l i z99 hi)
      simp only [tariff_Check.bad, Bool.or_eq_true, decide_eq_true_eq] at hs
      refine Ev.step (fun k => ?_) h
      simp only [vendmeterref_TariffFault.l0, rd_step, vendmeterref_In.eq, Option.bind_some]; rw [if_pos (by omega), if_pos (by omega), wn hi (by omega)]
      rw [if_pos (decide_eq_true (by omega)), if_pos (decide_eq_true (by omega))]
  apply key0
  have hlen : 1 ≤ l.length := by omega
  have step : ∀ (k i : Nat), 1 ≤ i → i < l.length → vendmeterref_TariffFault.l1 (k + 1) l (i : Int) = if (rd_T99 l (i : Int)).f0 ≤ (rd_T99 l ((i : Int) - 1)).f0 then some 3 else vendmeterref_TariffFault.l1 k l ((i + 1 : Nat) : Int) := by
    intro k i h0 hi
    simp only [vendmeterref_TariffFault.l1]
    rw [wr (a := (i : Int) - 1) ⟨by omega, by omega⟩, if_pos (by omega), if_pos (by omega), if_pos (by omega), if_pos (by omega), wn hi (by omega)]
  have last : ∀ k, vendmeterref_TariffFault.l1 (k + 1) l (l.length : Int) = if (rd_T99 l ((l.length : Int) - 1)).f0 = 10000000 then some 0 else some 3 := by
    intro k
    simp only [vendmeterref_TariffFault.l1]
    rw [wr (a := (l.length : Int) - 1) ⟨by omega, by omega⟩, if_neg (by omega), if_pos (by omega), if_pos (by omega)]
  by_cases hr : tariff_Check.rising l = true
  · rw [if_pos hr]
    have hri := (tariff_Check.rising_iff l).1 hr
    refine downFrom (P := fun i => Ev (fun k => vendmeterref_TariffFault.l1 k l (i : Int)) _) (m := 1) (n := l.length) hlen ?_ ?_
    · refine Ev.step last ?_
      exact Ev.iteR (fun _ => Ev.now _) (fun _ => Ev.now _)
    · intro i h0 hi h
      refine Ev.step (f := fun k => vendmeterref_TariffFault.l1 k l ((i + 1 : Nat) : Int)) (fun k => ?_) h
      rw [step k i h0 hi, if_neg]
      have := hri (i - 1) (by omega)
      rw [show (((i - 1 : Nat) : Nat) : Int) = (i : Int) - 1 by omega, show (i : Int) - 1 + 1 = (i : Int) by omega] at this
      omega
  · rw [if_neg hr]
    have hex : ∃ i : Nat, 1 ≤ i ∧ i < l.length ∧ (rd_T99 l (i : Int)).f0 ≤ (rd_T99 l ((i : Int) - 1)).f0 := by
      refine Classical.not_not.1 fun hn => hr ((tariff_Check.rising_iff l).2 fun i hi => ?_)
      refine Classical.not_not.1 fun h => hn ⟨i + 1, by omega, hi, ?_⟩
      rw [show ((i + 1 : Nat) : Int) - 1 = (i : Int) by omega, show ((i + 1 : Nat) : Int) = (i : Int) + 1 by omega]
      omega
    obtain ⟨m, hm0, hm1, hm⟩ := hex
    refine downFrom (P := fun i => Ev (fun k => vendmeterref_TariffFault.l1 k l (i : Int)) 3) (m := 1) (n := m) hm0 ?_ ?_
    · refine Ev.step (f := fun _ => some 3) (fun k => ?_) (Ev.now _)
      rw [step k m hm0 hm1, if_pos hm]
    · intro i h0 hi h
      by_cases hc : (rd_T99 l (i : Int)).f0 ≤ (rd_T99 l ((i : Int) - 1)).f0
      · refine Ev.step (f := fun _ => some 3) (fun k => ?_) (Ev.now _)
        rw [step k i h0 (by omega), if_pos hc]
      · refine Ev.step (f := fun k => vendmeterref_TariffFault.l1 k l ((i + 1 : Nat) : Int)) (fun k => ?_) h
        rw [step k i h0 (by omega), if_neg hc]
def termsF (l : List S99) (a b c d : Int) : Int := if tarFault l = 0 then (if (0 ≤ a ∧ a ≤ 100000) ∧ (0 ≤ b ∧ b ≤ 10000) ∧ (0 ≤ c ∧ c ≤ 10000) ∧ (0 ≤ d ∧ d ≤ 2097151) then 0 else 2) else tarFault l
theorem account_Check.eq (l : List S99) (a b c d : Int) : account_Check.f l a b c d = some (termsF l a b c d) := by
  unfold account_Check.f termsF
  rw [tariff_Check.eq]
  simp only [account_within.eq, Option.bind_some, decide_eq_true_eq]
  by_cases h0 : tarFault l = 0
  · rw [if_pos h0, if_pos h0]
    by_cases h1 : 0 ≤ a ∧ a ≤ 100000
    · rw [if_pos h1]
      by_cases h2 : 0 ≤ b ∧ b ≤ 10000
      · rw [if_pos h2]
        by_cases h3 : 0 ≤ c ∧ c ≤ 10000
        · rw [if_pos h3]
          by_cases h4 : 0 ≤ d ∧ d ≤ 2097151
          · rw [if_pos h4, if_pos ⟨h1, h2, h3, h4⟩]
          · rw [if_neg h4, if_neg (fun h => h4 h.2.2.2)]
        · rw [if_neg h3, if_neg (fun h => h3 h.2.2.1)]
      · rw [if_neg h2, if_neg (fun h => h2 h.2.1)]
    · rw [if_neg h1, if_neg (fun h => h1 h.1)]
  · rw [if_neg h0, if_neg h0]
theorem vendmeterref_TermsFault.ev (l : List S99) (a b c d : Int) : Ev (fun k => vendmeterref_TermsFault.f k l a b c d) (termsF l a b c d) := by
  unfold vendmeterref_TermsFault.f
  refine Ev.bind (vendmeterref_TariffFault.ev l) (Ev.some_ ?_)
  have h := account_Check.eq l a b c d
  unfold account_Check.f at h
  rw [tariff_Check.eq] at h
  simp only [vendmeterref_In.eq]
  simp only [account_within.eq] at h
  exact h
theorem vendmeterlaw_sameDebts.ev (l) (hl : l.length ≤ 1152921504606846976) : Ev (fun k => vendmeterlaw_sameDebts.f k l l) true := by
  unfold vendmeterlaw_sameDebts.f
  refine Ev.pos rfl (same_ev hl (fun k i hi => ?_) (fun k => ?_))
  · simp only [vendmeterlaw_sameDebts.l0]; rw [if_pos (by omega), if_pos (by omega), if_pos (by omega)]; simp
  · simp only [vendmeterlaw_sameDebts.l0]; rw [if_neg (by omega)]
theorem vendmeterlaw_sameAccount.ev (a b c d e f : Int) (l : List S39) (hl : l.length ≤ 1152921504606846976) : Ev (fun k => vendmeterlaw_sameAccount.f k a b c d e f l a b c d e f l) true := by
  unfold vendmeterlaw_sameAccount.f
  exact Ev.pos rfl (Ev.pos rfl (Ev.pos rfl (Ev.pos rfl (Ev.pos rfl (Ev.pos rfl (Ev.bind (vendmeterlaw_sameDebts.ev l hl) (Ev.now _)))))))
theorem vendmeterlaw_sameSteps.ev (l) (hl : l.length ≤ 1152921504606846976) : Ev (fun k => vendmeterlaw_sameSteps.f k l l) true := by
  unfold vendmeterlaw_sameSteps.f
  refine Ev.pos rfl (same_ev hl (fun k i hi => ?_) (fun k => ?_))
  · simp only [vendmeterlaw_sameSteps.l0]; rw [if_pos (by omega), if_pos (by omega), if_pos (by omega)]; simp
  · simp only [vendmeterlaw_sameSteps.l0]; rw [if_neg (by omega)]
theorem vendmeterlaw_sameTerms.ev (l : List S99) (a b c d : Int) (hl : l.length ≤ 1152921504606846976) : Ev (fun k => vendmeterlaw_sameTerms.f k l a b c d l a b c d) true := by
  unfold vendmeterlaw_sameTerms.f
  exact Ev.pos rfl (Ev.pos rfl (Ev.pos rfl (Ev.pos rfl (Ev.bind (vendmeterlaw_sameSteps.ev l hl) (Ev.now _)))))
theorem cents_within.eq (a b c : Int) : cents_within.f a b c = some (decide (b ≤ a ∧ a ≤ c)) := by
  unfold cents_within.f
  by_cases h : b ≤ a
  · rw [if_pos h]; simp [h]
  · rw [if_neg h]; simp [h]
def partAns (a b : Int) : Int × Int := if (0 ≤ a ∧ a ≤ 1000000000000) ∧ 0 ≤ b ∧ b ≤ 10000 then (a * b / 10000, 0) else (0, 2)
theorem mul_bd (a b m n : Int) (ha : 0 ≤ a) (ha' : a ≤ m) (hb : 0 ≤ b) (hb' : b ≤ n) : 0 ≤ a * b ∧ a * b ≤ m * n :=
  ⟨Int.mul_nonneg ha hb, Int.mul_le_mul ha' hb' hb (by omega)⟩
theorem part_bd {a b m : Int} (ha : 0 ≤ a) (hm : a ≤ m) (hb : 0 ≤ b) (hb' : b ≤ 10000) : 0 ≤ a * b / 10000 ∧ a * b / 10000 ≤ a := by
  have h1 := mul_bd a b a 10000 ha (Int.le_refl _) hb hb'
  omega
theorem cents_Part.eq (a b : Int) : cents_Part.f a b = some (partAns a b) := by
  unfold cents_Part.f partAns
  simp only [cents_within.eq, Option.bind_some]
  by_cases h1 : 0 ≤ a ∧ a ≤ 1000000000000
  · by_cases h2 : 0 ≤ b ∧ b ≤ 10000
    · have m1 := mul_bd a b _ _ h1.1 h1.2 h2.1 h2.2
      simp only [h1, h2, and_self, decide_true, if_true]
      rw [wr (a := a * b) ⟨by omega, by omega⟩, td m1.1, wr ⟨by omega, by omega⟩]
    · simp only [h1, h2, and_self, and_false, decide_true, decide_false, if_true, if_false]; rfl
  · simp only [h1, false_and, decide_false, if_false]; rfl
theorem part_eq (a b : Int) (ha : 0 ≤ a) : a * b / 10000 = a / 10000 * b + a % 10000 * b / 10000 := by
  have h1 : a * b = 10000 * (a / 10000 * b) + a % 10000 * b := by
    have h := Int.mul_ediv_add_emod a 10000
    calc a * b = (10000 * (a / 10000) + a % 10000) * b := by rw [h]
      _ = 10000 * (a / 10000 * b) + a % 10000 * b := by rw [Int.add_mul, Int.mul_assoc]
  rw [h1, Int.add_comm, Int.add_mul_ediv_left _ _ (by decide), Int.add_comm]
theorem vendmeterref_Parted.eq (a b : Int) : vendmeterref_Parted.f a b = some (partAns a b) := by
  unfold vendmeterref_Parted.f partAns
  simp only [vendmeterref_In.eq, Option.bind_some]
  by_cases h1 : 0 ≤ a ∧ a ≤ 1000000000000
  · by_cases h2 : 0 ≤ b ∧ b ≤ 10000
    · have m1 := mul_bd a b _ _ h1.1 h1.2 h2.1 h2.2
      have m2 := mul_bd (a / 10000) b 100000000 10000 (by omega) (by omega) h2.1 h2.2
      have m3 := mul_bd (a % 10000) b 10000 10000 (by omega) (by omega) h2.1 h2.2
      simp only [h1, h2, and_self, decide_true, if_true]
      rw [td h1.1, tm h1.1, wr (a := a / 10000) ⟨by omega, by omega⟩, wr (a := a / 10000 * b) ⟨by omega, by omega⟩, wr (a := a % 10000 * b) ⟨by omega, by omega⟩, td m3.1, wr (a := a % 10000 * b / 10000) ⟨by omega, by omega⟩, wr ⟨by omega, by omega⟩, part_eq a b h1.1]
    · simp only [h1, h2, and_self, and_false, decide_true, decide_false, if_true, if_false]; rfl
  · simp only [h1, false_and, decide_false, if_false]; rfl
def shareAns (t b : Int) : Int × Int := if (0 ≤ t ∧ t ≤ 100000000) ∧ 0 ≤ b ∧ b ≤ 10000 then (t * b / 10000, 0) else (0, 2)
theorem share_of_part (t b : Int) (h : ¬ ((partAns t b).2 = 0 ∧ ¬ t > 100000000)) : shareAns t b = (0, 2) := by
  unfold partAns at h
  unfold shareAns
  rw [if_neg]
  intro h'
  apply h
  rw [if_pos ⟨by omega, h'.2⟩]
  exact ⟨rfl, by omega⟩
theorem share_is_part (t b : Int) (h : (partAns t b).2 = 0 ∧ ¬ t > 100000000) : shareAns t b = partAns t b ∧ 0 ≤ (partAns t b).1 ∧ (partAns t b).1 ≤ 100000000 := by
  obtain ⟨h1, h2⟩ := h
  unfold partAns at h1 ⊢
  unfold shareAns
  by_cases h3 : (0 ≤ t ∧ t ≤ 1000000000000) ∧ 0 ≤ b ∧ b ≤ 10000
  · rw [if_pos h3, if_pos ⟨by omega, h3.2⟩]
    have := part_bd h3.1.1 h3.1.2 h3.2.1 h3.2.2
    exact ⟨rfl, this.1, by dsimp only; omega⟩
  · rw [if_neg h3] at h1
    exact absurd h1 (by decide)
theorem share_err (t b : Int) : (shareAns t b).2 = 0 ∨ shareAns t b = (0, 2) := by
  unfold shareAns
  split
  · exact .inl rfl
  · exact .inr rfl
theorem share_bd (t b : Int) : 0 ≤ (shareAns t b).1 ∧ (shareAns t b).1 ≤ 100000000 := by
  unfold shareAns
  split
  · rename_i h
    have := part_bd h.1.1 h.1.2 h.2.1 h.2.2
    exact ⟨this.1, by dsimp only; omega⟩
  · exact ⟨by decide, by decide⟩
theorem vendmeterref_shareOf.eq (t b : Int) : vendmeterref_shareOf.f t b = some (shareAns t b) := by
  unfold vendmeterref_shareOf.f
  simp only [vendmeterref_In.eq, vendmeterref_Parted.eq, Option.bind_some]
  unfold partAns shareAns
  by_cases h1 : 0 ≤ t ∧ t ≤ 100000000
  · have h1' : 0 ≤ t ∧ t ≤ 1000000000000 := by omega
    by_cases h2 : 0 ≤ b ∧ b ≤ 10000
    · simp only [h1, h1', h2, and_self, decide_true, if_true]
    · simp only [h1, h1', h2, and_self, and_false, decide_true, if_true, if_false]
  · simp only [h1, false_and, decide_false, if_false]; rfl
def recOut (s : Int) : Int → List S39 → List S39
  | _, [] => []
  | a, d :: l => (if mn (a + d.f0 - s) d.f0 > 0 then [⟨mn (a + d.f0 - s) d.f0, d.f1⟩] else []) ++ recOut s (a + d.f0) l
theorem mn_le {a b : Int} (h : a ≤ b) : mn a b = a := by unfold mn; omega
theorem mn_ge {a b : Int} (h : b ≤ a) : mn a b = b := by unfold mn; omega
def recAns (l : List S39) (t b : Int) : List S39 × Int × Int :=
  if debtFault l = 0 then (if (shareAns t b).2 = 0 then (recOut (shareAns t b).1 0 l, (if (shareAns t b).1 < owedOf l then (shareAns t b).1 else owedOf l), 0) else ([], 0, 2)) else ([], 0, debtFault l)
theorem rec_loop (l : List S39) (h8 : l.length ≤ 8) (hok : l.all debtOk = true) (s : Int) (hs0 : 0 ≤ s) (hs1 : s ≤ 100000000) : ∀ (d i : Nat) (a : Int) (out : List S39), i + d = l.length → 0 ≤ a → a ≤ 1000000000 * (i : Int) → out.length ≤ i →
    Ev (fun k => debt_Recover.l0 k s (mn s a) out l (l.length : Int) (i : Int)) (out ++ recOut s a (l.drop i), mn s (a + owedOf (l.drop i)), 0) := by
  intro d
  induction d with
  | zero =>
    intro i a out hi h1 h2 h3
    refine Ev.step (f := fun _ => some (out, mn s a, 0)) (fun k => ?_) (Ev.ret ?_)
    · simp only [debt_Recover.l0]; rw [if_neg (by omega)]
    · rw [List.drop_of_length_le (by omega)]
      simp only [recOut, owedOf, List.append_nil, Int.add_zero]
  | succ d ih =>
    intro i a out hi h1 h2 h3
    have hd := drop_getD l i z39 (by omega)
    have hm := List.all_eq_true.1 hok _ (getD_mem l i z39 (by omega))
    simp only [debtOk, decide_eq_true_eq] at hm
    have hw := Aside0.mk (wn (show i < l.length by omega) (by omega))
    rw [hd]
    simp only [recOut, owedOf]
    have e1 : mn (l.getD i z39).f0 (s - mn s a) + mn s a = mn s (a + (l.getD i z39).f0) := by unfold mn; split <;> split <;> split <;> omega
    have e2 : (l.getD i z39).f0 - mn (l.getD i z39).f0 (s - mn s a) = mn (a + (l.getD i z39).f0 - s) (l.getD i z39).f0 ∨ ((l.getD i z39).f0 - mn (l.getD i z39).f0 (s - mn s a) ≤ 0 ∧ mn (a + (l.getD i z39).f0 - s) (l.getD i z39).f0 ≤ 0) := by unfold mn; split <;> split <;> split <;> omega
    have b0 : 0 ≤ mn s a ∧ mn s a ≤ s := by unfold mn; split <;> omega
    have b1 : 0 ≤ mn (l.getD i z39).f0 (s - mn s a) ∧ mn (l.getD i z39).f0 (s - mn s a) ≤ s := by unfold mn at b0 ⊢; split <;> split at b0 <;> omega
    by_cases hp : mn (a + (l.getD i z39).f0 - s) (l.getD i z39).f0 > 0
    · have e3 : (l.getD i z39).f0 - mn (l.getD i z39).f0 (s - mn s a) = mn (a + (l.getD i z39).f0 - s) (l.getD i z39).f0 := by omega
      have := ih (i + 1) (a + (l.getD i z39).f0) (out ++ [⟨mn (a + (l.getD i z39).f0 - s) (l.getD i z39).f0, (l.getD i z39).f1⟩]) (by omega) (by omega) (by omega) (by simp; omega)
      refine Ev.step (fun k => ?_) (Ev.eq ?_ this)
      · simp only [debt_Recover.l0, rd_debt]
        rw [if_pos (by omega), if_pos (by omega), if_pos (by omega), wr (a := s - mn s a) ⟨by omega, by omega⟩, wr (a := mn s a + mn (l.getD i z39).f0 (s - mn s a)) ⟨by omega, by omega⟩, wr (a := (l.getD i z39).f0 - mn (l.getD i z39).f0 (s - mn s a)) ⟨by omega, by omega⟩, e3, if_pos hp, if_pos (by omega), hw.out, Int.add_comm (mn s a), e1]
      · rw [if_pos hp, List.append_assoc, Int.add_assoc]
    · have e3 : ¬ (l.getD i z39).f0 - mn (l.getD i z39).f0 (s - mn s a) > 0 := by omega
      have := ih (i + 1) (a + (l.getD i z39).f0) out (by omega) (by omega) (by omega) (by omega)
      refine Ev.step (fun k => ?_) (Ev.eq ?_ this)
      · simp only [debt_Recover.l0, rd_debt]
        rw [if_pos (by omega), if_pos (by omega), if_pos (by omega), wr (a := s - mn s a) ⟨by omega, by omega⟩, wr (a := mn s a + mn (l.getD i z39).f0 (s - mn s a)) ⟨by omega, by omega⟩, wr (a := (l.getD i z39).f0 - mn (l.getD i z39).f0 (s - mn s a)) ⟨by omega, by omega⟩, if_neg e3, hw.out, Int.add_comm (mn s a), e1]
      · rw [if_neg hp, List.nil_append, Int.add_assoc]
theorem debt_Recover.ev (l : List S39) (t b : Int) : Ev (fun k => debt_Recover.f k l t b) (recAns l t b) := by
  unfold debt_Recover.f recAns
  refine Ev.bind (debt_list_fault.ev l) ?_
  by_cases h : debtFault l = 0
  · obtain ⟨h8, hok⟩ := fault_zero h
    have ho := owed_bd l hok
    simp only [h, if_true, cents_Part.eq, Option.bind_some]
    by_cases hp : (partAns t b).2 = 0
    · simp only [hp, if_true]
      by_cases ht : t > 100000000
      · refine Ev.step (f := fun _ => some ([], 0, 2)) (fun k => by simp only [debt_Recover.j0, ht, decide_true, if_true]) (Ev.ret ?_)
        rw [share_of_part t b (by omega)]; rfl
      · obtain ⟨e, hs0, hs1⟩ := share_is_part t b ⟨hp, ht⟩
        rw [e]
        simp only [hp, if_true]
        have z : mn (partAns t b).1 0 = 0 := mn_ge hs0
        have key := rec_loop l h8 hok (partAns t b).1 hs0 hs1 l.length 0 0 [] (by omega) (by omega) (by omega) (by simp)
        rw [z] at key
        refine Ev.step (f := fun k => debt_Recover.l0 k (partAns t b).1 0 [] l (l.length : Int) 0) (fun k => by simp only [debt_Recover.j0, ht, decide_false]; rfl) (Ev.eq ?_ key)
        rw [List.drop_zero, List.nil_append, Int.zero_add]
        congr 2
        unfold mn
        split <;> split <;> omega
    · simp only [hp, if_false]
      refine Ev.step (f := fun _ => some ([], 0, 2)) (fun k => by simp only [debt_Recover.j0, if_true]) (Ev.ret ?_)
      rw [share_of_part t b (by omega)]; rfl
  · simp only [h, if_false]; exact Ev.now _
theorem rec_len (s : Int) : ∀ (a : Int) (l : List S39), (recOut s a l).length ≤ l.length
  | _, [] => Nat.le_refl _
  | a, d :: l => by
    have := rec_len s (a + d.f0) l
    simp only [recOut, List.length_append, List.length_cons]
    split <;> simp <;> omega
set_option maxHeartbeats 4000000 in
theorem vendmeterref_Recovered.ev (l : List S39) (t b : Int) : Ev (fun k => vendmeterref_Recovered.f k l t b) (recAns l t b) := by
  unfold vendmeterref_Recovered.f recAns
  refine Ev.bind (vendmeterref_DebtFault.ev l) ?_
  by_cases h : debtFault l = 0
  · obtain ⟨h8, hok⟩ := fault_zero h
    have hs := share_bd t b
    simp only [h, if_true, vendmeterref_shareOf.eq, Option.bind_some]
    rcases share_err t b with e | e
    · simp only [e, if_true]
      generalize (shareAns t b).1 = s at hs
      have key : ∀ (d i : Nat) (a : Int) (out : List S39), i + d = l.length → 0 ≤ a → a ≤ 1000000000 * (i : Int) → out.length ≤ i → Ev (fun k => vendmeterref_Recovered.l0 k l s out a (i : Int)) (out ++ recOut s a (l.drop i), (if s < a + owedOf (l.drop i) then s else a + owedOf (l.drop i)), 0) := by
        intro d
        induction d with
        | zero =>
          intro i a out hi h1 h2 h3
          refine Ev.step (f := fun _ => if s < a then some (out, s, 0) else some (out, a, 0)) (fun k => ?_) ?_
          · simp only [vendmeterref_Recovered.l0]; rw [if_neg (by omega)]
          · rw [List.drop_of_length_le (by omega)]
            simp only [recOut, owedOf, List.append_nil, Int.add_zero]
            refine Ev.split (fun c => Ev.ret ?_) (fun c => Ev.ret ?_)
            · rw [if_pos c]
            · rw [if_neg c]
        | succ d ih =>
          intro i a out hi h1 h2 h3
          have hd := drop_getD l i z39 (by omega)
          have hm := List.all_eq_true.1 hok _ (getD_mem l i z39 (by omega))
          simp only [debtOk, decide_eq_true_eq] at hm
          have hw := Aside0.mk (wn (show i < l.length by omega) (by omega))
          rw [hd]
          simp only [recOut, owedOf]
          have e0 : Aside0 (wrap64 (a + (l.getD i z39).f0) = a + (l.getD i z39).f0) := ⟨wr ⟨by omega, by omega⟩⟩
          have e1 : Aside0 (wrap64 (a + (l.getD i z39).f0 - s) = a + (l.getD i z39).f0 - s) := ⟨wr ⟨by omega, by omega⟩⟩
          by_cases c : a + (l.getD i z39).f0 - s > (l.getD i z39).f0
          · rw [mn_ge (show (l.getD i z39).f0 ≤ a + (l.getD i z39).f0 - s by omega)]
            by_cases c2 : (l.getD i z39).f0 > 0
            · refine Ev.step (fun k => ?_) (Ev.eq ?_ (ih (i + 1) (a + (l.getD i z39).f0) (out ++ [⟨(l.getD i z39).f0, (l.getD i z39).f1⟩]) (by omega) (by omega) (by omega) (by simp; omega)))
              · simp only [vendmeterref_Recovered.l0, rd_debt]; rw [if_pos (by omega), if_pos (by omega), e0.out, e1.out, if_pos c, if_pos c2, if_pos (by omega), hw.out]
              · rw [if_pos c2, List.append_assoc, Int.add_assoc]; rfl
            · refine Ev.step (fun k => ?_) (Ev.eq ?_ (ih (i + 1) (a + (l.getD i z39).f0) out (by omega) (by omega) (by omega) (by omega)))
              · simp only [vendmeterref_Recovered.l0, rd_debt]; rw [if_pos (by omega), if_pos (by omega), e0.out, e1.out, if_pos c, if_neg c2, hw.out]
              · rw [if_neg c2, List.nil_append, Int.add_assoc]; rfl
          · rw [mn_le (show a + (l.getD i z39).f0 - s ≤ (l.getD i z39).f0 by omega)]
            by_cases c2 : a + (l.getD i z39).f0 - s > 0
            · refine Ev.step (fun k => ?_) (Ev.eq ?_ (ih (i + 1) (a + (l.getD i z39).f0) (out ++ [⟨a + (l.getD i z39).f0 - s, (l.getD i z39).f1⟩]) (by omega) (by omega) (by omega) (by simp; omega)))
              · simp only [vendmeterref_Recovered.l0, rd_debt]; rw [if_pos (by omega), if_pos (by omega), e0.out, e1.out, if_neg c, if_pos c2, if_pos (by omega), hw.out]
              · rw [if_pos c2, List.append_assoc, Int.add_assoc]; rfl
            · refine Ev.step (fun k => ?_) (Ev.eq ?_ (ih (i + 1) (a + (l.getD i z39).f0) out (by omega) (by omega) (by omega) (by omega)))
              · simp only [vendmeterref_Recovered.l0, rd_debt]; rw [if_pos (by omega), if_pos (by omega), e0.out, e1.out, if_neg c, if_neg c2, hw.out]
              · rw [if_neg c2, List.nil_append, Int.add_assoc]; rfl
      exact Ev.eq (by simp) (key l.length 0 0 [] (by omega) (by omega) (by omega) (by simp))
    · simp only [e]; exact Ev.now _
  · simp only [h, if_false]; exact Ev.now _
def askT (l : List S99) (a b : Int) : Int := if tarFault l = 0 then (if (0 ≤ a ∧ a ≤ 10000000) ∧ (0 ≤ b ∧ b ≤ 2097151) ∧ a + b ≤ 10000000 then 0 else 2) else tarFault l
theorem tariff_asked.eq (l : List S99) (a b : Int) (ha : -9223372036854775808 ≤ a ∧ a ≤ 9223372036854775807) (hb : -9223372036854775808 ≤ b ∧ b ≤ 9223372036854775807) : tariff_asked.f l a b = some (askT l a b) := by
  unfold tariff_asked.f askT
  rw [tariff_Check.eq, Option.bind_some]
  by_cases h : tarFault l = 0
  · rw [if_pos h, if_pos h]
    by_cases h1 : a < 0
    · rw [if_pos h1, if_neg (by omega)]
    · rw [if_neg h1]
      by_cases h2 : a > 10000000
      · rw [if_pos h2, if_neg (by omega)]
      · rw [if_neg h2]
        by_cases h3 : b < 0
        · rw [if_pos h3, if_neg (by omega)]
        · rw [if_neg h3]
          by_cases h4 : b > 2097151
          · rw [if_pos h4, if_neg (by omega)]
          · rw [if_neg h4, wr ⟨by omega, by omega⟩]
            by_cases h5 : a + b > 10000000
            · rw [if_pos h5, if_neg (by omega)]
            · rw [if_neg h5, if_pos (by omega)]
  · rw [if_neg h, if_neg h]
theorem vendmeterref_UnitsMay.ev (l : List S99) (a b : Int) : Ev (fun k => vendmeterref_UnitsMay.f k l a b) (askT l a b) := by
  unfold vendmeterref_UnitsMay.f askT
  refine Ev.bind (vendmeterref_TariffFault.ev l) (Ev.iteR (fun h => ?_) (fun h => Ev.now _))
  rw [vendmeterref_In.eq, vendmeterref_In.eq]
  refine Ev.letS ?_
  by_cases h1 : 0 ≤ a ∧ a ≤ 10000000
  · refine Ev.pos (by simpa using h1) (Ev.letS ?_)
    by_cases h2 : 0 ≤ b ∧ b ≤ 2097151
    · refine Ev.pos (by simpa using h2) ?_
      rw [wr ⟨by omega, by omega⟩]
      by_cases h3 : a + b > 10000000
      · exact Ev.pos h3 (Ev.ret (by rw [if_neg (by omega)]))
      · exact Ev.neg h3 (Ev.ret (by rw [if_pos (by omega)]))
    · exact Ev.neg (by simpa using h2) (Ev.ret (by rw [if_neg (by omega)]))
  · exact Ev.neg (by simpa using h1) (Ev.ret (by rw [if_neg (by omega)]))
theorem askT_zero {l : List S99} {a b : Int} (h : askT l a b = 0) : tarFault l = 0 ∧ (0 ≤ a ∧ a ≤ 10000000) ∧ (0 ≤ b ∧ b ≤ 2097151) ∧ a + b ≤ 10000000 := by
  unfold askT at h
  by_cases h0 : tarFault l = 0
  · rw [if_pos h0] at h
    by_cases h1 : (0 ≤ a ∧ a ≤ 10000000) ∧ (0 ≤ b ∧ b ≤ 2097151) ∧ a + b ≤ 10000000
    · exact ⟨h0, h1⟩
    · rw [if_neg h1] at h; omega
  · rw [if_neg h0] at h; exact absurd h h0
theorem tar_zero {l : List S99} (h : tarFault l = 0) : (1 ≤ l.length ∧ l.length ≤ 8) ∧ (∀ i : Nat, i < l.length → (1 ≤ (l.getD i z99).f0 ∧ (l.getD i z99).f0 ≤ 10000000) ∧ (1 ≤ (l.getD i z99).f1 ∧ (l.getD i z99).f1 ≤ 100000)) ∧ (∀ i : Nat, i + 1 < l.length → (l.getD i z99).f0 < (l.getD (i + 1) z99).f0) ∧ (l.getD (l.length - 1) z99).f0 = 10000000 := by
  unfold tarFault at h
  by_cases h1 : (l.length : Int) < 1
  · rw [if_pos h1] at h; omega
  rw [if_neg h1] at h
  by_cases h2 : (l.length : Int) > 8
  · rw [if_pos h2] at h; omega
  rw [if_neg h2] at h
  by_cases h3 : l.any tariff_Check.bad = true
  · rw [if_pos h3] at h; omega
  rw [if_neg h3] at h
  by_cases h4 : tariff_Check.rising l = true
  case neg => rw [if_neg h4] at h; omega
  rw [if_pos h4] at h
  by_cases h5 : (rd_T99 l ((l.length : Int) - 1)).f0 = 10000000
  case neg => rw [if_neg h5] at h; omega
  refine ⟨by omega, fun i hi => ?_, fun i hi => ?_, ?_⟩
  · have hm := getD_mem l i z99 hi
    have hb : tariff_Check.bad (l.getD i z99) = false := by
      cases hb : tariff_Check.bad (l.getD i z99) with
      | false => rfl
      | true => exact absurd (List.any_eq_true.2 ⟨_, hm, hb⟩) h3
    unfold tariff_Check.bad at hb
    simp only [Bool.or_eq_false_iff, decide_eq_false_iff_not] at hb
    omega
  · unfold tariff_Check.rising at h4
    have := List.all_eq_true.1 h4 i (List.mem_range.2 (by omega))
    rw [decide_eq_true_eq, show ((i : Int) + 1) = ((i + 1 : Nat) : Int) by omega, rd_step, rd_step] at this
    exact this
  · rw [show ((l.length : Int) - 1) = ((l.length - 1 : Nat) : Int) by omega, rd_step] at h5
    exact h5
def ovl (lo hi a b : Int) : Int := if mn hi b < mx lo a then 0 else mn hi b - mx lo a
theorem vendmeterref_overlap.ev (lo hi a b : Int) (h1 : 0 ≤ lo ∧ lo ≤ 10000000) (h2 : 0 ≤ hi ∧ hi ≤ 10000000) (h3 : 0 ≤ a ∧ a ≤ 10000000) (h4 : 0 ≤ b ∧ b ≤ 20000000) : Ev (fun k => vendmeterref_overlap.f k lo hi a b) (ovl lo hi a b) := by
  refine Ev.succ ⟨0, fun k _ => ?_⟩
  simp only [vendmeterref_overlap.f, vendmeterref_overlap.j0]
  rw [wr (a := b - a) ⟨by omega, by omega⟩, wr (a := hi - a) ⟨by omega, by omega⟩, wr (a := b - lo) ⟨by omega, by omega⟩, wr (a := hi - lo) ⟨by omega, by omega⟩]
  unfold ovl mn mx
  repeat' split
  all_goals first | rfl | omega | (congr 1; omega)
-- what units cost by a tariff, and the greedy bill
section
variable {α : Type} (up pr : α → Int)
def ov (lo hi a b : Int) : Int := if (if b < hi then b else hi) < (if a > lo then a else lo) then 0 else (if b < hi then b else hi) - (if a > lo then a else lo)
def costL : Int → List α → Int → Int → Int
  | _, [], _, _ => 0
  | lo, s :: t, a, b => ov lo (up s) a b * pr s + costL (up s) t a b
def Asc : Int → List α → Prop
  | _, [] => True
  | lo, s :: t => lo < up s ∧ 1 ≤ pr s ∧ Asc (up s) t
def greedy : List α → Int → Int → Int → Int × Int
  | [], _, _, _ => (0, 0)
  | s :: t, cur, m, cap => if up s ≤ cur then greedy t cur m cap else
      if mn (mn (up s - cur) (Int.tdiv m (pr s))) cap < up s - cur then (mn (mn (up s - cur) (Int.tdiv m (pr s))) cap, mn (mn (up s - cur) (Int.tdiv m (pr s))) cap * pr s) else
      (up s - cur + (greedy t (up s) (m - (up s - cur) * pr s) (cap - (up s - cur))).1, (up s - cur) * pr s + (greedy t (up s) (m - (up s - cur) * pr s) (cap - (up s - cur))).2)
theorem ov_nonneg (lo hi a b : Int) : 0 ≤ ov lo hi a b := by unfold ov; split <;> omega
theorem ov_mono (lo hi a b b' : Int) (h : b ≤ b') : ov lo hi a b ≤ ov lo hi a b' := by unfold ov; repeat' split; all_goals omega
theorem ov_zero (lo hi a b : Int) (h : b ≤ lo) : ov lo hi a b = 0 := by unfold ov; repeat' split; all_goals omega
theorem ov_zero' (lo hi a b : Int) (h : hi ≤ a) : ov lo hi a b = 0 := by unfold ov; repeat' split; all_goals omega
theorem ov_shift (lo hi a b c : Int) (h : a ≤ lo) (h' : c ≤ lo) : ov lo hi a b = ov lo hi c b := by unfold ov; repeat' split; all_goals omega
theorem ov_in (lo hi a x : Int) (h : lo ≤ a) (h0 : 0 ≤ x) (hx : a + x ≤ hi) : ov lo hi a (a + x) = x := by unfold ov; repeat' split; all_goals omega
theorem ov_full (lo hi a b : Int) (h : lo ≤ a) (h0 : a ≤ hi) (hb : hi ≤ b) : ov lo hi a b = hi - a := by unfold ov; repeat' split; all_goals omega
theorem costL_mono : ∀ (t : List α) (lo a b b' : Int), (∀ s ∈ t, 0 ≤ pr s) → b ≤ b' → costL up pr lo t a b ≤ costL up pr lo t a b'
  | [], _, _, _, _, _, _ => by simp [costL]
  | s :: t, lo, a, b, b', hp, h => by
    simp only [costL]
    have h1 := Int.mul_le_mul_of_nonneg_right (ov_mono lo (up s) a b b' h) (hp s (List.mem_cons_self ..))
    have h2 := costL_mono t (up s) a b b' (fun x hx => hp x (List.mem_cons_of_mem _ hx)) h
    omega
theorem costL_zero : ∀ (t : List α) (lo a b : Int), Asc up pr lo t → b ≤ lo → costL up pr lo t a b = 0
  | [], _, _, _, _, _ => by simp [costL]
  | s :: t, lo, a, b, ht, h => by
    simp only [costL]
    rw [ov_zero _ _ _ _ h, costL_zero t (up s) a b ht.2.2 (by have := ht.1; omega)]; simp
theorem costL_shift : ∀ (t : List α) (lo a b c : Int), Asc up pr lo t → a ≤ lo → c ≤ lo → costL up pr lo t a b = costL up pr lo t c b
  | [], _, _, _, _, _, _, _ => by simp [costL]
  | s :: t, lo, a, b, c, ht, h, h' => by
    simp only [costL]
    rw [ov_shift _ _ _ _ _ h h', costL_shift t (up s) a b c ht.2.2 (by have := ht.1; omega) (by have := ht.1; omega)]
theorem greedy_spec : ∀ (t : List α) (lo cur m cap : Int), Asc up pr lo t → lo ≤ cur → 0 ≤ m → 0 ≤ cap →
    0 ≤ (greedy up pr t cur m cap).1 ∧ (greedy up pr t cur m cap).1 ≤ cap ∧ (greedy up pr t cur m cap).2 = costL up pr lo t cur (cur + (greedy up pr t cur m cap).1) ∧ (greedy up pr t cur m cap).2 ≤ m ∧
    ((greedy up pr t cur m cap).1 = 0 ∨ ∃ s ∈ t, cur + (greedy up pr t cur m cap).1 ≤ up s) ∧
    ((greedy up pr t cur m cap).1 = cap ∨ m < costL up pr lo t cur (cur + (greedy up pr t cur m cap).1 + 1) ∨ ∀ s ∈ t, up s ≤ cur + (greedy up pr t cur m cap).1)
  | [], lo, cur, m, cap, _, _, hm, hc => by simp [greedy, costL]; omega
  | s :: t, lo, cur, m, cap, ht, hl, hm, hc => by
    obtain ⟨h1, h2, h3⟩ := ht
    by_cases hs : up s ≤ cur
    · have e : greedy up pr (s :: t) cur m cap = greedy up pr t cur m cap := by simp only [greedy]; rw [if_pos hs]
      have ec : ∀ b, costL up pr lo (s :: t) cur b = costL up pr (up s) t cur b := fun b => by simp only [costL]; rw [ov_zero' _ _ _ _ hs]; omega
      rw [e]
      obtain ⟨g1, g2, g3, g4, g5, g6⟩ := greedy_spec t (up s) cur m cap h3 hs hm hc
      refine ⟨g1, g2, by rw [ec]; exact g3, g4, ?_, ?_⟩
      · rcases g5 with g | ⟨x, hx, g⟩
        · exact .inl g
        · exact .inr ⟨x, List.mem_cons_of_mem _ hx, g⟩
      · rcases g6 with g | g | g
        · exact .inl g
        · exact .inr (.inl (by rw [ec]; exact g))
        · refine .inr (.inr fun x hx => ?_)
          rcases List.mem_cons.1 hx with rfl | hx
          · omega
          · exact g x hx
    · have hq0 : 0 ≤ Int.tdiv m (pr s) := Int.tdiv_nonneg hm (by omega)
      have hqm : Int.tdiv m (pr s) * pr s ≤ m := by rw [Int.tdiv_eq_ediv_of_nonneg hm]; exact Int.ediv_mul_le m (by omega)
      have hqs : m < (Int.tdiv m (pr s) + 1) * pr s := by rw [Int.tdiv_eq_ediv_of_nonneg hm]; exact Int.lt_ediv_add_one_mul_self m (by omega)
      obtain ⟨n, hn⟩ : ∃ n, n = mn (mn (up s - cur) (Int.tdiv m (pr s))) cap := ⟨_, rfl⟩
      have hn0 : 0 ≤ n := by subst hn; unfold mn; repeat' split; all_goals omega
      have hnc : n ≤ cap := by subst hn; unfold mn; repeat' split; all_goals omega
      have hnq : n ≤ Int.tdiv m (pr s) := by subst hn; unfold mn; repeat' split; all_goals omega
      have hnl : n ≤ up s - cur := by subst hn; unfold mn; repeat' split; all_goals omega
      have hne : n = cap ∨ n = Int.tdiv m (pr s) ∨ n = up s - cur := by subst hn; unfold mn; repeat' split; all_goals omega
      have hnm : n * pr s ≤ m := Int.le_trans (Int.mul_le_mul_of_nonneg_right hnq (by omega)) hqm
      by_cases hlt : n < up s - cur
      · have e : greedy up pr (s :: t) cur m cap = (n, n * pr s) := by simp only [greedy]; rw [if_neg hs, ← hn, if_pos hlt]
        rw [e]
        have ec : ∀ x, 0 ≤ x → x ≤ up s - cur → costL up pr lo (s :: t) cur (cur + x) = x * pr s := fun x hx0 hx => by
          simp only [costL]; rw [ov_in _ _ _ _ hl hx0 (by omega), costL_zero up pr t (up s) cur (cur + x) h3 (by omega)]; omega
        refine ⟨hn0, hnc, (ec n hn0 hnl).symm, hnm, .inr ⟨s, List.mem_cons_self .., by show cur + n ≤ _; omega⟩, ?_⟩
        rcases hne with h | h | h
        · exact .inl h
        · refine .inr (.inl ?_)
          show m < costL up pr lo (s :: t) cur (cur + n + 1)
          rw [show cur + n + 1 = cur + (n + 1) by omega, ec (n + 1) (by omega) (by omega), h]; exact hqs
        · omega
      · have hnl' : n = up s - cur := by omega
        have e : greedy up pr (s :: t) cur m cap = (up s - cur + (greedy up pr t (up s) (m - (up s - cur) * pr s) (cap - (up s - cur))).1, (up s - cur) * pr s + (greedy up pr t (up s) (m - (up s - cur) * pr s) (cap - (up s - cur))).2) := by
          simp only [greedy]; rw [if_neg hs, ← hn, if_neg hlt]
        rw [e]
        rw [hnl'] at hnm hnc hn0
        obtain ⟨g1, g2, g3, g4, g5, g6⟩ := greedy_spec t (up s) (up s) (m - (up s - cur) * pr s) (cap - (up s - cur)) h3 (by omega) (by omega) (by omega)
        have ec : ∀ x, 0 ≤ x → costL up pr lo (s :: t) cur (up s + x) = (up s - cur) * pr s + costL up pr (up s) t (up s) (up s + x) := fun x hx0 => by
          simp only [costL]; rw [ov_full _ _ _ _ hl (by omega) (by omega), costL_shift up pr t (up s) cur (up s + x) (up s) h3 (by omega) (by omega)]
        generalize (greedy up pr t (up s) (m - (up s - cur) * pr s) (cap - (up s - cur))) = G at *
        refine ⟨by show 0 ≤ up s - cur + G.1; omega, by show up s - cur + G.1 ≤ cap; omega, ?_, by show (up s - cur) * pr s + G.2 ≤ m; omega, ?_, ?_⟩
        · show (up s - cur) * pr s + G.2 = costL up pr lo (s :: t) cur (cur + (up s - cur + G.1))
          rw [show cur + (up s - cur + G.1) = up s + G.1 by omega, ec _ g1, ← g3]
        · rcases g5 with g | ⟨x, hx, g⟩
          · exact .inr ⟨s, List.mem_cons_self .., by show cur + (up s - cur + G.1) ≤ _; omega⟩
          · exact .inr ⟨x, List.mem_cons_of_mem _ hx, by show cur + (up s - cur + G.1) ≤ _; omega⟩
        · rcases g6 with g | g | g
          · exact .inl (by show up s - cur + G.1 = cap; omega)
          · refine .inr (.inl ?_)
            show m < costL up pr lo (s :: t) cur (cur + (up s - cur + G.1) + 1)
            rw [show cur + (up s - cur + G.1) + 1 = up s + (G.1 + 1) by omega, ec _ (by omega), show up s + (G.1 + 1) = up s + G.1 + 1 by omega]; omega
          · refine .inr (.inr fun x hx => ?_)
            show up x ≤ cur + (up s - cur + G.1)
            rcases List.mem_cons.1 hx with rfl | hx
            · omega
            · have := g x hx; omega
end
def upS (s : S99) : Int := s.f0
def prS (s : S99) : Int := s.f1
theorem ov_ovl (lo hi a b : Int) : ov lo hi a b = ovl lo hi a b := rfl
theorem ovl_bd (lo hi a b : Int) (h0 : 0 ≤ lo) (h1 : 0 ≤ hi ∧ hi ≤ 10000000) : 0 ≤ ovl lo hi a b ∧ ovl lo hi a b ≤ 10000000 := by
  unfold ovl mn mx
  repeat' split
  all_goals omega
theorem asc_drop {l : List S99} (ht : tarFault l = 0) : ∀ (d i : Nat) (lo : Int), i + d = l.length → (i < l.length → lo < (l.getD i z99).f0) → Asc upS prS lo (l.drop i)
  | 0, i, lo, hi, h => by rw [List.drop_of_length_le (by omega)]; trivial
  | d + 1, i, lo, hi, h => by
    obtain ⟨t1, t2, t3, t4⟩ := tar_zero ht
    rw [drop_getD l i z99 (by omega)]
    exact ⟨h (by omega), (t2 i (by omega)).2.1, asc_drop ht d (i + 1) _ (by omega) (fun q => t3 i q)⟩
theorem asc_all {l : List S99} (ht : tarFault l = 0) : Asc upS prS 0 l := by
  have := asc_drop ht l.length 0 0 (by omega) (fun h => by have := (tar_zero ht).2.1 0 h; omega)
  rwa [List.drop_zero] at this
theorem cost_l0 (l : List S99) (a b : Int) (ht : tarFault l = 0) (ha : 0 ≤ a ∧ a ≤ 10000000) (hb : 0 ≤ b ∧ b ≤ 20000000) : ∀ (d i : Nat) (lo acc : Int), i + d = l.length → (0 ≤ lo ∧ lo ≤ 10000000) → (0 ≤ acc ∧ acc ≤ i * 1000000000000) → Ev (fun k => vendmeterref_cost.l0 k l a b acc lo (i : Int)) (acc + costL upS prS lo (l.drop i) a b)
  | 0, i, lo, acc, hi, h0, h1 => by
    rw [List.drop_of_length_le (by omega)]
    refine Ev.step (f := fun _ => some acc) (fun k => ?_) (Ev.ret (by simp [costL]))
    simp only [vendmeterref_cost.l0]; rw [if_neg (by omega)]
  | d + 1, i, lo, acc, hi, h0, h1 => by
    obtain ⟨t1, t2, t3, t4⟩ := tar_zero ht
    obtain ⟨u1, u2⟩ := t2 i (by omega)
    have ho := ovl_bd lo (l.getD i z99).f0 a b h0.1 (by omega)
    have hp : 0 ≤ ovl lo (l.getD i z99).f0 a b * (l.getD i z99).f1 := Int.mul_nonneg ho.1 (by omega)
    have hq : ovl lo (l.getD i z99).f0 a b * (l.getD i z99).f1 ≤ 10000000 * 100000 := Int.mul_le_mul ho.2 u2.2 (by omega) (by decide)
    have hc : acc + costL upS prS lo (l.drop i) a b = (acc + ovl lo (l.getD i z99).f0 a b * (l.getD i z99).f1) + costL upS prS (l.getD i z99).f0 (l.drop (i + 1)) a b := by
      rw [drop_getD l i z99 (by omega)]
      simp only [costL, ov_ovl, upS, prS]
      omega
    rw [hc]
    refine Ev.step (f := fun k => (vendmeterref_overlap.f k lo (l.getD i z99).f0 a b).bind fun n => vendmeterref_cost.l0 k l a b (wrap64 (acc + wrap64 (n * (l.getD i z99).f1))) (l.getD i z99).f0 ((i + 1 : Nat) : Int)) (fun k => ?_) ?_
    · simp only [vendmeterref_cost.l0, rd_step]
      rw [if_pos (by omega), if_pos (by omega), wn (show i < l.length by omega) (by omega)]
    · refine Ev.bind (vendmeterref_overlap.ev _ _ _ _ h0 (by omega) ha hb) ?_
      generalize ovl lo (l.getD i z99).f0 a b * (l.getD i z99).f1 = p at *
      rw [wr (a := p) ⟨by omega, by omega⟩, wr (a := acc + p) ⟨by omega, by omega⟩]
      exact cost_l0 l a b ht ha hb d (i + 1) _ _ (by omega) (by omega) (by omega)
theorem vendmeterref_cost.ev (l : List S99) (a b : Int) (ht : tarFault l = 0) (ha : 0 ≤ a ∧ a ≤ 10000000) (hb : 0 ≤ b ∧ b ≤ 20000000) : Ev (fun k => vendmeterref_cost.f k l a b) (costL upS prS 0 l a b) := by
  have := cost_l0 l a b ht ha hb l.length 0 0 0 (by omega) (by omega) (by omega)
  rw [List.drop_zero, Int.zero_add] at this
  exact this
theorem most_iter (l : List S99) (m : Int) (ht : tarFault l = 0) (hm : 0 ≤ m ∧ m ≤ 1000000000000) : ∀ (d i : Nat) (cur un pc : Int), i + d = l.length → (0 ≤ cur ∧ cur ≤ 10000000) → (0 ≤ un ∧ un ≤ 2097151) → (0 ≤ pc ∧ pc ≤ m) →
    tariff_pieces.iter (tariff_Most.body m) l d i cur (un, pc) = some (un + (greedy upS prS (l.drop i) cur (m - pc) (2097151 - un)).1, pc + (greedy upS prS (l.drop i) cur (m - pc) (2097151 - un)).2)
  | 0, i, cur, un, pc, hi, h1, h2, h3 => by
    rw [List.drop_of_length_le (by omega)]
    simp [tariff_pieces.iter, greedy]
  | d + 1, i, cur, un, pc, hi, h1, h2, h3 => by
    obtain ⟨t1, t2, t3, t4⟩ := tar_zero ht
    obtain ⟨u1, u2⟩ := t2 i (by omega)
    rw [drop_getD l i z99 (by omega)]
    simp only [tariff_pieces.iter, rd_step, greedy]
    show (if (l.getD i z99).f0 ≤ cur then _ else _) = _
    by_cases hc : (l.getD i z99).f0 ≤ cur
    · rw [if_pos hc, if_pos (show upS (l.getD i z99) ≤ cur from hc)]
      exact most_iter l m ht hm d (i + 1) cur un pc (by omega) h1 h2 h3
    · rw [if_neg hc, if_neg (show ¬ upS (l.getD i z99) ≤ cur from hc)]
      show (tariff_Most.body m (un, pc) (wrap64 ((l.getD i z99).f0 - cur)) (l.getD i z99).f1).bind _ = _
      have hq0 : 0 ≤ Int.tdiv (m - pc) (l.getD i z99).f1 := Int.tdiv_nonneg (by omega) (by omega)
      have hqm : Int.tdiv (m - pc) (l.getD i z99).f1 * (l.getD i z99).f1 ≤ m - pc := by rw [Int.tdiv_eq_ediv_of_nonneg (by omega)]; exact Int.ediv_mul_le _ (by omega)
      have hql : Int.tdiv (m - pc) (l.getD i z99).f1 ≤ m - pc := by rw [Int.tdiv_eq_ediv_of_nonneg (by omega)]; exact Int.ediv_le_self _ (by omega)
      have e1 : upS (l.getD i z99) = (l.getD i z99).f0 := rfl
      have e2 : prS (l.getD i z99) = (l.getD i z99).f1 := rfl
      rw [e1, e2]
      obtain ⟨n, hn⟩ : ∃ n, mn (mn ((l.getD i z99).f0 - cur) (Int.tdiv (m - pc) (l.getD i z99).f1)) (2097151 - un) = n := ⟨_, rfl⟩
      have hn1 : 0 ≤ n ∧ n ≤ (l.getD i z99).f0 - cur ∧ n ≤ Int.tdiv (m - pc) (l.getD i z99).f1 ∧ n ≤ 2097151 - un := by
        rw [← hn]; unfold mn; repeat' split
        all_goals omega
      have hnm : n * (l.getD i z99).f1 ≤ m - pc := Int.le_trans (Int.mul_le_mul_of_nonneg_right hn1.2.2.1 (by omega)) hqm
      have hnp : 0 ≤ n * (l.getD i z99).f1 := Int.mul_nonneg hn1.1 (by omega)
      have hbody : tariff_Most.body m (un, pc) (wrap64 ((l.getD i z99).f0 - cur)) (l.getD i z99).f1 = some (!decide (n < (l.getD i z99).f0 - cur), (un + n, pc + n * (l.getD i z99).f1)) := by
        unfold tariff_Most.body
        rw [if_neg (by omega)]
        dsimp only
        rw [wr (a := (l.getD i z99).f0 - cur) ⟨by omega, by omega⟩, wr (a := m - pc) ⟨by omega, by omega⟩, wr (a := 2097151 - un) ⟨by omega, by omega⟩, wr (a := Int.tdiv _ _) ⟨by omega, by omega⟩, hn, wr (a := un + n) ⟨by omega, by omega⟩, wr (a := n * _) ⟨by omega, by omega⟩, wr (a := pc + _) ⟨by omega, by omega⟩]
      rw [hbody, Option.bind_some, hn]
      by_cases hl : n < (l.getD i z99).f0 - cur
      · rw [if_neg (by rw [decide_eq_true hl]; exact Bool.false_ne_true), if_pos hl]
      · have hnl : n = (l.getD i z99).f0 - cur := by omega
        rw [if_pos (by rw [decide_eq_false hl]; rfl), if_neg hl]
        have := most_iter l m ht hm d (i + 1) (l.getD i z99).f0 (un + n) (pc + n * (l.getD i z99).f1) (by omega) (by omega) (by omega) (by omega)
        rw [this, show m - (pc + n * (l.getD i z99).f1) = m - pc - n * (l.getD i z99).f1 by omega, show 2097151 - (un + n) = 2097151 - un - n by omega, ← hnl]
        congr 2 <;> omega
def mostHi (a : Int) : Int := if 10000000 - a < 2097151 then 10000000 - a else 2097151
theorem most_loop (l : List S99) (a m : Int) (ht : tarFault l = 0) (ha : 0 ≤ a ∧ a ≤ 10000000) : ∀ (d : Nat) (lo hi : Int), d = (hi - lo).toNat → 0 ≤ lo → lo ≤ hi → hi ≤ mostHi a → costL upS prS 0 l a (a + lo) ≤ m → (hi = mostHi a ∨ m < costL upS prS 0 l a (a + hi + 1)) →
    ∃ u, Ev (fun k => vendmeterref_MostFor.l0 k l a m lo hi) (u, costL upS prS 0 l a (a + u), 0) ∧ 0 ≤ u ∧ u ≤ mostHi a ∧ costL upS prS 0 l a (a + u) ≤ m ∧ (u = mostHi a ∨ m < costL upS prS 0 l a (a + u + 1)) := by
  intro d
  induction d using Nat.strongRecOn with
  | ind d ih =>
    intro lo hi hd h0 h1 h2 h3 h4
    have hH : mostHi a ≤ 10000000 - a ∧ mostHi a ≤ 2097151 := by unfold mostHi; split <;> omega
    by_cases hlt : lo < hi
    · obtain ⟨mid, hmid⟩ : ∃ mid, Int.tdiv (lo + hi + 1) 2 = mid := ⟨_, rfl⟩
      have hm1 : lo < mid ∧ mid ≤ hi := by rw [← hmid, Int.tdiv_eq_ediv_of_nonneg (by omega)]; omega
      have estep : ∀ {r}, Ev (fun k => (vendmeterref_cost.f k l a (a + mid)).bind fun t => (if t ≤ m then vendmeterref_MostFor.l0 k l a m mid hi else vendmeterref_MostFor.l0 k l a m lo (mid - 1))) r → Ev (fun k => vendmeterref_MostFor.l0 k l a m lo hi) r := fun h => by
        refine Ev.step (fun k => ?_) h
        simp only [vendmeterref_MostFor.l0]
        rw [if_pos hlt, wr (a := lo + hi) ⟨by omega, by omega⟩, wr (a := lo + hi + 1) ⟨by omega, by omega⟩, hmid, wr (a := mid) ⟨by omega, by omega⟩, wr (a := a + mid) ⟨by omega, by omega⟩, wr (a := mid - 1) ⟨by omega, by omega⟩]
      have hc := vendmeterref_cost.ev l a (a + mid) ht ha (by omega)
      by_cases hle : costL upS prS 0 l a (a + mid) ≤ m
      · obtain ⟨u, e, r⟩ := ih (hi - mid).toNat (by omega) mid hi rfl (by omega) (by omega) h2 hle h4
        exact ⟨u, estep (Ev.bind hc (Ev.pos hle e)), r⟩
      · obtain ⟨u, e, r⟩ := ih (mid - 1 - lo).toNat (by omega) lo (mid - 1) rfl h0 (by omega) (by omega) h3 (Or.inr (by rw [show a + (mid - 1) + 1 = a + mid by omega]; omega))
        exact ⟨u, estep (Ev.bind hc (Ev.neg hle e)), r⟩
    · obtain rfl : lo = hi := by omega
      refine ⟨lo, Ev.step (f := fun k => (vendmeterref_cost.f k l a (a + lo)).bind fun t => some (lo, t, 0)) (fun k => ?_) (Ev.bind (vendmeterref_cost.ev l a (a + lo) ht ha (by omega)) (Ev.now _)), h0, h2, h3, h4⟩
      simp only [vendmeterref_MostFor.l0]
      rw [if_neg hlt, wr (a := a + lo) ⟨by omega, by omega⟩]
theorem most_same (l : List S99) (a m : Int) (ha : -9223372036854775808 ≤ a ∧ a ≤ 9223372036854775807) : ∃ r, tariff_Most.f l a m = some r ∧ Ev (fun k => vendmeterref_MostFor.f k l a m) r := by
  unfold tariff_Most.f vendmeterref_MostFor.f
  rw [tariff_asked.eq l a 0 ha (by omega), Option.bind_some]
  by_cases h : askT l a 0 = 0
  case neg => exact ⟨(0, 0, askT l a 0), by rw [if_neg h], Ev.bind (vendmeterref_UnitsMay.ev l a 0) (Ev.neg h (Ev.now _))⟩
  obtain ⟨h1, h2, h3, h4⟩ := askT_zero h
  obtain ⟨t1, t2, t3, t4⟩ := tar_zero h1
  rw [if_pos h, vendmeterref_In.eq]
  by_cases hm1 : m < 0
  · exact ⟨(0, 0, 2), by rw [if_pos hm1], Ev.bind (vendmeterref_UnitsMay.ev l a 0) (Ev.pos h (Ev.letS (Ev.neg (by simp; omega) (Ev.now _))))⟩
  by_cases hm2 : m > 1000000000000
  · exact ⟨(0, 0, 2), by rw [if_neg hm1, if_pos hm2], Ev.bind (vendmeterref_UnitsMay.ev l a 0) (Ev.pos h (Ev.letS (Ev.neg (by simp; omega) (Ev.now _))))⟩
  rw [if_neg hm1, if_neg hm2]
  have hH : 0 ≤ mostHi a ∧ mostHi a ≤ 10000000 - a ∧ mostHi a ≤ 2097151 ∧ (mostHi a = 10000000 - a ∨ mostHi a = 2097151) := by unfold mostHi; split <;> omega
  have hasc := asc_all h1
  have hpr : ∀ s ∈ l, 0 ≤ prS s := fun s hs => by
    obtain ⟨i, hi, rfl⟩ := List.mem_iff_getElem.1 hs
    have := (t2 i hi).2.1
    rw [List.getD_eq_getElem?_getD, List.getElem?_eq_getElem hi, Option.getD_some] at this
    unfold prS; omega
  have hmono := fun b b' hb => costL_mono upS prS l 0 a b b' hpr hb
  obtain ⟨g1, g2, g3, g4, g5, g6⟩ := greedy_spec upS prS l 0 a m 2097151 hasc h2.1 (by omega) (by omega)
  have hit := most_iter l m h1 (by omega) l.length 0 a 0 0 (by omega) h2 (by omega) (by omega)
  rw [List.drop_zero, show m - 0 = m by omega, show (2097151 : Int) - 0 = 2097151 by omega, Int.zero_add, Int.zero_add] at hit
  generalize greedy upS prS l a m 2097151 = G at *
  have hzero : costL upS prS 0 l a (a + 0) ≤ m := by
    have := hmono (a + 0) (a + G.1) (by omega)
    omega
  obtain ⟨u, e, u1, u2, u3, u4⟩ := most_loop l a m h1 h2 (mostHi a - 0).toNat 0 (mostHi a) rfl (by omega) (by omega) (by omega) hzero (Or.inl rfl)
  have hG : G.1 ≤ mostHi a := by
    rcases g5 with g | ⟨s, hs, g⟩
    · omega
    · obtain ⟨i, hi, rfl⟩ := List.mem_iff_getElem.1 hs
      have := (t2 i hi).1.2
      rw [List.getD_eq_getElem?_getD, List.getElem?_eq_getElem hi, Option.getD_some] at this
      unfold upS at g
      omega
  have hlast : (∀ s ∈ l, upS s ≤ a + G.1) → mostHi a ≤ G.1 := fun hall => by
    have := hall _ (getD_mem l (l.length - 1) z99 (by omega))
    unfold upS at this
    omega
  have hu : u = G.1 := by
    rcases Int.lt_trichotomy u G.1 with q | q | q
    · rcases u4 with u4 | u4
      · omega
      · have := hmono (a + u + 1) (a + G.1) (by omega)
        omega
    · exact q
    · rcases g6 with g | g | g
      · omega
      · have := hmono (a + G.1 + 1) (a + u) (by omega)
        omega
      · have := hlast g
        omega
  refine ⟨(u, costL upS prS 0 l a (a + u), 0), ?_, Ev.bind (vendmeterref_UnitsMay.ev l a 0) (Ev.pos h (Ev.letS (Ev.pos (by simp; omega) ?_)))⟩
  · rw [hit, Option.bind_some, hu, ← g3]
  · rw [wr (a := 10000000 - a) ⟨by omega, by omega⟩]
    refine Ev.split (fun q => ?_) (fun q => ?_)
    · rw [show mostHi a = 10000000 - a by unfold mostHi; rw [if_pos q]] at e
      exact Ev.step (fun k => rfl) e
    · rw [show mostHi a = 2097151 by unfold mostHi; rw [if_neg q]] at e
      exact Ev.step (fun k => rfl) e
theorem vendmeterlaw_debts.eq (l) (h : l.length * 16 ≤ 140737488351232) : vendmeterlaw_debts.f l = some l := by
  unfold vendmeterlaw_debts.f
  rw [if_pos (by simp only [List.length_nil]; omega)]; rfl
theorem vendmeterlaw_steps.eq (l) (h : l.length * 16 ≤ 140737488351232) : vendmeterlaw_steps.f l = some l := by
  unfold vendmeterlaw_steps.f
  rw [if_pos (by simp only [List.length_nil]; omega)]; rfl

theorem recAns_len (l : List S39) (t b : Int) : (recAns l t b).1.length ≤ l.length := by
  unfold recAns
  split
  · split
    · exact rec_len _ _ _
    · simp
  · simp
abbrev GT := Int × Int × Int × Int × Int × Int × List S39 × Int × Int × Int × Int × Int × Int × Int × Int
theorem sell_core (k0 : Nat) (me rev nx mo bo fr mo1 bo1 : Int) (l1 : List S39) (t : List S99) (a b c tender : Int) (hbo : -9223372036854775808 ≤ bo1 ∧ bo1 ≤ 9223372036854775807) :
    ∃ r : GT, r.2.2.2.2.2.2.1.length ≤ l1.length ∧ Ev (fun k => (account_csell.f k nx bo1 l1 t a b c tender).bind fun s => if s.2.2.2.2.2.2.2.2.2.2 = 0 then some (me, rev, s.2.2.1, mo1, s.2.1, fr, s.1, s.2.2.2.1, s.2.2.2.2.1, s.2.2.2.2.2.1, s.2.2.2.2.2.2.1, s.2.2.2.2.2.2.2.1, s.2.2.2.2.2.2.2.2.1, s.2.2.2.2.2.2.2.2.2.1, 0) else some (account_Sell.no s.2.2.2.2.2.2.2.2.2.2)) r ∧
      Ev (fun k => vendmeterref_SoldFor.g k nx t a b c tender (me, rev, nx, mo1, bo1, fr, l1, 0)) r := by
  have no : ∀ e : Int, e ≠ 0 → Ev (fun k => account_csell.f k nx bo1 l1 t a b c tender) (account_csell.no e) → Ev (fun k => (account_csell.f k nx bo1 l1 t a b c tender).bind fun s => if s.2.2.2.2.2.2.2.2.2.2 = 0 then some ((me, rev, s.2.2.1, mo1, s.2.1, fr, s.1, s.2.2.2.1, s.2.2.2.2.1, s.2.2.2.2.2.1, s.2.2.2.2.2.2.1, s.2.2.2.2.2.2.2.1, s.2.2.2.2.2.2.2.2.1, s.2.2.2.2.2.2.2.2.2.1, 0) : GT) else some (account_Sell.no s.2.2.2.2.2.2.2.2.2.2)) (account_Sell.no e) := fun e he h => Ev.bind h (Ev.neg he (Ev.now _))
  by_cases h1 : 1 ≤ tender ∧ tender ≤ 100000000
  case neg =>
    refine ⟨account_Sell.no 19, Nat.zero_le _, no 19 (by decide) ?_, ?_⟩
    · unfold account_csell.f; exact Ev.neg h1 (Ev.now _)
    · unfold vendmeterref_SoldFor.g; exact Ev.neg h1 (Ev.now _)
  have hlen := recAns_len l1 tender c
  have er := debt_Recover.ev l1 tender c
  have er2 := vendmeterref_Recovered.ev l1 tender c
  have ep : Ev (fun _ : Nat => cents_Part.f tender b) (partAns tender b) := by rw [cents_Part.eq]; exact Ev.now _
  have ep2 : Ev (fun _ : Nat => vendmeterref_Parted.f tender b) (partAns tender b) := by rw [vendmeterref_Parted.eq]; exact Ev.now _
  generalize recAns l1 tender c = q at hlen er er2
  generalize partAns tender b = s at ep ep2
  by_cases h2 : wrap64 (wrap64 (tender - q.2.1) - wrap64 (a + s.1)) < 0
  · refine ⟨account_Sell.no 19, Nat.zero_le _, no 19 (by decide) ?_, ?_⟩
    · unfold account_csell.f; exact Ev.pos h1 (Ev.bind er (Ev.bind ep (Ev.neg (by omega) (Ev.now _))))
    · unfold vendmeterref_SoldFor.g; exact Ev.pos h1 (Ev.bind er2 (Ev.bind ep2 (Ev.pos h2 (Ev.now _))))
  obtain ⟨r, m1, m2⟩ := most_same t bo1 (wrap64 (wrap64 (tender - q.2.1) - wrap64 (a + s.1))) hbo
  have m1' : Ev (fun _ : Nat => tariff_Most.f t bo1 (wrap64 (wrap64 (tender - q.2.1) - wrap64 (a + s.1)))) r := by rw [m1]; exact Ev.now _
  by_cases h3 : r.1 = 0
  · refine ⟨account_Sell.no 19, Nat.zero_le _, no 19 (by decide) ?_, ?_⟩
    · unfold account_csell.f; exact Ev.pos h1 (Ev.bind er (Ev.bind ep (Ev.pos (by omega) (Ev.bind m1' (Ev.pos h3 (Ev.now _))))))
    · unfold vendmeterref_SoldFor.g; exact Ev.pos h1 (Ev.bind er2 (Ev.bind ep2 (Ev.neg h2 (Ev.bind m2 (Ev.pos h3 (Ev.now _))))))
  by_cases h4 : nx > 1048575
  · refine ⟨account_Sell.no 20, Nat.zero_le _, no 20 (by decide) ?_, ?_⟩
    · unfold account_csell.f; exact Ev.pos h1 (Ev.bind er (Ev.bind ep (Ev.pos (by omega) (Ev.bind m1' (Ev.neg h3 (Ev.pos h4 (Ev.now _)))))))
    · unfold vendmeterref_SoldFor.g; exact Ev.pos h1 (Ev.bind er2 (Ev.bind ep2 (Ev.neg h2 (Ev.bind m2 (Ev.neg h3 (Ev.pos h4 (Ev.now _)))))))
  refine ⟨(me, rev, wrap64 (nx + 1), mo1, wrap64 (bo1 + r.1), fr, q.1, nx, tender, q.2.1, wrap64 (a + s.1), r.2.1, wrap64 (wrap64 (wrap64 (tender - q.2.1) - wrap64 (a + s.1)) - r.2.1), r.1, 0), ?_, ?_, ?_⟩
  rotate_left
  · unfold account_csell.f
    exact Ev.bind (Ev.pos h1 (Ev.bind er (Ev.bind ep (Ev.pos (by omega) (Ev.bind m1' (Ev.neg h3 (Ev.neg h4 (Ev.now _)))))))) (Ev.pos rfl (Ev.now _))
  · unfold vendmeterref_SoldFor.g
    exact Ev.pos h1 (Ev.bind er2 (Ev.bind ep2 (Ev.neg h2 (Ev.bind m2 (Ev.neg h3 (Ev.neg h4 (Ev.now _)))))))
  · exact hlen
theorem sell_both (me rev nx mo bo fr : Int) (l : List S39) (t : List S99) (a b c d tender m : Int) (hl : l.length < 8796093022208) :
    ∃ r : GT, r.2.2.2.2.2.2.1.length ≤ l.length ∧ Ev (fun k => account_Sell.f k me rev nx mo bo fr l t a b c d tender m) r ∧ Ev (fun k => vendmeterref_SoldFor.f k me rev nx mo bo fr l t a b c d tender m) r := by
  have ho : Ev (fun k => account_open.f k me rev nx mo bo fr l t a b c d) (if mayA me rev nx mo bo fr l = true then termsF t a b c d else 5) := by
    unfold account_open.f
    rw [account_Check.eq]
    refine Ev.bind (account_may.ev me rev nx mo bo fr l) (Ev.iteR (fun _ => Ev.letS ?_) (fun _ => Ev.now _))
    by_cases h : termsF t a b c d = 0
    · exact Ev.pos h (Ev.pos hl (Ev.ret h.symm))
    · exact Ev.neg h (Ev.now _)
  have em := vendmeterref_AccountMay.ev me rev nx mo bo fr l
  unfold account_Sell.f vendmeterref_SoldFor.f
  by_cases h : mayA me rev nx mo bo fr l = true
  case neg =>
    rw [if_neg h] at ho
    exact ⟨account_Sell.no 5, Nat.zero_le _, Ev.bind ho (Ev.neg (by decide) (Ev.now _)), Ev.bind em (Ev.neg h (Ev.now _))⟩
  rw [if_pos h] at ho
  obtain ⟨h0, hA⟩ := mayA_in h
  unfold inA at hA
  have et := vendmeterref_TermsFault.ev t a b c d
  by_cases ht : termsF t a b c d = 0
  case neg => exact ⟨account_Sell.no (termsF t a b c d), Nat.zero_le _, Ev.bind ho (Ev.neg ht (Ev.now _)), Ev.bind em (Ev.pos h (Ev.bind et (Ev.neg ht (Ev.now _))))⟩
  have er := account_roll.ev mo bo l m hA.2.2.2.1
  have er2 := vendmeterref_Rolled.ev me rev nx mo bo fr l m
  unfold rolledAns at er2
  rw [if_pos h] at er2
  have hlen := rollAns_len mo bo l m
  have hbo : (rollAns mo bo l m).2.2.1 = bo ∨ (rollAns mo bo l m).2.2.1 = 0 := by
    unfold rollAns
    repeat' split
    all_goals simp
  by_cases hr : (rollAns mo bo l m).2.2.2 = 0
  case neg =>
    rw [if_neg hr] at er2
    exact ⟨account_Sell.no (rollAns mo bo l m).2.2.2, Nat.zero_le _, Ev.bind ho (Ev.pos ht (Ev.bind er (Ev.neg hr (Ev.now _)))), Ev.bind em (Ev.pos h (Ev.bind et (Ev.pos ht (Ev.bind er2 (Ev.neg hr (Ev.now _))))))⟩
  rw [if_pos hr] at er2
  obtain ⟨r, c1, c2, c3⟩ := sell_core 0 me rev nx mo bo fr (rollAns mo bo l m).2.1 (rollAns mo bo l m).2.2.1 (rollAns mo bo l m).1 t a b c tender (by omega)
  exact ⟨r, by omega, Ev.bind ho (Ev.pos ht (Ev.bind er (Ev.pos hr c2))), Ev.bind em (Ev.pos h (Ev.bind et (Ev.pos ht (Ev.bind er2 (Ev.pos rfl c3)))))⟩
theorem AccountSells : vendmeterlaw_AccountSells.Pure := by
  intro me rev nx mo bo fr l t a b c d tender m _ _ _ _ _ _ h ht _ _ _ _ _ _
  have h4 := h.1
  have h5 := ht.1
  refine Ev.rounds ?_
  unfold vendmeterlaw_AccountSells.f vendmeterlaw_accounts.f vendmeterlaw_terms.f
  rw [vendmeterlaw_debts.eq l h.1, vendmeterlaw_steps.eq t ht.1]
  obtain ⟨r, hl, e1, e2⟩ := sell_both me rev nx mo bo fr l t a b c d tender m (by omega)
  refine Ev.letS (Ev.letS (Ev.bind e1 (Ev.bind e2 (Ev.pos ?_ (Ev.bind (vendmeterlaw_sameAccount.ev _ _ _ _ _ _ _ (by omega)) (Ev.pos rfl (Ev.bind (vendmeterlaw_sameAccount.ev _ _ _ _ _ _ _ (by dsimp only; omega)) (Ev.pos rfl (Ev.bind (vendmeterlaw_sameTerms.ev _ _ _ _ _ (by dsimp only; omega)) (Ev.pos rfl (Ev.now _)))))))))))
  simp [vendmeterlaw_AccountSells.bil]

end Go.Proofs.Ytojnaalncgofhaa.Pure
