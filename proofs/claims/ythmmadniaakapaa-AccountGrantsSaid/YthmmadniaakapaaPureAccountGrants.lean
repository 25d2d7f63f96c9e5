/- vendmeterlaw.AccountGrants returns true at every account, terms and month: account.Grant answers as the reference does, and the account is as it was. No condition. -/
import Derived.Test.YthmmadniaakapaaPAccountGrantsxL
import Derived.Test.YthmmadniaakapaaXLib
set_option linter.unusedVariables false
set_option linter.unusedSimpArgs false
namespace Go.Proofs.Ythmmadniaakapaa.Pure
open Go.RowKit Go.Proofs.Ythmmadniaakapaa.PAccountGrants Go.Proofs.YthmmadniaakapaaW.PrintWords Go.Proofs.YthmmadniaakapaaW.PrintLast Go.Proofs.YthmmadniaakapaaW.PrintMore Go.Proofs.YthmmadniaakapaaW.XLib

theorem rd_debt (l : List S76) (i : Nat) : rd_T76 l (i : Int) = l.getD i z76 := Eq.trans rfl rfl
def debtOk (d : S76) : Bool := decide (0 ≤ d.f0 ∧ d.f0 ≤ 1000000000 ∧ 0 ≤ d.f1 ∧ d.f1 ≤ 10000)
def debtFault (l : List S76) : Int := if (l.length : Int) > 8 then 1 else if l.all debtOk then 0 else 2
def owedOf : List S76 → Int
  | [] => 0
  | d :: l => d.f0 + owedOf l
theorem owed_bd (l : List S76) (h : l.all debtOk = true) : 0 ≤ owedOf l ∧ owedOf l ≤ 1000000000 * (l.length : Int) := by
  induction l with
  | nil => simp [owedOf]
  | cons d l ih =>
    simp only [List.all_cons, Bool.and_eq_true, debtOk, decide_eq_true_eq] at h
    have := ih h.2
    simp only [owedOf, List.length_cons]
    omega
theorem fault_zero {l : List S76} (h : debtFault l = 0) : l.length ≤ 8 ∧ l.all debtOk = true := by
  unfold debtFault at h
  split at h
  · omega
  · split at h
    · exact ⟨by omega, by assumption⟩
    · omega
theorem fault_cases (l : List S76) : debtFault l = 0 ∨ ¬ debtFault l = 0 := by omega
theorem debt_list_fault.ev (l : List S76) : Ev (fun k => debt_list_fault.f k l) (debtFault l) := by
  unfold debt_list_fault.f debtFault
  by_cases h8 : (l.length : Int) > 8
  · rw [if_pos h8]; exact Ev.pos h8 (Ev.now _)
  · rw [if_neg h8]
    refine Ev.neg h8 ?_
    have key : ∀ d i : Nat, i + d = l.length → Ev (fun k => debt_list_fault.l0 k l (l.length : Int) (i : Int)) (if (l.drop i).all debtOk then 0 else 2) := by
      intro d
      induction d with
      | zero =>
        intro i hi
        refine Ev.step (f := fun _ => some 0) (fun k => ?_) (Ev.ret ?_)
        · simp only [debt_list_fault.l0]; rw [if_neg (by omega)]
        · rw [List.drop_of_length_le (by omega)]; rfl
      | succ d ih =>
        intro i hi
        have hd := drop_getD l i z76 (by omega)
        rw [hd, List.all_cons]
        by_cases h : debtOk (l.getD i z76) = true
        · have h' := h
          simp only [debtOk, decide_eq_true_eq] at h'
          obtain ⟨a1, a2, a3, a4⟩ := h'
          refine Ev.step (f := fun k => debt_list_fault.l0 k l (l.length : Int) ((i + 1 : Nat) : Int)) (fun k => ?_) (Ev.eq ?_ (ih (i + 1) (by omega)))
          · simp only [debt_list_fault.l0, rd_debt]; rw [if_pos (by omega), if_pos (by omega), if_pos (by omega), if_neg (by omega), if_neg (by omega), if_neg (by omega), if_neg (by omega), wn (show i < l.length by omega) (by omega)]
          · rw [h, Bool.true_and]
        · refine Ev.step (f := fun _ => some 2) (fun k => ?_) (Ev.ret (by rw [Bool.eq_false_iff.2 h]; rfl))
          simp only [debtOk, decide_eq_true_eq] at h
          simp only [debt_list_fault.l0, rd_debt]; rw [if_pos (by omega), if_pos (by omega), if_pos (by omega)]
          by_cases b1 : (l.getD i z76).f0 < 0
          · rw [if_pos b1]
          · rw [if_neg b1]
            by_cases b2 : (l.getD i z76).f0 > 1000000000
            · rw [if_pos b2]
            · rw [if_neg b2]
              by_cases b3 : (l.getD i z76).f1 < 0
              · rw [if_pos b3]
              · rw [if_neg b3, if_pos (by omega)]
    exact key l.length 0 (by omega)
theorem debt_list_total.ev (l : List S76) (h8 : l.length ≤ 8) (hok : l.all debtOk = true) : Ev (fun k => debt_list_total.f k l) (owedOf l) := by
  unfold debt_list_total.f
  have key : ∀ (d i : Nat) (s : Int), i + d = l.length → 0 ≤ s → s ≤ 1000000000 * (i : Int) → Ev (fun k => debt_list_total.l0 k s l (l.length : Int) (i : Int)) (s + owedOf (l.drop i)) := by
    intro d
    induction d with
    | zero =>
      intro i s hi h1 h2
      refine Ev.step (f := fun _ => some s) (fun k => ?_) (Ev.ret ?_)
      · simp only [debt_list_total.l0]; rw [if_neg (by omega)]
      · rw [List.drop_of_length_le (by omega)]; simp [owedOf]
    | succ d ih =>
      intro i s hi h1 h2
      have hd := drop_getD l i z76 (by omega)
      have hm := List.all_eq_true.1 hok _ (getD_mem l i z76 (by omega))
      simp only [debtOk, decide_eq_true_eq] at hm
      refine Ev.step (f := fun k => debt_list_total.l0 k (s + (l.getD i z76).f0) l (l.length : Int) ((i + 1 : Nat) : Int)) (fun k => ?_) (Ev.eq ?_ (ih (i + 1) _ (by omega) (by omega) (by omega)))
      · simp only [debt_list_total.l0, rd_debt]; rw [if_pos (by omega), if_pos (by omega), if_pos (by omega), wn (show i < l.length by omega) (by omega), wr ⟨by omega, by omega⟩]
      · rw [hd]; simp only [owedOf, Int.add_assoc]
  exact Ev.eq (by simp) (key l.length 0 0 (by omega) (by omega) (by omega))
def totalAns (l : List S76) : Int × Int := if debtFault l = 0 then (owedOf l, 0) else (0, debtFault l)
theorem debt_Total.ev (l : List S76) : Ev (fun k => debt_Total.f k l) (totalAns l) := by
  unfold debt_Total.f totalAns
  refine Ev.bind (debt_list_fault.ev l) ?_
  by_cases h : debtFault l = 0
  · rw [if_pos h]; exact Ev.pos h (Ev.bind (debt_list_total.ev l (fault_zero h).1 (fault_zero h).2) (Ev.now _))
  · rw [if_neg h]; exact Ev.neg h (Ev.now _)
theorem vendmeterref_In.eq (a b c : Int) : vendmeterref_In.f a b c = some (decide (b ≤ a ∧ a ≤ c)) := by
  unfold vendmeterref_In.f
  by_cases h : b ≤ a
  · rw [if_pos h]; simp [h]
  · rw [if_neg h]; simp [h]
theorem vendmeterref_DebtFault.ev (l : List S76) : Ev (fun k => vendmeterref_DebtFault.f k l) (debtFault l) := by
  unfold vendmeterref_DebtFault.f debtFault
  by_cases h8 : (l.length : Int) > 8
  · rw [if_pos h8]; exact Ev.pos h8 (Ev.now _)
  · rw [if_neg h8]
    refine Ev.neg h8 ?_
    have key : ∀ d i : Nat, i + d = l.length → Ev (fun k => vendmeterref_DebtFault.l0 k l (i : Int)) (if (l.drop i).all debtOk then 0 else 2) := by
      intro d
      induction d with
      | zero =>
        intro i hi
        refine Ev.step (f := fun _ => some 0) (fun k => ?_) (Ev.ret ?_)
        · simp only [vendmeterref_DebtFault.l0]; rw [if_neg (by omega)]
        · rw [List.drop_of_length_le (by omega)]; rfl
      | succ d ih =>
        intro i hi
        have hd := drop_getD l i z76 (by omega)
        rw [hd, List.all_cons]
        by_cases h0 : 0 ≤ (l.getD i z76).f0 ∧ (l.getD i z76).f0 ≤ 1000000000
        · by_cases h1 : 0 ≤ (l.getD i z76).f1 ∧ (l.getD i z76).f1 ≤ 10000
          · refine Ev.step (f := fun k => vendmeterref_DebtFault.l0 k l ((i + 1 : Nat) : Int)) (fun k => ?_) (Ev.eq ?_ (ih (i + 1) (by omega)))
            · simp only [vendmeterref_DebtFault.l0, rd_debt, vendmeterref_In.eq]; rw [if_pos (by omega), if_pos (by omega), wn (show i < l.length by omega) (by omega)]
              simp only [h0, h1, and_self, decide_true, Option.bind_some, if_true]
            · rw [show debtOk (l.getD i z76) = true by simp only [debtOk, decide_eq_true_eq]; exact ⟨h0.1, h0.2, h1.1, h1.2⟩, Bool.true_and]
          · refine Ev.step (f := fun _ => some 2) (fun k => ?_) (Ev.ret ?_)
            · simp only [vendmeterref_DebtFault.l0, rd_debt, vendmeterref_In.eq]; rw [if_pos (by omega), if_pos (by omega)]
              simp only [h0, h1, and_self, decide_true, decide_false, Option.bind_some, if_true]; rfl
            · rw [show debtOk (l.getD i z76) = false by simp only [debtOk, decide_eq_false_iff_not]; omega]; rfl
        · refine Ev.step (f := fun _ => some 2) (fun k => ?_) (Ev.ret ?_)
          · simp only [vendmeterref_DebtFault.l0, rd_debt, vendmeterref_In.eq]; rw [if_pos (by omega), if_pos (by omega)]
            simp only [h0, decide_false, Option.bind_some]; rfl
          · rw [show debtOk (l.getD i z76) = false by simp only [debtOk, decide_eq_false_iff_not]; omega]; rfl
    exact key l.length 0 (by omega)
theorem account_within.eq (a b c : Int) : account_within.f a b c = some (decide (b ≤ a ∧ a ≤ c)) := by
  unfold account_within.f
  by_cases h : b ≤ a
  · rw [if_pos h]; simp [h]
  · rw [if_neg h]; simp [h]
def inA (me rev nx mo bo fr : Int) : Prop := (0 ≤ me ∧ me ≤ 49) ∧ (0 ≤ rev ∧ rev ≤ 15) ∧ (1 ≤ nx ∧ nx ≤ 1048576) ∧ (0 ≤ mo ∧ mo ≤ 2399) ∧ (0 ≤ bo ∧ bo ≤ 10000000) ∧ (-1 ≤ fr ∧ fr ≤ mo)
instance (me rev nx mo bo fr : Int) : Decidable (inA me rev nx mo bo fr) := by unfold inA; infer_instance
def mayA (me rev nx mo bo fr : Int) (l : List S76) : Bool := decide (debtFault l = 0) && decide (inA me rev nx mo bo fr)
theorem mayA_no {me rev nx mo bo fr : Int} (l : List S76) (h : ¬ inA me rev nx mo bo fr) : mayA me rev nx mo bo fr l = false := by unfold mayA; rw [decide_eq_false h, Bool.and_false]
theorem mayA_no' {l : List S76} (me rev nx mo bo fr : Int) (h : ¬ debtFault l = 0) : mayA me rev nx mo bo fr l = false := by unfold mayA; rw [decide_eq_false h, Bool.false_and]
theorem mayA_in {me rev nx mo bo fr : Int} {l : List S76} (h : mayA me rev nx mo bo fr l = true) : debtFault l = 0 ∧ inA me rev nx mo bo fr := by
  unfold mayA at h
  rw [Bool.and_eq_true, decide_eq_true_eq, decide_eq_true_eq] at h
  exact h
theorem mayA_yes {me rev nx mo bo fr : Int} {l : List S76} (h : debtFault l = 0) (h' : inA me rev nx mo bo fr) : mayA me rev nx mo bo fr l = true := by unfold mayA; rw [decide_eq_true h, decide_eq_true h']; rfl
theorem total_code (l : List S76) : (totalAns l).2 = debtFault l := by
  unfold totalAns
  split
  · rename_i h; exact h.symm
  · rfl
theorem account_may.ev (me rev nx mo bo fr : Int) (l : List S76) : Ev (fun k => account_may.f k me rev nx mo bo fr l) (mayA me rev nx mo bo fr l) := by
  unfold account_may.f
  refine Ev.bind (debt_Total.ev l) ?_
  rw [total_code]
  simp only [account_within.eq, Option.bind_some]
  have no := fun h => mayA_no (me := me) (rev := rev) (nx := nx) (mo := mo) (bo := bo) (fr := fr) l h
  by_cases h0 : debtFault l = 0
  · refine Ev.pos h0 ?_
    by_cases h1 : 0 ≤ me ∧ me ≤ 49
    · refine Ev.pos (decide_eq_true h1) ?_
      by_cases h2 : 0 ≤ rev ∧ rev ≤ 15
      · refine Ev.pos (decide_eq_true h2) ?_
        by_cases h3 : 1 ≤ nx ∧ nx ≤ 1048576
        · refine Ev.pos (decide_eq_true h3) ?_
          by_cases h4 : 0 ≤ mo ∧ mo ≤ 2399
          · refine Ev.pos (decide_eq_true h4) ?_
            by_cases h5 : 0 ≤ bo ∧ bo ≤ 10000000
            · refine Ev.pos (decide_eq_true h5) (Ev.ret ?_)
              by_cases h6 : -1 ≤ fr ∧ fr ≤ mo
              · rw [decide_eq_true h6, mayA_yes h0 ⟨h1, h2, h3, h4, h5, h6⟩]
              · rw [decide_eq_false h6, no (by unfold inA; omega)]
            · exact Ev.neg (by rw [decide_eq_false h5]; decide) (Ev.ret (no (by unfold inA; omega)).symm)
          · exact Ev.neg (by rw [decide_eq_false h4]; decide) (Ev.ret (no (by unfold inA; omega)).symm)
        · exact Ev.neg (by rw [decide_eq_false h3]; decide) (Ev.ret (no (by unfold inA; omega)).symm)
      · exact Ev.neg (by rw [decide_eq_false h2]; decide) (Ev.ret (no (by unfold inA; omega)).symm)
    · exact Ev.neg (by rw [decide_eq_false h1]; decide) (Ev.ret (no (by unfold inA; omega)).symm)
  · exact Ev.neg h0 (Ev.ret (mayA_no' _ _ _ _ _ _ h0).symm)
theorem vendmeterref_AccountMay.ev (me rev nx mo bo fr : Int) (l : List S76) : Ev (fun k => vendmeterref_AccountMay.f k me rev nx mo bo fr l) (mayA me rev nx mo bo fr l) := by
  have jT : ∀ r, r = false → Ev (fun k => vendmeterref_AccountMay.j0 k true me rev nx mo bo fr l) r := by
    rintro r rfl
    exact Ev.step (f := fun _ => some false) (fun k => rfl) (Ev.now _)
  have no := fun h => mayA_no (me := me) (rev := rev) (nx := nx) (mo := mo) (bo := bo) (fr := fr) l h
  unfold vendmeterref_AccountMay.f
  refine Ev.bind (vendmeterref_DebtFault.ev l) ?_
  simp only [vendmeterref_In.eq, Option.bind_some]
  by_cases h0 : debtFault l = 0
  · refine Ev.pos h0 ?_
    by_cases h1 : 0 ≤ me ∧ me ≤ 49
    · refine Ev.pos (decide_eq_true h1) ?_
      by_cases h2 : 0 ≤ rev ∧ rev ≤ 15
      · rw [decide_eq_true h2]
        refine Ev.succ ?_
        simp only [vendmeterref_AccountMay.j0, vendmeterref_In.eq, Option.bind_some, Bool.not_true, Bool.false_eq_true, if_false]
        by_cases h3 : 1 ≤ nx ∧ nx ≤ 1048576
        · refine Ev.pos (decide_eq_true h3) ?_
          by_cases h4 : 0 ≤ mo ∧ mo ≤ 2399
          · refine Ev.pos (decide_eq_true h4) ?_
            by_cases h5 : 0 ≤ bo ∧ bo ≤ 10000000
            · refine Ev.pos (decide_eq_true h5) (Ev.ret ?_)
              by_cases h6 : -1 ≤ fr ∧ fr ≤ mo
              · rw [decide_eq_true h6, mayA_yes h0 ⟨h1, h2, h3, h4, h5, h6⟩]
              · rw [decide_eq_false h6, no (by unfold inA; omega)]
            · exact Ev.neg (by rw [decide_eq_false h5]; decide) (Ev.ret (no (by unfold inA; omega)).symm)
          · exact Ev.neg (by rw [decide_eq_false h4]; decide) (Ev.ret (no (by unfold inA; omega)).symm)
        · exact Ev.neg (by rw [decide_eq_false h3]; decide) (Ev.ret (no (by unfold inA; omega)).symm)
      · rw [decide_eq_false h2]
        exact jT _ (no (by unfold inA; omega))
    · exact Ev.neg (by rw [decide_eq_false h1]; decide) (jT _ (no (by unfold inA; omega)))
  · exact Ev.neg h0 (jT _ (mayA_no' _ _ _ _ _ _ h0))
theorem vendmeterref_AccountCopy.ev (me rev nx mo bo fr : Int) (l : List S76) (hl : l.length ≤ 8) : Ev (fun k => vendmeterref_AccountCopy.f k me rev nx mo bo fr l) (me, rev, nx, mo, bo, fr, l) := by
  unfold vendmeterref_AccountCopy.f
  have key := down (P := fun i => Ev (fun k => vendmeterref_AccountCopy.l0 k (l.take i) (i : Int) me rev nx mo bo fr l) (me, rev, nx, mo, bo, fr, l)) (n := l.length) (by
    refine Ev.step (f := fun _ => some (me, rev, nx, mo, bo, fr, l)) (fun k => ?_) (Ev.now _)
    simp only [vendmeterref_AccountCopy.l0]; rw [if_neg (by omega), List.take_length]) (by
    intro i hi ih
    refine Ev.step (fun k => ?_) ih
    simp only [vendmeterref_AccountCopy.l0, rd_debt]
    rw [if_pos (by omega), if_pos (by omega), if_pos (by rw [List.length_take]; omega), wn (show i < l.length by omega) (by omega), take_getD l i z76 (by omega)])
  exact key
def agedAns (l : List S76) (m : Int) : List S76 × Int := if debtFault l = 0 then (if 0 ≤ m ∧ m ≤ 2400 then (l.map (debt_Age.one m.toNat), 0) else ([], 2)) else ([], debtFault l)
theorem debt_Age.ev (l : List S76) (m : Int) : Ev (fun k => debt_Age.f k l m) (agedAns l m) := by
  unfold debt_Age.f agedAns
  refine Ev.bind (debt_list_fault.ev l) ?_
  by_cases h : debtFault l = 0
  · refine Ev.eq (if_pos h).symm ?_
    obtain ⟨h8, hok⟩ := fault_zero h
    refine Ev.pos h (Ev.pos ⟨hok, by omega⟩ ?_)
    by_cases h0 : m < 0
    · exact Ev.eq (if_neg (by omega)).symm (Ev.pos h0 (Ev.now _))
    · refine Ev.neg h0 ?_
      by_cases h1 : m > 2400
      · exact Ev.eq (if_neg (by omega)).symm (Ev.pos h1 (Ev.now _))
      · exact Ev.eq (if_pos (by omega)).symm (Ev.neg h1 (Ev.now _))
  · exact Ev.eq (if_neg h).symm (Ev.neg h (Ev.now _))
theorem ag_fix (o b : Int) (h : o * b / 10000 = 0) : ∀ n, debt_Age.ag n o b = o
  | 0 => rfl
  | n + 1 => by rw [debt_Age.ag, if_pos h]
theorem ag_step (n : Nat) (o b : Int) (ho : o ≤ 1000000000) : debt_Age.ag (n + 1) o b = debt_Age.ag n (mn (o + o * b / 10000) 1000000000) b := by
  by_cases h : o * b / 10000 = 0
  · rw [ag_fix o b h, h, Int.add_zero, show mn o 1000000000 = o by unfold mn; split <;> omega, ag_fix o b h]
  · rw [debt_Age.ag, if_neg h]
theorem vendmeterref_aged.ev (m : Nat) (hm : m ≤ 2400) (b : Int) (hb0 : 0 ≤ b) (hb1 : b ≤ 10000) : ∀ (d i : Nat) (o : Int), i + d = m → 0 ≤ o → o ≤ 1000000000 → Ev (fun k => vendmeterref_aged.l0 k (m : Int) (i : Int) o b) (debt_Age.ag d o b, b) := by
  intro d
  induction d with
  | zero =>
    intro i o hi h0 h1
    refine Ev.step (f := fun _ => some (o, b)) (fun k => ?_) (Ev.now _)
    simp only [vendmeterref_aged.l0]; rw [if_neg (by omega)]
  | succ d ih =>
    intro i o hi h0 h1
    obtain ⟨q0, q1⟩ := debt_Age.ag_bd 0 o b h0 h1 hb0 hb1
    have e1 : wrap64 (o + wrap64 (Int.tdiv (wrap64 (o * b)) 10000)) = o + o * b / 10000 := by
      generalize o * b = q at q0 q1 ⊢
      rw [wr (a := q) ⟨by omega, by omega⟩, td q0, wr (a := q / 10000) ⟨by omega, by omega⟩, wr ⟨by omega, by omega⟩]
    have q2 : 0 ≤ o * b / 10000 := by generalize o * b = q at q0 q1 ⊢; omega
    rw [ag_step d o b h1]
    by_cases hc : o + o * b / 10000 > 1000000000
    · refine Ev.step (f := fun k => vendmeterref_aged.l0 k (m : Int) ((i + 1 : Nat) : Int) 1000000000 b) (fun k => ?_) (Ev.eq ?_ (ih (i + 1) 1000000000 (by omega) (by omega) (by omega)))
      · simp only [vendmeterref_aged.l0]; rw [if_pos (by omega), e1, if_pos hc, wn (show i < m by omega) (by omega)]
      · rw [show mn (o + o * b / 10000) 1000000000 = 1000000000 by unfold mn; split <;> omega]
    · refine Ev.step (f := fun k => vendmeterref_aged.l0 k (m : Int) ((i + 1 : Nat) : Int) (o + o * b / 10000) b) (fun k => ?_) (Ev.eq ?_ (ih (i + 1) _ (by omega) (by omega) (by omega)))
      · simp only [vendmeterref_aged.l0]; rw [if_pos (by omega), e1, if_neg hc, wn (show i < m by omega) (by omega)]
      · rw [show mn (o + o * b / 10000) 1000000000 = o + o * b / 10000 by unfold mn; split <;> omega]
theorem vendmeterref_Aged.ev (l : List S76) (m : Int) : Ev (fun k => vendmeterref_Aged.f k l m) (agedAns l m) := by
  unfold vendmeterref_Aged.f agedAns
  refine Ev.bind (vendmeterref_DebtFault.ev l) ?_
  by_cases h : debtFault l = 0
  · refine Ev.eq (if_pos h).symm ?_
    obtain ⟨h8, hok⟩ := fault_zero h
    refine Ev.pos h ?_
    simp only [vendmeterref_In.eq, Option.bind_some]
    by_cases hm : 0 ≤ m ∧ m ≤ 2400
    · rw [if_pos hm]
      refine Ev.pos (decide_eq_true hm) ?_
      obtain ⟨n, rfl⟩ : ∃ n : Nat, m = n := ⟨m.toNat, by omega⟩
      rw [Int.toNat_natCast]
      have key : ∀ (d i : Nat) (a : List S76), i + d = l.length → a.length = i → Ev (fun k => vendmeterref_Aged.l0 k l (n : Int) a (i : Int)) (a ++ (l.drop i).map (debt_Age.one n), 0) := by
        intro d
        induction d with
        | zero =>
          intro i a hi ha
          refine Ev.step (f := fun _ => some (a, 0)) (fun k => ?_) (Ev.ret ?_)
          · simp only [vendmeterref_Aged.l0]; rw [if_neg (by omega)]
          · rw [List.drop_of_length_le (by omega)]; simp
        | succ d ih =>
          intro i a hi ha
          have hd := drop_getD l i z76 (by omega)
          have hmem := List.all_eq_true.1 hok _ (getD_mem l i z76 (by omega))
          simp only [debtOk, decide_eq_true_eq] at hmem
          refine Ev.step (f := fun k => (vendmeterref_aged.f k (rd_T76 l (i : Int)).f0 (rd_T76 l (i : Int)).f1 (n : Int)).bind fun bt => vendmeterref_Aged.l0 k l (n : Int) (a ++ [⟨bt.1, bt.2⟩]) ((i + 1 : Nat) : Int)) (fun k => ?_) ?_
          · simp only [vendmeterref_Aged.l0]; rw [if_pos (by omega), if_pos (by omega), wn (show i < l.length by omega) (by omega)]
            congr 1; funext bt; rw [if_pos (by omega)]
          · rw [rd_debt]
            unfold vendmeterref_aged.f
            refine Ev.bind (vendmeterref_aged.ev n (by omega) _ (by omega) (by omega) n 0 _ (by omega) (by omega) (by omega)) ?_
            refine Ev.eq ?_ (ih (i + 1) _ (by omega) (by simp [ha]))
            rw [hd, List.map_cons, List.append_assoc]
            rfl
      exact Ev.eq (by simp) (key l.length 0 [] (by omega) rfl)
    · rw [if_neg hm]; exact Ev.neg (by rw [decide_eq_true_eq]; exact hm) (Ev.now _)
  · exact Ev.eq (if_neg h).symm (Ev.neg h (Ev.now _))
theorem aged_len (l : List S76) (m : Int) : (agedAns l m).1.length ≤ l.length := by
  unfold agedAns
  repeat' split
  all_goals simp
def rollAns (mo bo : Int) (l : List S76) (m : Int) : List S76 × Int × Int × Int := if 0 ≤ m ∧ m ≤ 2399 then (if m < mo then (l, mo, bo, 23) else if m > mo then ((agedAns l (m - mo)).1, m, 0, 0) else (l, mo, bo, 0)) else (l, mo, bo, 2)
def rolledAns (me rev nx mo bo fr : Int) (l : List S76) (m : Int) : Int × Int × Int × Int × Int × Int × List S76 × Int := if mayA me rev nx mo bo fr l = true then (if (rollAns mo bo l m).2.2.2 = 0 then (me, rev, nx, (rollAns mo bo l m).2.1, (rollAns mo bo l m).2.2.1, fr, (rollAns mo bo l m).1, 0) else (0, 0, 0, 0, 0, 0, [], (rollAns mo bo l m).2.2.2)) else (0, 0, 0, 0, 0, 0, [], 5)
theorem account_roll.ev (mo bo : Int) (l : List S76) (m : Int) (h : 0 ≤ mo ∧ mo ≤ 2399) : Ev (fun k => account_roll.f k mo bo l m) (rollAns mo bo l m) := by
  unfold account_roll.f rollAns
  refine Ev.iteR (fun h1 => Ev.iteR (fun _ => Ev.now _) (fun h2 => Ev.iteR (fun h3 => ?_) (fun _ => Ev.now _))) (fun _ => Ev.now _)
  rw [wr (a := m - mo) ⟨by omega, by omega⟩]
  exact Ev.bind (debt_Age.ev l (m - mo)) (Ev.now _)
theorem rollAns_len (mo bo : Int) (l : List S76) (m : Int) : (rollAns mo bo l m).1.length ≤ l.length := by
  have := aged_len l (m - mo)
  unfold rollAns
  repeat' split
  all_goals first | exact this | exact Nat.le_refl _
theorem rolledAns_len (me rev nx mo bo fr : Int) (l : List S76) (m : Int) : (rolledAns me rev nx mo bo fr l m).2.2.2.2.2.2.1.length ≤ l.length := by
  have := rollAns_len mo bo l m
  unfold rolledAns
  repeat' split
  all_goals first | exact this | simp
theorem rollAns_code (mo bo : Int) (l : List S76) (m : Int) : ((rollAns mo bo l m).2.2.2 = 0) ↔ ((0 ≤ m ∧ m ≤ 2399) ∧ ¬ m < mo) := by
  unfold rollAns
  by_cases h1 : 0 ≤ m ∧ m ≤ 2399
  · rw [if_pos h1]
    by_cases h2 : m < mo
    · rw [if_pos h2]; simp [h2]
    · rw [if_neg h2]
      by_cases h3 : m > mo
      · rw [if_pos h3]; simp [h1, h2]
      · rw [if_neg h3]; simp [h1, h2]
  · rw [if_neg h1]; simp [h1]
theorem vendmeterref_Rolled.ev (me rev nx mo bo fr : Int) (l : List S76) (m : Int) : Ev (fun k => vendmeterref_Rolled.f k me rev nx mo bo fr l m) (rolledAns me rev nx mo bo fr l m) := by
  unfold vendmeterref_Rolled.f rolledAns
  refine Ev.bind (vendmeterref_AccountMay.ev me rev nx mo bo fr l) (Ev.iteR (fun h => ?_) (fun h => Ev.now _))
  obtain ⟨h0, hA⟩ := mayA_in h
  obtain ⟨h8, _⟩ := fault_zero h0
  unfold inA at hA
  simp only [vendmeterref_In.eq, Option.bind_some]
  unfold rollAns
  by_cases h1 : 0 ≤ m ∧ m ≤ 2399
  · simp only [if_pos h1]
    refine Ev.pos (decide_eq_true h1) ?_
    by_cases h2 : m < mo
    · simp only [if_pos h2]
      exact Ev.ret (by simp)
    · simp only [if_neg h2]
      refine Ev.bind (vendmeterref_AccountCopy.ev me rev nx mo bo fr l h8) ?_
      by_cases h3 : m = mo
      · rw [if_neg (by omega : ¬ m > mo)]
        exact Ev.pos h3 (Ev.ret (by simp))
      · rw [if_pos (by omega : m > mo)]
        refine Ev.neg h3 ?_
        rw [wr (a := m - mo) ⟨by omega, by omega⟩]
        exact Ev.bind (vendmeterref_Aged.ev l (m - mo)) (Ev.ret (by simp))
  · simp only [if_neg h1]
    exact Ev.neg (by rw [decide_eq_true_eq]; exact h1) (Ev.ret (by simp))
theorem rd_step (l : List S125) (i : Nat) : rd_T125 l (i : Int) = l.getD i z125 := Eq.trans rfl rfl
def tarFault (l : List S125) : Int := if (l.length : Int) < 1 then 1 else if (l.length : Int) > 8 then 1 else if l.any tariff_Check.bad = true then 2 else if tariff_Check.rising l = true then (if (rd_T125 l ((l.length : Int) - 1)).f0 = 10000000 then 0 else 3) else 3
theorem tariff_Check.eq (l : List S125) : tariff_Check.f l = some (tarFault l) := by
  unfold tariff_Check.f tarFault
  repeat' split
  all_goals rfl
theorem vendmeterref_TariffFault.ev (l : List S125) : Ev (fun k => vendmeterref_TariffFault.f k l) (tarFault l) := by
  unfold vendmeterref_TariffFault.f tarFault
  simp only [vendmeterref_In.eq, Option.bind_some]
  by_cases h1 : (l.length : Int) < 1
  · rw [if_pos h1]; exact Ev.neg (by rw [decide_eq_true_eq]; omega) (Ev.now _)
  rw [if_neg h1]
  by_cases h8 : (l.length : Int) > 8
  · rw [if_pos h8]; exact Ev.neg (by rw [decide_eq_true_eq]; omega) (Ev.now _)
  rw [if_neg h8]
  refine Ev.pos (decide_eq_true (by omega)) ?_
  by_cases hb : l.any tariff_Check.bad = true
  · rw [if_pos hb]
    have key : ∀ d i : Nat, i + d = l.length → (l.drop i).any tariff_Check.bad = true → Ev (fun k => vendmeterref_TariffFault.l0 k l (i : Int)) 2 := by
      intro d
      induction d with
      | zero => intro i hi h; rw [List.drop_of_length_le (by omega)] at h; simp at h
      | succ d ih =>
        intro i hi h
        rw [drop_getD l i z125 (by omega), List.any_cons] at h
        by_cases hs : tariff_Check.bad (l.getD i z125) = true
        · simp only [tariff_Check.bad, Bool.or_eq_true, decide_eq_true_eq] at hs
          refine Ev.step (f := fun _ => some 2) (fun k => ?_) (Ev.now _)
          simp only [vendmeterref_TariffFault.l0, rd_step, vendmeterref_In.eq, Option.bind_some]; rw [if_pos (by omega), if_pos (by omega)]
          by_cases h0 : 1 ≤ (l.getD i z125).f0 ∧ (l.getD i z125).f0 ≤ 10000000
          · rw [if_pos (decide_eq_true h0), if_neg (by rw [decide_eq_true_eq]; omega)]
          · rw [if_neg (by rw [decide_eq_true_eq]; exact h0)]
        · rw [Bool.eq_false_iff.mpr hs, Bool.false_or] at h
          simp only [tariff_Check.bad, Bool.or_eq_true, decide_eq_true_eq] at hs
          refine Ev.step (f := fun k => vendmeterref_TariffFault.l0 k l ((i + 1 : Nat) : Int)) (fun k => ?_) (ih (i + 1) (by omega) h)
          simp only [vendmeterref_TariffFault.l0, rd_step, vendmeterref_In.eq, Option.bind_some]; rw [if_pos (by omega), if_pos (by omega), wn (show i < l.length by omega) (by omega)]
          rw [if_pos (decide_eq_true (by omega)), if_pos (decide_eq_true (by omega))]
    exact key l.length 0 (by omega) hb
  rw [if_neg hb]
  have hb' := Bool.eq_false_iff.mpr hb
  have key0 : ∀ {r : Int}, Ev (fun k => vendmeterref_TariffFault.l1 k l 1) r → Ev (fun k => vendmeterref_TariffFault.l0 k l 0) r := by
    intro r hr
    refine down (P := fun i => Ev (fun k => vendmeterref_TariffFault.l0 k l (i : Int)) r) (n := l.length) ?_ ?_
    · refine Ev.step (fun k => ?_) hr
      simp only [vendmeterref_TariffFault.l0]; rw [if_neg (by omega)]
    · intro i hi h
      have hs := (List.any_eq_false.1 hb') _ (getD_mem l i z125 hi)
      simp only [tariff_Check.bad, Bool.or_eq_true, decide_eq_true_eq] at hs
      refine Ev.step (fun k => ?_) h
      simp only [vendmeterref_TariffFault.l0, rd_step, vendmeterref_In.eq, Option.bind_some]; rw [if_pos (by omega), if_pos (by omega), wn hi (by omega)]
      rw [if_pos (decide_eq_true (by omega)), if_pos (decide_eq_true (by omega))]
  apply key0
  have hlen : 1 ≤ l.length := by omega
  have step : ∀ (k i : Nat), 1 ≤ i → i < l.length → vendmeterref_TariffFault.l1 (k + 1) l (i : Int) = if (rd_T125 l (i : Int)).f0 ≤ (rd_T125 l ((i : Int) - 1)).f0 then some 3 else vendmeterref_TariffFault.l1 k l ((i + 1 : Nat) : Int) := by
    intro k i h0 hi
    simp only [vendmeterref_TariffFault.l1]
    rw [wr (a := (i : Int) - 1) ⟨by omega, by omega⟩, if_pos (by omega), if_pos (by omega), if_pos (by omega), if_pos (by omega), wn hi (by omega)]
  have last : ∀ k, vendmeterref_TariffFault.l1 (k + 1) l (l.length : Int) = if (rd_T125 l ((l.length : Int) - 1)).f0 = 10000000 then some 0 else some 3 := by
    intro k
    simp only [vendmeterref_TariffFault.l1]
    rw [wr (a := (l.length : Int) - 1) ⟨by omega, by omega⟩, if_neg (by omega), if_pos (by omega), if_pos (by omega)]
  by_cases hr : tariff_Check.rising l = true
  · rw [if_pos hr]
    have hri := (tariff_Check.rising_iff l).1 hr
    refine downFrom (P := fun i => Ev (fun k => vendmeterref_TariffFault.l1 k l (i : Int)) _) (m := 1) (n := l.length) hlen ?_ ?_
    · refine Ev.step last ?_
      exact Ev.iteR (fun _ => Ev.now _) (fun _ => Ev.now _)
    · intro i h0 hi h
      refine Ev.step (f := fun k => vendmeterref_TariffFault.l1 k l ((i + 1 : Nat) : Int)) (fun k => ?_) h
      rw [step k i h0 hi, if_neg]
      have := hri (i - 1) (by omega)
      rw [show (((i - 1 : Nat) : Nat) : Int) = (i : Int) - 1 by omega, show (i : Int) - 1 + 1 = (i : Int) by omega] at this
      omega
  · rw [if_neg hr]
    have hex : ∃ i : Nat, 1 ≤ i ∧ i < l.length ∧ (rd_T125 l (i : Int)).f0 ≤ (rd_T125 l ((i : Int) - 1)).f0 := by
      refine Classical.not_not.1 fun hn => hr ((tariff_Check.rising_iff l).2 fun i hi => ?_)
      refine Classical.not_not.1 fun h => hn ⟨i + 1, by omega, hi, ?_⟩
      rw [show ((i + 1 : Nat) : Int) - 1 = (i : Int) by omega, show ((i + 1 : Nat) : Int) = (i : Int) + 1 by omega]
      omega
    obtain ⟨m, hm0, hm1, hm⟩ := hex
    refine downFrom (P := fun i => Ev (fun k => vendmeterref_TariffFault.l1 k l (i : Int)) 3) (m := 1) (n := m) hm0 ?_ ?_
    · refine Ev.step (f := fun _ => some 3) (fun k => ?_) (Ev.now _)
      rw [step k m hm0 hm1, if_pos hm]
    · intro i h0 hi h
      by_cases hc : (rd_T125 l (i : Int)).f0 ≤ (rd_T125 l ((i : Int) - 1)).f0
      · refine Ev.step (f := fun _ => some 3) (fun k => ?_) (Ev.now _)
        rw [step k i h0 (by omega), if_pos hc]
      · refine Ev.step (f := fun k => vendmeterref_TariffFault.l1 k l ((i + 1 : Nat) : Int)) (fun k => ?_) h
        rw [step k i h0 (by omega), if_neg hc]
def termsF (l : List S125) (a b c d : Int) : Int := if tarFault l = 0 then (if (0 ≤ a ∧ a ≤ 100000) ∧ (0 ≤ b ∧ b ≤ 10000) ∧ (0 ≤ c ∧ c ≤ 10000) ∧ (0 ≤ d ∧ d ≤ 2097151) then 0 else 2) else tarFault l
theorem account_Check.eq (l : List S125) (a b c d : Int) : account_Check.f l a b c d = some (termsF l a b c d) := by
  unfold account_Check.f termsF
  rw [tariff_Check.eq]
  simp only [account_within.eq, Option.bind_some, decide_eq_true_eq]
  by_cases h0 : tarFault l = 0
  · rw [if_pos h0, if_pos h0]
    by_cases h1 : 0 ≤ a ∧ a ≤ 100000
    · rw [if_pos h1]
      by_cases h2 : 0 ≤ b ∧ b ≤ 10000
      · rw [if_pos h2]
        by_cases h3 : 0 ≤ c ∧ c ≤ 10000
        · rw [if_pos h3]
          by_cases h4 : 0 ≤ d ∧ d ≤ 2097151
          · rw [if_pos h4, if_pos ⟨h1, h2, h3, h4⟩]
          · rw [if_neg h4, if_neg (fun h => h4 h.2.2.2)]
        · rw [if_neg h3, if_neg (fun h => h3 h.2.2.1)]
      · rw [if_neg h2, if_neg (fun h => h2 h.2.1)]
    · rw [if_neg h1, if_neg (fun h => h1 h.1)]
  · rw [if_neg h0, if_neg h0]
theorem vendmeterref_TermsFault.ev (l : List S125) (a b c d : Int) : Ev (fun k => vendmeterref_TermsFault.f k l a b c d) (termsF l a b c d) := by
  unfold vendmeterref_TermsFault.f
  refine Ev.bind (vendmeterref_TariffFault.ev l) (Ev.some_ ?_)
  have h := account_Check.eq l a b c d
  unfold account_Check.f at h
  rw [tariff_Check.eq] at h
  simp only [vendmeterref_In.eq]
  simp only [account_within.eq] at h
  exact h
theorem vendmeterlaw_sameDebts.ev (l) (hl : l.length ≤ 1152921504606846976) : Ev (fun k => vendmeterlaw_sameDebts.f k l l) true := by
  unfold vendmeterlaw_sameDebts.f
  refine Ev.pos rfl (same_ev hl (fun k i hi => ?_) (fun k => ?_))
  · simp only [vendmeterlaw_sameDebts.l0]; rw [if_pos (by omega), if_pos (by omega), if_pos (by omega)]; simp
  · simp only [vendmeterlaw_sameDebts.l0]; rw [if_neg (by omega)]
theorem vendmeterlaw_sameAccount.ev (a b c d e f : Int) (l : List S76) (hl : l.length ≤ 1152921504606846976) : Ev (fun k => vendmeterlaw_sameAccount.f k a b c d e f l a b c d e f l) true := by
  unfold vendmeterlaw_sameAccount.f
  exact Ev.pos rfl (Ev.pos rfl (Ev.pos rfl (Ev.pos rfl (Ev.pos rfl (Ev.pos rfl (Ev.bind (vendmeterlaw_sameDebts.ev l hl) (Ev.now _)))))))
theorem vendmeterlaw_debts.eq (l) (h : l.length * 16 ≤ 140737488351232) : vendmeterlaw_debts.f l = some l := by
  unfold vendmeterlaw_debts.f
  rw [if_pos (by simp only [List.length_nil]; omega)]; rfl
theorem vendmeterlaw_steps.eq (l) (h : l.length * 16 ≤ 140737488351232) : vendmeterlaw_steps.f l = some l := by
  unfold vendmeterlaw_steps.f
  rw [if_pos (by simp only [List.length_nil]; omega)]; rfl

abbrev GT := Int × Int × Int × Int × Int × Int × List S76 × Int × Int × Int × Int × Int × Int × Int × Int
def noG (e : Int) : GT := (0, 0, 0, 0, 0, 0, [], 0, 0, 0, 0, 0, 0, 0, e)
def grantAns (me rev nx mo bo fr : Int) (l : List S76) (t : List S125) (a b c d m : Int) : GT :=
  if mayA me rev nx mo bo fr l = true then (if termsF t a b c d = 0 then (if (rollAns mo bo l m).2.2.2 = 0 then (if d = 0 then noG 22 else if fr = m then noG 21 else if nx = 1048576 then noG 20 else (me, rev, nx + 1, (rollAns mo bo l m).2.1, (rollAns mo bo l m).2.2.1, m, (rollAns mo bo l m).1, nx, 0, 0, 0, 0, 0, d, 0)) else noG (rollAns mo bo l m).2.2.2) else noG (termsF t a b c d)) else noG 5
theorem grant_len (me rev nx mo bo fr : Int) (l : List S76) (t : List S125) (a b c d m : Int) : (grantAns me rev nx mo bo fr l t a b c d m).2.2.2.2.2.2.1.length ≤ l.length := by
  have := rollAns_len mo bo l m
  unfold grantAns
  repeat' split
  all_goals first | exact this | simp [noG]
theorem account_Grant.ev (me rev nx mo bo fr : Int) (l : List S76) (t : List S125) (a b c d m : Int) (hl : l.length < 8796093022208) : Ev (fun k => account_Grant.f k me rev nx mo bo fr l t a b c d m) (grantAns me rev nx mo bo fr l t a b c d m) := by
  have ho : Ev (fun k => account_open.f k me rev nx mo bo fr l t a b c d) (if mayA me rev nx mo bo fr l = true then termsF t a b c d else 5) := by
    unfold account_open.f
    rw [account_Check.eq]
    refine Ev.bind (account_may.ev me rev nx mo bo fr l) (Ev.iteR (fun _ => Ev.letS ?_) (fun _ => Ev.now _))
    by_cases h : termsF t a b c d = 0
    · exact Ev.pos h (Ev.pos hl (Ev.ret h.symm))
    · exact Ev.neg h (Ev.now _)
  unfold account_Grant.f grantAns
  refine Ev.bind ho ?_
  by_cases h : mayA me rev nx mo bo fr l = true
  · obtain ⟨h0, hA⟩ := mayA_in h
    unfold inA at hA
    rw [if_pos h, if_pos h]
    refine Ev.iteR (fun _ => ?_) (fun _ => Ev.now _)
    refine Ev.bind (account_roll.ev mo bo l m hA.2.2.2.1) (Ev.iteR (fun _ => Ev.iteR (fun _ => Ev.now _) (fun _ => Ev.iteR (fun _ => Ev.now _) (fun _ => ?_))) (fun _ => Ev.now _))
    by_cases h5 : nx = 1048576
    · rw [if_pos h5]; exact Ev.pos (by omega) (Ev.now _)
    · rw [if_neg h5]
      refine Ev.neg (by omega) (Ev.ret ?_)
      rw [wr (a := nx + 1) ⟨by omega, by omega⟩, wr (a := nx + 1 - 1) ⟨by omega, by omega⟩, show nx + 1 - 1 = nx by omega]
  · rw [if_neg h, if_neg h]
    exact Ev.neg (by decide) (Ev.now _)
theorem vendmeterref_Granted.ev (me rev nx mo bo fr : Int) (l : List S76) (t : List S125) (a b c d m : Int) : Ev (fun k => vendmeterref_Granted.f k me rev nx mo bo fr l t a b c d m) (grantAns me rev nx mo bo fr l t a b c d m) := by
  unfold vendmeterref_Granted.f grantAns
  refine Ev.bind (vendmeterref_AccountMay.ev me rev nx mo bo fr l) (Ev.iteR (fun h => ?_) (fun _ => Ev.now _))
  obtain ⟨h0, hA⟩ := mayA_in h
  unfold inA at hA
  refine Ev.bind (vendmeterref_TermsFault.ev t a b c d) (Ev.iteR (fun _ => ?_) (fun _ => Ev.now _))
  refine Ev.bind (vendmeterref_Rolled.ev me rev nx mo bo fr l m) ?_
  unfold rolledAns
  rw [if_pos h]
  by_cases hc : (rollAns mo bo l m).2.2.2 = 0
  · rw [if_pos hc, if_pos hc]
    refine Ev.pos rfl (Ev.iteR (fun _ => Ev.now _) (fun _ => Ev.iteR (fun _ => Ev.now _) (fun _ => Ev.iteR (fun _ => Ev.now _) (fun _ => Ev.ret ?_))))
    rw [wr (a := nx + 1) ⟨by omega, by omega⟩]
  · rw [if_neg hc, if_neg hc, if_neg hc]
    exact Ev.ret rfl
theorem AccountGrants : vendmeterlaw_AccountGrants.Pure := by
  intro me rev nx mo bo fr l t a b c d m _ _ _ _ _ _ h ht _ _ _ _ _
  have h4 := h.1
  refine Ev.rounds ?_
  unfold vendmeterlaw_AccountGrants.f vendmeterlaw_accounts.f vendmeterlaw_terms.f
  rw [vendmeterlaw_debts.eq l h.1, vendmeterlaw_steps.eq t ht.1]
  have hl := grant_len me rev nx mo bo fr l t a b c d m
  refine Ev.letS (Ev.letS (Ev.bind (account_Grant.ev me rev nx mo bo fr l t a b c d m (by omega)) (Ev.bind (vendmeterref_Granted.ev me rev nx mo bo fr l t a b c d m) ?_)))
  unfold vendmeterlaw_AccountGrants.end
  exact Ev.pos rfl (Ev.pos (by simp) (Ev.bind (vendmeterlaw_sameAccount.ev _ _ _ _ _ _ _ (by omega)) (Ev.pos rfl (vendmeterlaw_sameAccount.ev _ _ _ _ _ _ _ (by dsimp only; omega)))))

end Go.Proofs.Ythmmadniaakapaa.Pure
