/- vendmeterlaw.AccountRekeys returns true at every account: account.Rekey answers as the reference does, and the account is as it was. No condition. -/
import Derived.Test.YthmmadniaakapaaPAccountRekeysxL
import Derived.Test.YthmmadniaakapaaXLib
set_option linter.unusedVariables false
set_option linter.unusedSimpArgs false
namespace Go.Proofs.Ythmmadniaakapaa.Pure
open Go.RowKit Go.Proofs.Ythmmadniaakapaa.PAccountRekeys Go.Proofs.YthmmadniaakapaaW.PrintWords Go.Proofs.YthmmadniaakapaaW.PrintLast Go.Proofs.YthmmadniaakapaaW.PrintMore Go.Proofs.YthmmadniaakapaaW.XLib

theorem rd_debt (l : List S76) (i : Nat) : rd_T76 l (i : Int) = l.getD i z76 := Eq.trans rfl rfl
def debtOk (d : S76) : Bool := decide (0 ≤ d.f0 ∧ d.f0 ≤ 1000000000 ∧ 0 ≤ d.f1 ∧ d.f1 ≤ 10000)
def debtFault (l : List S76) : Int := if (l.length : Int) > 8 then 1 else if l.all debtOk then 0 else 2
def owedOf : List S76 → Int
  | [] => 0
  | d :: l => d.f0 + owedOf l
theorem owed_bd (l : List S76) (h : l.all debtOk = true) : 0 ≤ owedOf l ∧ owedOf l ≤ 1000000000 * (l.length : Int) := by
  induction l with
  | nil => simp [owedOf]
  | cons d l ih =>
    simp only [List.all_cons, Bool.and_eq_true, debtOk, decide_eq_true_eq] at h
    have := ih h.2
    simp only [owedOf, List.length_cons]
    omega
theorem fault_zero {l : List S76} (h : debtFault l = 0) : l.length ≤ 8 ∧ l.all debtOk = true := by
  unfold debtFault at h
  split at h
  · omega
  · split at h
    · exact ⟨by omega, by assumption⟩
    · omega
theorem fault_cases (l : List S76) : debtFault l = 0 ∨ ¬ debtFault l = 0 := by omega
theorem debt_list_fault.ev (l : List S76) : Ev (fun k => debt_list_fault.f k l) (debtFault l) := by
  unfold debt_list_fault.f debtFault
  by_cases h8 : (l.length : Int) > 8
  · rw [if_pos h8]; exact Ev.pos h8 (Ev.now _)
  · rw [if_neg h8]
    refine Ev.neg h8 ?_
    have key : ∀ d i : Nat, i + d = l.length → Ev (fun k => debt_list_fault.l0 k l (l.length : Int) (i : Int)) (if (l.drop i).all debtOk then 0 else 2) := by
      intro d
      induction d with
      | zero =>
        intro i hi
        refine Ev.step (f := fun _ => some 0) (fun k => ?_) (Ev.ret ?_)
        · simp only [debt_list_fault.l0]; rw [if_neg (by omega)]
        · rw [List.drop_of_length_le (by omega)]; rfl
      | succ d ih =>
        intro i hi
        have hd := drop_getD l i z76 (by omega)
        rw [hd, List.all_cons]
        by_cases h : debtOk (l.getD i z76) = true
        · have h' := h
          simp only [debtOk, decide_eq_true_eq] at h'
          obtain ⟨a1, a2, a3, a4⟩ := h'
          refine Ev.step (f := fun k => debt_list_fault.l0 k l (l.length : Int) ((i + 1 : Nat) : Int)) (fun k => ?_) (Ev.eq ?_ (ih (i + 1) (by omega)))
          · simp only [debt_list_fault.l0, rd_debt]; rw [if_pos (by omega), if_pos (by omega), if_pos (by omega), if_neg (by omega), if_neg (by omega), if_neg (by omega), if_neg (by omega), wn (show i < l.length by omega) (by omega)]
          · rw [h, Bool.true_and]
        · refine Ev.step (f := fun _ => some 2) (fun k => ?_) (Ev.ret (by rw [Bool.eq_false_iff.2 h]; rfl))
          simp only [debtOk, decide_eq_true_eq] at h
          simp only [debt_list_fault.l0, rd_debt]; rw [if_pos (by omega), if_pos (by omega), if_pos (by omega)]
          by_cases b1 : (l.getD i z76).f0 < 0
          · rw [if_pos b1]
          · rw [if_neg b1]
            by_cases b2 : (l.getD i z76).f0 > 1000000000
            · rw [if_pos b2]
            · rw [if_neg b2]
              by_cases b3 : (l.getD i z76).f1 < 0
              · rw [if_pos b3]
              · rw [if_neg b3, if_pos (by omega)]
    exact key l.length 0 (by omega)
theorem debt_list_total.ev (l : List S76) (h8 : l.length ≤ 8) (hok : l.all debtOk = true) : Ev (fun k => debt_list_total.f k l) (owedOf l) := by
  unfold debt_list_total.f
  have key : ∀ (d i : Nat) (s : Int), i + d = l.length → 0 ≤ s → s ≤ 1000000000 * (i : Int) → Ev (fun k => debt_list_total.l0 k s l (l.length : Int) (i : Int)) (s + owedOf (l.drop i)) := by
    intro d
    induction d with
    | zero =>
      intro i s hi h1 h2
      refine Ev.step (f := fun _ => some s) (fun k => ?_) (Ev.ret ?_)
      · simp only [debt_list_total.l0]; rw [if_neg (by omega)]
      · rw [List.drop_of_length_le (by omega)]; simp [owedOf]
    | succ d ih =>
      intro i s hi h1 h2
      have hd := drop_getD l i z76 (by omega)
      have hm := List.all_eq_true.1 hok _ (getD_mem l i z76 (by omega))
      simp only [debtOk, decide_eq_true_eq] at hm
      refine Ev.step (f := fun k => debt_list_total.l0 k (s + (l.getD i z76).f0) l (l.length : Int) ((i + 1 : Nat) : Int)) (fun k => ?_) (Ev.eq ?_ (ih (i + 1) _ (by omega) (by omega) (by omega)))
      · simp only [debt_list_total.l0, rd_debt]; rw [if_pos (by omega), if_pos (by omega), if_pos (by omega), wn (show i < l.length by omega) (by omega), wr ⟨by omega, by omega⟩]
      · rw [hd]; simp only [owedOf, Int.add_assoc]
  exact Ev.eq (by simp) (key l.length 0 0 (by omega) (by omega) (by omega))
def totalAns (l : List S76) : Int × Int := if debtFault l = 0 then (owedOf l, 0) else (0, debtFault l)
theorem debt_Total.ev (l : List S76) : Ev (fun k => debt_Total.f k l) (totalAns l) := by
  unfold debt_Total.f totalAns
  refine Ev.bind (debt_list_fault.ev l) ?_
  by_cases h : debtFault l = 0
  · rw [if_pos h]; exact Ev.pos h (Ev.bind (debt_list_total.ev l (fault_zero h).1 (fault_zero h).2) (Ev.now _))
  · rw [if_neg h]; exact Ev.neg h (Ev.now _)
theorem vendmeterref_In.eq (a b c : Int) : vendmeterref_In.f a b c = some (decide (b ≤ a ∧ a ≤ c)) := by
  unfold vendmeterref_In.f
  by_cases h : b ≤ a
  · rw [if_pos h]; simp [h]
  · rw [if_neg h]; simp [h]
theorem vendmeterref_DebtFault.ev (l : List S76) : Ev (fun k => vendmeterref_DebtFault.f k l) (debtFault l) := by
  unfold vendmeterref_DebtFault.f debtFault
  by_cases h8 : (l.length : Int) > 8
  · rw [if_pos h8]; exact Ev.pos h8 (Ev.now _)
  · rw [if_neg h8]
    refine Ev.neg h8 ?_
    have key : ∀ d i : Nat, i + d = l.length → Ev (fun k => vendmeterref_DebtFault.l0 k l (i : Int)) (if (l.drop i).all debtOk then 0 else 2) := by
      intro d
      induction d with
      | zero =>
        intro i hi
        refine Ev.step (f := fun _ => some 0) (fun k => ?_) (Ev.ret ?_)
        · simp only [vendmeterref_DebtFault.l0]; rw [if_neg (by omega)]
        · rw [List.drop_of_length_le (by omega)]; rfl
      | succ d ih =>
        intro i hi
        have hd := drop_getD l i z76 (by omega)
        rw [hd, List.all_cons]
        by_cases h0 : 0 ≤ (l.getD i z76).f0 ∧ (l.getD i z76).f0 ≤ 1000000000
        · by_cases h1 : 0 ≤ (l.getD i z76).f1 ∧ (l.getD i z76).f1 ≤ 10000
          · refine Ev.step (f := fun k => vendmeterref_DebtFault.l0 k l ((i + 1 : Nat) : Int)) (fun k => ?_) (Ev.eq ?_ (ih (i + 1) (by omega)))
            · simp only [vendmeterref_DebtFault.l0, rd_debt, vendmeterref_In.eq]; rw [if_pos (by omega), if_pos (by omega), wn (show i < l.length by omega) (by omega)]
              simp only [h0, h1, and_self, decide_true, Option.bind_some, if_true]
            · rw [show debtOk (l.getD i z76) = true by simp only [debtOk, decide_eq_true_eq]; exact ⟨h0.1, h0.2, h1.1, h1.2⟩, Bool.true_and]
          · refine Ev.step (f := fun _ => some 2) (fun k => ?_) (Ev.ret ?_)
            · simp only [vendmeterref_DebtFault.l0, rd_debt, vendmeterref_In.eq]; rw [if_pos (by omega), if_pos (by omega)]
              simp only [h0, h1, and_self, decide_true, decide_false, Option.bind_some, if_true]; rfl
            · rw [show debtOk (l.getD i z76) = false by simp only [debtOk, decide_eq_false_iff_not]; omega]; rfl
        · refine Ev.step (f := fun _ => some 2) (fun k => ?_) (Ev.ret ?_)
          · simp only [vendmeterref_DebtFault.l0, rd_debt, vendmeterref_In.eq]; rw [if_pos (by omega), if_pos (by omega)]
            simp only [h0, decide_false, Option.bind_some]; rfl
          · rw [show debtOk (l.getD i z76) = false by simp only [debtOk, decide_eq_false_iff_not]; omega]; rfl
    exact key l.length 0 (by omega)
theorem account_within.eq (a b c : Int) : account_within.f a b c = some (decide (b ≤ a ∧ a ≤ c)) := by
  unfold account_within.f
  by_cases h : b ≤ a
  · rw [if_pos h]; simp [h]
  · rw [if_neg h]; simp [h]
def inA (me rev nx mo bo fr : Int) : Prop := (0 ≤ me ∧ me ≤ 49) ∧ (0 ≤ rev ∧ rev ≤ 15) ∧ (1 ≤ nx ∧ nx ≤ 1048576) ∧ (0 ≤ mo ∧ mo ≤ 2399) ∧ (0 ≤ bo ∧ bo ≤ 10000000) ∧ (-1 ≤ fr ∧ fr ≤ mo)
instance (me rev nx mo bo fr : Int) : Decidable (inA me rev nx mo bo fr) := by unfold inA; infer_instance
def mayA (me rev nx mo bo fr : Int) (l : List S76) : Bool := decide (debtFault l = 0) && decide (inA me rev nx mo bo fr)
theorem mayA_no {me rev nx mo bo fr : Int} (l : List S76) (h : ¬ inA me rev nx mo bo fr) : mayA me rev nx mo bo fr l = false := by unfold mayA; rw [decide_eq_false h, Bool.and_false]
theorem mayA_no' {l : List S76} (me rev nx mo bo fr : Int) (h : ¬ debtFault l = 0) : mayA me rev nx mo bo fr l = false := by unfold mayA; rw [decide_eq_false h, Bool.false_and]
theorem mayA_in {me rev nx mo bo fr : Int} {l : List S76} (h : mayA me rev nx mo bo fr l = true) : debtFault l = 0 ∧ inA me rev nx mo bo fr := by
  unfold mayA at h
  rw [Bool.and_eq_true, decide_eq_true_eq, decide_eq_true_eq] at h
  exact h
theorem mayA_yes {me rev nx mo bo fr : Int} {l : List S76} (h : debtFault l = 0) (h' : inA me rev nx mo bo fr) : mayA me rev nx mo bo fr l = true := by unfold mayA; rw [decide_eq_true h, decide_eq_true h']; rfl
theorem total_code (l : List S76) : (totalAns l).2 = debtFault l := by
  unfold totalAns
  split
  · rename_i h; exact h.symm
  · rfl
theorem account_may.ev (me rev nx mo bo fr : Int) (l : List S76) : Ev (fun k => account_may.f k me rev nx mo bo fr l) (mayA me rev nx mo bo fr l) := by
  unfold account_may.f
  refine Ev.bind (debt_Total.ev l) ?_
  rw [total_code]
  simp only [account_within.eq, Option.bind_some]
  have no := fun h => mayA_no (me := me) (rev := rev) (nx := nx) (mo := mo) (bo := bo) (fr := fr) l h
  by_cases h0 : debtFault l = 0
  · refine Ev.pos h0 ?_
    by_cases h1 : 0 ≤ me ∧ me ≤ 49
    · refine Ev.pos (decide_eq_true h1) ?_
      by_cases h2 : 0 ≤ rev ∧ rev ≤ 15
      · refine Ev.pos (decide_eq_true h2) ?_
        by_cases h3 : 1 ≤ nx ∧ nx ≤ 1048576
        · refine Ev.pos (decide_eq_true h3) ?_
          by_cases h4 : 0 ≤ mo ∧ mo ≤ 2399
          · refine Ev.pos (decide_eq_true h4) ?_
            by_cases h5 : 0 ≤ bo ∧ bo ≤ 10000000
            · refine Ev.pos (decide_eq_true h5) (Ev.ret ?_)
              by_cases h6 : -1 ≤ fr ∧ fr ≤ mo
              · rw [decide_eq_true h6, mayA_yes h0 ⟨h1, h2, h3, h4, h5, h6⟩]
              · rw [decide_eq_false h6, no (by unfold inA; omega)]
            · exact Ev.neg (by rw [decide_eq_false h5]; decide) (Ev.ret (no (by unfold inA; omega)).symm)
          · exact Ev.neg (by rw [decide_eq_false h4]; decide) (Ev.ret (no (by unfold inA; omega)).symm)
        · exact Ev.neg (by rw [decide_eq_false h3]; decide) (Ev.ret (no (by unfold inA; omega)).symm)
      · exact Ev.neg (by rw [decide_eq_false h2]; decide) (Ev.ret (no (by unfold inA; omega)).symm)
    · exact Ev.neg (by rw [decide_eq_false h1]; decide) (Ev.ret (no (by unfold inA; omega)).symm)
  · exact Ev.neg h0 (Ev.ret (mayA_no' _ _ _ _ _ _ h0).symm)
theorem vendmeterref_AccountMay.ev (me rev nx mo bo fr : Int) (l : List S76) : Ev (fun k => vendmeterref_AccountMay.f k me rev nx mo bo fr l) (mayA me rev nx mo bo fr l) := by
  have jT : ∀ r, r = false → Ev (fun k => vendmeterref_AccountMay.j0 k true me rev nx mo bo fr l) r := by
    rintro r rfl
    exact Ev.step (f := fun _ => some false) (fun k => rfl) (Ev.now _)
  have no := fun h => mayA_no (me := me) (rev := rev) (nx := nx) (mo := mo) (bo := bo) (fr := fr) l h
  unfold vendmeterref_AccountMay.f
  refine Ev.bind (vendmeterref_DebtFault.ev l) ?_
  simp only [vendmeterref_In.eq, Option.bind_some]
  by_cases h0 : debtFault l = 0
  · refine Ev.pos h0 ?_
    by_cases h1 : 0 ≤ me ∧ me ≤ 49
    · refine Ev.pos (decide_eq_true h1) ?_
      by_cases h2 : 0 ≤ rev ∧ rev ≤ 15
      · rw [decide_eq_true h2]
        refine Ev.succ ?_
        simp only [vendmeterref_AccountMay.j0, vendmeterref_In.eq, Option.bind_some, Bool.not_true, Bool.false_eq_true, if_false]
        by_cases h3 : 1 ≤ nx ∧ nx ≤ 1048576
        · refine Ev.pos (decide_eq_true h3) ?_
          by_cases h4 : 0 ≤ mo ∧ mo ≤ 2399
          · refine Ev.pos (decide_eq_true h4) ?_
            by_cases h5 : 0 ≤ bo ∧ bo ≤ 10000000
            · refine Ev.pos (decide_eq_true h5) (Ev.ret ?_)
              by_cases h6 : -1 ≤ fr ∧ fr ≤ mo
              · rw [decide_eq_true h6, mayA_yes h0 ⟨h1, h2, h3, h4, h5, h6⟩]
              · rw [decide_eq_false h6, no (by unfold inA; omega)]
            · exact Ev.neg (by rw [decide_eq_false h5]; decide) (Ev.ret (no (by unfold inA; omega)).symm)
          · exact Ev.neg (by rw [decide_eq_false h4]; decide) (Ev.ret (no (by unfold inA; omega)).symm)
        · exact Ev.neg (by rw [decide_eq_false h3]; decide) (Ev.ret (no (by unfold inA; omega)).symm)
      · rw [decide_eq_false h2]
        exact jT _ (no (by unfold inA; omega))
    · exact Ev.neg (by rw [decide_eq_false h1]; decide) (jT _ (no (by unfold inA; omega)))
  · exact Ev.neg h0 (jT _ (mayA_no' _ _ _ _ _ _ h0))
theorem vendmeterref_AccountCopy.ev (me rev nx mo bo fr : Int) (l : List S76) (hl : l.length ≤ 8) : Ev (fun k => vendmeterref_AccountCopy.f k me rev nx mo bo fr l) (me, rev, nx, mo, bo, fr, l) := by
  unfold vendmeterref_AccountCopy.f
  have key := down (P := fun i => Ev (fun k => vendmeterref_AccountCopy.l0 k (l.take i) (i : Int) me rev nx mo bo fr l) (me, rev, nx, mo, bo, fr, l)) (n := l.length) (by
    refine Ev.step (f := fun _ => some (me, rev, nx, mo, bo, fr, l)) (fun k => ?_) (Ev.now _)
    simp only [vendmeterref_AccountCopy.l0]; rw [if_neg (by omega), List.take_length]) (by
    intro i hi ih
    refine Ev.step (fun k => ?_) ih
    simp only [vendmeterref_AccountCopy.l0, rd_debt]
    rw [if_pos (by omega), if_pos (by omega), if_pos (by rw [List.length_take]; omega), wn (show i < l.length by omega) (by omega), take_getD l i z76 (by omega)])
  exact key
theorem vendmeterlaw_sameDebts.ev (l) (hl : l.length ≤ 1152921504606846976) : Ev (fun k => vendmeterlaw_sameDebts.f k l l) true := by
  unfold vendmeterlaw_sameDebts.f
  refine Ev.pos rfl (same_ev hl (fun k i hi => ?_) (fun k => ?_))
  · simp only [vendmeterlaw_sameDebts.l0]; rw [if_pos (by omega), if_pos (by omega), if_pos (by omega)]; simp
  · simp only [vendmeterlaw_sameDebts.l0]; rw [if_neg (by omega)]
theorem vendmeterlaw_sameAccount.ev (a b c d e f : Int) (l : List S76) (hl : l.length ≤ 1152921504606846976) : Ev (fun k => vendmeterlaw_sameAccount.f k a b c d e f l a b c d e f l) true := by
  unfold vendmeterlaw_sameAccount.f
  exact Ev.pos rfl (Ev.pos rfl (Ev.pos rfl (Ev.pos rfl (Ev.pos rfl (Ev.pos rfl (Ev.bind (vendmeterlaw_sameDebts.ev l hl) (Ev.now _)))))))
theorem vendmeterlaw_debts.eq (l) (h : l.length * 16 ≤ 140737488351232) : vendmeterlaw_debts.f l = some l := by
  unfold vendmeterlaw_debts.f
  rw [if_pos (by simp only [List.length_nil]; omega)]; rfl

def rekeyAns (me rev nx mo bo fr : Int) (l : List S76) : Int × Int × Int × Int × Int × Int × List S76 × Int × Int × Int × Int × Int × Int × Int × Int := if mayA me rev nx mo bo fr l = true then (if rev = 15 then (0, 0, 0, 0, 0, 0, [], 0, 0, 0, 0, 0, 0, 0, 24) else if nx = 1048576 then (0, 0, 0, 0, 0, 0, [], 0, 0, 0, 0, 0, 0, 0, 20) else (me, rev + 1, nx + 1, mo, bo, fr, l, nx, 0, 0, 0, 0, 0, 0, 0)) else (0, 0, 0, 0, 0, 0, [], 0, 0, 0, 0, 0, 0, 0, 5)
theorem account_Rekey.ev (me rev nx mo bo fr : Int) (l : List S76) : Ev (fun k => account_Rekey.f k me rev nx mo bo fr l) (rekeyAns me rev nx mo bo fr l) := by
  unfold account_Rekey.f rekeyAns
  refine Ev.bind (account_may.ev me rev nx mo bo fr l) (Ev.iteR (fun h => ?_) (fun h => Ev.now _))
  obtain ⟨h0, h1⟩ := mayA_in h
  obtain ⟨h8, _⟩ := fault_zero h0
  unfold inA at h1
  refine Ev.iteR (fun g => Ev.now _) (fun g => ?_)
  by_cases g2 : nx = 1048576
  · exact Ev.eq (if_pos g2).symm (Ev.pos (by omega) (Ev.now _))
  · refine Ev.eq (if_neg g2).symm (Ev.neg (by omega) (Ev.pos (show ([] : List S76).length + l.length < 8796093022208 by rw [List.length_nil]; omega) (Ev.ret ?_)))
    rw [wr (a := rev + 1) ⟨by omega, by omega⟩, wr (a := nx + 1) ⟨by omega, by omega⟩, wr (a := nx + 1 - 1) ⟨by omega, by omega⟩, List.nil_append, show nx + 1 - 1 = nx by omega]
theorem vendmeterref_Rekeyed.ev (me rev nx mo bo fr : Int) (l : List S76) : Ev (fun k => vendmeterref_Rekeyed.f k me rev nx mo bo fr l) (rekeyAns me rev nx mo bo fr l) := by
  unfold vendmeterref_Rekeyed.f rekeyAns
  refine Ev.bind (vendmeterref_AccountMay.ev me rev nx mo bo fr l) (Ev.iteR (fun h => ?_) (fun h => Ev.now _))
  obtain ⟨h0, h1⟩ := mayA_in h
  obtain ⟨h8, _⟩ := fault_zero h0
  unfold inA at h1
  by_cases g : rev = 15
  · exact Ev.eq (if_pos g).symm (Ev.pos (by omega) (Ev.now _))
  · refine Ev.eq (if_neg g).symm (Ev.neg (by omega) (Ev.iteR (fun g2 => Ev.now _) (fun g2 => Ev.bind (vendmeterref_AccountCopy.ev me rev nx mo bo fr l h8) (Ev.ret ?_))))
    dsimp only
    rw [wr (a := rev + 1) ⟨by omega, by omega⟩, wr (a := nx + 1) ⟨by omega, by omega⟩]
theorem AccountRekeys : vendmeterlaw_AccountRekeys.Pure := by
  intro me rev nx mo bo fr l _ _ _ _ _ _ h
  have h4 := h.1
  refine Ev.rounds ?_
  unfold vendmeterlaw_AccountRekeys.f vendmeterlaw_accounts.f
  rw [vendmeterlaw_debts.eq l h.1]
  have hl : (rekeyAns me rev nx mo bo fr l).2.2.2.2.2.2.1.length ≤ l.length + 1 := by
    unfold rekeyAns
    split
    · split
      · simp
      · split
        · simp
        · exact Nat.le_succ _
    · simp
  refine Ev.letS (Ev.letS (Ev.bind (account_Rekey.ev me rev nx mo bo fr l) (Ev.bind (vendmeterref_Rekeyed.ev me rev nx mo bo fr l) (Ev.pos rfl (Ev.pos (by simp) ?_)))))
  exact Ev.bind (vendmeterlaw_sameAccount.ev _ _ _ _ _ _ _ (by omega)) (Ev.pos rfl (Ev.bind (vendmeterlaw_sameAccount.ev _ _ _ _ _ _ l (by omega)) (Ev.now _)))

end Go.Proofs.Ythmmadniaakapaa.Pure
