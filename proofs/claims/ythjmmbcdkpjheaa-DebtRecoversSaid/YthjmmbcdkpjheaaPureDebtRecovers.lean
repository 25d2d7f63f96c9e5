/- vendmeterlaw.DebtRecovers returns true at every list of debts, amount and share: debt.Recover answers as the reference does, and the list is as it was. No condition. -/
import Derived.Test.YthjmmbcdkpjheaaPDebtRecoversxL
import Derived.Test.YthjmmbcdkpjheaaXLib
set_option linter.unusedVariables false
set_option linter.unusedSimpArgs false
namespace Go.Proofs.Ythjmmbcdkpjheaa.Pure
open Go.RowKit Go.Proofs.Ythjmmbcdkpjheaa.PDebtRecovers Go.Proofs.YthjmmbcdkpjheaaW.PrintWords Go.Proofs.YthjmmbcdkpjheaaW.PrintLast Go.Proofs.YthjmmbcdkpjheaaW.PrintMore Go.Proofs.YthjmmbcdkpjheaaW.XLib

theorem rd_debt (l : List S76) (i : Nat) : rd_T76 l (i : Int) = l.getD i z76 := Eq.trans rfl rfl
def debtOk (d : S76) : Bool := decide (0 ≤ d.f0 ∧ d.f0 ≤ 1000000000 ∧ 0 ≤ d.f1 ∧ d.f1 ≤ 10000)
def debtFault (l : List S76) : Int := if (l.length : Int) > 8 then 1 else if l.all debtOk then 0 else 2
def owedOf : List S76 → Int
  | [] => 0
  | d :: l => d.f0 + owedOf l
theorem owed_bd (l : List S76) (h : l.all debtOk = true) : 0 ≤ owedOf l ∧ owedOf l ≤ 1000000000 * (l.length : Int) := by
  induction l with
  | nil => simp [owedOf]
  | cons d l ih =>
    simp only [List.all_cons, Bool.and_eq_true, debtOk, decide_eq_true_eq] at h
    have := ih h.2
    simp only [owedOf, List.length_cons]
    omega
theorem fault_zero {l : List S76} (h : debtFault l = 0) : l.length ≤ 8 ∧ l.all debtOk = true := by
  unfold debtFault at h
  split at h
  · omega
  · split at h
    · exact ⟨by omega, by assumption⟩
    · omega
theorem fault_cases (l : List S76) : debtFault l = 0 ∨ ¬ debtFault l = 0 := by omega
theorem debt_list_fault.ev (l : List S76) : Ev (fun k => debt_list_fault.f k l) (debtFault l) := by
  unfold debt_list_fault.f debtFault
  by_cases h8 : (l.length : Int) > 8
  · rw [if_pos h8]; exact Ev.pos h8 (Ev.now _)
  · rw [if_neg h8]
    refine Ev.neg h8 ?_
    have key : ∀ d i : Nat, i + d = l.length → Ev (fun k => debt_list_fault.l0 k l (l.length : Int) (i : Int)) (if (l.drop i).all debtOk then 0 else 2) := by
      intro d
      induction d with
      | zero =>
        intro i hi
        refine Ev.step (f := fun _ => some 0) (fun k => ?_) (Ev.ret ?_)
        · simp only [debt_list_fault.l0]; rw [if_neg (by omega)]
        · rw [List.drop_of_length_le (by omega)]; rfl
      | succ d ih =>
        intro i hi
        have hd := drop_getD l i z76 (by omega)
        rw [hd, List.all_cons]
        by_cases h : debtOk (l.getD i z76) = true
        · have h' := h
          simp only [debtOk, decide_eq_true_eq] at h'
          obtain ⟨a1, a2, a3, a4⟩ := h'
          refine Ev.step (f := fun k => debt_list_fault.l0 k l (l.length : Int) ((i + 1 : Nat) : Int)) (fun k => ?_) (Ev.eq ?_ (ih (i + 1) (by omega)))
          · simp only [debt_list_fault.l0, rd_debt]; rw [if_pos (by omega), if_pos (by omega), if_pos (by omega), if_neg (by omega), if_neg (by omega), if_neg (by omega), if_neg (by omega), wn (show i < l.length by omega) (by omega)]
          · rw [h, Bool.true_and]
        · refine Ev.step (f := fun _ => some 2) (fun k => ?_) (Ev.ret (by rw [Bool.eq_false_iff.2 h]; rfl))
          simp only [debtOk, decide_eq_true_eq] at h
          simp only [debt_list_fault.l0, rd_debt]; rw [if_pos (by omega), if_pos (by omega), if_pos (by omega)]
          by_cases b1 : (l.getD i z76).f0 < 0
          · rw [if_pos b1]
          · rw [if_neg b1]
            by_cases b2 : (l.getD i z76).f0 > 1000000000
            · rw [if_pos b2]
            · rw [if_neg b2]
              by_cases b3 : (l.getD i z76).f1 < 0
              · rw [if_pos b3]
              · rw [if_neg b3, if_pos (by omega)]
    exact key l.length 0 (by omega)
theorem cents_within.eq (a b c : Int) : cents_within.f a b c = some (decide (b ≤ a ∧ a ≤ c)) := by
  unfold cents_within.f
  by_cases h : b ≤ a
  · rw [if_pos h]; simp [h]
  · rw [if_neg h]; simp [h]
def partAns (a b : Int) : Int × Int := if (0 ≤ a ∧ a ≤ 1000000000000) ∧ 0 ≤ b ∧ b ≤ 10000 then (a * b / 10000, 0) else (0, 2)
theorem mul_bd (a b m n : Int) (ha : 0 ≤ a) (ha' : a ≤ m) (hb : 0 ≤ b) (hb' : b ≤ n) : 0 ≤ a * b ∧ a * b ≤ m * n :=
  ⟨Int.mul_nonneg ha hb, Int.mul_le_mul ha' hb' hb (by omega)⟩
theorem part_bd {a b m : Int} (ha : 0 ≤ a) (hm : a ≤ m) (hb : 0 ≤ b) (hb' : b ≤ 10000) : 0 ≤ a * b / 10000 ∧ a * b / 10000 ≤ a := by
  have h1 := mul_bd a b a 10000 ha (Int.le_refl _) hb hb'
  omega
theorem cents_Part.eq (a b : Int) : cents_Part.f a b = some (partAns a b) := by
  unfold cents_Part.f partAns
  simp only [cents_within.eq, Option.bind_some]
  by_cases h1 : 0 ≤ a ∧ a ≤ 1000000000000
  · by_cases h2 : 0 ≤ b ∧ b ≤ 10000
    · have m1 := mul_bd a b _ _ h1.1 h1.2 h2.1 h2.2
      simp only [h1, h2, and_self, decide_true, if_true]
      rw [wr (a := a * b) ⟨by omega, by omega⟩, td m1.1, wr ⟨by omega, by omega⟩]
    · simp only [h1, h2, and_self, and_false, decide_true, decide_false, if_true, if_false]; rfl
  · simp only [h1, false_and, decide_false, if_false]; rfl
theorem vendmeterref_In.eq (a b c : Int) : vendmeterref_In.f a b c = some (decide (b ≤ a ∧ a ≤ c)) := by
  unfold vendmeterref_In.f
  by_cases h : b ≤ a
  · rw [if_pos h]; simp [h]
  · rw [if_neg h]; simp [h]
theorem part_eq (a b : Int) (ha : 0 ≤ a) : a * b / 10000 = a / 10000 * b + a % 10000 * b / 10000 := by
  have h1 : a * b = 10000 * (a / 10000 * b) + a % 10000 * b := by
    have h := Int.mul_ediv_add_emod a 10000
    calc a * b = (10000 * (a / 10000) + a % 10000) * b := by rw [h]
      _ = 10000 * (a / 10000 * b) + a % 10000 * b := by rw [Int.add_mul, Int.mul_assoc]
  rw [h1, Int.add_comm, Int.add_mul_ediv_left _ _ (by decide), Int.add_comm]
theorem vendmeterref_Parted.eq (a b : Int) : vendmeterref_Parted.f a b = some (partAns a b) := by
  unfold vendmeterref_Parted.f partAns
  simp only [vendmeterref_In.eq, Option.bind_some]
  by_cases h1 : 0 ≤ a ∧ a ≤ 1000000000000
  · by_cases h2 : 0 ≤ b ∧ b ≤ 10000
    · have m1 := mul_bd a b _ _ h1.1 h1.2 h2.1 h2.2
      have m2 := mul_bd (a / 10000) b 100000000 10000 (by omega) (by omega) h2.1 h2.2
      have m3 := mul_bd (a % 10000) b 10000 10000 (by omega) (by omega) h2.1 h2.2
      simp only [h1, h2, and_self, decide_true, if_true]
      rw [td h1.1, tm h1.1, wr (a := a / 10000) ⟨by omega, by omega⟩, wr (a := a / 10000 * b) ⟨by omega, by omega⟩, wr (a := a % 10000 * b) ⟨by omega, by omega⟩, td m3.1, wr (a := a % 10000 * b / 10000) ⟨by omega, by omega⟩, wr ⟨by omega, by omega⟩, part_eq a b h1.1]
    · simp only [h1, h2, and_self, and_false, decide_true, decide_false, if_true, if_false]; rfl
  · simp only [h1, false_and, decide_false, if_false]; rfl
def shareAns (t b : Int) : Int × Int := if (0 ≤ t ∧ t ≤ 100000000) ∧ 0 ≤ b ∧ b ≤ 10000 then (t * b / 10000, 0) else (0, 2)
theorem share_of_part (t b : Int) (h : ¬ ((partAns t b).2 = 0 ∧ ¬ t > 100000000)) : shareAns t b = (0, 2) := by
  unfold partAns at h
  unfold shareAns
  rw [if_neg]
  intro h'
  apply h
  rw [if_pos ⟨by omega, h'.2⟩]
  exact ⟨rfl, by omega⟩
theorem share_is_part (t b : Int) (h : (partAns t b).2 = 0 ∧ ¬ t > 100000000) : shareAns t b = partAns t b ∧ 0 ≤ (partAns t b).1 ∧ (partAns t b).1 ≤ 100000000 := by
  obtain ⟨h1, h2⟩ := h
  unfold partAns at h1 ⊢
  unfold shareAns
  by_cases h3 : (0 ≤ t ∧ t ≤ 1000000000000) ∧ 0 ≤ b ∧ b ≤ 10000
  · rw [if_pos h3, if_pos ⟨by omega, h3.2⟩]
    have := part_bd h3.1.1 h3.1.2 h3.2.1 h3.2.2
    exact ⟨rfl, this.1, by dsimp only; omega⟩
  · rw [if_neg h3] at h1
    exact absurd h1 (by decide)
theorem share_err (t b : Int) : (shareAns t b).2 = 0 ∨ shareAns t b = (0, 2) := by
  unfold shareAns
  split
  · exact .inl rfl
  · exact .inr rfl
theorem share_bd (t b : Int) : 0 ≤ (shareAns t b).1 ∧ (shareAns t b).1 ≤ 100000000 := by
  unfold shareAns
  split
  · rename_i h
    have := part_bd h.1.1 h.1.2 h.2.1 h.2.2
    exact ⟨this.1, by dsimp only; omega⟩
  · exact ⟨by decide, by decide⟩
theorem vendmeterref_shareOf.eq (t b : Int) : vendmeterref_shareOf.f t b = some (shareAns t b) := by
  unfold vendmeterref_shareOf.f
  simp only [vendmeterref_In.eq, vendmeterref_Parted.eq, Option.bind_some]
  unfold partAns shareAns
  by_cases h1 : 0 ≤ t ∧ t ≤ 100000000
  · have h1' : 0 ≤ t ∧ t ≤ 1000000000000 := by omega
    by_cases h2 : 0 ≤ b ∧ b ≤ 10000
    · simp only [h1, h1', h2, and_self, decide_true, if_true]
    · simp only [h1, h1', h2, and_self, and_false, decide_true, if_true, if_false]
  · simp only [h1, false_and, decide_false, if_false]; rfl
def recOut (s : Int) : Int → List S76 → List S76
  | _, [] => []
  | a, d :: l => (if mn (a + d.f0 - s) d.f0 > 0 then [⟨mn (a + d.f0 - s) d.f0, d.f1⟩] else []) ++ recOut s (a + d.f0) l
theorem mn_le {a b : Int} (h : a ≤ b) : mn a b = a := by unfold mn; omega
theorem mn_ge {a b : Int} (h : b ≤ a) : mn a b = b := by unfold mn; omega
def recAns (l : List S76) (t b : Int) : List S76 × Int × Int :=
  if debtFault l = 0 then (if (shareAns t b).2 = 0 then (recOut (shareAns t b).1 0 l, (if (shareAns t b).1 < owedOf l then (shareAns t b).1 else owedOf l), 0) else ([], 0, 2)) else ([], 0, debtFault l)
theorem rec_loop (l : List S76) (h8 : l.length ≤ 8) (hok : l.all debtOk = true) (s : Int) (hs0 : 0 ≤ s) (hs1 : s ≤ 100000000) : ∀ (d i : Nat) (a : Int) (out : List S76), i + d = l.length → 0 ≤ a → a ≤ 1000000000 * (i : Int) → out.length ≤ i →
    Ev (fun k => debt_Recover.l0 k s (mn s a) out l (l.length : Int) (i : Int)) (out ++ recOut s a (l.drop i), mn s (a + owedOf (l.drop i)), 0) := by
  intro d
  induction d with
  | zero =>
    intro i a out hi h1 h2 h3
    refine Ev.step (f := fun _ => some (out, mn s a, 0)) (fun k => ?_) (Ev.ret ?_)
    · simp only [debt_Recover.l0]; rw [if_neg (by omega)]
    · rw [List.drop_of_length_le (by omega)]
      simp only [recOut, owedOf, List.append_nil, Int.add_zero]
  | succ d ih =>
    intro i a out hi h1 h2 h3
    have hd := drop_getD l i z76 (by omega)
    have hm := List.all_eq_true.1 hok _ (getD_mem l i z76 (by omega))
    simp only [debtOk, decide_eq_true_eq] at hm
    have hw := Aside0.mk (wn (show i < l.length by omega) (by omega))
    rw [hd]
    simp only [recOut, owedOf]
    have e1 : mn (l.getD i z76).f0 (s - mn s a) + mn s a = mn s (a + (l.getD i z76).f0) := by unfold mn; split <;> split <;> split <;> omega
    have e2 : (l.getD i z76).f0 - mn (l.getD i z76).f0 (s - mn s a) = mn (a + (l.getD i z76).f0 - s) (l.getD i z76).f0 ∨ ((l.getD i z76).f0 - mn (l.getD i z76).f0 (s - mn s a) ≤ 0 ∧ mn (a + (l.getD i z76).f0 - s) (l.getD i z76).f0 ≤ 0) := by unfold mn; split <;> split <;> split <;> omega
    have b0 : 0 ≤ mn s a ∧ mn s a ≤ s := by unfold mn; split <;> omega
    have b1 : 0 ≤ mn (l.getD i z76).f0 (s - mn s a) ∧ mn (l.getD i z76).f0 (s - mn s a) ≤ s := by unfold mn at b0 ⊢; split <;> split at b0 <;> omega
    by_cases hp : mn (a + (l.getD i z76).f0 - s) (l.getD i z76).f0 > 0
    · have e3 : (l.getD i z76).f0 - mn (l.getD i z76).f0 (s - mn s a) = mn (a + (l.getD i z76).f0 - s) (l.getD i z76).f0 := by omega
      have := ih (i + 1) (a + (l.getD i z76).f0) (out ++ [⟨mn (a + (l.getD i z76).f0 - s) (l.getD i z76).f0, (l.getD i z76).f1⟩]) (by omega) (by omega) (by omega) (by simp; omega)
      refine Ev.step (fun k => ?_) (Ev.eq ?_ this)
      · simp only [debt_Recover.l0, rd_debt]
        rw [if_pos (by omega), if_pos (by omega), if_pos (by omega), wr (a := s - mn s a) ⟨by omega, by omega⟩, wr (a := mn s a + mn (l.getD i z76).f0 (s - mn s a)) ⟨by omega, by omega⟩, wr (a := (l.getD i z76).f0 - mn (l.getD i z76).f0 (s - mn s a)) ⟨by omega, by omega⟩, e3, if_pos hp, if_pos (by omega), hw.out, Int.add_comm (mn s a), e1]
      · rw [if_pos hp, List.append_assoc, Int.add_assoc]
    · have e3 : ¬ (l.getD i z76).f0 - mn (l.getD i z76).f0 (s - mn s a) > 0 := by omega
      have := ih (i + 1) (a + (l.getD i z76).f0) out (by omega) (by omega) (by omega) (by omega)
      refine Ev.step (fun k => ?_) (Ev.eq ?_ this)
      · simp only [debt_Recover.l0, rd_debt]
        rw [if_pos (by omega), if_pos (by omega), if_pos (by omega), wr (a := s - mn s a) ⟨by omega, by omega⟩, wr (a := mn s a + mn (l.getD i z76).f0 (s - mn s a)) ⟨by omega, by omega⟩, wr (a := (l.getD i z76).f0 - mn (l.getD i z76).f0 (s - mn s a)) ⟨by omega, by omega⟩, if_neg e3, hw.out, Int.add_comm (mn s a), e1]
      · rw [if_neg hp, List.nil_append, Int.add_assoc]
theorem debt_Recover.ev (l : List S76) (t b : Int) : Ev (fun k => debt_Recover.f k l t b) (recAns l t b) := by
  unfold debt_Recover.f recAns
  refine Ev.bind (debt_list_fault.ev l) ?_
  by_cases h : debtFault l = 0
  · obtain ⟨h8, hok⟩ := fault_zero h
    have ho := owed_bd l hok
    simp only [h, if_true, cents_Part.eq, Option.bind_some]
    by_cases hp : (partAns t b).2 = 0
    · simp only [hp, if_true]
      by_cases ht : t > 100000000
      · refine Ev.step (f := fun _ => some ([], 0, 2)) (fun k => by simp only [debt_Recover.j0, ht, decide_true, if_true]) (Ev.ret ?_)
        rw [share_of_part t b (by omega)]; rfl
      · obtain ⟨e, hs0, hs1⟩ := share_is_part t b ⟨hp, ht⟩
        rw [e]
        simp only [hp, if_true]
        have z : mn (partAns t b).1 0 = 0 := mn_ge hs0
        have key := rec_loop l h8 hok (partAns t b).1 hs0 hs1 l.length 0 0 [] (by omega) (by omega) (by omega) (by simp)
        rw [z] at key
        refine Ev.step (f := fun k => debt_Recover.l0 k (partAns t b).1 0 [] l (l.length : Int) 0) (fun k => by simp only [debt_Recover.j0, ht, decide_false]; rfl) (Ev.eq ?_ key)
        rw [List.drop_zero, List.nil_append, Int.zero_add]
        congr 2
        unfold mn
        split <;> split <;> omega
    · simp only [hp, if_false]
      refine Ev.step (f := fun _ => some ([], 0, 2)) (fun k => by simp only [debt_Recover.j0, if_true]) (Ev.ret ?_)
      rw [share_of_part t b (by omega)]; rfl
  · simp only [h, if_false]; exact Ev.now _
theorem vendmeterref_DebtFault.ev (l : List S76) : Ev (fun k => vendmeterref_DebtFault.f k l) (debtFault l) := by
  unfold vendmeterref_DebtFault.f debtFault
  by_cases h8 : (l.length : Int) > 8
  · rw [if_pos h8]; exact Ev.pos h8 (Ev.now _)
  · rw [if_neg h8]
    refine Ev.neg h8 ?_
    have key : ∀ d i : Nat, i + d = l.length → Ev (fun k => vendmeterref_DebtFault.l0 k l (i : Int)) (if (l.drop i).all debtOk then 0 else 2) := by
      intro d
      induction d with
      | zero =>
        intro i hi
        refine Ev.step (f := fun _ => some 0) (fun k => ?_) (Ev.ret ?_)
        · simp only [vendmeterref_DebtFault.l0]; rw [if_neg (by omega)]
        · rw [List.drop_of_length_le (by omega)]; rfl
      | succ d ih =>
        intro i hi
        have hd := drop_getD l i z76 (by omega)
        rw [hd, List.all_cons]
        by_cases h0 : 0 ≤ (l.getD i z76).f0 ∧ (l.getD i z76).f0 ≤ 1000000000
        · by_cases h1 : 0 ≤ (l.getD i z76).f1 ∧ (l.getD i z76).f1 ≤ 10000
          · refine Ev.step (f := fun k => vendmeterref_DebtFault.l0 k l ((i + 1 : Nat) : Int)) (fun k => ?_) (Ev.eq ?_ (ih (i + 1) (by omega)))
            · simp only [vendmeterref_DebtFault.l0, rd_debt, vendmeterref_In.eq]; rw [if_pos (by omega), if_pos (by omega), wn (show i < l.length by omega) (by omega)]
              simp only [h0, h1, and_self, decide_true, Option.bind_some, if_true]
            · rw [show debtOk (l.getD i z76) = true by simp only [debtOk, decide_eq_true_eq]; exact ⟨h0.1, h0.2, h1.1, h1.2⟩, Bool.true_and]
          · refine Ev.step (f := fun _ => some 2) (fun k => ?_) (Ev.ret ?_)
            · simp only [vendmeterref_DebtFault.l0, rd_debt, vendmeterref_In.eq]; rw [if_pos (by omega), if_pos (by omega)]
              simp only [h0, h1, and_self, decide_true, decide_false, Option.bind_some, if_true]; rfl
            · rw [show debtOk (l.getD i z76) = false by simp only [debtOk, decide_eq_false_iff_not]; omega]; rfl
        · refine Ev.step (f := fun _ => some 2) (fun k => ?_) (Ev.ret ?_)
          · simp only [vendmeterref_DebtFault.l0, rd_debt, vendmeterref_In.eq]; rw [if_pos (by omega), if_pos (by omega)]
            simp only [h0, decide_false, Option.bind_some]; rfl
          · rw [show debtOk (l.getD i z76) = false by simp only [debtOk, decide_eq_false_iff_not]; omega]; rfl
    exact key l.length 0 (by omega)
theorem vendmeterlaw_sameDebts.ev (l) (hl : l.length ≤ 1152921504606846976) : Ev (fun k => vendmeterlaw_sameDebts.f k l l) true := by
  unfold vendmeterlaw_sameDebts.f
  refine Ev.pos rfl (same_ev hl (fun k i hi => ?_) (fun k => ?_))
  · simp only [vendmeterlaw_sameDebts.l0]; rw [if_pos (by omega), if_pos (by omega), if_pos (by omega)]; simp
  · simp only [vendmeterlaw_sameDebts.l0]; rw [if_neg (by omega)]
theorem vendmeterlaw_debts.eq (l) (h : l.length * 16 ≤ 140737488351232) : vendmeterlaw_debts.f l = some l := by
  unfold vendmeterlaw_debts.f
  rw [if_pos (by simp only [List.length_nil]; omega)]; rfl

theorem rec_len (s : Int) : ∀ (a : Int) (l : List S76), (recOut s a l).length ≤ l.length
  | _, [] => Nat.le_refl _
  | a, d :: l => by
    have := rec_len s (a + d.f0) l
    simp only [recOut, List.length_append, List.length_cons]
    split <;> simp <;> omega
set_option maxHeartbeats 4000000 in
theorem vendmeterref_Recovered.ev (l : List S76) (t b : Int) : Ev (fun k => vendmeterref_Recovered.f k l t b) (recAns l t b) := by
  unfold vendmeterref_Recovered.f recAns
  refine Ev.bind (vendmeterref_DebtFault.ev l) ?_
  by_cases h : debtFault l = 0
  · obtain ⟨h8, hok⟩ := fault_zero h
    have hs := share_bd t b
    simp only [h, if_true, vendmeterref_shareOf.eq, Option.bind_some]
    rcases share_err t b with e | e
    · simp only [e, if_true]
      generalize (shareAns t b).1 = s at hs
      have key : ∀ (d i : Nat) (a : Int) (out : List S76), i + d = l.length → 0 ≤ a → a ≤ 1000000000 * (i : Int) → out.length ≤ i → Ev (fun k => vendmeterref_Recovered.l0 k l s out a (i : Int)) (out ++ recOut s a (l.drop i), (if s < a + owedOf (l.drop i) then s else a + owedOf (l.drop i)), 0) := by
        intro d
        induction d with
        | zero =>
          intro i a out hi h1 h2 h3
          refine Ev.step (f := fun _ => if s < a then some (out, s, 0) else some (out, a, 0)) (fun k => ?_) ?_
          · simp only [vendmeterref_Recovered.l0]; rw [if_neg (by omega)]
          · rw [List.drop_of_length_le (by omega)]
            simp only [recOut, owedOf, List.append_nil, Int.add_zero]
            refine Ev.split (fun c => Ev.ret ?_) (fun c => Ev.ret ?_)
            · rw [if_pos c]
            · rw [if_neg c]
        | succ d ih =>
          intro i a out hi h1 h2 h3
          have hd := drop_getD l i z76 (by omega)
          have hm := List.all_eq_true.1 hok _ (getD_mem l i z76 (by omega))
          simp only [debtOk, decide_eq_true_eq] at hm
          have hw := Aside0.mk (wn (show i < l.length by omega) (by omega))
          rw [hd]
          simp only [recOut, owedOf]
          have e0 : Aside0 (wrap64 (a + (l.getD i z76).f0) = a + (l.getD i z76).f0) := ⟨wr ⟨by omega, by omega⟩⟩
          have e1 : Aside0 (wrap64 (a + (l.getD i z76).f0 - s) = a + (l.getD i z76).f0 - s) := ⟨wr ⟨by omega, by omega⟩⟩
          by_cases c : a + (l.getD i z76).f0 - s > (l.getD i z76).f0
          · rw [mn_ge (show (l.getD i z76).f0 ≤ a + (l.getD i z76).f0 - s by omega)]
            by_cases c2 : (l.getD i z76).f0 > 0
            · refine Ev.step (fun k => ?_) (Ev.eq ?_ (ih (i + 1) (a + (l.getD i z76).f0) (out ++ [⟨(l.getD i z76).f0, (l.getD i z76).f1⟩]) (by omega) (by omega) (by omega) (by simp; omega)))
              · simp only [vendmeterref_Recovered.l0, rd_debt]; rw [if_pos (by omega), if_pos (by omega), e0.out, e1.out, if_pos c, if_pos c2, if_pos (by omega), hw.out]
              · rw [if_pos c2, List.append_assoc, Int.add_assoc]; rfl
            · refine Ev.step (fun k => ?_) (Ev.eq ?_ (ih (i + 1) (a + (l.getD i z76).f0) out (by omega) (by omega) (by omega) (by omega)))
              · simp only [vendmeterref_Recovered.l0, rd_debt]; rw [if_pos (by omega), if_pos (by omega), e0.out, e1.out, if_pos c, if_neg c2, hw.out]
              · rw [if_neg c2, List.nil_append, Int.add_assoc]; rfl
          · rw [mn_le (show a + (l.getD i z76).f0 - s ≤ (l.getD i z76).f0 by omega)]
            by_cases c2 : a + (l.getD i z76).f0 - s > 0
            · refine Ev.step (fun k => ?_) (Ev.eq ?_ (ih (i + 1) (a + (l.getD i z76).f0) (out ++ [⟨a + (l.getD i z76).f0 - s, (l.getD i z76).f1⟩]) (by omega) (by omega) (by omega) (by simp; omega)))
              · simp only [vendmeterref_Recovered.l0, rd_debt]; rw [if_pos (by omega), if_pos (by omega), e0.out, e1.out, if_neg c, if_pos c2, if_pos (by omega), hw.out]
              · rw [if_pos c2, List.append_assoc, Int.add_assoc]; rfl
            · refine Ev.step (fun k => ?_) (Ev.eq ?_ (ih (i + 1) (a + (l.getD i z76).f0) out (by omega) (by omega) (by omega) (by omega)))
              · simp only [vendmeterref_Recovered.l0, rd_debt]; rw [if_pos (by omega), if_pos (by omega), e0.out, e1.out, if_neg c, if_neg c2, hw.out]
              · rw [if_neg c2, List.nil_append, Int.add_assoc]; rfl
      exact Ev.eq (by simp) (key l.length 0 0 [] (by omega) (by omega) (by omega) (by simp))
    · simp only [e]; exact Ev.now _
  · simp only [h, if_false]; exact Ev.now _

theorem DebtRecovers : vendmeterlaw_DebtRecovers.Pure := by
  intro l t b h _ _
  refine Ev.rounds ?_
  unfold vendmeterlaw_DebtRecovers.f
  rw [vendmeterlaw_debts.eq l h.1]
  have hlen : (recAns l t b).1.length ≤ l.length := by
    unfold recAns
    split
    · split
      · exact rec_len _ _ _
      · simp
    · simp
  refine Ev.letS (Ev.bind (debt_Recover.ev l t b) (Ev.bind (vendmeterref_Recovered.ev l t b) (Ev.pos rfl (Ev.pos rfl (Ev.bind (vendmeterlaw_sameDebts.ev _ (by have := h.1; omega)) (Ev.pos rfl (Ev.bind (vendmeterlaw_sameDebts.ev l (by have := h.1; omega)) (Ev.now _))))))))

end Go.Proofs.Ythjmmbcdkpjheaa.Pure
