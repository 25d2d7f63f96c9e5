/- vendmeterlaw.CentsSums returns true at every list of whole numbers: cents.Sum answers as the reference does, and the list is as it was. No condition. -/
import Derived.Test.YthjmmbcdkpjheaaPCentsSumsxL
import Derived.Test.YthjmmbcdkpjheaaXLib
set_option linter.unusedVariables false
set_option linter.unusedSimpArgs false
namespace Go.Proofs.Ythjmmbcdkpjheaa.Pure
open Go.RowKit Go.Proofs.Ythjmmbcdkpjheaa.PCentsSums Go.Proofs.YthjmmbcdkpjheaaW.PrintWords Go.Proofs.YthjmmbcdkpjheaaW.PrintLast Go.Proofs.YthjmmbcdkpjheaaW.PrintMore Go.Proofs.YthjmmbcdkpjheaaW.XLib

theorem vendmeterref_In.eq (a b c : Int) : vendmeterref_In.f a b c = some (decide (b ≤ a ∧ a ≤ c)) := by
  unfold vendmeterref_In.f
  by_cases h : b ≤ a
  · rw [if_pos h]; simp [h]
  · rw [if_neg h]; simp [h]
theorem cents_within.eq (a b c : Int) : cents_within.f a b c = some (decide (b ≤ a ∧ a ≤ c)) := by
  unfold cents_within.f
  by_cases h : b ≤ a
  · rw [if_pos h]; simp [h]
  · rw [if_neg h]; simp [h]
theorem vendmeterlaw_sameInts.ev (l) (hl : l.length ≤ 1152921504606846976) : Ev (fun k => vendmeterlaw_sameInts.f k l l) true := by
  unfold vendmeterlaw_sameInts.f
  refine Ev.pos rfl (same_ev hl (fun k i hi => ?_) (fun k => ?_))
  · simp only [vendmeterlaw_sameInts.l0]; rw [if_pos (by omega), if_pos (by omega), if_pos (by omega)]; simp
  · simp only [vendmeterlaw_sameInts.l0]; rw [if_neg (by omega)]
theorem vendmeterlaw_ints.eq (l) (h : l.length * 8 ≤ 140737488351232) : vendmeterlaw_ints.f l = some l := by
  unfold vendmeterlaw_ints.f
  rw [if_pos (by simp only [List.length_nil]; omega)]; rfl

def okc (x : Int) : Prop := -1000000000000 ≤ x ∧ x ≤ 1000000000000
def sumOf : List Int → Int
  | [] => 0
  | x :: l => x + sumOf l
def upOf : List Int → Int
  | [] => 0
  | x :: l => (if x > 0 then x else 0) + upOf l
def downOf : List Int → Int
  | [] => 0
  | x :: l => (if x > 0 then 0 else -x) + downOf l
theorem up_down (l : List Int) : upOf l - downOf l = sumOf l := by
  induction l with
  | nil => rfl
  | cons x l ih =>
    simp only [upOf, downOf, sumOf]
    split <;> omega
def all_ok : List Int → Bool
  | [] => true
  | x :: l => decide (-1000000000000 ≤ x ∧ x ≤ 1000000000000) && all_ok l
def totalOf (s : Int) (l : List Int) : Int × Bool := if all_ok l then (s + sumOf l, decide (-1000000000000 ≤ s + sumOf l ∧ s + sumOf l ≤ 1000000000000)) else (0, false)
theorem total_ev (l : List Int) (hl : l.length ≤ 50) : ∀ (d i : Nat) (s : Int), i + d = l.length → -1000000000000 * (i : Int) ≤ s → s ≤ 1000000000000 * (i : Int) → Ev (fun k => cents_total.l0 k s l (l.length : Int) (i : Int)) (totalOf s (l.drop i)) := by
  intro d
  induction d with
  | zero =>
    intro i s hi h1 h2
    refine Ev.step (f := fun _ => some (s, decide (-1000000000000 ≤ s ∧ s ≤ 1000000000000))) (fun k => ?_) (Ev.ret ?_)
    · simp only [cents_total.l0, cents_within.eq]; rw [if_neg (by omega)]; rfl
    · rw [List.drop_of_length_le (by omega)]; simp [totalOf, all_ok, sumOf]
  | succ d ih =>
    intro i s hi h1 h2
    have hd := drop_getD l i 0 (by omega)
    by_cases hx : -1000000000000 ≤ l.getD i 0 ∧ l.getD i 0 ≤ 1000000000000
    · refine Ev.step (f := fun k => cents_total.l0 k (s + l.getD i 0) l (l.length : Int) ((i + 1 : Nat) : Int)) (fun k => ?_) (Ev.eq ?_ (ih (i + 1) (s + l.getD i 0) (by omega) (by omega) (by omega)))
      · simp only [cents_total.l0, cents_within.eq, rd_nat]; rw [if_pos (by omega), if_pos (by omega), if_pos (by omega)]
        simp only [hx, and_self, decide_true, Option.bind_some, if_true, wn (show i < 51 by omega) (by omega), wr (a := s + l.getD i 0) ⟨by omega, by omega⟩]
      · rw [hd]; simp only [totalOf, all_ok, sumOf, hx, and_self, decide_true, Bool.true_and, Int.add_assoc]; rfl
    · refine Ev.step (f := fun _ => some (0, false)) (fun k => ?_) (Ev.ret ?_)
      · simp only [cents_total.l0, cents_within.eq, rd_nat]; rw [if_pos (by omega), if_pos (by omega), if_pos (by omega)]
        simp only [hx, decide_false, Option.bind_some]; rfl
      · rw [hd]; simp only [totalOf, all_ok, hx, decide_false, Bool.false_and]; rfl
def summedOf (u w : Int) (l : List Int) : Int × Int := if all_ok l then (if u + upOf l - (w + downOf l) > 1000000000000 then (0, 2) else if w + downOf l - (u + upOf l) > 1000000000000 then (0, 2) else (u + upOf l - (w + downOf l), 0)) else (0, 2)
theorem summed_ev (l : List Int) (hl : l.length ≤ 50) : ∀ (d i : Nat) (u w : Int), i + d = l.length → 0 ≤ u → u ≤ 1000000000000 * (i : Int) → 0 ≤ w → w ≤ 1000000000000 * (i : Int) → Ev (fun k => vendmeterref_Summed.l0 k l u w (i : Int)) (summedOf u w (l.drop i)) := by
  intro d
  induction d with
  | zero =>
    intro i u w hi h1 h2 h3 h4
    refine Ev.step (f := fun _ => some (summedOf u w (l.drop i))) (fun k => ?_) (Ev.now _)
    simp only [vendmeterref_Summed.l0]; rw [if_neg (by omega), wr (a := u - w) ⟨by omega, by omega⟩, wr (a := w - u) ⟨by omega, by omega⟩, List.drop_of_length_le (by omega)]
    simp only [summedOf, all_ok, upOf, downOf, if_true, Int.add_zero]
    split
    · rfl
    · split <;> rfl
  | succ d ih =>
    intro i u w hi h1 h2 h3 h4
    have hd := drop_getD l i 0 (by omega)
    by_cases hx : -1000000000000 ≤ l.getD i 0 ∧ l.getD i 0 ≤ 1000000000000
    · by_cases hp : l.getD i 0 > 0
      · refine Ev.step (f := fun k => vendmeterref_Summed.l0 k l (u + l.getD i 0) w ((i + 1 : Nat) : Int)) (fun k => ?_) (Ev.eq ?_ (ih (i + 1) (u + l.getD i 0) w (by omega) (by omega) (by omega) (by omega) (by omega)))
        · simp only [vendmeterref_Summed.l0, vendmeterref_In.eq, rd_nat]; rw [if_pos (by omega), if_pos (by omega)]
          simp only [hx, hp, and_self, decide_true, Option.bind_some, if_true, wn (show i < 51 by omega) (by omega), wr (a := u + l.getD i 0) ⟨by omega, by omega⟩]
        · rw [hd]; simp only [summedOf, all_ok, upOf, downOf, hx, hp, and_self, decide_true, Bool.true_and, Int.add_assoc, if_true, Int.zero_add]
      · refine Ev.step (f := fun k => vendmeterref_Summed.l0 k l u (w - l.getD i 0) ((i + 1 : Nat) : Int)) (fun k => ?_) (Ev.eq ?_ (ih (i + 1) u (w - l.getD i 0) (by omega) (by omega) (by omega) (by omega) (by omega)))
        · simp only [vendmeterref_Summed.l0, vendmeterref_In.eq, rd_nat]; rw [if_pos (by omega), if_pos (by omega)]
          simp only [hx, hp, and_self, decide_true, Option.bind_some, if_true, if_false, wn (show i < 51 by omega) (by omega), wr (a := w - l.getD i 0) ⟨by omega, by omega⟩]
        · rw [hd]; simp only [summedOf, all_ok, upOf, downOf, hx, hp, and_self, decide_true, Bool.true_and, Int.add_assoc, if_false, Int.zero_add, Int.sub_eq_add_neg]
    · refine Ev.step (f := fun _ => some (0, 2)) (fun k => ?_) (Ev.ret ?_)
      · simp only [vendmeterref_Summed.l0, vendmeterref_In.eq, rd_nat]; rw [if_pos (by omega), if_pos (by omega)]
        simp only [hx, decide_false, Option.bind_some]; rfl
      · rw [hd]; simp only [summedOf, all_ok, hx, decide_false, Bool.false_and]; rfl
def sumAnswer (l : List Int) : Int × Int := if (l.length : Int) > 50 then (0, 1) else if (totalOf 0 l).2 then ((totalOf 0 l).1, 0) else (0, 2)
theorem Sum_ev (l : List Int) : Ev (fun k => cents_Sum.f k l) (sumAnswer l) := by
  unfold cents_Sum.f sumAnswer cents_total.f
  by_cases h : (l.length : Int) > 50
  · rw [if_pos h]; exact Ev.pos h (Ev.now _)
  · rw [if_neg h]
    refine Ev.neg h (Ev.bind (total_ev l (by omega) l.length 0 0 (by omega) (by omega) (by omega)) ?_)
    cases hb : (totalOf 0 l).2 with
    | true => exact Ev.pos hb (Ev.now _)
    | false => exact Ev.neg (by rw [List.drop_zero, hb]; simp) (Ev.now _)
theorem Summed_ev (l : List Int) : Ev (fun k => vendmeterref_Summed.f k l) (sumAnswer l) := by
  unfold vendmeterref_Summed.f sumAnswer
  by_cases h : (l.length : Int) > 50
  · rw [if_pos h]; exact Ev.pos h (Ev.now _)
  · rw [if_neg h]
    refine Ev.neg h (Ev.eq ?_ (summed_ev l (by omega) l.length 0 0 0 (by omega) (by omega) (by omega) (by omega) (by omega)))
    have hs := up_down l
    rw [List.drop_zero]
    unfold summedOf totalOf
    cases all_ok l with
    | false => rfl
    | true =>
      simp only [if_true, Int.zero_add]
      by_cases h1 : upOf l - downOf l > 1000000000000
      · rw [if_pos h1]; simp; omega
      · rw [if_neg h1]
        by_cases h2 : downOf l - upOf l > 1000000000000
        · rw [if_pos h2]; simp; omega
        · rw [if_neg h2, hs]; simp; omega

theorem CentsSums : vendmeterlaw_CentsSums.Pure := by
  intro l h
  refine Ev.rounds ?_
  unfold vendmeterlaw_CentsSums.f
  rw [vendmeterlaw_ints.eq l h.1]
  refine Ev.letS (Ev.bind (Sum_ev l) (Ev.bind (Summed_ev l) (Ev.pos rfl (Ev.pos rfl (Ev.bind (vendmeterlaw_sameInts.ev l (by have := h.1; omega)) (Ev.now _))))))

end Go.Proofs.Ythjmmbcdkpjheaa.Pure
