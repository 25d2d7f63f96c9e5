/- vendmeterlaw.CellDiffs returns true at every two lists of words: cell.Diff answers as the reference does, and both lists are as they were. No condition. -/
import Derived.Test.YtpoiaheehhnnhaaPCellDiffsxL
import Derived.Test.YtpoiaheehhnnhaaXLib
set_option linter.unusedVariables false
set_option linter.unusedSimpArgs false
namespace Go.Proofs.Ytpoiaheehhnnhaa.Pure
open Go.RowKit Go.Proofs.Ytpoiaheehhnnhaa.PCellDiffs Go.Proofs.YtpoiaheehhnnhaaW.PrintWords Go.Proofs.YtpoiaheehhnnhaaW.PrintLast Go.Proofs.YtpoiaheehhnnhaaW.PrintMore Go.Proofs.YtpoiaheehhnnhaaW.XLib

theorem vendmeterref_In.eq (a b c : Int) : vendmeterref_In.f a b c = some (decide (b ≤ a ∧ a ≤ c)) := by
  unfold vendmeterref_In.f
  by_cases h : b ≤ a
  · rw [if_pos h]; simp [h]
  · rw [if_neg h]; simp [h]
theorem vendmeterlaw_sameWords.ev (l) (hl : l.length ≤ 1152921504606846976) : Ev (fun k => vendmeterlaw_sameWords.f k l l) true := by
  unfold vendmeterlaw_sameWords.f
  refine Ev.pos rfl (same_ev hl (fun k i hi => ?_) (fun k => ?_))
  · simp only [vendmeterlaw_sameWords.l0]; rw [if_pos (by omega), if_pos (by omega), if_pos (by omega)]; simp
  · simp only [vendmeterlaw_sameWords.l0]; rw [if_neg (by omega)]
theorem vendmeterlaw_sameWrites.ev (l) (hl : l.length ≤ 1152921504606846976) : Ev (fun k => vendmeterlaw_sameWrites.f k l l) true := by
  unfold vendmeterlaw_sameWrites.f
  refine Ev.pos rfl (same_ev hl (fun k i hi => ?_) (fun k => ?_))
  · simp only [vendmeterlaw_sameWrites.l0]; rw [if_pos (by omega), if_pos (by omega), if_pos (by omega)]; simp
  · simp only [vendmeterlaw_sameWrites.l0]; rw [if_neg (by omega)]
theorem vendmeterlaw_words.eq (l) (h : l.length * 4 ≤ 140737488351232) : vendmeterlaw_words.f l = some l := by
  unfold vendmeterlaw_words.f
  rw [if_pos (by simp only [List.length_nil]; omega)]; rfl

def diffOf (o : Nat) : List Int → List Int → List S65
  | x :: a, y :: b => (if x = y then [] else [⟨(o : Int), y⟩]) ++ diffOf (o + 1) a b
  | _, _ => []
theorem diff_len : ∀ (o : Nat) (a b : List Int), (diffOf o a b).length ≤ b.length
  | o, x :: a, y :: b => by
    have := diff_len (o + 1) a b
    simp only [diffOf, List.length_append, List.length_cons]
    split <;> simp <;> omega
  | _, [], _ => by simp [diffOf]
  | _, _ :: _, [] => by simp [diffOf]
theorem cell_fits.eq (l : List Int) : cell_fits.f l = some (decide (1 ≤ l.length ∧ l.length ≤ 2048)) := by
  unfold cell_fits.f
  by_cases h : (l.length : Int) ≥ 1
  · rw [if_pos h]; congr 1; simp only [decide_eq_decide]; omega
  · rw [if_neg h]; congr 1; symm; rw [decide_eq_false_iff_not]; omega
def diffAns (a b : List Int) : List S65 × Int := if (1 ≤ a.length ∧ a.length ≤ 2048) ∧ a.length = b.length then (diffOf 0 a b, 0) else ([], 1)
theorem diff_p (a b : List Int) (h1 : a.length ≤ 2048) (hab : a.length = b.length) : ∀ (d i : Nat) (out : List S65), i + d = b.length → out.length ≤ i → Ev (fun k => cell_Diff.l0 k a out b (b.length : Int) (i : Int)) (out ++ diffOf i (a.drop i) (b.drop i), 0) := by
  intro d
  induction d with
  | zero =>
    intro i out hi ho
    refine Ev.step (f := fun _ => some (out, 0)) (fun k => ?_) (Ev.ret ?_)
    · simp only [cell_Diff.l0]; rw [if_neg (by omega)]
    · rw [List.drop_of_length_le (by omega), List.drop_of_length_le (by omega)]; simp [diffOf]
  | succ d ih =>
    intro i out hi ho
    rw [drop_getD a i 0 (by omega), drop_getD b i 0 (by omega)]
    simp only [diffOf]
    by_cases e : a.getD i 0 = b.getD i 0
    · refine Ev.step (fun k => ?_) (Ev.eq ?_ (ih (i + 1) out (by omega) (by omega)))
      · simp only [cell_Diff.l0, rd_nat]; rw [if_pos (by omega), if_pos (by omega), if_pos (by omega), if_pos (by omega), if_pos e, wn (show i < b.length by omega) (by omega)]
      · rw [if_pos e, List.nil_append]
    · refine Ev.step (fun k => ?_) (Ev.eq ?_ (ih (i + 1) (out ++ [⟨(i : Int), b.getD i 0⟩]) (by omega) (by simp; omega)))
      · simp only [cell_Diff.l0, rd_nat]; rw [if_pos (by omega), if_pos (by omega), if_pos (by omega), if_pos (by omega), if_neg e, if_pos (by omega), wn (show i < b.length by omega) (by omega)]
      · rw [if_neg e, List.append_assoc]
theorem diff_q (a b : List Int) (h1 : a.length ≤ 2048) (hab : a.length = b.length) : ∀ (d i : Nat) (out : List S65), i + d = b.length → out.length ≤ i → Ev (fun k => vendmeterref_Differs.l0 k a b out (i : Int)) (out ++ diffOf i (a.drop i) (b.drop i), 0) := by
  intro d
  induction d with
  | zero =>
    intro i out hi ho
    refine Ev.step (f := fun _ => some (out, 0)) (fun k => ?_) (Ev.ret ?_)
    · simp only [vendmeterref_Differs.l0]; rw [if_neg (by omega)]
    · rw [List.drop_of_length_le (by omega), List.drop_of_length_le (by omega)]; simp [diffOf]
  | succ d ih =>
    intro i out hi ho
    rw [drop_getD a i 0 (by omega), drop_getD b i 0 (by omega)]
    simp only [diffOf]
    by_cases e : a.getD i 0 = b.getD i 0
    · refine Ev.step (fun k => ?_) (Ev.eq ?_ (ih (i + 1) out (by omega) (by omega)))
      · simp only [vendmeterref_Differs.l0, rd_nat]; rw [if_pos (by omega), if_pos (by omega), if_pos (by omega), if_pos e, wn (show i < b.length by omega) (by omega)]
      · rw [if_pos e, List.nil_append]
    · refine Ev.step (fun k => ?_) (Ev.eq ?_ (ih (i + 1) (out ++ [⟨(i : Int), b.getD i 0⟩]) (by omega) (by simp; omega)))
      · simp only [vendmeterref_Differs.l0, rd_nat]; rw [if_pos (by omega), if_pos (by omega), if_pos (by omega), if_neg e, if_pos (by omega), wn (show i < b.length by omega) (by omega)]
      · rw [if_neg e, List.append_assoc]
theorem Diff_ev (a b : List Int) : Ev (fun k => cell_Diff.f k a b) (diffAns a b) := by
  unfold cell_Diff.f diffAns
  rw [cell_fits.eq]
  refine Ev.letS ?_
  by_cases h : 1 ≤ a.length ∧ a.length ≤ 2048
  · refine Ev.pos (by simpa using h) ?_
    by_cases e : a.length = b.length
    · rw [if_pos ⟨h, e⟩]
      have key := diff_p a b h.2 e b.length 0 [] (by omega) (by simp)
      refine Ev.step (f := fun k => cell_Diff.l0 k a [] b (b.length : Int) 0) (fun k => ?_) (by simpa using key)
      simp only [cell_Diff.j0, e, bne_self_eq_false]; rfl
    · rw [if_neg (by omega)]
      refine Ev.step (f := fun _ => some ([], 1)) (fun k => ?_) (Ev.now _)
      have e' : ((a.length : Int) != (b.length : Int)) = true := by rw [bne_iff_ne]; omega
      simp only [cell_Diff.j0, e', if_true]
  · rw [if_neg (by omega)]
    exact Ev.neg (by simpa using h) (Ev.step (f := fun _ => some ([], 1)) (fun k => rfl) (Ev.now _))
theorem Differs_ev (a b : List Int) : Ev (fun k => vendmeterref_Differs.f k a b) (diffAns a b) := by
  unfold vendmeterref_Differs.f diffAns
  rw [vendmeterref_In.eq]
  refine Ev.letS ?_
  by_cases h : 1 ≤ a.length ∧ a.length ≤ 2048
  · refine Ev.pos (by rw [decide_eq_true_eq]; omega) ?_
    by_cases e : a.length = b.length
    · rw [if_pos ⟨h, e⟩]
      have key := diff_q a b h.2 e b.length 0 [] (by omega) (by simp)
      refine Ev.step (f := fun k => vendmeterref_Differs.l0 k a b [] 0) (fun k => ?_) (by simpa using key)
      simp only [vendmeterref_Differs.j0, e, bne_self_eq_false]; rfl
    · rw [if_neg (by omega)]
      refine Ev.step (f := fun _ => some ([], 1)) (fun k => ?_) (Ev.now _)
      have e' : ((a.length : Int) != (b.length : Int)) = true := by rw [bne_iff_ne]; omega
      simp only [vendmeterref_Differs.j0, e', if_true]
  · rw [if_neg (by omega)]
    exact Ev.neg (by rw [decide_eq_true_eq]; omega) (Ev.step (f := fun _ => some ([], 1)) (fun k => rfl) (Ev.now _))
theorem CellDiffs : vendmeterlaw_CellDiffs.Pure := by
  intro a b ha hb
  have h1 := ha.1
  have h2 := hb.1
  refine Ev.rounds ?_
  unfold vendmeterlaw_CellDiffs.f
  rw [vendmeterlaw_words.eq a ha.1, vendmeterlaw_words.eq b hb.1]
  have hl : (diffAns a b).1.length ≤ b.length := by
    unfold diffAns
    split
    · exact diff_len 0 a b
    · simp
  exact Ev.letS (Ev.letS (Ev.bind (Diff_ev a b) (Ev.bind (Differs_ev a b) (Ev.pos rfl (Ev.bind (vendmeterlaw_sameWrites.ev _ (by omega)) (Ev.pos rfl (Ev.bind (vendmeterlaw_sameWords.ev a (by omega)) (Ev.pos rfl (Ev.bind (vendmeterlaw_sameWords.ev b (by omega)) (Ev.now _))))))))))

end Go.Proofs.Ytpoiaheehhnnhaa.Pure
