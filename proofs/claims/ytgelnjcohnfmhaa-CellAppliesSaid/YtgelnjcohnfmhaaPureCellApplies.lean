/- vendmeterlaw.CellApplies returns true at every list of words, list of writes and number: cell.Apply answers as the reference does, and both lists are as they were. No condition. -/
import Derived.Test.YtgelnjcohnfmhaaPCellAppliesxL
import Derived.Test.YtgelnjcohnfmhaaXLib
set_option linter.unusedVariables false
set_option linter.unusedSimpArgs false
namespace Go.Proofs.Ytgelnjcohnfmhaa.Pure
open Go.RowKit Go.Proofs.Ytgelnjcohnfmhaa.PCellApplies Go.Proofs.YtgelnjcohnfmhaaW.PrintWords Go.Proofs.YtgelnjcohnfmhaaW.PrintLast Go.Proofs.YtgelnjcohnfmhaaW.PrintMore Go.Proofs.YtgelnjcohnfmhaaW.XLib

theorem vendmeterref_In.eq (a b c : Int) : vendmeterref_In.f a b c = some (decide (b ≤ a ∧ a ≤ c)) := by
  unfold vendmeterref_In.f
  by_cases h : b ≤ a
  · rw [if_pos h]; simp [h]
  · rw [if_neg h]; simp [h]
theorem vendmeterlaw_sameWords.ev (l) (hl : l.length ≤ 1152921504606846976) : Ev (fun k => vendmeterlaw_sameWords.f k l l) true := by
  unfold vendmeterlaw_sameWords.f
  refine Ev.pos rfl (same_ev hl (fun k i hi => ?_) (fun k => ?_))
  · simp only [vendmeterlaw_sameWords.l0]; rw [if_pos (by omega), if_pos (by omega), if_pos (by omega)]; simp
  · simp only [vendmeterlaw_sameWords.l0]; rw [if_neg (by omega)]
theorem vendmeterlaw_sameWrites.ev (l) (hl : l.length ≤ 1152921504606846976) : Ev (fun k => vendmeterlaw_sameWrites.f k l l) true := by
  unfold vendmeterlaw_sameWrites.f
  refine Ev.pos rfl (same_ev hl (fun k i hi => ?_) (fun k => ?_))
  · simp only [vendmeterlaw_sameWrites.l0]; rw [if_pos (by omega), if_pos (by omega), if_pos (by omega)]; simp
  · simp only [vendmeterlaw_sameWrites.l0]; rw [if_neg (by omega)]
theorem vendmeterlaw_words.eq (l) (h : l.length * 4 ≤ 140737488351232) : vendmeterlaw_words.f l = some l := by
  unfold vendmeterlaw_words.f
  rw [if_pos (by simp only [List.length_nil]; omega)]; rfl
theorem vendmeterlaw_writes.eq (l) (h : l.length * 16 ≤ 140737488351232) : vendmeterlaw_writes.f l = some l := by
  unfold vendmeterlaw_writes.f
  rw [if_pos (by simp only [List.length_nil]; omega)]; rfl

theorem rd_w (l : List S112) (i : Nat) : rd_T112 l (i : Int) = l.getD i z112 := Eq.trans rfl rfl
theorem cell_fits.eq (l : List Int) : cell_fits.f l = some (decide (1 ≤ l.length ∧ l.length ≤ 2048)) := by
  unfold cell_fits.f
  by_cases h : (l.length : Int) ≥ 1
  · rw [if_pos h]; congr 1; simp only [decide_eq_decide]; omega
  · rw [if_neg h]; congr 1; symm; rw [decide_eq_false_iff_not]; omega
def appAns (c : List Int) (l : List S112) (a : Int) : List Int × Int :=
  if 1 ≤ c.length ∧ c.length ≤ 2048 then (if l.length > 4096 then ([], 1) else if (cell_Apply.at c.length l).isSome = true then ([], 2) else if a < 0 then ([], 2) else if a > (l.length : Int) then ([], 2) else (cell_Apply.put c (l.take a.toNat), 0)) else ([], 1)
theorem cell_Apply.eq (c : List Int) (l : List S112) (a : Int) : cell_Apply.f c l a = some (appAns c l a) := by
  unfold cell_Apply.f appAns
  rw [cell_fits.eq, Option.bind_some]
  by_cases h : 1 ≤ c.length ∧ c.length ≤ 2048
  · rw [if_pos h, if_pos (decide_eq_true h)]
    split
    · rfl
    · split
      · rfl
      · split
        · rfl
        · split <;> rfl
  · rw [if_neg h, if_neg (by rw [decide_eq_true_eq]; exact h)]
theorem appAns_len (c : List Int) (l : List S112) (a : Int) : (appAns c l a).1.length ≤ c.length := by
  unfold appAns
  split
  · split
    · simp
    · split
      · simp
      · split
        · simp
        · split
          · simp
          · simp [cell_Apply.put_len]
  · simp
theorem last_ev (c : List Int) (l : List S112) (hl : l.length ≤ 4096) (p : Nat) (hp : p < c.length) (hg : ∀ j : Nat, j < l.length → 0 ≤ (rd_T112 l (j : Int)).f0) : ∀ i : Nat, i ≤ l.length → Ev (fun k => vendmeterref_last.l0 k c l (p : Int) ((i : Int) - 1)) ((cell_Apply.put c (l.take i)).getD p 0) := by
  intro i
  induction i with
  | zero =>
    intro _
    refine Ev.step (f := fun _ => some (c.getD p 0)) (fun k => ?_) (Ev.ret ?_)
    · simp only [vendmeterref_last.l0, rd_nat]; rw [if_neg (by omega), if_pos (by omega), if_pos (by omega)]
    · rfl
  | succ i ih =>
    intro hi
    have g0 := hg i (by omega)
    have e : (((i + 1 : Nat) : Int) - 1) = (i : Int) := by omega
    rw [cell_Apply.put_step c l i (by omega), e]
    have hlen := cell_Apply.put_len c (l.take i)
    generalize hD : rd_T112 l (i : Int) = D at g0
    by_cases h : D.f0 = (p : Int)
    · refine Ev.step (f := fun _ => some D.f1) (fun k => ?_) (Ev.ret ?_)
      · simp only [vendmeterref_last.l0, hD]; rw [if_pos (by omega), if_pos (by omega), if_pos (by omega), if_pos h]
      · rw [h, Int.toNat_natCast, List.getD_eq_getElem?_getD, List.getElem?_set_self (by omega)]; rfl
    · refine Ev.step (fun k => ?_) (Ev.eq ?_ (ih (by omega)))
      · simp only [vendmeterref_last.l0, hD]; rw [if_pos (by omega), if_pos (by omega), if_pos (by omega), if_neg h, wr ⟨by omega, by omega⟩]
      · rw [List.getD_eq_getElem?_getD, List.getD_eq_getElem?_getD, List.getElem?_set_ne (by omega)]
theorem fill_step (P : List Int) (n p : Nat) (hP : P.length = n) (hp : p < n) : (P.take p ++ List.replicate (n - p) (0 : Int)).set p (P.getD p 0) = P.take (p + 1) ++ List.replicate (n - (p + 1)) 0 := by
  have h1 : (P.take p).length = p := by rw [List.length_take]; omega
  obtain ⟨m, hm⟩ : ∃ m, n - p = m + 1 := ⟨n - p - 1, by omega⟩
  rw [take_getD P p 0 (by omega), List.set_append_right _ _ (by omega), h1, Nat.sub_self, hm, List.replicate_succ, List.set_cons_zero, List.append_assoc, show n - (p + 1) = m by omega]
  rfl
theorem fill_ev (c : List Int) (l : List S112) (hl : l.length ≤ 4096) (hc : c.length ≤ 2048) (k0 : Nat) (hk : k0 ≤ l.length) (hg : ∀ j : Nat, j < l.length → 0 ≤ (rd_T112 l (j : Int)).f0) : Ev (fun k => vendmeterref_Applied.l1 k c l (k0 : Int) (List.replicate c.length 0) 0) (cell_Apply.put c (l.take k0), 0) := by
  have hlen := cell_Apply.put_len c (l.take k0)
  refine down (P := fun p => Ev (fun k => vendmeterref_Applied.l1 k c l (k0 : Int) ((cell_Apply.put c (l.take k0)).take p ++ List.replicate (c.length - p) 0) (p : Int)) (cell_Apply.put c (l.take k0), 0)) (n := c.length) ?_ (fun p hp h => ?_)
  · refine Ev.step (f := fun _ => some (cell_Apply.put c (l.take k0), 0)) (fun k => ?_) (Ev.now _)
    simp only [vendmeterref_Applied.l1]
    rw [if_neg (by omega), Nat.sub_self, List.take_of_length_le (by omega)]
    simp
  · have hx : ((cell_Apply.put c (l.take k0)).take p ++ List.replicate (c.length - p) (0 : Int)).length = c.length := by
      rw [List.length_append, List.length_take, List.length_replicate]; omega
    have hlast : Ev (fun k => vendmeterref_last.f k c l (k0 : Int) (p : Int)) ((cell_Apply.put c (l.take k0)).getD p 0) := by
      unfold vendmeterref_last.f
      rw [wr ⟨by omega, by omega⟩]
      exact last_ev c l hl p hp hg k0 hk
    refine Ev.step (f := fun k => (vendmeterref_last.f k c l (k0 : Int) (p : Int)).bind fun t121 => vendmeterref_Applied.l1 k c l (k0 : Int) (((cell_Apply.put c (l.take k0)).take p ++ List.replicate (c.length - p) 0).set p t121) ((p + 1 : Nat) : Int)) (fun k => ?_) (Ev.bind hlast ?_)
    · simp only [vendmeterref_Applied.l1]
      rw [if_pos (by omega)]
      congr 1
      funext t
      rw [if_pos (by omega), if_pos (by omega), wn hp (by omega), Int.toNat_natCast]
    · rw [fill_step _ _ _ hlen hp]; exact h
theorem Applied_ev (c : List Int) (l : List S112) (a : Int) : Ev (fun k => vendmeterref_Applied.f k c l a) (appAns c l a) := by
  unfold vendmeterref_Applied.f appAns
  rw [vendmeterref_In.eq]
  refine Ev.letS ?_
  by_cases h : 1 ≤ c.length ∧ c.length ≤ 2048
  · rw [if_pos h]
    refine Ev.pos (by rw [decide_eq_true_eq]; omega) ?_
    by_cases h1 : l.length > 4096
    · rw [if_pos h1]
      refine Ev.step (f := fun _ => some ([], 1)) (fun k => ?_) (Ev.now _)
      simp only [vendmeterref_Applied.j0]; rw [if_pos (decide_eq_true (by omega))]
    · rw [if_neg h1]
      refine Ev.step (f := fun k => vendmeterref_Applied.l0 k c l a 0) (fun k => ?_) ?_
      · simp only [vendmeterref_Applied.j0]; rw [if_neg (by rw [decide_eq_true_eq]; omega)]
      have stepG : ∀ (r : List Int × Int) (i : Nat), i < l.length → cell_Apply.bad c.length (rd_T112 l (i : Int)) = false → Ev (fun k => vendmeterref_Applied.l0 k c l a ((i + 1 : Nat) : Int)) r → Ev (fun k => vendmeterref_Applied.l0 k c l a (i : Int)) r := by
        intro r i hi hb hh
        unfold cell_Apply.bad at hb
        simp only [Bool.or_eq_false_iff, decide_eq_false_iff_not] at hb
        refine Ev.step (fun k => ?_) hh
        simp only [vendmeterref_Applied.l0, vendmeterref_In.eq, Option.bind_some]
        rw [if_pos (by omega), if_pos (by omega), if_pos (by rw [wr ⟨by omega, by omega⟩, decide_eq_true_eq]; omega), wn hi (by omega)]
      cases hat : cell_Apply.at c.length l with
      | some i =>
        rw [if_pos (show (some i).isSome = true from rfl)]
        unfold cell_Apply.at at hat
        rw [List.findIdx?_eq_some_iff_getElem] at hat
        obtain ⟨hi, hb, hbm⟩ := hat
        refine down (P := fun j => Ev (fun k => vendmeterref_Applied.l0 k c l a (j : Int)) ([], 2)) (n := i) ?_ (fun j hj hh => stepG _ j (by omega) ?_ hh)
        · rw [← cell_Apply.get hi] at hb
          unfold cell_Apply.bad at hb
          simp only [Bool.or_eq_true, decide_eq_true_eq] at hb
          refine Ev.step (f := fun _ => some ([], 2)) (fun k => ?_) (Ev.now _)
          simp only [vendmeterref_Applied.l0, vendmeterref_In.eq, Option.bind_some]
          rw [if_pos (by omega), if_pos (by omega), if_neg (by rw [wr ⟨by omega, by omega⟩, decide_eq_true_eq]; omega)]
        · rw [cell_Apply.get (show j < l.length by omega)]
          have := hbm j hj
          simpa using this
      | none =>
        rw [if_neg (by decide)]
        have hgood := fun i hi => cell_Apply.good hat i hi
        have hbad : ∀ i : Nat, i < l.length → cell_Apply.bad c.length (rd_T112 l (i : Int)) = false := fun i hi => by
          have := hgood i hi
          unfold cell_Apply.bad
          simp only [Bool.or_eq_false_iff, decide_eq_false_iff_not]
          omega
        refine down (P := fun j => Ev (fun k => vendmeterref_Applied.l0 k c l a (j : Int)) _) (n := l.length) ?_ (fun j hj hh => stepG _ j hj (hbad j hj) hh)
        refine Ev.step (f := fun k => (some (decide (0 ≤ a ∧ a ≤ (l.length : Int)))).bind fun t117 => (if t117 = true then (vendmeterref_Applied.l1 k c l a (List.replicate c.length 0) 0) else (some (([] : List Int), 2)))) (fun k => ?_) ?_
        · simp only [vendmeterref_Applied.l0, vendmeterref_In.eq]
          rw [if_neg (by omega)]
          congr 1
          funext t
          rw [if_pos (show (0 : Int) ≤ (c.length : Int) by omega), if_pos (show ((c.length : Int)).toNat ≤ 70368744177664 by rw [Int.toNat_natCast]; omega), Int.toNat_natCast]
        refine Ev.letS ?_
        by_cases h2 : a < 0
        · rw [if_pos h2]
          exact Ev.neg (by rw [decide_eq_true_eq]; omega) (Ev.now _)
        · rw [if_neg h2]
          by_cases h3 : a > (l.length : Int)
          · rw [if_pos h3]
            exact Ev.neg (by rw [decide_eq_true_eq]; omega) (Ev.now _)
          · rw [if_neg h3]
            obtain ⟨k0, rfl⟩ := Int.eq_ofNat_of_zero_le (show 0 ≤ a by omega)
            refine Ev.pos (by rw [decide_eq_true_eq]; omega) ?_
            rw [Int.toNat_natCast]
            exact fill_ev c l (by omega) h.2 k0 (by omega) (fun j hj => (hgood j hj).1)
  · rw [if_neg h]
    refine Ev.neg (by rw [decide_eq_true_eq]; omega) ?_
    refine Ev.step (f := fun _ => some ([], 1)) (fun k => ?_) (Ev.now _)
    simp [vendmeterref_Applied.j0]
theorem CellApplies : vendmeterlaw_CellApplies.Pure := by
  intro c l a hc hl _
  have h1 := hc.1
  have h2 := hl.1
  refine Ev.rounds ?_
  unfold vendmeterlaw_CellApplies.f
  rw [vendmeterlaw_words.eq c hc.1, vendmeterlaw_writes.eq l hl.1]
  have hlen := appAns_len c l a
  exact Ev.letS (Ev.letS (Ev.bind (Ev.some_ (cell_Apply.eq c l a)) (Ev.bind (Applied_ev c l a) (Ev.pos rfl (Ev.bind (vendmeterlaw_sameWords.ev _ (by omega)) (Ev.pos rfl (Ev.bind (vendmeterlaw_sameWords.ev c (by omega)) (Ev.pos rfl (Ev.bind (vendmeterlaw_sameWrites.ev l (by omega)) (Ev.now _))))))))))

end Go.Proofs.Ytgelnjcohnfmhaa.Pure
