/- vendmeterlaw.OracleIssues returns true at every oracle and numbers: oracle.Issue answers as the reference does, and the oracle is as it was. No condition. -/
import Derived.Test.YtgelnjcohnfmhaaPOracleIssuesxL
import Derived.Test.YtgelnjcohnfmhaaXLib
set_option linter.unusedVariables false
set_option linter.unusedSimpArgs false
namespace Go.Proofs.Ytgelnjcohnfmhaa.Pure
open Go.RowKit Go.Proofs.Ytgelnjcohnfmhaa.POracleIssues Go.Proofs.YtgelnjcohnfmhaaW.PrintWords Go.Proofs.YtgelnjcohnfmhaaW.PrintLast Go.Proofs.YtgelnjcohnfmhaaW.PrintMore Go.Proofs.YtgelnjcohnfmhaaW.XLib

theorem vendmeterref_In.eq (a b c : Int) : vendmeterref_In.f a b c = some (decide (b ≤ a ∧ a ≤ c)) := by
  unfold vendmeterref_In.f
  by_cases h : b ≤ a
  · rw [if_pos h]; simp [h]
  · rw [if_neg h]; simp [h]
theorem rd_pair (l : List S83) (i : Nat) : rd_T83 l (i : Int) = l.getD i z83 := Eq.trans rfl rfl
/-- The place of what was tagged: -1: it was not. -/
def placeOf (a b c : Int) (l : List S83) : Int := match oracle_known.find a b c 0 l with | some (i, _) => (i : Int) | none => -1
theorem find_shift (a b c : Int) : ∀ (l : List S83) (i : Nat), oracle_known.find a b c i l = (oracle_known.find a b c 0 l).map fun x => (x.1 + i, x.2)
  | [], i => rfl
  | p :: l, i => by
    unfold oracle_known.find
    by_cases h : oracle_known.has a b c p = true
    · rw [if_pos h, if_pos h]; simp
    · rw [if_neg h, if_neg h, find_shift a b c l (i + 1), find_shift a b c l (0 + 1), Option.map_map]
      congr 1
      funext x
      simp; omega
theorem find_hit {a b c : Int} {l : List S83} {i : Nat} {v : Int} (h : oracle_known.find a b c 0 l = some (i, v)) : i < l.length ∧ oracle_known.has a b c (l.getD i z83) = true ∧ v = (l.getD i z83).f3 ∧ ∀ j, j < i → oracle_known.has a b c (l.getD j z83) = false := by
  induction l generalizing i with
  | nil => simp [oracle_known.find] at h
  | cons p l ih =>
    unfold oracle_known.find at h
    by_cases hp : oracle_known.has a b c p = true
    · rw [if_pos hp] at h
      cases h
      exact ⟨by simp, hp, rfl, fun j hj => by omega⟩
    · rw [if_neg hp, find_shift] at h
      cases hf : oracle_known.find a b c 0 l with
      | none => rw [hf] at h; cases h
      | some x =>
        obtain ⟨m, u⟩ := x
        rw [hf] at h
        simp only [Option.map_some, Option.some.injEq, Prod.mk.injEq] at h
        obtain ⟨rfl, rfl⟩ := h
        obtain ⟨h1, h2, h3, h4⟩ := ih hf
        refine ⟨by simp; omega, by simpa using h2, by simpa using h3, fun j hj => ?_⟩
        cases j with
        | zero => exact Bool.eq_false_iff.mpr hp
        | succ j => simpa using h4 j (by omega)
theorem find_miss {a b c : Int} {l : List S83} (h : oracle_known.find a b c 0 l = none) : ∀ j, j < l.length → oracle_known.has a b c (l.getD j z83) = false := by
  induction l with
  | nil => intro j hj; simp at hj
  | cons p l ih =>
    unfold oracle_known.find at h
    by_cases hp : oracle_known.has a b c p = true
    · rw [if_pos hp] at h; cases h
    · rw [if_neg hp, find_shift] at h
      intro j hj
      cases j with
      | zero => exact Bool.eq_false_iff.mpr hp
      | succ j =>
        have : oracle_known.find a b c 0 l = none := by
          cases hf : oracle_known.find a b c 0 l with
          | none => rfl
          | some x => rw [hf] at h; cases h
        simpa using ih this j (by simp at hj; omega)
theorem has_iff (a b c : Int) (p : S83) : oracle_known.has a b c p = true ↔ p.f0 = a ∧ p.f1 = b ∧ p.f2 = c := by
  simp only [oracle_known.has, Bool.and_eq_true, beq_iff_eq]
  constructor
  · rintro ⟨rfl, rfl, rfl⟩; exact ⟨rfl, rfl, rfl⟩
  · rintro ⟨rfl, rfl, rfl⟩; exact ⟨rfl, rfl, rfl⟩
theorem vendmeterref_tagged.ev (l : List S83) (a b c : Int) (hl : l.length ≤ 1152921504606846976) : Ev (fun k => vendmeterref_tagged.f k l a b c) (placeOf a b c l) := by
  unfold vendmeterref_tagged.f placeOf
  have miss : ∀ (r : Int) (i : Nat), i < l.length → oracle_known.has a b c (l.getD i z83) = false → Ev (fun k => vendmeterref_tagged.l0 k a b c ((i + 1 : Nat) : Int) l) r → Ev (fun k => vendmeterref_tagged.l0 k a b c (i : Int) l) r := by
    intro r i hi hh h
    have hn := fun h => (Bool.eq_false_iff.mp hh) ((has_iff a b c _).2 h)
    refine Ev.step (fun k => ?_) h
    simp only [vendmeterref_tagged.l0, rd_pair]
    rw [if_pos (by omega), if_pos (by omega), wn hi hl]
    by_cases h0 : (l.getD i z83).f0 = a
    · rw [if_pos h0]
      by_cases h1 : (l.getD i z83).f1 = b
      · rw [if_pos h1, if_neg (fun h2 => hn ⟨h0, h1, h2⟩)]
      · rw [if_neg h1]
    · rw [if_neg h0]
  cases hf : oracle_known.find a b c 0 l with
  | none =>
    refine down (P := fun j => Ev (fun k => vendmeterref_tagged.l0 k a b c (j : Int) l) (-1)) (n := l.length) ?_ (fun j hj h => miss _ j hj (find_miss hf j hj) h)
    refine Ev.step (f := fun _ => some (-1)) (fun k => ?_) (Ev.now _)
    simp only [vendmeterref_tagged.l0]; rw [if_neg (by omega)]
  | some x =>
    obtain ⟨i, v⟩ := x
    obtain ⟨h1, h2, h3, h4⟩ := find_hit hf
    refine down (P := fun j => Ev (fun k => vendmeterref_tagged.l0 k a b c (j : Int) l) (i : Int)) (n := i) ?_ (fun j hj h => miss _ j (by omega) (h4 j hj) h)
    obtain ⟨e0, e1, e2⟩ := (has_iff a b c _).1 h2
    refine Ev.step (f := fun _ => some (i : Int)) (fun k => ?_) (Ev.now _)
    simp only [vendmeterref_tagged.l0, rd_pair]
    rw [if_pos (by omega), if_pos (by omega), if_pos e0, if_pos e1, if_pos e2]
theorem vendmeterref_PairMay.eq (a b c t : Int) : vendmeterref_PairMay.f a b c t = some (oracle_known.pm ⟨a, b, c, t⟩ && oracle_known.tag ⟨a, b, c, t⟩) := by
  unfold vendmeterref_PairMay.f oracle_known.pm oracle_known.tag
  simp only [vendmeterref_In.eq, Option.bind_some]
  by_cases h0 : 0 ≤ a ∧ a ≤ 49
  · rw [if_pos (decide_eq_true h0)]
    by_cases h1 : 0 ≤ b ∧ b ≤ 15
    · rw [if_pos (decide_eq_true h1)]
      by_cases h2 : 0 ≤ c ∧ c ≤ 8796093022207
      · rw [if_pos (decide_eq_true h2), decide_eq_true (show (0 ≤ a ∧ a < 50) ∧ (0 ≤ b ∧ b ≤ 15) ∧ (0 ≤ c ∧ c ≤ 8796093022207) by omega), Bool.true_and]
      · rw [if_neg (by rw [decide_eq_true_eq]; exact h2), decide_eq_false (show ¬ ((0 ≤ a ∧ a < 50) ∧ (0 ≤ b ∧ b ≤ 15) ∧ (0 ≤ c ∧ c ≤ 8796093022207)) by omega), Bool.false_and]
    · rw [if_neg (by rw [decide_eq_true_eq]; exact h1), decide_eq_false (show ¬ ((0 ≤ a ∧ a < 50) ∧ (0 ≤ b ∧ b ≤ 15) ∧ (0 ≤ c ∧ c ≤ 8796093022207)) by omega), Bool.false_and]
  · rw [if_neg (by rw [decide_eq_true_eq]; exact h0), decide_eq_false (show ¬ ((0 ≤ a ∧ a < 50) ∧ (0 ≤ b ∧ b ≤ 15) ∧ (0 ≤ c ∧ c ≤ 8796093022207)) by omega), Bool.false_and]
theorem find_take (l : List S83) (i : Nat) (hi : i < l.length) : (oracle_known.find (l.getD i z83).f0 (l.getD i z83).f1 (l.getD i z83).f2 0 (l.take i)).isNone = decide (placeOf (l.getD i z83).f0 (l.getD i z83).f1 (l.getD i z83).f2 l = (i : Int)) := by
  have hself : oracle_known.has (l.getD i z83).f0 (l.getD i z83).f1 (l.getD i z83).f2 (l.getD i z83) = true := (has_iff _ _ _ _).2 ⟨rfl, rfl, rfl⟩
  generalize (l.getD i z83).f0 = a at *
  generalize (l.getD i z83).f1 = b at *
  generalize (l.getD i z83).f2 = c at *
  have htk : ∀ j, j < i → (l.take i).getD j z83 = l.getD j z83 := fun j hj => by
    rw [List.getD_eq_getElem?_getD, List.getElem?_take_of_lt hj, List.getD_eq_getElem?_getD]
  have hlen : (l.take i).length = i := by rw [List.length_take]; omega
  unfold placeOf
  cases hf : oracle_known.find a b c 0 l with
  | none => exact absurd hself (by rw [find_miss hf i hi]; decide)
  | some x =>
    obtain ⟨m, v⟩ := x
    obtain ⟨h1, h2, h3, h4⟩ := find_hit hf
    cases hg : oracle_known.find a b c 0 (l.take i) with
    | none =>
      have hmi : m = i := by
        rcases Nat.lt_trichotomy m i with h | h | h
        · have := find_miss hg m (by omega)
          rw [htk m h, h2] at this; cases this
        · exact h
        · have := h4 i h
          rw [hself] at this; cases this
      simp [hmi]
    | some y =>
      obtain ⟨q, u⟩ := y
      obtain ⟨g1, g2, g3, g4⟩ := find_hit hg
      rw [htk q (by omega)] at g2
      have : ¬ ((m : Int) = (i : Int)) := fun e => by
        have := h4 q (by omega)
        rw [g2] at this; cases this
      simp [this]
theorem vendmeterref_OracleMay.ev (l : List S83) (hl : l.length ≤ 1152921504606846976) : Ev (fun k => vendmeterref_OracleMay.f k l) (oracle_known.ok l) := by
  unfold vendmeterref_OracleMay.f oracle_known.ok
  by_cases h5 : (l.length : Int) > 500
  · refine Ev.pos h5 (Ev.ret ?_)
    rw [decide_eq_false (by omega)]; rfl
  · refine Ev.neg h5 ?_
    rw [decide_eq_true (show l.length ≤ 500 by omega), Bool.true_and]
    have key : ∀ d i : Nat, i + d = l.length → Ev (fun k => vendmeterref_OracleMay.l0 k (i : Int) l) (oracle_known.good l d i) := by
      intro d
      induction d with
      | zero =>
        intro i hi
        refine Ev.step (f := fun _ => some true) (fun k => ?_) (Ev.now _)
        simp only [vendmeterref_OracleMay.l0]; rw [if_neg (by omega)]
      | succ d ih =>
        intro i hi
        have hft := find_take l i (by omega)
        simp only [oracle_known.good, rd_pair]
        rw [hft]
        refine Ev.step (f := fun k => (some (oracle_known.pm (l.getD i z83) && oracle_known.tag (l.getD i z83))).bind fun t120 => (if t120 = true then ((vendmeterref_tagged.f k l (l.getD i z83).f0 (l.getD i z83).f1 (l.getD i z83).f2).bind fun t121 => (if t121 = (i : Int) then (vendmeterref_OracleMay.l0 k ((i + 1 : Nat) : Int) l) else (some false))) else (some false))) (fun k => ?_) ?_
        · simp only [vendmeterref_OracleMay.l0, rd_pair, vendmeterref_PairMay.eq]
          rw [if_pos (by omega), if_pos (by omega), wn (show i < l.length by omega) hl]
        · refine Ev.letS ?_
          cases hp : oracle_known.pm (l.getD i z83) with
          | false => exact Ev.neg (by simp) (Ev.ret (by simp))
          | true =>
            cases ht : oracle_known.tag (l.getD i z83) with
            | false => exact Ev.neg (by simp) (Ev.ret (by simp))
            | true =>
              refine Ev.pos rfl (Ev.bind (vendmeterref_tagged.ev l _ _ _ hl) ?_)
              by_cases hpl : placeOf (l.getD i z83).f0 (l.getD i z83).f1 (l.getD i z83).f2 l = (i : Int)
              · rw [decide_eq_true hpl]
                exact Ev.pos hpl (by simpa using ih (i + 1) (by omega))
              · rw [decide_eq_false hpl]
                exact Ev.neg hpl (Ev.now _)
    exact key l.length 0 (by omega)
theorem vendmeterlaw_sameOracle.ev (l) (hl : l.length ≤ 1152921504606846976) : Ev (fun k => vendmeterlaw_sameOracle.f k l l) true := by
  unfold vendmeterlaw_sameOracle.f
  refine Ev.pos rfl (same_ev (l := fun k i => vendmeterlaw_sameOracle.l0 k i l l) hl (fun k i hi => ?_) (fun k => ?_))
  · simp only [vendmeterlaw_sameOracle.l0]; rw [if_pos (by omega), if_pos (by omega), if_pos (by omega)]; simp
  · simp only [vendmeterlaw_sameOracle.l0]; rw [if_neg (by omega)]
theorem vendmeterlaw_oracles.eq (l) (h : l.length * 32 ≤ 140737488351232) : vendmeterlaw_oracles.f l = some l := by
  unfold vendmeterlaw_oracles.f
  rw [if_pos (by simp only [List.length_nil]; omega)]; rfl

theorem getD_take_succ (l : List S83) (i : Nat) (hi : i < l.length) : l.take i ++ [l.getD i z83] = l.take (i + 1) := by
  rw [List.take_add_one, List.getD_eq_getElem?_getD, List.getElem?_eq_getElem hi]; rfl
theorem vendmeterref_OracleCopy.ev (l : List S83) (hl : l.length ≤ 1000) : Ev (fun k => vendmeterref_OracleCopy.f k l) l := by
  unfold vendmeterref_OracleCopy.f
  refine down (P := fun j => Ev (fun k => vendmeterref_OracleCopy.l0 k (l.take j) (j : Int) l) l) (n := l.length) ?_ (fun j hj h => ?_)
  · refine Ev.step (f := fun _ => some l) (fun k => ?_) (Ev.now _)
    simp only [vendmeterref_OracleCopy.l0]; rw [if_neg (by omega), List.take_length]
  · refine Ev.step (fun k => ?_) h
    have ht : (l.take j).length = j := by rw [List.length_take]; omega
    simp only [vendmeterref_OracleCopy.l0, rd_pair]
    rw [if_pos (by omega), if_pos (by omega), if_pos (by omega), wn hj (by omega), ← getD_take_succ l j hj]
theorem oracle_known.ok_len {l : List S83} (h : oracle_known.ok l = true) : l.length ≤ 500 := by
  unfold oracle_known.ok at h; rw [Bool.and_eq_true, decide_eq_true_eq] at h; exact h.1
theorem vendmeterref_Issued.ev (l : List S83) (a b c t : Int) (r : List S83 × Int × Int) (hl : l.length ≤ 1152921504606846976) (h : oracle_Issue.f l a b c t = some r) : Ev (fun k => vendmeterref_Issued.f k l a b c t) r ∧ r.1.length ≤ l.length + 1 := by
  unfold oracle_Issue.f at h
  unfold vendmeterref_Issued.f
  by_cases hok : oracle_known.ok l = true
  · rw [if_pos hok] at h
    have hlen := oracle_known.ok_len hok
    by_cases hpm : oracle_known.pm ⟨a, b, c, t⟩ = true
    · rw [if_pos hpm] at h
      by_cases h0 : t < 0
      · rw [if_pos h0] at h
        cases h
        refine ⟨Ev.bind (vendmeterref_OracleMay.ev l hl) (Ev.pos hok (Ev.bind (Ev.some_ (vendmeterref_PairMay.eq a b c t)) (Ev.neg ?_ (Ev.ret rfl)))), by simp⟩
        simp only [oracle_known.tag, Bool.and_eq_true, decide_eq_true_eq]; omega
      · rw [if_neg h0] at h
        by_cases h1 : t > 65535
        · rw [if_pos h1] at h
          cases h
          refine ⟨Ev.bind (vendmeterref_OracleMay.ev l hl) (Ev.pos hok (Ev.bind (Ev.some_ (vendmeterref_PairMay.eq a b c t)) (Ev.neg ?_ (Ev.ret rfl)))), by simp⟩
          simp only [oracle_known.tag, Bool.and_eq_true, decide_eq_true_eq]; omega
        · rw [if_neg h1] at h
          have ht : (oracle_known.pm ⟨a, b, c, t⟩ && oracle_known.tag ⟨a, b, c, t⟩) = true := by
            rw [hpm, Bool.true_and]; simp only [oracle_known.tag, decide_eq_true_eq]; omega
          have main : Ev (fun k => (vendmeterref_tagged.f k l a b c).bind fun t141 => (if t141 ≥ 0 then (if 0 ≤ t141 then (if t141 < (l.length : Int) then (some (l, (rd_T83 l t141).f3, 0)) else (none)) else (none)) else (if (l.length : Int) = 500 then (some (([] : List (S83)), 0, 16)) else (if l.length < 4398046511104 then (some ((l ++ [(⟨a, b, c, t⟩ : S83)]), t, 0)) else (none))))) r ∧ r.1.length ≤ l.length + 1 := by
            cases hf : oracle_known.find a b c 0 l with
            | some x =>
              obtain ⟨i, v⟩ := x
              rw [hf] at h
              cases h
              obtain ⟨h1, h2, h3, h4⟩ := find_hit hf
              refine ⟨Ev.bind (vendmeterref_tagged.ev l a b c hl) ?_, by simp⟩
              unfold placeOf
              rw [hf]
              simp only [rd_pair]
              exact Ev.pos (by omega) (Ev.pos (by omega) (Ev.pos (by omega) (Ev.ret (by rw [h3]))))
            | none =>
              rw [hf] at h
              have hpl : placeOf a b c l = -1 := by unfold placeOf; rw [hf]
              by_cases h5 : (l.length : Int) = 500
              · rw [if_pos h5] at h
                cases h
                exact ⟨Ev.bind (vendmeterref_tagged.ev l a b c hl) (Ev.neg (by rw [hpl]; decide) (Ev.pos h5 (Ev.ret rfl))), by simp⟩
              · rw [if_neg h5] at h
                cases h
                exact ⟨Ev.bind (vendmeterref_tagged.ev l a b c hl) (Ev.neg (by rw [hpl]; decide) (Ev.neg h5 (Ev.pos (by omega) (Ev.ret rfl)))), by simp⟩
          exact ⟨Ev.bind (vendmeterref_OracleMay.ev l hl) (Ev.pos hok (Ev.bind (Ev.some_ (vendmeterref_PairMay.eq a b c t)) (Ev.pos ht (Ev.bind (vendmeterref_OracleCopy.ev l (by omega)) main.1)))), main.2⟩
    · rw [if_neg hpm] at h
      cases h
      refine ⟨Ev.bind (vendmeterref_OracleMay.ev l hl) (Ev.pos hok (Ev.bind (Ev.some_ (vendmeterref_PairMay.eq a b c t)) (Ev.neg ?_ (Ev.ret rfl)))), by simp⟩
      rw [Bool.eq_false_iff.mpr hpm]; simp
  · rw [if_neg hok] at h
    cases h
    exact ⟨Ev.bind (vendmeterref_OracleMay.ev l hl) (Ev.neg hok (Ev.ret rfl)), by simp⟩
theorem oracle_Issue.some (l : List S83) (a b c t : Int) : ∃ r, oracle_Issue.f l a b c t = some r := by
  unfold oracle_Issue.f
  split
  · split
    · split
      · exact ⟨_, rfl⟩
      · split
        · exact ⟨_, rfl⟩
        · split
          · exact ⟨_, rfl⟩
          · split
            · exact ⟨_, rfl⟩
            · exact ⟨_, rfl⟩
    · exact ⟨_, rfl⟩
  · exact ⟨_, rfl⟩
theorem OracleIssues : vendmeterlaw_OracleIssues.Pure := by
  intro l a b c t h _ _ _ _
  refine Ev.rounds ?_
  unfold vendmeterlaw_OracleIssues.f
  rw [vendmeterlaw_oracles.eq l h.1]
  have hl := h.1
  obtain ⟨r, hr⟩ := oracle_Issue.some l a b c t
  obtain ⟨h1, h2⟩ := vendmeterref_Issued.ev l a b c t r (by omega) hr
  exact Ev.letS (Ev.bind (Ev.some_ hr) (Ev.bind h1 (Ev.pos rfl (Ev.pos rfl (Ev.bind (vendmeterlaw_sameOracle.ev r.1 (by omega)) (Ev.pos rfl (Ev.bind (vendmeterlaw_sameOracle.ev l (by omega)) (Ev.now _))))))))

end Go.Proofs.Ytgelnjcohnfmhaa.Pure
