/- vendmeterlaw.CalSpans returns true at every month number: calendar.Days answers as the reference does. No condition. -/
import Derived.Test.YtccokgnohmafjaaPCalSpansx2
import Derived.Test.YtccokgnohmafjaaXLib
set_option linter.unusedVariables false
set_option linter.unusedSimpArgs false
namespace Go.Proofs.Ytccokgnohmafjaa.Pure
open Go.RowKit Go.Proofs.Ytccokgnohmafjaa.PCalSpans Go.Proofs.YtccokgnohmafjaaW.PrintWords Go.Proofs.YtccokgnohmafjaaW.PrintLast Go.Proofs.YtccokgnohmafjaaW.PrintMore Go.Proofs.YtccokgnohmafjaaW.XLib

def leapY (y : Int) : Bool := decide (y % 4 = 0 ∧ (¬ y % 100 = 0 ∨ y % 400 = 0))
def mLen (y m : Int) : Int := if m = 2 then (if leapY y then 29 else 28) else if m = 4 ∨ m = 6 ∨ m = 9 ∨ m = 11 then 30 else 31
def cum : Nat → Int
  | 0 => 0
  | k + 1 => cum k + mLen (2000 + ((k / 12 : Nat) : Int)) (((k % 12 : Nat) : Int) + 1)
theorem mLen_bd (y m : Int) : 28 ≤ mLen y m ∧ mLen y m ≤ 31 := by
  unfold mLen
  split
  · split <;> omega
  · split <;> omega
theorem cum_bd : ∀ k : Nat, 0 ≤ cum k ∧ cum k ≤ 31 * (k : Int)
  | 0 => by simp [cum]
  | k + 1 => by
    have := cum_bd k
    have h := mLen_bd (2000 + ((k / 12 : Nat) : Int)) (((k % 12 : Nat) : Int) + 1)
    simp only [cum]
    omega
theorem cum_mono {i k : Nat} (h : i ≤ k) : cum i ≤ cum k := by
  induction k with
  | zero => rw [show i = 0 by omega]; exact Int.le_refl _
  | succ k ih =>
    rcases Nat.lt_or_ge k i with h1 | h1
    · rw [show i = k + 1 by omega]; exact Int.le_refl _
    · have := ih h1
      have h := mLen_bd (2000 + ((k / 12 : Nat) : Int)) (((k % 12 : Nat) : Int) + 1)
      simp only [cum]
      omega
def yLen (y : Int) : Int := if leapY y then 366 else 365
theorem cum_at (j r : Nat) (hr : r < 12) : cum (12 * j + r + 1) = cum (12 * j + r) + mLen (2000 + (j : Int)) ((r : Int) + 1) := by
  rw [show cum (12 * j + r + 1) = cum (12 * j + r) + mLen (2000 + (((12 * j + r) / 12 : Nat) : Int)) ((((12 * j + r) % 12 : Nat) : Int) + 1) from rfl, show (12 * j + r) / 12 = j by omega, show (12 * j + r) % 12 = r by omega]
theorem cum_year (j : Nat) : cum (12 * (j + 1)) = cum (12 * j) + yLen (2000 + (j : Int)) := by
  have h0 := cum_at j 0 (by decide)
  have h1 := cum_at j 1 (by decide)
  have h2 := cum_at j 2 (by decide)
  have h3 := cum_at j 3 (by decide)
  have h4 := cum_at j 4 (by decide)
  have h5 := cum_at j 5 (by decide)
  have h6 := cum_at j 6 (by decide)
  have h7 := cum_at j 7 (by decide)
  have h8 := cum_at j 8 (by decide)
  have h9 := cum_at j 9 (by decide)
  have h10 := cum_at j 10 (by decide)
  have h11 := cum_at j 11 (by decide)
  rw [show 12 * (j + 1) = 12 * j + 11 + 1 by omega, h11, h10, h9, h8, h7, h6, h5, h4, h3, h2, h1, h0]
  unfold mLen yLen
  cases leapY (2000 + (j : Int)) <;> simp <;> omega
def aheadOf (y : Int) : Int := (y - 1) * 365 + (y - 1) / 4 - (y - 1) / 100 + (y - 1) / 400
theorem ahead_cum : ∀ j : Nat, cum (12 * j) = aheadOf (2000 + (j : Int)) - aheadOf 2000
  | 0 => by simp [cum]
  | j + 1 => by
    rw [cum_year, ahead_cum j]
    have : aheadOf (2000 + ((j + 1 : Nat) : Int)) = aheadOf (2000 + (j : Int)) + yLen (2000 + (j : Int)) := by
      unfold aheadOf yLen leapY
      by_cases h : (2000 + (j : Int)) % 4 = 0 ∧ (¬ (2000 + (j : Int)) % 100 = 0 ∨ (2000 + (j : Int)) % 400 = 0)
      · rw [decide_eq_true h, if_pos rfl]; omega
      · rw [decide_eq_false h, if_neg (by decide)]; omega
    omega
theorem cum_end : cum 2400 = 73049 := by
  have := ahead_cum 200
  rw [show 12 * 200 = 2400 from rfl] at this
  rw [this]
  decide
theorem calendar_ahead.eq (y : Int) (h0 : 1 ≤ y) (h1 : y ≤ 10000) : calendar_ahead.f y = some (aheadOf y) := by
  unfold calendar_ahead.f aheadOf
  rw [wr (a := y - 1) ⟨by omega, by omega⟩, td (show 0 ≤ y - 1 by omega), td (show 0 ≤ y - 1 by omega), td (show 0 ≤ y - 1 by omega), wr (a := (y - 1) * 365) ⟨by omega, by omega⟩, wr (a := (y - 1) / 4) ⟨by omega, by omega⟩, wr (a := (y - 1) / 100) ⟨by omega, by omega⟩, wr (a := (y - 1) / 400) ⟨by omega, by omega⟩, wr (a := (y - 1) * 365 + (y - 1) / 4) ⟨by omega, by omega⟩, wr (a := (y - 1) * 365 + (y - 1) / 4 - (y - 1) / 100) ⟨by omega, by omega⟩, wr ⟨by omega, by omega⟩]
theorem calendar_leap.eq (y : Int) (h0 : 0 ≤ y) : calendar_leap.f y = some (leapY y) := by
  unfold calendar_leap.f leapY
  rw [tm h0, tm h0, tm h0]
  by_cases h1 : y % 4 = 0
  · rw [if_pos h1]
    by_cases h2 : y % 100 = 0
    · rw [if_pos h2]
      congr 1
      rw [Bool.eq_iff_iff]
      simp only [beq_iff_eq, decide_eq_true_eq]
      omega
    · rw [if_neg h2]
      congr 1
      symm
      rw [decide_eq_true_eq]
      omega
  · rw [if_neg h1]
    congr 1
    symm
    rw [decide_eq_false_iff_not]
    omega
theorem calendar_long.ev (y m : Int) (h0 : 0 ≤ y) : Ev (fun k => calendar_long.f k y m) (mLen y m) := by
  have j30 : (m = 4 ∨ m = 6 ∨ m = 9 ∨ m = 11) → Ev (fun k => calendar_long.j0 k y m true) (mLen y m) := by
    intro h
    refine Ev.step (f := fun _ => some 30) (fun k => rfl) (Ev.ret ?_)
    unfold mLen
    rw [if_neg (by omega), if_pos h]
  unfold calendar_long.f
  refine Ev.split (fun h => ?_) (fun h4 => Ev.split (fun h => ?_) (fun h6 => Ev.split (fun h => ?_) (fun h9 => ?_)))
  · rw [beq_iff_eq.2 h]; exact j30 (by omega)
  · rw [beq_iff_eq.2 h]; exact j30 (by omega)
  · rw [beq_iff_eq.2 h]; exact j30 (by omega)
  · by_cases h11 : m = 11
    · rw [beq_iff_eq.2 h11]; exact j30 (by omega)
    · rw [beq_eq_false_iff_ne.2 h11]
      refine Ev.succ ?_
      simp only [calendar_long.j0, Bool.false_eq_true, if_false, calendar_leap.eq y h0, Option.bind_some]
      unfold mLen
      refine Ev.iteR (fun h2 => ?_) (fun h2 => Ev.ret ?_)
      · cases leapY y
        · exact Ev.now _
        · exact Ev.now _
      · rw [if_neg (by omega)]
def dayAns (y m d : Int) : Int × Int := if (2000 ≤ y ∧ y ≤ 2199) ∧ (1 ≤ m ∧ m ≤ 12) ∧ 1 ≤ d ∧ d ≤ mLen y m then (cum (12 * (y - 2000).toNat + (m - 1).toNat) + d - 1, 0) else (0, 2)
theorem calendar_known.eq (y : Int) : calendar_known.f y = some (decide (2000 ≤ y ∧ y ≤ 2199)) := by
  unfold calendar_known.f
  by_cases h : y ≥ 2000
  · rw [if_pos h]; congr 1; rw [decide_eq_decide]; omega
  · rw [if_neg h]; congr 1; symm; rw [decide_eq_false_iff_not]; omega
theorem calendar_Day.ev (y m d : Int) : Ev (fun k => calendar_Day.f k y m d) (dayAns y m d) := by
  have jT : ∀ r, r = (0, 2) → Ev (fun k => calendar_Day.j0 k true y m d) r := by
    rintro r rfl
    exact Ev.step (f := fun _ => some (0, 2)) (fun k => rfl) (Ev.now _)
  unfold calendar_Day.f
  rw [calendar_known.eq]
  refine Ev.letS ?_
  by_cases hy : 2000 ≤ y ∧ y ≤ 2199
  · refine Ev.pos (decide_eq_true hy) ?_
    refine Ev.split (fun h => jT _ (if_neg (by omega))) (fun h1 => Ev.split (fun h => jT _ (if_neg (by omega))) (fun h2 => Ev.split (fun h => jT _ (if_neg (by omega))) (fun h3 => Ev.bind (calendar_long.ev y m (by omega)) ?_)))
    by_cases h4 : d > mLen y m
    · rw [decide_eq_true h4]
      exact jT _ (if_neg (by omega))
    · rw [decide_eq_false h4]
      have hm := mLen_bd y m
      obtain ⟨j, hj⟩ : ∃ j : Nat, y = 2000 + (j : Int) := ⟨(y - 2000).toNat, by omega⟩
      obtain ⟨n, hn⟩ : ∃ n : Nat, m = (n : Int) + 1 := ⟨(m - 1).toNat, by omega⟩
      have hc := ahead_cum j
      have hcb := cum_bd (12 * j)
      rw [← hj] at hc
      refine Ev.eq (if_pos ⟨hy, by omega, by omega⟩).symm ?_
      rw [show (y - 2000).toNat = j by omega, show (m - 1).toNat = n by omega]
      refine Ev.succ ?_
      simp only [calendar_Day.j0, Bool.false_eq_true, if_false, calendar_ahead.eq y (by omega) (by omega), calendar_ahead.eq 2000 (by decide) (by decide), Option.bind_some]
      rw [← hc, wr (a := cum (12 * j)) ⟨by omega, by omega⟩, wr (a := cum (12 * j) + d) ⟨by omega, by omega⟩, wr (a := cum (12 * j) + d - 1) ⟨by omega, by omega⟩]
      have key := down (P := fun r => Ev (fun k => calendar_Day.l0 k (cum (12 * j + r) + d - 1) ((r : Int) + 1) y m d) (cum (12 * j + n) + d - 1, 0)) (n := n) (by
        refine Ev.step (f := fun _ => some (cum (12 * j + n) + d - 1, 0)) (fun k => ?_) (Ev.now _)
        simp only [calendar_Day.l0]
        rw [if_neg (by omega)]) (by
        intro r hr ih
        have hb := cum_bd (12 * j + r)
        have hb2 := mLen_bd y ((r : Int) + 1)
        have e := cum_at j r (by omega)
        rw [← hj] at e
        refine Ev.step (f := fun k => (calendar_long.f k y ((r : Int) + 1)).bind fun t => calendar_Day.l0 k (wrap64 (cum (12 * j + r) + d - 1 + t)) (wrap64 ((r : Int) + 1 + 1)) y m d) (fun k => ?_) (Ev.bind (calendar_long.ev y _ (by omega)) ?_)
        · simp only [calendar_Day.l0]
          rw [if_pos (by omega)]
        · rw [wr (a := cum (12 * j + r) + d - 1 + mLen y ((r : Int) + 1)) ⟨by omega, by omega⟩, wr (a := (r : Int) + 1 + 1) ⟨by omega, by omega⟩]
          rw [show 12 * j + (r + 1) = 12 * j + r + 1 by omega, e] at ih
          rw [show cum (12 * j + r) + d - 1 + mLen y ((r : Int) + 1) = cum (12 * j + r) + mLen y ((r : Int) + 1) + d - 1 by omega]
          exact ih)
      simpa using key
  · exact Ev.neg (by rw [decide_eq_false hy]; decide) (jT _ (if_neg (by omega)))
theorem vendmeterref_In.eq (a b c : Int) : vendmeterref_In.f a b c = some (decide (b ≤ a ∧ a ≤ c)) := by
  unfold vendmeterref_In.f
  by_cases h : b ≤ a
  · rw [if_pos h]; simp [h]
  · rw [if_neg h]; simp [h]
theorem vendmeterref_monthLong.ev (y m : Int) (h0 : 0 ≤ y) : Ev (fun k => vendmeterref_monthLong.f k y m) (mLen y m) := by
  unfold vendmeterref_monthLong.f
  rw [tm h0, tm h0, tm h0]
  have j : ∀ x : Bool, Ev (fun k => vendmeterref_monthLong.j0 k x) (if x then 29 else 28) := by
    intro x
    cases x
    · exact Ev.step (f := fun _ => some 28) (fun k => rfl) (Ev.now _)
    · exact Ev.step (f := fun _ => some 29) (fun k => rfl) (Ev.now _)
  by_cases h2 : m = 2
  · refine Ev.pos h2 ?_
    have e : mLen y m = if leapY y then 29 else 28 := by unfold mLen; rw [if_pos h2]
    rw [e]
    by_cases a : y % 400 = 0
    · refine Ev.pos a (Ev.eq ?_ (j true))
      rw [show leapY y = true by unfold leapY; rw [decide_eq_true_eq]; omega]
    · refine Ev.neg a ?_
      by_cases b : y % 4 = 0
      · refine Ev.pos b (Ev.eq ?_ (j _))
        rw [show leapY y = (y % 100 != 0) by unfold leapY; rw [Bool.eq_iff_iff]; simp only [decide_eq_true_eq, bne_iff_ne, ne_eq]; omega]
      · refine Ev.neg b (Ev.eq ?_ (j false))
        rw [show leapY y = false by unfold leapY; rw [decide_eq_false_iff_not]; omega]
  · refine Ev.neg h2 ?_
    unfold mLen
    refine Ev.eq (if_neg h2).symm ?_
    refine Ev.split (fun h => Ev.ret (if_pos (by omega)).symm) (fun g1 => Ev.split (fun h => Ev.ret (if_pos (by omega)).symm) (fun g2 => Ev.split (fun h => Ev.ret (if_pos (by omega)).symm) (fun g3 => Ev.split (fun h => Ev.ret (if_pos (by omega)).symm) (fun g4 => Ev.ret (if_neg (by omega)).symm))))
theorem vendmeterref_DayOf.ev (y m d : Int) : Ev (fun k => vendmeterref_DayOf.f k y m d) (dayAns y m d) := by
  have jT : ∀ r, r = (0, 2) → Ev (fun k => vendmeterref_DayOf.j0 k true y m d) r := by
    rintro r rfl
    exact Ev.step (f := fun _ => some (0, 2)) (fun k => rfl) (Ev.now _)
  unfold vendmeterref_DayOf.f
  simp only [vendmeterref_In.eq, Option.bind_some]
  by_cases hy : 2000 ≤ y ∧ y ≤ 2199
  · refine Ev.pos (decide_eq_true hy) ?_
    by_cases hm : 1 ≤ m ∧ m ≤ 12
    · refine Ev.pos (decide_eq_true hm) (Ev.bind (vendmeterref_monthLong.ev y m (by omega)) ?_)
      by_cases hd : 1 ≤ d ∧ d ≤ mLen y m
      · rw [decide_eq_true hd]
        have hmb := mLen_bd y m
        obtain ⟨j, hj⟩ : ∃ j : Nat, y = 2000 + (j : Int) := ⟨(y - 2000).toNat, by omega⟩
        obtain ⟨n, hn⟩ : ∃ n : Nat, m = (n : Int) + 1 := ⟨(m - 1).toNat, by omega⟩
        refine Ev.eq (if_pos ⟨hy, hm, hd⟩).symm ?_
        rw [show (y - 2000).toNat = j by omega, show (m - 1).toNat = n by omega]
        refine Ev.succ ?_
        simp only [vendmeterref_DayOf.j0, Bool.not_true, Bool.false_eq_true, if_false]
        have key := down (P := fun i => Ev (fun k => vendmeterref_DayOf.l0 k (cum i) (i : Int) y m d) (cum (12 * j + n) + d - 1, 0)) (n := 12 * j + n) (by
          have hb := cum_bd (12 * j + n)
          refine Ev.step (f := fun _ => some (cum (12 * j + n) + d - 1, 0)) (fun k => ?_) (Ev.now _)
          simp only [vendmeterref_DayOf.l0]
          rw [wr (a := y - 2000) ⟨by omega, by omega⟩, wr (a := (y - 2000) * 12) ⟨by omega, by omega⟩, wr (a := (y - 2000) * 12 + m) ⟨by omega, by omega⟩, wr (a := (y - 2000) * 12 + m - 1) ⟨by omega, by omega⟩, if_neg (by omega), wr (a := cum (12 * j + n) + d) ⟨by omega, by omega⟩, wr (a := cum (12 * j + n) + d - 1) ⟨by omega, by omega⟩]) (by
          intro i hi ih
          have hb := cum_bd i
          have hb2 := mLen_bd (2000 + ((i / 12 : Nat) : Int)) (((i % 12 : Nat) : Int) + 1)
          refine Ev.step (f := fun k => (vendmeterref_monthLong.f k (2000 + ((i / 12 : Nat) : Int)) (((i % 12 : Nat) : Int) + 1)).bind fun t => vendmeterref_DayOf.l0 k (wrap64 (cum i + t)) (wrap64 ((i : Int) + 1)) y m d) (fun k => ?_) (Ev.bind (vendmeterref_monthLong.ev _ _ (by omega)) ?_)
          · simp only [vendmeterref_DayOf.l0]
            rw [wr (a := y - 2000) ⟨by omega, by omega⟩, wr (a := (y - 2000) * 12) ⟨by omega, by omega⟩, wr (a := (y - 2000) * 12 + m) ⟨by omega, by omega⟩, wr (a := (y - 2000) * 12 + m - 1) ⟨by omega, by omega⟩, if_pos (by omega), td (show 0 ≤ (i : Int) by omega), tm (show 0 ≤ (i : Int) by omega), show (i : Int) / 12 = ((i / 12 : Nat) : Int) by omega, show (i : Int) % 12 = ((i % 12 : Nat) : Int) by omega, wr (a := ((i / 12 : Nat) : Int)) ⟨by omega, by omega⟩, wr (a := 2000 + ((i / 12 : Nat) : Int)) ⟨by omega, by omega⟩, wr (a := ((i % 12 : Nat) : Int) + 1) ⟨by omega, by omega⟩]
          · rw [wr (a := cum i + mLen (2000 + ((i / 12 : Nat) : Int)) (((i % 12 : Nat) : Int) + 1)) ⟨by omega, by omega⟩, wn (show i < 3000 by omega) (by omega)]
            exact ih)
        exact key
      · rw [decide_eq_false hd]
        exact jT _ (if_neg (fun z => hd z.2.2))
    · exact Ev.neg (by rw [decide_eq_false hm]; decide) (jT _ (if_neg (fun z => hm z.2.1)))
  · exact Ev.neg (by rw [decide_eq_false hy]; decide) (jT _ (if_neg (fun z => hy z.1)))

def spanAns (k : Int) : Int × Int × Int := if 0 ≤ k ∧ k ≤ 2399 then ((dayAns (2000 + k / 12) (k % 12 + 1) 1).1, (dayAns (2000 + k / 12) (k % 12 + 1) 1).1 + mLen (2000 + k / 12) (k % 12 + 1) - 1, 0) else (0, 0, 2)
theorem day_bd (y m d : Int) : 0 ≤ (dayAns y m d).1 + 1 ∧ (dayAns y m d).1 ≤ 100000 := by
  unfold dayAns
  split
  · have := cum_bd (12 * (y - 2000).toNat + (m - 1).toNat)
    have := mLen_bd y m
    dsimp only
    omega
  · dsimp only; omega
theorem calendar_Days.ev (k : Int) : Ev (fun n => calendar_Days.f n k) (spanAns k) := by
  have jT : ∀ r, r = (0, 0, 2) → Ev (fun n => calendar_Days.j0 n k true) r := by
    rintro r rfl
    exact Ev.step (f := fun _ => some (0, 0, 2)) (fun k => rfl) (Ev.now _)
  unfold calendar_Days.f
  refine Ev.split (fun h => jT _ (if_neg (by omega))) (fun h0 => ?_)
  by_cases h1 : k > 2399
  · rw [decide_eq_true h1]; exact jT _ (if_neg (by omega))
  · rw [decide_eq_false h1]
    refine Ev.eq (if_pos (show 0 ≤ k ∧ k ≤ 2399 by omega)).symm (Ev.succ ?_)
    simp only [calendar_Days.j0, Bool.false_eq_true, if_false]
    rw [td (show 0 ≤ k by omega), tm (show 0 ≤ k by omega), wr (a := k / 12) ⟨by omega, by omega⟩, wr (a := 2000 + k / 12) ⟨by omega, by omega⟩, wr (a := k % 12 + 1) ⟨by omega, by omega⟩]
    refine Ev.bind (calendar_Day.ev _ _ _) (Ev.bind (calendar_long.ev _ _ (by omega)) (Ev.ret ?_))
    have hb := day_bd (2000 + k / 12) (k % 12 + 1) 1
    have hl := mLen_bd (2000 + k / 12) (k % 12 + 1)
    generalize (dayAns (2000 + k / 12) (k % 12 + 1) 1).1 = a at *
    generalize mLen (2000 + k / 12) (k % 12 + 1) = b at *
    rw [wr (a := a + b) ⟨by omega, by omega⟩, wr (a := a + b - 1) ⟨by omega, by omega⟩]
theorem vendmeterref_DaysOf.ev (k : Int) : Ev (fun n => vendmeterref_DaysOf.f n k) (spanAns k) := by
  unfold vendmeterref_DaysOf.f
  rw [vendmeterref_In.eq]
  refine Ev.letS ?_
  by_cases h : 0 ≤ k ∧ k ≤ 2399
  · refine Ev.eq (if_pos h).symm (Ev.pos (decide_eq_true h) ?_)
    rw [td (show 0 ≤ k by omega), tm (show 0 ≤ k by omega), wr (a := k / 12) ⟨by omega, by omega⟩, wr (a := 2000 + k / 12) ⟨by omega, by omega⟩, wr (a := k % 12 + 1) ⟨by omega, by omega⟩]
    refine Ev.bind (vendmeterref_DayOf.ev _ _ _) (Ev.bind (vendmeterref_monthLong.ev _ _ (by omega)) (Ev.ret ?_))
    have hb := day_bd (2000 + k / 12) (k % 12 + 1) 1
    have hl := mLen_bd (2000 + k / 12) (k % 12 + 1)
    generalize (dayAns (2000 + k / 12) (k % 12 + 1) 1).1 = a at *
    generalize mLen (2000 + k / 12) (k % 12 + 1) = b at *
    rw [wr (a := a + b) ⟨by omega, by omega⟩, wr (a := a + b - 1) ⟨by omega, by omega⟩]
  · exact Ev.eq (if_neg h).symm (Ev.neg (by rw [decide_eq_false h]; decide) (Ev.now _))
theorem CalSpans : vendmeterlaw_CalSpans.Pure := by
  intro k _
  refine Ev.rounds ?_
  unfold vendmeterlaw_CalSpans.f
  exact Ev.bind (calendar_Days.ev k) (Ev.bind (vendmeterref_DaysOf.ev k) (Ev.pos rfl (Ev.pos rfl (Ev.ret (by simp)))))

end Go.Proofs.Ytccokgnohmafjaa.Pure
