/- vendmeterlaw.CalDates returns true at every day number: calendar.DateOf answers as the reference does. No condition. -/
import Derived.Test.YtccokgnohmafjaaPCalDatesx3
import Derived.Test.YtccokgnohmafjaaXLib
set_option linter.unusedVariables false
set_option linter.unusedSimpArgs false
namespace Go.Proofs.Ytccokgnohmafjaa.Pure
open Go.RowKit Go.Proofs.Ytccokgnohmafjaa.PCalDates Go.Proofs.YtccokgnohmafjaaW.PrintWords Go.Proofs.YtccokgnohmafjaaW.PrintLast Go.Proofs.YtccokgnohmafjaaW.PrintMore Go.Proofs.YtccokgnohmafjaaW.XLib

def leapY (y : Int) : Bool := decide (y % 4 = 0 ∧ (¬ y % 100 = 0 ∨ y % 400 = 0))
def mLen (y m : Int) : Int := if m = 2 then (if leapY y then 29 else 28) else if m = 4 ∨ m = 6 ∨ m = 9 ∨ m = 11 then 30 else 31
def cum : Nat → Int
  | 0 => 0
  | k + 1 => cum k + mLen (2000 + ((k / 12 : Nat) : Int)) (((k % 12 : Nat) : Int) + 1)
theorem mLen_bd (y m : Int) : 28 ≤ mLen y m ∧ mLen y m ≤ 31 := by
  unfold mLen
  split
  · split <;> omega
  · split <;> omega
theorem cum_bd : ∀ k : Nat, 0 ≤ cum k ∧ cum k ≤ 31 * (k : Int)
  | 0 => by simp [cum]
  | k + 1 => by
    have := cum_bd k
    have h := mLen_bd (2000 + ((k / 12 : Nat) : Int)) (((k % 12 : Nat) : Int) + 1)
    simp only [cum]
    omega
theorem cum_mono {i k : Nat} (h : i ≤ k) : cum i ≤ cum k := by
  induction k with
  | zero => rw [show i = 0 by omega]; exact Int.le_refl _
  | succ k ih =>
    rcases Nat.lt_or_ge k i with h1 | h1
    · rw [show i = k + 1 by omega]; exact Int.le_refl _
    · have := ih h1
      have h := mLen_bd (2000 + ((k / 12 : Nat) : Int)) (((k % 12 : Nat) : Int) + 1)
      simp only [cum]
      omega
def yLen (y : Int) : Int := if leapY y then 366 else 365
theorem cum_at (j r : Nat) (hr : r < 12) : cum (12 * j + r + 1) = cum (12 * j + r) + mLen (2000 + (j : Int)) ((r : Int) + 1) := by
  rw [show cum (12 * j + r + 1) = cum (12 * j + r) + mLen (2000 + (((12 * j + r) / 12 : Nat) : Int)) ((((12 * j + r) % 12 : Nat) : Int) + 1) from rfl, show (12 * j + r) / 12 = j by omega, show (12 * j + r) % 12 = r by omega]
theorem cum_year (j : Nat) : cum (12 * (j + 1)) = cum (12 * j) + yLen (2000 + (j : Int)) := by
  have h0 := cum_at j 0 (by decide)
  have h1 := cum_at j 1 (by decide)
  have h2 := cum_at j 2 (by decide)
  have h3 := cum_at j 3 (by decide)
  have h4 := cum_at j 4 (by decide)
  have h5 := cum_at j 5 (by decide)
  have h6 := cum_at j 6 (by decide)
  have h7 := cum_at j 7 (by decide)
  have h8 := cum_at j 8 (by decide)
  have h9 := cum_at j 9 (by decide)
  have h10 := cum_at j 10 (by decide)
  have h11 := cum_at j 11 (by decide)
  rw [show 12 * (j + 1) = 12 * j + 11 + 1 by omega, h11, h10, h9, h8, h7, h6, h5, h4, h3, h2, h1, h0]
  unfold mLen yLen
  cases leapY (2000 + (j : Int)) <;> simp <;> omega
def aheadOf (y : Int) : Int := (y - 1) * 365 + (y - 1) / 4 - (y - 1) / 100 + (y - 1) / 400
theorem ahead_cum : ∀ j : Nat, cum (12 * j) = aheadOf (2000 + (j : Int)) - aheadOf 2000
  | 0 => by simp [cum]
  | j + 1 => by
    rw [cum_year, ahead_cum j]
    have : aheadOf (2000 + ((j + 1 : Nat) : Int)) = aheadOf (2000 + (j : Int)) + yLen (2000 + (j : Int)) := by
      unfold aheadOf yLen leapY
      by_cases h : (2000 + (j : Int)) % 4 = 0 ∧ (¬ (2000 + (j : Int)) % 100 = 0 ∨ (2000 + (j : Int)) % 400 = 0)
      · rw [decide_eq_true h, if_pos rfl]; omega
      · rw [decide_eq_false h, if_neg (by decide)]; omega
    omega
theorem cum_end : cum 2400 = 73049 := by
  have := ahead_cum 200
  rw [show 12 * 200 = 2400 from rfl] at this
  rw [this]
  decide
theorem calendar_ahead.eq (y : Int) (h0 : 1 ≤ y) (h1 : y ≤ 10000) : calendar_ahead.f y = some (aheadOf y) := by
  unfold calendar_ahead.f aheadOf
  rw [wr (a := y - 1) ⟨by omega, by omega⟩, td (show 0 ≤ y - 1 by omega), td (show 0 ≤ y - 1 by omega), td (show 0 ≤ y - 1 by omega), wr (a := (y - 1) * 365) ⟨by omega, by omega⟩, wr (a := (y - 1) / 4) ⟨by omega, by omega⟩, wr (a := (y - 1) / 100) ⟨by omega, by omega⟩, wr (a := (y - 1) / 400) ⟨by omega, by omega⟩, wr (a := (y - 1) * 365 + (y - 1) / 4) ⟨by omega, by omega⟩, wr (a := (y - 1) * 365 + (y - 1) / 4 - (y - 1) / 100) ⟨by omega, by omega⟩, wr ⟨by omega, by omega⟩]
theorem calendar_leap.eq (y : Int) (h0 : 0 ≤ y) : calendar_leap.f y = some (leapY y) := by
  unfold calendar_leap.f leapY
  rw [tm h0, tm h0, tm h0]
  by_cases h1 : y % 4 = 0
  · rw [if_pos h1]
    by_cases h2 : y % 100 = 0
    · rw [if_pos h2]
      congr 1
      rw [Bool.eq_iff_iff]
      simp only [beq_iff_eq, decide_eq_true_eq]
      omega
    · rw [if_neg h2]
      congr 1
      symm
      rw [decide_eq_true_eq]
      omega
  · rw [if_neg h1]
    congr 1
    symm
    rw [decide_eq_false_iff_not]
    omega
theorem calendar_long.ev (y m : Int) (h0 : 0 ≤ y) : Ev (fun k => calendar_long.f k y m) (mLen y m) := by
  have j30 : (m = 4 ∨ m = 6 ∨ m = 9 ∨ m = 11) → Ev (fun k => calendar_long.j0 k y m true) (mLen y m) := by
    intro h
    refine Ev.step (f := fun _ => some 30) (fun k => rfl) (Ev.ret ?_)
    unfold mLen
    rw [if_neg (by omega), if_pos h]
  unfold calendar_long.f
  refine Ev.split (fun h => ?_) (fun h4 => Ev.split (fun h => ?_) (fun h6 => Ev.split (fun h => ?_) (fun h9 => ?_)))
  · rw [beq_iff_eq.2 h]; exact j30 (by omega)
  · rw [beq_iff_eq.2 h]; exact j30 (by omega)
  · rw [beq_iff_eq.2 h]; exact j30 (by omega)
  · by_cases h11 : m = 11
    · rw [beq_iff_eq.2 h11]; exact j30 (by omega)
    · rw [beq_eq_false_iff_ne.2 h11]
      refine Ev.succ ?_
      simp only [calendar_long.j0, Bool.false_eq_true, if_false, calendar_leap.eq y h0, Option.bind_some]
      unfold mLen
      refine Ev.iteR (fun h2 => ?_) (fun h2 => Ev.ret ?_)
      · cases leapY y
        · exact Ev.now _
        · exact Ev.now _
      · rw [if_neg (by omega)]
theorem cum_lt (k : Nat) : cum k < cum (k + 1) := by
  have h := mLen_bd (2000 + ((k / 12 : Nat) : Int)) (((k % 12 : Nat) : Int) + 1)
  simp only [cum]
  omega
theorem cum12_le : ∀ i : Nat, cum (12 * i) ≤ 366 * (i : Int)
  | 0 => by simp [cum]
  | i + 1 => by
    have := cum12_le i
    rw [cum_year]
    unfold yLen
    split <;> omega
theorem spot (n : Nat) (d : Int) (h0 : 0 ≤ d) (h : d < cum n) : ∃ k, k < n ∧ cum k ≤ d ∧ d < cum (k + 1) := by
  induction n with
  | zero => simp [cum] at h; omega
  | succ n ih =>
    by_cases hd : d < cum n
    · obtain ⟨k, a, b⟩ := ih hd
      exact ⟨k, by omega, b⟩
    · exact ⟨n, by omega, by omega, h⟩
theorem spot_day (d : Int) (h0 : 0 ≤ d) (h : d ≤ 73048) : ∃ k, k < 2400 ∧ cum k ≤ d ∧ d < cum (k + 1) := spot 2400 d h0 (by rw [cum_end]; omega)
theorem cum_succ (k : Nat) : cum (k + 1) = cum k + mLen (2000 + ((k / 12 : Nat) : Int)) (((k % 12 : Nat) : Int) + 1) := rfl
theorem year_lower (d : Int) (k : Nat) (hd : 0 ≤ d) (h : d < cum (k + 1)) : (d / 366).toNat ≤ k / 12 := by
  rcases Nat.lt_or_ge (k / 12) (d / 366).toNat with g | g
  · exfalso
    have a := cum_mono (show k + 1 ≤ 12 * (d / 366).toNat by omega)
    have b := cum12_le (d / 366).toNat
    omega
  · exact g
theorem monthLoop (d : Int) (k : Nat) (hk : k < 2400) (h1 : cum k ≤ d) (h2 : d < cum (k + 1)) : Ev (fun n => calendar_DateOf.l1 n (d - cum (12 * (k / 12))) (2000 + ((k / 12 : Nat) : Int)) 1 0) (2000 + ((k / 12 : Nat) : Int), ((k % 12 : Nat) : Int) + 1, d - cum k + 1, 0) := by
  have hd : d ≤ 100000 := by
    have := cum_mono (show k + 1 ≤ 2400 by omega)
    rw [cum_end] at this
    omega
  have hc0 := cum_bd k
  generalize hj : k / 12 = j at *
  generalize hr : k % 12 = n at *
  have hkk : k = 12 * j + n := by omega
  have hn : n < 12 := by omega
  have e2 := cum_at j n hn
  subst hkk
  have key := down (P := fun r => Ev (fun k => calendar_DateOf.l1 k (d - cum (12 * j + r)) (2000 + (j : Int)) ((r : Int) + 1) 0) (2000 + (j : Int), (n : Int) + 1, d - cum (12 * j + n) + 1, 0)) (n := n) (by
    refine Ev.succ ?_
    simp only [calendar_DateOf.l1]
    refine Ev.bind (calendar_long.ev _ _ (by omega)) (Ev.neg (by omega) (Ev.ret ?_))
    rw [wr ⟨by omega, by omega⟩]) (by
    intro r hr ih
    have e := cum_at j r (by omega)
    have hb := cum_bd (12 * j + r)
    have hb2 := mLen_bd (2000 + (j : Int)) ((r : Int) + 1)
    have hm := cum_mono (show 12 * j + r + 1 ≤ 12 * j + n by omega)
    refine Ev.succ ?_
    simp only [calendar_DateOf.l1]
    refine Ev.bind (calendar_long.ev _ _ (by omega)) (Ev.pos (by omega) (Ev.bind (calendar_long.ev _ _ (by omega)) ?_))
    rw [wr (a := d - cum (12 * j + r) - mLen (2000 + (j : Int)) ((r : Int) + 1)) ⟨by omega, by omega⟩, wr (a := (r : Int) + 1 + 1) ⟨by omega, by omega⟩]
    rw [show 12 * j + (r + 1) = 12 * j + r + 1 by omega, e] at ih
    rw [show d - cum (12 * j + r) - mLen (2000 + (j : Int)) ((r : Int) + 1) = d - (cum (12 * j + r) + mLen (2000 + (j : Int)) ((r : Int) + 1)) by omega]
    exact ih)
  simpa using key
theorem yearLoop (d : Int) (k : Nat) (hd0 : 0 ≤ d) (hk : k < 2400) (h1 : cum k ≤ d) (h2 : d < cum (k + 1)) : Ev (fun n => calendar_DateOf.l0 n (d - cum (12 * (d / 366).toNat)) (2000 + (((d / 366).toNat : Nat) : Int)) 1 0) (2000 + ((k / 12 : Nat) : Int), ((k % 12 : Nat) : Int) + 1, d - cum k + 1, 0) := by
  have hd : d ≤ 100000 := by
    have := cum_mono (show k + 1 ≤ 2400 by omega)
    rw [cum_end] at this
    omega
  have hlow := year_lower d k hd0 h2
  have hend := monthLoop d k hk h1 h2
  generalize hj0 : (d / 366).toNat = j0 at *
  have hup := cum_mono (show k + 1 ≤ 12 * (k / 12 + 1) by omega)
  rw [cum_year] at hup
  generalize (2000 + ((k / 12 : Nat) : Int), ((k % 12 : Nat) : Int) + 1, d - cum k + 1, (0 : Int)) = R at *
  have hlo := cum_mono (show 12 * (k / 12) ≤ k by omega)
  have hjb : k / 12 < 200 := by omega
  generalize k / 12 = j at *
  have key := down (P := fun r => Ev (fun n => calendar_DateOf.l0 n (d - cum (12 * (j0 + r))) (2000 + ((j0 + r : Nat) : Int)) 1 0) R) (n := j - j0) (by
    show Ev (fun n => calendar_DateOf.l0 n (d - cum (12 * (j0 + (j - j0)))) (2000 + ((j0 + (j - j0) : Nat) : Int)) 1 0) R
    rw [show j0 + (j - j0) = j by omega]
    refine Ev.succ ?_
    simp only [calendar_DateOf.l0, calendar_leap.eq _ (show (0 : Int) ≤ 2000 + (j : Int) by omega), Option.bind_some]
    have hE : Ev (fun n => calendar_DateOf.j2 n (d - cum (12 * j)) (2000 + (j : Int)) 1 0) R := Ev.succ hend
    unfold yLen at hup
    cases hL : leapY (2000 + (j : Int)) with
    | true => rw [hL, if_pos rfl] at hup; exact Ev.pos rfl (Ev.pos (by omega) hE)
    | false => rw [hL, if_neg (by decide)] at hup; exact Ev.neg (by decide) (Ev.pos (by omega) hE)) (by
    intro r hr ih
    have e := cum_year (j0 + r)
    have hm := cum_mono (show 12 * (j0 + r + 1) ≤ 12 * j by omega)
    have hb := cum_bd (12 * (j0 + r))
    rw [show j0 + (r + 1) = j0 + r + 1 by omega] at ih
    rw [e] at ih hm
    generalize cum (12 * (j0 + r)) = c at *
    unfold yLen at ih hm
    refine Ev.succ ?_
    simp only [calendar_DateOf.l0, calendar_leap.eq _ (show (0 : Int) ≤ 2000 + ((j0 + r : Nat) : Int) by omega), Option.bind_some]
    cases hL : leapY (2000 + ((j0 + r : Nat) : Int)) with
    | true =>
      rw [hL, if_pos rfl] at ih hm
      refine Ev.pos rfl (Ev.neg (by omega) ?_)
      rw [wr (a := d - c - 366) ⟨by omega, by omega⟩, wr (a := 2000 + ((j0 + r : Nat) : Int) + 1) ⟨by omega, by omega⟩, show d - c - 366 = d - (c + 366) by omega, show 2000 + ((j0 + r : Nat) : Int) + 1 = 2000 + ((j0 + r + 1 : Nat) : Int) by omega]
      exact ih
    | false =>
      rw [hL, if_neg (by decide)] at ih hm
      refine Ev.neg (by decide) (Ev.neg (by omega) ?_)
      rw [wr (a := d - c - 365) ⟨by omega, by omega⟩, wr (a := 2000 + ((j0 + r : Nat) : Int) + 1) ⟨by omega, by omega⟩, show d - c - 365 = d - (c + 365) by omega, show 2000 + ((j0 + r : Nat) : Int) + 1 = 2000 + ((j0 + r + 1 : Nat) : Int) by omega]
      exact ih)
  simpa using key
theorem calendar_DateOf.evOut (d : Int) (h : ¬ (0 ≤ d ∧ d ≤ 73048)) : Ev (fun n => calendar_DateOf.f n d) (0, 0, 0, 2) := by
  have jT : Ev (fun n => calendar_DateOf.j0 n d true) (0, 0, 0, 2) := Ev.step (f := fun _ => some (0, 0, 0, 2)) (fun k => rfl) (Ev.now _)
  unfold calendar_DateOf.f
  refine Ev.split (fun h => jT) (fun h0 => ?_)
  rw [decide_eq_true (show d > 73048 by omega)]
  exact jT
theorem calendar_DateOf.evIn (d : Int) (k : Nat) (hd0 : 0 ≤ d) (hd : d ≤ 73048) (hk : k < 2400) (h1 : cum k ≤ d) (h2 : d < cum (k + 1)) : Ev (fun n => calendar_DateOf.f n d) (2000 + ((k / 12 : Nat) : Int), ((k % 12 : Nat) : Int) + 1, d - cum k + 1, 0) := by
  unfold calendar_DateOf.f
  refine Ev.neg (by omega) ?_
  rw [decide_eq_false (show ¬ d > 73048 by omega)]
  refine Ev.succ ?_
  simp only [calendar_DateOf.j0, Bool.false_eq_true, if_false]
  have hc := ahead_cum (d / 366).toNat
  have hcb := cum_bd (12 * (d / 366).toNat)
  rw [td hd0, wr (a := d / 366) ⟨by omega, by omega⟩, wr (a := 2000 + d / 366) ⟨by omega, by omega⟩, calendar_ahead.eq _ (by omega) (by omega), calendar_ahead.eq 2000 (by decide) (by decide)]
  refine Ev.letS (Ev.letS ?_)
  have e := yearLoop d k hd0 hk h1 h2
  rw [show 2000 + d / 366 = 2000 + (((d / 366).toNat : Nat) : Int) by omega, ← hc, wr (a := cum (12 * (d / 366).toNat)) ⟨by omega, by omega⟩, wr (a := d - cum (12 * (d / 366).toNat)) ⟨by omega, by omega⟩]
  exact e
theorem vendmeterref_In.eq (a b c : Int) : vendmeterref_In.f a b c = some (decide (b ≤ a ∧ a ≤ c)) := by
  unfold vendmeterref_In.f
  by_cases h : b ≤ a
  · rw [if_pos h]; simp [h]
  · rw [if_neg h]; simp [h]
theorem vendmeterref_monthLong.ev (y m : Int) (h0 : 0 ≤ y) : Ev (fun k => vendmeterref_monthLong.f k y m) (mLen y m) := by
  unfold vendmeterref_monthLong.f
  rw [tm h0, tm h0, tm h0]
  have j : ∀ x : Bool, Ev (fun k => vendmeterref_monthLong.j0 k x) (if x then 29 else 28) := by
    intro x
    cases x
    · exact Ev.step (f := fun _ => some 28) (fun k => rfl) (Ev.now _)
    · exact Ev.step (f := fun _ => some 29) (fun k => rfl) (Ev.now _)
  by_cases h2 : m = 2
  · refine Ev.pos h2 ?_
    have e : mLen y m = if leapY y then 29 else 28 := by unfold mLen; rw [if_pos h2]
    rw [e]
    by_cases a : y % 400 = 0
    · refine Ev.pos a (Ev.eq ?_ (j true))
      rw [show leapY y = true by unfold leapY; rw [decide_eq_true_eq]; omega]
    · refine Ev.neg a ?_
      by_cases b : y % 4 = 0
      · refine Ev.pos b (Ev.eq ?_ (j _))
        rw [show leapY y = (y % 100 != 0) by unfold leapY; rw [Bool.eq_iff_iff]; simp only [decide_eq_true_eq, bne_iff_ne, ne_eq]; omega]
      · refine Ev.neg b (Ev.eq ?_ (j false))
        rw [show leapY y = false by unfold leapY; rw [decide_eq_false_iff_not]; omega]
  · refine Ev.neg h2 ?_
    unfold mLen
    refine Ev.eq (if_neg h2).symm ?_
    refine Ev.split (fun h => Ev.ret (if_pos (by omega)).symm) (fun g1 => Ev.split (fun h => Ev.ret (if_pos (by omega)).symm) (fun g2 => Ev.split (fun h => Ev.ret (if_pos (by omega)).symm) (fun g3 => Ev.split (fun h => Ev.ret (if_pos (by omega)).symm) (fun g4 => Ev.ret (if_neg (by omega)).symm))))
theorem vendmeterref_monthFrom.ev (d : Int) (k : Nat) (hd0 : 0 ≤ d) (hd : d ≤ 73048) (hk : k < 2400) (h1 : cum k ≤ d) (h2 : d < cum (k + 1)) : Ev (fun n => vendmeterref_monthFrom.f n d) ((k : Int), d - cum k) := by
  unfold vendmeterref_monthFrom.f
  have at_ : ∀ r : Nat, r ≤ k → (wrap64 (2000 + wrap64 (Int.tdiv (r : Int) 12)) = 2000 + ((r / 12 : Nat) : Int)) ∧ wrap64 (Int.tmod (r : Int) 12 + 1) = ((r % 12 : Nat) : Int) + 1 := by
    intro r hr
    rw [td (show 0 ≤ (r : Int) by omega), tm (show 0 ≤ (r : Int) by omega), wr (a := (r : Int) / 12) ⟨by omega, by omega⟩, wr (a := 2000 + (r : Int) / 12) ⟨by omega, by omega⟩, wr (a := (r : Int) % 12 + 1) ⟨by omega, by omega⟩]
    omega
  have key := down (P := fun r => Ev (fun n => vendmeterref_monthFrom.l0 n (d - cum r) (r : Int)) ((k : Int), d - cum k)) (n := k) (by
    refine Ev.succ ?_
    simp only [vendmeterref_monthFrom.l0]
    rw [(at_ k (Nat.le_refl _)).1, (at_ k (Nat.le_refl _)).2]
    rw [cum_succ] at h2
    exact Ev.bind (vendmeterref_monthLong.ev _ _ (by omega)) (Ev.neg (by omega) (Ev.now _))) (by
    intro r hr ih
    have hm := cum_mono (show r + 1 ≤ k by omega)
    have hb := cum_bd r
    refine Ev.succ ?_
    simp only [vendmeterref_monthFrom.l0]
    rw [(at_ r (by omega)).1, (at_ r (by omega)).2]
    have hb2 := mLen_bd (2000 + ((r / 12 : Nat) : Int)) (((r % 12 : Nat) : Int) + 1)
    rw [cum_succ] at ih hm
    refine Ev.bind (vendmeterref_monthLong.ev _ _ (by omega)) (Ev.pos (by omega) (Ev.bind (vendmeterref_monthLong.ev _ _ (by omega)) ?_))
    rw [wr (a := d - cum r - mLen (2000 + ((r / 12 : Nat) : Int)) (((r % 12 : Nat) : Int) + 1)) ⟨by omega, by omega⟩, wr (a := (r : Int) + 1) ⟨by omega, by omega⟩]
    rw [show d - cum r - mLen (2000 + ((r / 12 : Nat) : Int)) (((r % 12 : Nat) : Int) + 1) = d - (cum r + mLen (2000 + ((r / 12 : Nat) : Int)) (((r % 12 : Nat) : Int) + 1)) by omega]
    exact ih)
  simpa [cum] using key

theorem CalDates : vendmeterlaw_CalDates.Pure := by
  intro d _
  refine Ev.rounds ?_
  unfold vendmeterlaw_CalDates.f
  by_cases h : 0 ≤ d ∧ d ≤ 73048
  · obtain ⟨k, hk, h1, h2⟩ := spot_day d h.1 h.2
    refine Ev.bind (calendar_DateOf.evIn d k h.1 h.2 hk h1 h2) (Ev.bind (a := (2000 + ((k / 12 : Nat) : Int), ((k % 12 : Nat) : Int) + 1, d - cum k + 1, 0)) ?_ (Ev.pos (by simp) (Ev.ret (by simp))))
    unfold vendmeterref_DateFrom.f
    rw [vendmeterref_In.eq]
    refine Ev.letS (Ev.pos (decide_eq_true h) (Ev.bind (vendmeterref_monthFrom.ev d k h.1 h.2 hk h1 h2) (Ev.ret ?_)))
    have hb := cum_bd k
    dsimp only
    rw [td (show 0 ≤ (k : Int) by omega), tm (show 0 ≤ (k : Int) by omega), wr (a := (k : Int) / 12) ⟨by omega, by omega⟩, wr (a := 2000 + (k : Int) / 12) ⟨by omega, by omega⟩, wr (a := (k : Int) % 12 + 1) ⟨by omega, by omega⟩, wr (a := d - cum k + 1) ⟨by omega, by omega⟩]
    congr 1
  · refine Ev.bind (calendar_DateOf.evOut d h) (Ev.bind (a := (0, 0, 0, 2)) ?_ (Ev.pos rfl (Ev.ret rfl)))
    unfold vendmeterref_DateFrom.f
    rw [vendmeterref_In.eq]
    exact Ev.letS (Ev.neg (by rw [decide_eq_false h]; decide) (Ev.now _))

end Go.Proofs.Ytccokgnohmafjaa.Pure
