/- vendmeterlaw.CalWeekdays returns true at every day number: calendar.Weekday answers as the reference does. No condition. -/
import Derived.Test.YtgaohlmdmpdabaaPCalWeekdaysx1
namespace Go.Proofs.Ytgaohlmdmpdabaa.Pure
open Go.RowKit Go.Proofs.Ytgaohlmdmpdabaa.PCalWeekdays Go.Proofs.YtgaohlmdmpdabaaW.PrintWords Go.Proofs.YtgaohlmdmpdabaaW.PrintLast

theorem week_steps : ∀ r : Nat, r < 7 → vendmeterref_WeekdayOf.l0 8 (r : Int) 5 0 = some (((r : Int) + 5) % 7, 0) := by
  intro r hr
  match r, hr with
  | 0, _ => decide +kernel
  | 1, _ => decide +kernel
  | 2, _ => decide +kernel
  | 3, _ => decide +kernel
  | 4, _ => decide +kernel
  | 5, _ => decide +kernel
  | 6, _ => decide +kernel
theorem week_mod : ∀ (k : Nat) (a : Int) (x y : Int), 0 ≤ a → vendmeterref_WeekdayOf.l0 k a x y = vendmeterref_WeekdayOf.l0 k (a % 7) x y := by
  intro k
  induction k with
  | zero => intro a x y h; rfl
  | succ k ih =>
    intro a x y h
    have t1 : Int.tmod a 7 = a % 7 := Int.tmod_eq_emod_of_nonneg h
    have t2 : Int.tmod (a % 7) 7 = a % 7 := by rw [Int.tmod_eq_emod_of_nonneg (by omega)]; omega
    simp only [vendmeterref_WeekdayOf.l0, t1, t2]
    rw [ih a 0 _ h, ih a (wrap64 (x + 1)) _ h]

theorem CalWeekdays : vendmeterlaw_CalWeekdays.Pure := by
  intro a _
  refine ⟨8, ?_⟩
  unfold vendmeterlaw_CalWeekdays.f calendar_Weekday.f vendmeterref_WeekdayOf.f vendmeterref_In.f
  by_cases h1 : a < 0
  · have h1' : ¬ 0 ≤ a := by omega
    simp [h1, h1']
  · by_cases h2 : a > 73048
    · have h2' : ¬ a ≤ 73048 := by omega
      have h1' : 0 ≤ a := by omega
      simp [h1, h2, h1', h2']
    · have h1' : 0 ≤ a := by omega
      have h2' : a ≤ 73048 := by omega
      have e := week_mod 8 a 5 0 h1'
      obtain ⟨r, hr⟩ := Int.eq_ofNat_of_zero_le (show 0 ≤ a % 7 by omega)
      have hs := week_steps r (by omega)
      rw [hr, hs] at e
      have w : wrap64 (a + 5) = a + 5 := IntWalk.wrap64_in _ ⟨by omega, by omega⟩
      have t : Int.tmod (a + 5) 7 = (a + 5) % 7 := Int.tmod_eq_emod_of_nonneg (by omega)
      have m : (a + 5) % 7 = ((r : Int) + 5) % 7 := by omega
      simp [h1, h2, h1', h2', e, w, t, m]

end Go.Proofs.Ytgaohlmdmpdabaa.Pure
