/- vendmeterlaw.CentsParts returns true at every amount and every number of basis points: cents.Part answers as the reference does. No condition. -/
import Derived.Test.YtgaohlmdmpdabaaPCentsPartsx1
set_option linter.unusedVariables false
set_option linter.unusedSimpArgs false
namespace Go.Proofs.Ytgaohlmdmpdabaa.Pure
open Go.RowKit Go.Proofs.Ytgaohlmdmpdabaa.PCentsParts Go.Proofs.YtgaohlmdmpdabaaW.PrintWords Go.Proofs.YtgaohlmdmpdabaaW.PrintLast

theorem part_eq (a b : Int) (ha : 0 ≤ a) (ha' : a ≤ 1000000000000) (hb : 0 ≤ b) (hb' : b ≤ 10000) :
    a * b / 10000 = a / 10000 * b + a % 10000 * b / 10000 := by
  have h1 : a * b = 10000 * (a / 10000 * b) + a % 10000 * b := by
    have h := Int.mul_ediv_add_emod a 10000
    calc a * b = (10000 * (a / 10000) + a % 10000) * b := by rw [h]
      _ = 10000 * (a / 10000 * b) + a % 10000 * b := by rw [Int.add_mul, Int.mul_assoc]
  rw [h1, Int.add_comm, Int.add_mul_ediv_left _ _ (by decide), Int.add_comm]
theorem mul_bd (a b m n : Int) (ha : 0 ≤ a) (ha' : a ≤ m) (hb : 0 ≤ b) (hb' : b ≤ n) : 0 ≤ a * b ∧ a * b ≤ m * n :=
  ⟨Int.mul_nonneg ha hb, Int.mul_le_mul ha' hb' hb (by omega)⟩

theorem CentsParts : vendmeterlaw_CentsParts.Pure := by
  intro a b _ _
  unfold vendmeterlaw_CentsParts.f cents_Part.f vendmeterref_Parted.f cents_within.f vendmeterref_In.f
  by_cases h1 : 0 ≤ a
  · by_cases h2 : a ≤ 1000000000000
    · by_cases h3 : 0 ≤ b
      · by_cases h4 : b ≤ 10000
        · have e1 := part_eq a b h1 h2 h3 h4
          have m1 := mul_bd a b _ _ h1 h2 h3 h4
          have m2 := mul_bd (a / 10000) b 100000000 10000 (by omega) (by omega) h3 h4
          have m3 := mul_bd (a % 10000) b 10000 10000 (by omega) (by omega) h3 h4
          have t1 : Int.tdiv (a * b) 10000 = a * b / 10000 := Int.tdiv_eq_ediv_of_nonneg m1.1
          have t2 : Int.tdiv a 10000 = a / 10000 := Int.tdiv_eq_ediv_of_nonneg h1
          have t3 : Int.tmod a 10000 = a % 10000 := Int.tmod_eq_emod_of_nonneg h1
          have t4 : Int.tdiv (a % 10000 * b) 10000 = a % 10000 * b / 10000 := Int.tdiv_eq_ediv_of_nonneg m3.1
          have w1 : wrap64 (a * b) = a * b := IntWalk.wrap64_in _ ⟨by omega, by omega⟩
          have w2 : wrap64 (a * b / 10000) = a * b / 10000 := IntWalk.wrap64_in _ ⟨by omega, by omega⟩
          have w3 : wrap64 (a / 10000) = a / 10000 := IntWalk.wrap64_in _ ⟨by omega, by omega⟩
          have w4 : wrap64 (a / 10000 * b) = a / 10000 * b := IntWalk.wrap64_in _ ⟨by omega, by omega⟩
          have w5 : wrap64 (a % 10000 * b) = a % 10000 * b := IntWalk.wrap64_in _ ⟨by omega, by omega⟩
          have w6 : wrap64 (a % 10000 * b / 10000) = a % 10000 * b / 10000 := IntWalk.wrap64_in _ ⟨by omega, by omega⟩
          have w7 : wrap64 (a / 10000 * b + a % 10000 * b / 10000) = a / 10000 * b + a % 10000 * b / 10000 := IntWalk.wrap64_in _ ⟨by omega, by omega⟩
          simp [h1, h2, h3, h4, t1, t2, t3, t4, w1, w2, w3, w4, w5, w6, w7, ← e1]
        · simp [h1, h2, h3, h4]
      · simp [h1, h2, h3]
    · simp [h1, h2]
  · simp [h1]

end Go.Proofs.Ytgaohlmdmpdabaa.Pure
