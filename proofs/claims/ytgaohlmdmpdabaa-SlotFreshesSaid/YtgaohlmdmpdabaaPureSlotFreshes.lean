/- vendmeterlaw.SlotFreshes returns true at every number: slot.Fresh answers as the reference does. No condition. -/
import Derived.Test.YtgaohlmdmpdabaaPSlotFreshesx1
set_option linter.unusedVariables false
set_option linter.unusedSimpArgs false
namespace Go.Proofs.Ytgaohlmdmpdabaa.Pure
open Go.RowKit Go.Proofs.Ytgaohlmdmpdabaa.PSlotFreshes Go.Proofs.YtgaohlmdmpdabaaW.PrintWords Go.Proofs.YtgaohlmdmpdabaaW.PrintLast

theorem w1 (i : Int) (n : Nat) (h0 : 0 ≤ i) (h : i < (n : Int)) (hn : n ≤ 70368744177664) : wrap64 (i + 1) = i + 1 := IntWalk.wrap64_in _ ⟨by omega, by omega⟩
theorem same_l (l : List Int) (hl : l.length ≤ 70368744177664) : ∀ (d k : Nat) (i : Int), 0 ≤ i → i + (d : Int) = (l.length : Int) → d < k → vendmeterlaw_sameWords.l0 k l l i = some true := by
  intro d
  induction d with
  | zero =>
    intro k i h0 hi hk
    obtain ⟨k, rfl⟩ : ∃ m, k = m + 1 := ⟨k - 1, by omega⟩
    simp only [vendmeterlaw_sameWords.l0]
    rw [if_neg (by omega)]
  | succ d ih =>
    intro k i h0 hi hk
    obtain ⟨k, rfl⟩ : ∃ m, k = m + 1 := ⟨k - 1, by omega⟩
    have hlt : i < (l.length : Int) := by omega
    simp only [vendmeterlaw_sameWords.l0]
    rw [if_pos hlt, if_pos h0, if_pos hlt, if_pos trivial, w1 i l.length h0 hlt hl]
    exact ih k (i + 1) (by omega) (by omega) (by omega)
theorem same_refl (l : List Int) (hl : l.length ≤ 70368744177664) (k : Nat) (hk : l.length < k) : vendmeterlaw_sameWords.f k l l = some true := by
  unfold vendmeterlaw_sameWords.f
  rw [if_pos rfl]
  exact same_l l hl l.length k 0 (by omega) (by omega) hk

theorem fresh_l (n : Nat) (hn : n ≤ 64) : ∀ (d k i : Nat), i + d = 2 * n + 1 → d < k → vendmeterref_SlotFresh.l0 k (n : Int) (1 :: List.replicate i 0) = some (1 :: List.replicate (2 * n + 1) 0, 0) := by
  intro d
  have e2 : wrap64 (2 * (n : Int)) = 2 * (n : Int) := IntWalk.wrap64_in _ ⟨by omega, by omega⟩
  have e3 : wrap64 (2 * (n : Int) + 2) = 2 * (n : Int) + 2 := IntWalk.wrap64_in _ ⟨by omega, by omega⟩
  induction d with
  | zero =>
    intro k i hi hk
    obtain ⟨k, rfl⟩ : ∃ m, k = m + 1 := ⟨k - 1, by omega⟩
    obtain rfl : i = 2 * n + 1 := by omega
    simp only [vendmeterref_SlotFresh.l0, e2, e3]
    rw [if_neg (by simp; omega)]
  | succ d ih =>
    intro k i hi hk
    obtain ⟨k, rfl⟩ : ∃ m, k = m + 1 := ⟨k - 1, by omega⟩
    simp only [vendmeterref_SlotFresh.l0, e2, e3]
    rw [if_pos (by simp; omega), if_pos (by simp; omega)]
    have e : (1 : Int) :: List.replicate i 0 ++ [0] = 1 :: List.replicate (i + 1) 0 := by rw [List.replicate_succ']; rfl
    rw [e]
    exact ih k (i + 1) (by omega) (by omega)

theorem SlotFreshes : vendmeterlaw_SlotFreshes.Pure := by
  intro a _
  refine ⟨200, ?_⟩
  unfold vendmeterlaw_SlotFreshes.f slot_Fresh.f vendmeterref_SlotFresh.f vendmeterref_In.f
  have s0 := same_refl [] (by simp) 200 (by simp)
  by_cases h1 : a < 1
  · have h1' : ¬ 1 ≤ a := by omega
    simp [h1, h1', s0]
  · by_cases h2 : a > 64
    · have h2' : ¬ a ≤ 64 := by omega
      have h1' : 1 ≤ a := by omega
      simp [h1, h2, h1', h2', s0]
    · obtain ⟨n, rfl⟩ := Int.eq_ofNat_of_zero_le (show 0 ≤ a by omega)
      have e := fresh_l n (by omega) (2 * n + 1) 200 0 (by omega) (by omega)
      have s := same_refl (1 :: List.replicate (2 * n + 1) 0) (by simp; omega) 200 (by simp; omega)
      have e2 : wrap64 ((n : Int) + 1) = (n : Int) + 1 := IntWalk.wrap64_in _ ⟨by omega, by omega⟩
      have e3 : wrap64 (2 * ((n : Int) + 1)) = ((2 * n + 2 : Nat) : Int) := by rw [IntWalk.wrap64_in _ ⟨by omega, by omega⟩]; omega
      rw [e2, e3, if_neg h1, if_neg h2, if_pos (by omega), Int.toNat_natCast, if_pos (by omega), if_pos (by omega)]
      have e' : vendmeterref_SlotFresh.l0 200 (n : Int) [1] = some (1 :: List.replicate (2 * n + 1) 0, 0) := e
      have e4 : (List.replicate (2 * n + 2) (0 : Int)).set (0 : Int).toNat 1 = 1 :: List.replicate (2 * n + 1) 0 := by rw [List.replicate_succ]; rfl
      have e5 : (0 : Int) < ((List.replicate (2 * n + 2) (0 : Int)).length : Int) := by rw [List.length_replicate]; omega
      simp only [Option.bind_some, if_pos e5, e4, decide_eq_true (show (n : Int) ≤ 64 by omega), if_true, e', s]

end Go.Proofs.Ytgaohlmdmpdabaa.Pure
