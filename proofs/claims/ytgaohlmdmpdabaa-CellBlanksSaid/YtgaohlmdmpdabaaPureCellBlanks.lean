/- vendmeterlaw.CellBlanks returns true at every number: cell.Blank answers as the reference does. No condition. -/
import Derived.Test.YtgaohlmdmpdabaaPCellBlanksx1
set_option linter.unusedVariables false
set_option linter.unusedSimpArgs false
namespace Go.Proofs.Ytgaohlmdmpdabaa.Pure
open Go.RowKit Go.Proofs.Ytgaohlmdmpdabaa.PCellBlanks Go.Proofs.YtgaohlmdmpdabaaW.PrintWords Go.Proofs.YtgaohlmdmpdabaaW.PrintLast

theorem w1 (i : Int) (n : Nat) (h0 : 0 ≤ i) (h : i < (n : Int)) (hn : n ≤ 70368744177664) : wrap64 (i + 1) = i + 1 := IntWalk.wrap64_in _ ⟨by omega, by omega⟩
theorem same_l (l : List Int) (hl : l.length ≤ 70368744177664) : ∀ (d k : Nat) (i : Int), 0 ≤ i → i + (d : Int) = (l.length : Int) → d < k → vendmeterlaw_sameWords.l0 k l l i = some true := by
  intro d
  induction d with
  | zero =>
    intro k i h0 hi hk
    obtain ⟨k, rfl⟩ : ∃ m, k = m + 1 := ⟨k - 1, by omega⟩
    simp only [vendmeterlaw_sameWords.l0]
    rw [if_neg (by omega)]
  | succ d ih =>
    intro k i h0 hi hk
    obtain ⟨k, rfl⟩ : ∃ m, k = m + 1 := ⟨k - 1, by omega⟩
    have hlt : i < (l.length : Int) := by omega
    simp only [vendmeterlaw_sameWords.l0]
    rw [if_pos hlt, if_pos h0, if_pos hlt, if_pos trivial, w1 i l.length h0 hlt hl]
    exact ih k (i + 1) (by omega) (by omega) (by omega)
theorem same_refl (l : List Int) (hl : l.length ≤ 70368744177664) (k : Nat) (hk : l.length < k) : vendmeterlaw_sameWords.f k l l = some true := by
  unfold vendmeterlaw_sameWords.f
  rw [if_pos rfl]
  exact same_l l hl l.length k 0 (by omega) (by omega) hk

theorem blanked (n : Nat) (hn : n ≤ 2048) : ∀ (d k i : Nat), i + d = n → d < k → vendmeterref_Blanked.l0 k (n : Int) (List.replicate i 0) (i : Int) = some (List.replicate n 0, 0) := by
  intro d
  induction d with
  | zero =>
    intro k i hi hk
    obtain ⟨k, rfl⟩ : ∃ m, k = m + 1 := ⟨k - 1, by omega⟩
    obtain rfl : i = n := by omega
    simp only [vendmeterref_Blanked.l0]
    rw [if_neg (by omega)]
  | succ d ih =>
    intro k i hi hk
    obtain ⟨k, rfl⟩ : ∃ m, k = m + 1 := ⟨k - 1, by omega⟩
    simp only [vendmeterref_Blanked.l0]
    rw [if_pos (by omega), if_pos (by rw [List.length_replicate]; omega), w1 i n (by omega) (by omega) (by omega)]
    have e : List.replicate i (0 : Int) ++ [0] = List.replicate (i + 1) 0 := by rw [List.replicate_succ']
    rw [e]
    exact ih k (i + 1) (by omega) (by omega)

theorem CellBlanks : vendmeterlaw_CellBlanks.Pure := by
  intro a _
  refine ⟨2050, ?_⟩
  unfold vendmeterlaw_CellBlanks.f cell_Blank.f vendmeterref_Blanked.f vendmeterref_In.f
  have s0 := same_refl [] (by simp) 2050 (by simp)
  by_cases h1 : a < 1
  · have h1' : ¬ 1 ≤ a := by omega
    simp [h1, h1', s0]
  · by_cases h2 : a > 2048
    · have h2' : ¬ a ≤ 2048 := by omega
      have h1' : 1 ≤ a := by omega
      simp [h1, h2, h1', h2', s0]
    · obtain ⟨n, rfl⟩ := Int.eq_ofNat_of_zero_le (show 0 ≤ a by omega)
      have e := blanked n (by omega) n 2050 0 (by omega) (by omega)
      have s := same_refl (List.replicate n 0) (by rw [List.length_replicate]; omega) 2050 (by rw [List.length_replicate]; omega)
      rw [if_neg h1, if_neg h2, if_pos (by omega), Int.toNat_natCast, if_pos (by omega), if_pos (by omega)]
      have e' : vendmeterref_Blanked.l0 2050 (n : Int) [] 0 = some (List.replicate n 0, 0) := e
      simp only [Option.bind_some, decide_eq_true (show (n : Int) ≤ 2048 by omega), if_true, e', s]

end Go.Proofs.Ytgaohlmdmpdabaa.Pure
