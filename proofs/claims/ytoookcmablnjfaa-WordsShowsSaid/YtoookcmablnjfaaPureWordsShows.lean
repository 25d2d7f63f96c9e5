/- vendmeterlaw.WordsShows returns true at every three words: words.Show writes the digits that the reference writes. No condition. -/
import Derived.Test.YtoookcmablnjfaaPWordsShowsxL
import Derived.Test.YtoookcmablnjfaaXLib
set_option linter.unusedVariables false
set_option linter.unusedSimpArgs false
namespace Go.Proofs.Ytoookcmablnjfaa.Pure
open Go.RowKit Go.Proofs.Ytoookcmablnjfaa.PWordsShows Go.Proofs.YtoookcmablnjfaaW.PrintWords Go.Proofs.YtoookcmablnjfaaW.PrintLast Go.Proofs.YtoookcmablnjfaaW.PrintMore Go.Proofs.YtoookcmablnjfaaW.XLib

def rvG {α : Type} (z : α) (l : List α) (i : Nat) : List α := (List.range l.length).map fun t => if t < i ∨ l.length ≤ t + i then l.getD (l.length - 1 - t) z else l.getD t z
theorem rvG_len {α : Type} (z : α) (l : List α) (i : Nat) : (rvG z l i).length = l.length := by simp [rvG]
theorem rvG_get {α : Type} (z : α) (l : List α) (i t : Nat) (ht : t < l.length) : (rvG z l i)[t]? = some (if t < i ∨ l.length ≤ t + i then l.getD (l.length - 1 - t) z else l.getD t z) := by
  simp [rvG, List.getElem?_map, List.getElem?_range ht]
theorem rvG_getD {α : Type} (z : α) (l : List α) (i t : Nat) (ht : t < l.length) : (rvG z l i).getD t z = if t < i ∨ l.length ≤ t + i then l.getD (l.length - 1 - t) z else l.getD t z := by
  rw [List.getD_eq_getElem?_getD, rvG_get z l i t ht]; rfl
theorem rvG_zero {α : Type} (z : α) (l : List α) : rvG z l 0 = l := by
  apply List.ext_getElem?
  intro t
  by_cases ht : t < l.length
  · rw [rvG_get z l 0 t ht, if_neg (by omega), List.getD_eq_getElem?_getD, List.getElem?_eq_getElem ht]; rfl
  · rw [List.getElem?_eq_none (by rw [rvG_len]; omega), List.getElem?_eq_none (by omega)]
theorem rvG_end {α : Type} (z : α) (l : List α) (i : Nat) (hi : l.length ≤ i + i + 1) : rvG z l i = l.reverse := by
  apply List.ext_getElem?
  intro t
  by_cases ht : t < l.length
  · rw [rvG_get z l i t ht, List.getElem?_reverse ht]
    by_cases hc : t < i ∨ l.length ≤ t + i
    · rw [if_pos hc, List.getD_eq_getElem?_getD, List.getElem?_eq_getElem (show l.length - 1 - t < l.length by omega)]; rfl
    · rw [if_neg hc, show l.length - 1 - t = t by omega, List.getD_eq_getElem?_getD, List.getElem?_eq_getElem ht]; rfl
  · rw [List.getElem?_eq_none (by rw [rvG_len]; omega), List.getElem?_eq_none (by rw [List.length_reverse]; omega)]
theorem rvG_step {α : Type} (z : α) (l : List α) (i : Nat) (hi : i + i + 1 < l.length) : ((rvG z l i).set i ((rvG z l i).getD (l.length - 1 - i) z)).set (l.length - 1 - i) ((rvG z l i).getD i z) = rvG z l (i + 1) := by
  apply List.ext_getElem?
  intro t
  by_cases ht : t < l.length
  · rw [rvG_get z l (i + 1) t ht, List.getElem?_set, List.length_set, rvG_len, List.getElem?_set, rvG_len, rvG_get z l i t ht, rvG_getD z l i i (by omega), rvG_getD z l i (l.length - 1 - i) (by omega)]
    by_cases h1 : l.length - 1 - i = t
    · rw [if_pos h1, if_pos (by omega), if_neg (by omega), if_pos (by omega), show l.length - 1 - t = i by omega]
    · rw [if_neg h1]
      by_cases h2 : i = t
      · rw [if_pos h2, if_pos (by omega), if_neg (by omega), if_pos (by omega), h2]
      · rw [if_neg h2]
        by_cases hc : t < i ∨ l.length ≤ t + i
        · rw [if_pos hc, if_pos (by omega)]
        · rw [if_neg hc, if_neg (by omega)]
  · rw [List.getElem?_eq_none (by rw [List.length_set, List.length_set, rvG_len]; omega), List.getElem?_eq_none (by rw [rvG_len]; omega)]
theorem rd_strOf (l : List ByteArray) (i : Nat) : rdOf ByteArray.empty l (i : Int) = l.getD i ByteArray.empty := Eq.trans rfl rfl
theorem slices_Reverse_string_string.ev (l : List ByteArray) (hl : l.length ≤ 1152921504606846976) : Ev (fun k => slices_Reverse_string_string.f k l) l.reverse := by
  unfold slices_Reverse_string_string.f
  rw [wr (a := (l.length : Int) - 1) ⟨by omega, by omega⟩]
  have key := down (P := fun i => Ev (fun k => slices_Reverse_string_string.l0 k (rvG ByteArray.empty l i) (i : Int) ((l.length : Int) - 1 - i)) l.reverse) (n := l.length / 2) (by
    refine Ev.succ ?_
    simp only [slices_Reverse_string_string.l0]
    exact Ev.neg (by omega) (Ev.ret (rvG_end _ _ _ (by omega)))) (by
    intro i hi ih
    obtain ⟨j, hj⟩ : ∃ j : Nat, (l.length : Int) - 1 - i = (j : Int) := ⟨l.length - 1 - i, by omega⟩
    have hj2 : l.length - 1 - i = j := by omega
    refine Ev.succ ?_
    simp only [slices_Reverse_string_string.l0, hj, rvG_len, rd_strOf, Int.toNat_natCast]
    refine Ev.pos (by omega) (Ev.pos (by omega) (Ev.pos (by omega) (Ev.pos (by omega) (Ev.pos (by omega) ?_))))
    have hs := rvG_step ByteArray.empty l i (by omega)
    rw [hj2] at hs
    rw [hs, wr (a := (i : Int) + 1) ⟨by omega, by omega⟩, wr (a := (j : Int) - 1) ⟨by omega, by omega⟩, show (j : Int) - 1 = (l.length : Int) - 1 - ((i + 1 : Nat) : Int) by omega]
    exact ih)
  rw [rvG_zero] at key
  have e : (l.length : Int) - 1 - ((0 : Nat) : Int) = (l.length : Int) - 1 := by omega
  rw [e] at key
  exact key
theorem enc_digit (d : Int) (h : 0 ≤ d ∧ d < 128) : (Utf8.encode d).data.toList = [UInt8.ofNat d.toNat] := by
  unfold Utf8.encode
  have hv : Utf8.valid d = true := by unfold Utf8.valid; simp; omega
  simp only [hv, if_true]
  rw [if_pos (by omega)]
theorem flat_digits : ∀ (l : List Int), (∀ d ∈ l, 0 ≤ d ∧ d < 128) → (l.map fun d => (Utf8.encode d).data.toList).flatten = l.map fun d => UInt8.ofNat d.toNat
  | [], _ => rfl
  | d :: l, h => by
    rw [List.map_cons, List.flatten_cons, enc_digit d (h d List.mem_cons_self), flat_digits l (fun x hx => h x (List.mem_cons_of_mem _ hx))]
    rfl
theorem join_empty (l : List (List UInt8)) : Lib.join l [] = l.flatten := by
  cases l with
  | nil => rfl
  | cons x r => rw [Lib.join_cons, Lib.joinTail]; simp
theorem dgs_bd (n : Nat) : ∀ d ∈ dgs n, 48 ≤ d ∧ d < 58 := by
  induction n using Nat.strongRecOn with
  | ind n ih =>
    intro d hd
    by_cases h : n < 10
    · rw [dgs_small h] at hd; simp at hd; omega
    · rw [dgs_big h] at hd
      rcases List.mem_cons.1 hd with e | e
      · omega
      · exact ih (n / 10) (by omega) d e
theorem show_join (N : Nat) (hN : (dgs N).length ≤ 1000) : strings_Join.f ((dgs N).map Utf8.encode).reverse (⟨#[]⟩ : ByteArray) = some (decB (N : Int)) := by
  unfold strings_Join.f
  have e : Lib.join (((dgs N).map Utf8.encode).reverse.map (·.data.toList)) (⟨#[]⟩ : ByteArray).data.toList = (dgs N).reverse.map fun d => UInt8.ofNat d.toNat := by
    rw [show (⟨#[]⟩ : ByteArray).data.toList = [] from rfl, join_empty, ← List.map_reverse, List.map_map]
    exact flat_digits _ (fun d hd => by have := dgs_bd N d (List.mem_reverse.1 hd); omega)
  rw [e, if_pos ⟨by rw [List.length_reverse, List.length_map]; omega, by rw [List.length_map, List.length_reverse]; omega⟩]
  rfl
theorem words3 {v : Int} (h : 0 ≤ v ∧ v < 79228162514264337593543950336) : wval [v % 4294967296, v / 4294967296 % 4294967296, v / 18446744073709551616 % 4294967296] = v := by
  simp only [wval]
  omega
theorem words_Show.l0_ev (N : Nat) (hN : (dgs N).length ≤ 1000) : ∀ (m : Nat) (a b c : Int), (0 ≤ a ∧ a < 4294967296) → (0 ≤ b ∧ b < 4294967296) → (0 ≤ c ∧ c < 4294967296) → wval [a, b, c] = (m : Int) → ∀ P : List ByteArray, P ++ (dgs m).map Utf8.encode = (dgs N).map Utf8.encode → Ev (fun k => words_Show.l0 k P a b c) (decB (N : Int)) := by
  intro m
  induction m using Nat.strongRecOn with
  | ind m ih =>
    intro a b c ha hb hc hv P hP
    have hvb : (m : Int) < 79228162514264337593543950336 := by rw [← hv]; simp only [wval]; omega
    have hlen := congrArg List.length hP
    rw [List.length_append, List.length_map, List.length_map] at hlen
    have ho : words_Over.f a b c 10 = some (((m / 10 : Nat) : Int) % 4294967296, ((m / 10 : Nat) : Int) / 4294967296 % 4294967296, ((m / 10 : Nat) : Int) / 18446744073709551616 % 4294967296, ((m % 10 : Nat) : Int), 0) := by
      unfold words_Over.f
      rw [if_pos ⟨ha, hb, hc, by decide, by decide⟩, if_neg (by decide), hv]
      have e1 : (m : Int) / 10 = ((m / 10 : Nat) : Int) := by omega
      have e2 : (m : Int) % 10 = ((m % 10 : Nat) : Int) := by omega
      rw [e1, e2]
    refine Ev.succ ?_
    simp only [words_Show.l0, ho]
    refine Ev.letS (Ev.pos (by omega) (Ev.letS ?_))
    have ed : wrap32 ((48 + ((m % 10 : Nat) : Int)) % 4294967296) = 48 + ((m % 10 : Nat) : Int) := by rw [show (48 + ((m % 10 : Nat) : Int)) % 4294967296 = 48 + ((m % 10 : Nat) : Int) by omega]; exact IntWalk.wrap32_in _ ⟨by omega, by omega⟩
    rw [ed]
    rw [dgs_step, List.map_cons] at hP
    by_cases hz : m / 10 = 0
    · rw [hz]
      refine Ev.pos (by first | rfl | simp) ?_
      rw [hz] at hP
      have e : P ++ [Utf8.encode (48 + ((m % 10 : Nat) : Int))] = (dgs N).map Utf8.encode := by rw [← hP]; rfl
      rw [e]
      refine Ev.bind (slices_Reverse_string_string.ev _ (by rw [List.length_map]; omega)) ?_
      rw [show_join N hN]
      exact Ev.letS (Ev.now _)
    · refine Ev.neg ?_ ?_
      · intro h
        simp only [Bool.and_eq_true, beq_iff_eq] at h
        omega
      · refine ih (m / 10) (by omega) _ _ _ (by omega) (by omega) (by omega) (words3 (by omega)) _ ?_
        rw [← hP, List.append_assoc]
        congr 1
        rw [dgs0, if_neg hz]
        rfl
theorem words_Show.ev {a b c : Int} (ha : 0 ≤ a ∧ a < 4294967296) (hb : 0 ≤ b ∧ b < 4294967296) (hc : 0 ≤ c ∧ c < 4294967296) : Ev (fun k => words_Show.f k a b c) (decB (wval [a, b, c])) := by
  obtain ⟨N, hN⟩ : ∃ N : Nat, wval [a, b, c] = (N : Int) := ⟨(wval [a, b, c]).toNat, by simp only [wval]; omega⟩
  have hNb : N < 79228162514264337593543950336 := by have h := hN; simp only [wval] at h; omega
  have hl := dgs_len 38 N (by omega)
  unfold words_Show.f
  rw [hN]
  exact words_Show.l0_ev N (by omega) N a b c ha hb hc hN [] rfl

theorem WordsShows : vendmeterlaw_WordsShows.Pure := by
  intro a b c h0 h1 h2
  have k0 := wfu32 h0
  have k1 := wfu32 h1
  have k2 := wfu32 h2
  refine Ev.rounds ?_
  unfold vendmeterlaw_WordsShows.f
  refine Ev.bind (words_Show.ev (by omega) (by omega) (by omega)) ?_
  unfold vendmeterref_WideShown.f
  rw [if_pos (by omega)]
  exact Ev.letS (Ev.ret (by simp))

end Go.Proofs.Ytoookcmablnjfaa.Pure
