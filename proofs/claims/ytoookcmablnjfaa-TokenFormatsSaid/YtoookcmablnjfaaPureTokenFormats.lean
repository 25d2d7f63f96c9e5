/- vendmeterlaw.TokenFormats returns true at every token: token.Format writes the number with noughts ahead to twenty digits, as the reference does, or tells the same fault. No condition. -/
import Derived.Test.YtoookcmablnjfaaPTokenFormatsxL
import Derived.Test.YtoookcmablnjfaaXLib
set_option linter.unusedVariables false
set_option linter.unusedSimpArgs false
namespace Go.Proofs.Ytoookcmablnjfaa.Pure
open Go.RowKit Go.Proofs.Ytoookcmablnjfaa.PTokenFormats Go.Proofs.YtoookcmablnjfaaW.PrintWords Go.Proofs.YtoookcmablnjfaaW.PrintLast Go.Proofs.YtoookcmablnjfaaW.PrintMore Go.Proofs.YtoookcmablnjfaaW.XLib

def tokAmt (c a : Int) : Prop := (c = 0 ∧ 1 ≤ a ∧ a ≤ 2097151) ∨ (c = 2 ∧ 1 ≤ a ∧ a ≤ 15) ∨ ((c = 1 ∨ c = 3) ∧ a = 0)
instance (c a : Int) : Decidable (tokAmt c a) := by unfold tokAmt; infer_instance
def tokFault (c i a t : Int) : Int := if 0 ≤ c ∧ c ≤ 3 then (if (1 ≤ i ∧ i ≤ 1048575) ∧ (0 ≤ t ∧ t ≤ 65535) ∧ tokAmt c a then 0 else 2) else 9
theorem tok_cases (c : Int) : c = 0 ∨ c = 1 ∨ c = 2 ∨ c = 3 ∨ ¬ (0 ≤ c ∧ c ≤ 3) := by omega
theorem token_fault.eq (c i a t : Int) : token_fault.f c i a t = some (tokFault c i a t) := by
  unfold token_fault.f token_bounds.f tokFault tokAmt
  rcases tok_cases c with rfl | rfl | rfl | rfl | h
  case inr.inr.inr.inr => rw [if_neg (by omega), if_neg (by omega), if_neg (by omega), if_neg (by omega), if_neg h]; rfl
  all_goals
    simp only [if_true, if_false, Option.bind_some, Int.reduceEq]
    repeat' split
    all_goals first | rfl | omega | (simp at *; omega)
theorem tok_zero {c i a t : Int} (h : tokFault c i a t = 0) : (0 ≤ c ∧ c ≤ 3) ∧ (1 ≤ i ∧ i ≤ 1048575) ∧ (0 ≤ t ∧ t ≤ 65535) ∧ tokAmt c a := by
  unfold tokFault at h
  split at h
  · split at h
    · exact ⟨by assumption, by assumption⟩
    · omega
  · omega
theorem tok_amt {c a : Int} (h : tokAmt c a) : 0 ≤ a ∧ a ≤ 2097151 := by unfold tokAmt at h; omega
theorem vendmeterref_In.eq (a b c : Int) : vendmeterref_In.f a b c = some (decide (b ≤ a ∧ a ≤ c)) := by
  unfold vendmeterref_In.f
  by_cases h : b ≤ a
  · rw [if_pos h]; simp [h]
  · rw [if_neg h]; simp [h]
theorem vendmeterref_TokenFault.ev (c i a t : Int) : Ev (fun k => vendmeterref_TokenFault.f k c i a t) (tokFault c i a t) := by
  refine Ev.succ (Ev.succ (Ev.succ ⟨0, fun k _ => ?_⟩))
  simp only [vendmeterref_TokenFault.f, vendmeterref_TokenFault.j0, vendmeterref_TokenFault.j1, vendmeterref_TokenFault.j2, vendmeterref_In.eq, Option.bind_some]
  unfold tokFault tokAmt
  rcases tok_cases c with rfl | rfl | rfl | rfl | h
  case inr.inr.inr.inr => rw [decide_eq_false h, if_neg h]; rfl
  all_goals
    by_cases hi : 1 ≤ i ∧ i ≤ 1048575 <;> by_cases ht : 0 ≤ t ∧ t ≤ 65535
    all_goals simp [hi, ht]
    all_goals first | done | (split <;> rfl) | (split <;> simp_all <;> omega)
def bodyAns (c i a t : Int) : Int × Int := if tokFault c i a t = 0 then (c * 2199023255552 + i * 2097152 + a, 0) else (0, tokFault c i a t)
theorem vendmeterref_BodyOf.ev (c i a t : Int) : Ev (fun k => vendmeterref_BodyOf.f k c i a t) (bodyAns c i a t) := by
  unfold vendmeterref_BodyOf.f bodyAns
  refine Ev.bind (vendmeterref_TokenFault.ev c i a t) (Ev.iteR (fun h => ?_) (fun _ => Ev.now _))
  obtain ⟨hc, hi, ht, ha⟩ := tok_zero h
  have ha := tok_amt ha
  rw [wr (a := c * 2199023255552) ⟨by omega, by omega⟩, wr (a := i * 2097152) ⟨by omega, by omega⟩, wr (a := c * 2199023255552 + i * 2097152) ⟨by omega, by omega⟩, wr ⟨by omega, by omega⟩]
  exact Ev.now _
def tokNum (c i a t : Int) : Int := (t + a * 65536 + i * 137438953472 + c * 144115188075855872) * 97
theorem token_Words.eq (c i a t : Int) : token_Words.f c i a t = some (if tokFault c i a t = 0 then (tokNum c i a t % 4294967296, tokNum c i a t / 4294967296 % 4294967296, tokNum c i a t / 18446744073709551616 % 4294967296, 0) else (0, 0, 0, tokFault c i a t)) := by
  unfold token_Words.f
  rw [token_fault.eq, Option.bind_some]
  by_cases h : tokFault c i a t = 0
  · obtain ⟨hc, hi, ht, ha⟩ := tok_zero h
    have hA := tok_amt ha
    rw [if_pos h, if_pos ⟨hc, by omega, hA, ht⟩, if_pos h]
    rfl
  · rw [if_neg h, if_neg h]
theorem tok_body {c i a t : Int} (h : tokFault c i a t = 0) : bodyAns c i a t = (c * 2199023255552 + i * 2097152 + a, 0) ∧ (0 ≤ c * 2199023255552 + i * 2097152 + a ∧ c * 2199023255552 + i * 2097152 + a ≤ 8796093022207) ∧ (0 ≤ t ∧ t ≤ 65535) ∧ ((c * 2199023255552 + i * 2097152 + a) * 65536 + t) * 97 = tokNum c i a t ∧ 0 ≤ tokNum c i a t ∧ tokNum c i a t < 100000000000000000000 := by
  obtain ⟨hc, hi, ht, ha⟩ := tok_zero h
  have hA := tok_amt ha
  refine ⟨by unfold bodyAns; rw [if_pos h], by omega, ht, by unfold tokNum; omega, by unfold tokNum; omega, by unfold tokNum; omega⟩
def rvG {α : Type} (z : α) (l : List α) (i : Nat) : List α := (List.range l.length).map fun t => if t < i ∨ l.length ≤ t + i then l.getD (l.length - 1 - t) z else l.getD t z
theorem rvG_len {α : Type} (z : α) (l : List α) (i : Nat) : (rvG z l i).length = l.length := by simp [rvG]
theorem rvG_get {α : Type} (z : α) (l : List α) (i t : Nat) (ht : t < l.length) : (rvG z l i)[t]? = some (if t < i ∨ l.length ≤ t + i then l.getD (l.length - 1 - t) z else l.getD t z) := by
  simp [rvG, List.getElem?_map, List.getElem?_range ht]
theorem rvG_getD {α : Type} (z : α) (l : List α) (i t : Nat) (ht : t < l.length) : (rvG z l i).getD t z = if t < i ∨ l.length ≤ t + i then l.getD (l.length - 1 - t) z else l.getD t z := by
  rw [List.getD_eq_getElem?_getD, rvG_get z l i t ht]; rfl
theorem rvG_zero {α : Type} (z : α) (l : List α) : rvG z l 0 = l := by
  apply List.ext_getElem?
  intro t
  by_cases ht : t < l.length
  · rw [rvG_get z l 0 t ht, if_neg (by omega), List.getD_eq_getElem?_getD, List.getElem?_eq_getElem ht]; rfl
  · rw [List.getElem?_eq_none (by rw [rvG_len]; omega), List.getElem?_eq_none (by omega)]
theorem rvG_end {α : Type} (z : α) (l : List α) (i : Nat) (hi : l.length ≤ i + i + 1) : rvG z l i = l.reverse := by
  apply List.ext_getElem?
  intro t
  by_cases ht : t < l.length
  · rw [rvG_get z l i t ht, List.getElem?_reverse ht]
    by_cases hc : t < i ∨ l.length ≤ t + i
    · rw [if_pos hc, List.getD_eq_getElem?_getD, List.getElem?_eq_getElem (show l.length - 1 - t < l.length by omega)]; rfl
    · rw [if_neg hc, show l.length - 1 - t = t by omega, List.getD_eq_getElem?_getD, List.getElem?_eq_getElem ht]; rfl
  · rw [List.getElem?_eq_none (by rw [rvG_len]; omega), List.getElem?_eq_none (by rw [List.length_reverse]; omega)]
theorem rvG_step {α : Type} (z : α) (l : List α) (i : Nat) (hi : i + i + 1 < l.length) : ((rvG z l i).set i ((rvG z l i).getD (l.length - 1 - i) z)).set (l.length - 1 - i) ((rvG z l i).getD i z) = rvG z l (i + 1) := by
  apply List.ext_getElem?
  intro t
  by_cases ht : t < l.length
  · rw [rvG_get z l (i + 1) t ht, List.getElem?_set, List.length_set, rvG_len, List.getElem?_set, rvG_len, rvG_get z l i t ht, rvG_getD z l i i (by omega), rvG_getD z l i (l.length - 1 - i) (by omega)]
    by_cases h1 : l.length - 1 - i = t
    · rw [if_pos h1, if_pos (by omega), if_neg (by omega), if_pos (by omega), show l.length - 1 - t = i by omega]
    · rw [if_neg h1]
      by_cases h2 : i = t
      · rw [if_pos h2, if_pos (by omega), if_neg (by omega), if_pos (by omega), h2]
      · rw [if_neg h2]
        by_cases hc : t < i ∨ l.length ≤ t + i
        · rw [if_pos hc, if_pos (by omega)]
        · rw [if_neg hc, if_neg (by omega)]
  · rw [List.getElem?_eq_none (by rw [List.length_set, List.length_set, rvG_len]; omega), List.getElem?_eq_none (by rw [rvG_len]; omega)]
theorem rd_strOf (l : List ByteArray) (i : Nat) : rdOf ByteArray.empty l (i : Int) = l.getD i ByteArray.empty := Eq.trans rfl rfl
theorem slices_Reverse_string_string.ev (l : List ByteArray) (hl : l.length ≤ 1152921504606846976) : Ev (fun k => slices_Reverse_string_string.f k l) l.reverse := by
  unfold slices_Reverse_string_string.f
  rw [wr (a := (l.length : Int) - 1) ⟨by omega, by omega⟩]
  have key := down (P := fun i => Ev (fun k => slices_Reverse_string_string.l0 k (rvG ByteArray.empty l i) (i : Int) ((l.length : Int) - 1 - i)) l.reverse) (n := l.length / 2) (by
    refine Ev.succ ?_
    simp only [slices_Reverse_string_string.l0]
    exact Ev.neg (by omega) (Ev.ret (rvG_end _ _ _ (by omega)))) (by
    intro i hi ih
    obtain ⟨j, hj⟩ : ∃ j : Nat, (l.length : Int) - 1 - i = (j : Int) := ⟨l.length - 1 - i, by omega⟩
    have hj2 : l.length - 1 - i = j := by omega
    refine Ev.succ ?_
    simp only [slices_Reverse_string_string.l0, hj, rvG_len, rd_strOf, Int.toNat_natCast]
    refine Ev.pos (by omega) (Ev.pos (by omega) (Ev.pos (by omega) (Ev.pos (by omega) (Ev.pos (by omega) ?_))))
    have hs := rvG_step ByteArray.empty l i (by omega)
    rw [hj2] at hs
    rw [hs, wr (a := (i : Int) + 1) ⟨by omega, by omega⟩, wr (a := (j : Int) - 1) ⟨by omega, by omega⟩, show (j : Int) - 1 = (l.length : Int) - 1 - ((i + 1 : Nat) : Int) by omega]
    exact ih)
  rw [rvG_zero] at key
  have e : (l.length : Int) - 1 - ((0 : Nat) : Int) = (l.length : Int) - 1 := by omega
  rw [e] at key
  exact key
theorem enc_digit (d : Int) (h : 0 ≤ d ∧ d < 128) : (Utf8.encode d).data.toList = [UInt8.ofNat d.toNat] := by
  unfold Utf8.encode
  have hv : Utf8.valid d = true := by unfold Utf8.valid; simp; omega
  simp only [hv, if_true]
  rw [if_pos (by omega)]
theorem flat_digits : ∀ (l : List Int), (∀ d ∈ l, 0 ≤ d ∧ d < 128) → (l.map fun d => (Utf8.encode d).data.toList).flatten = l.map fun d => UInt8.ofNat d.toNat
  | [], _ => rfl
  | d :: l, h => by
    rw [List.map_cons, List.flatten_cons, enc_digit d (h d List.mem_cons_self), flat_digits l (fun x hx => h x (List.mem_cons_of_mem _ hx))]
    rfl
theorem join_empty (l : List (List UInt8)) : Lib.join l [] = l.flatten := by
  cases l with
  | nil => rfl
  | cons x r => rw [Lib.join_cons, Lib.joinTail]; simp
theorem dgs_bd (n : Nat) : ∀ d ∈ dgs n, 48 ≤ d ∧ d < 58 := by
  induction n using Nat.strongRecOn with
  | ind n ih =>
    intro d hd
    by_cases h : n < 10
    · rw [dgs_small h] at hd; simp at hd; omega
    · rw [dgs_big h] at hd
      rcases List.mem_cons.1 hd with e | e
      · omega
      · exact ih (n / 10) (by omega) d e
theorem show_join (N : Nat) (hN : (dgs N).length ≤ 1000) : strings_Join.f ((dgs N).map Utf8.encode).reverse (⟨#[]⟩ : ByteArray) = some (decB (N : Int)) := by
  unfold strings_Join.f
  have e : Lib.join (((dgs N).map Utf8.encode).reverse.map (·.data.toList)) (⟨#[]⟩ : ByteArray).data.toList = (dgs N).reverse.map fun d => UInt8.ofNat d.toNat := by
    rw [show (⟨#[]⟩ : ByteArray).data.toList = [] from rfl, join_empty, ← List.map_reverse, List.map_map]
    exact flat_digits _ (fun d hd => by have := dgs_bd N d (List.mem_reverse.1 hd); omega)
  rw [e, if_pos ⟨by rw [List.length_reverse, List.length_map]; omega, by rw [List.length_map, List.length_reverse]; omega⟩]
  rfl
theorem words3 {v : Int} (h : 0 ≤ v ∧ v < 79228162514264337593543950336) : wval [v % 4294967296, v / 4294967296 % 4294967296, v / 18446744073709551616 % 4294967296] = v := by
  simp only [wval]
  omega
theorem words_Show.l0_ev (N : Nat) (hN : (dgs N).length ≤ 1000) : ∀ (m : Nat) (a b c : Int), (0 ≤ a ∧ a < 4294967296) → (0 ≤ b ∧ b < 4294967296) → (0 ≤ c ∧ c < 4294967296) → wval [a, b, c] = (m : Int) → ∀ P : List ByteArray, P ++ (dgs m).map Utf8.encode = (dgs N).map Utf8.encode → Ev (fun k => words_Show.l0 k P a b c) (decB (N : Int)) := by
  intro m
  induction m using Nat.strongRecOn with
  | ind m ih =>
    intro a b c ha hb hc hv P hP
    have hvb : (m : Int) < 79228162514264337593543950336 := by rw [← hv]; simp only [wval]; omega
    have hlen := congrArg List.length hP
    rw [List.length_append, List.length_map, List.length_map] at hlen
    have ho : words_Over.f a b c 10 = some (((m / 10 : Nat) : Int) % 4294967296, ((m / 10 : Nat) : Int) / 4294967296 % 4294967296, ((m / 10 : Nat) : Int) / 18446744073709551616 % 4294967296, ((m % 10 : Nat) : Int), 0) := by
      unfold words_Over.f
      rw [if_pos ⟨ha, hb, hc, by decide, by decide⟩, if_neg (by decide), hv]
      have e1 : (m : Int) / 10 = ((m / 10 : Nat) : Int) := by omega
      have e2 : (m : Int) % 10 = ((m % 10 : Nat) : Int) := by omega
      rw [e1, e2]
    refine Ev.succ ?_
    simp only [words_Show.l0, ho]
    refine Ev.letS (Ev.pos (by omega) (Ev.letS ?_))
    have ed : wrap32 ((48 + ((m % 10 : Nat) : Int)) % 4294967296) = 48 + ((m % 10 : Nat) : Int) := by rw [show (48 + ((m % 10 : Nat) : Int)) % 4294967296 = 48 + ((m % 10 : Nat) : Int) by omega]; exact IntWalk.wrap32_in _ ⟨by omega, by omega⟩
    rw [ed]
    rw [dgs_step, List.map_cons] at hP
    by_cases hz : m / 10 = 0
    · rw [hz]
      refine Ev.pos (by first | rfl | simp) ?_
      rw [hz] at hP
      have e : P ++ [Utf8.encode (48 + ((m % 10 : Nat) : Int))] = (dgs N).map Utf8.encode := by rw [← hP]; rfl
      rw [e]
      refine Ev.bind (slices_Reverse_string_string.ev _ (by rw [List.length_map]; omega)) ?_
      rw [show_join N hN]
      exact Ev.letS (Ev.now _)
    · refine Ev.neg ?_ ?_
      · intro h
        simp only [Bool.and_eq_true, beq_iff_eq] at h
        omega
      · refine ih (m / 10) (by omega) _ _ _ (by omega) (by omega) (by omega) (words3 (by omega)) _ ?_
        rw [← hP, List.append_assoc]
        congr 1
        rw [dgs0, if_neg hz]
        rfl
theorem words_Show.ev {a b c : Int} (ha : 0 ≤ a ∧ a < 4294967296) (hb : 0 ≤ b ∧ b < 4294967296) (hc : 0 ≤ c ∧ c < 4294967296) : Ev (fun k => words_Show.f k a b c) (decB (wval [a, b, c])) := by
  obtain ⟨N, hN⟩ : ∃ N : Nat, wval [a, b, c] = (N : Int) := ⟨(wval [a, b, c]).toNat, by simp only [wval]; omega⟩
  have hNb : N < 79228162514264337593543950336 := by have h := hN; simp only [wval] at h; omega
  have hl := dgs_len 38 N (by omega)
  unfold words_Show.f
  rw [hN]
  exact words_Show.l0_ev N (by omega) N a b c ha hb hc hN [] rfl

theorem pad_repeat (s : ByteArray) : ∀ n : Nat, (⟨(Lib.repeatL (⟨#[48]⟩ : ByteArray).data.toList n).toArray⟩ : ByteArray) ++ s = padB s n
  | 0 => by apply ByteArray.ext; apply Array.ext'; simp [Lib.repeatL, padB]
  | n + 1 => by
    simp only [padB]
    rw [← pad_repeat s n]
    apply ByteArray.ext; apply Array.ext'
    simp [Lib.repeatL]
theorem dec_size {v : Int} (h : 0 ≤ v ∧ v < 100000000000000000000) : (decB v).size ≤ 20 := by
  obtain ⟨N, rfl⟩ : ∃ N : Nat, v = (N : Int) := ⟨v.toNat, by omega⟩
  unfold decB
  rw [strOfNums_size, List.length_reverse]
  exact dgs_len 19 N (by omega)
def fmtAns (c i a t : Int) : ByteArray × Int := if tokFault c i a t = 0 then (padB (decB (tokNum c i a t)) (20 - (decB (tokNum c i a t)).size), 0) else ((⟨#[]⟩ : ByteArray), tokFault c i a t)
theorem vendmeterref_Formatted.ev (c i a t : Int) : Ev (fun k => vendmeterref_Formatted.f k c i a t) (fmtAns c i a t) := by
  unfold vendmeterref_Formatted.f fmtAns
  refine Ev.bind (vendmeterref_TokenFault.ev c i a t) (Ev.iteR (fun h => ?_) (fun _ => Ev.now _))
  obtain ⟨hb, h1, h2, h3, h4⟩ := tok_body h
  refine Ev.bind (vendmeterref_BodyOf.ev c i a t) ?_
  rw [hb]
  simp only [h3]
  refine Ev.pos ⟨h1, h2, trivial, dec_size h4⟩ ?_
  exact Ev.now _
theorem token_Format.ev (c i a t : Int) : Ev (fun k => token_Format.f k c i a t) (fmtAns c i a t) := by
  unfold token_Format.f fmtAns
  rw [token_Words.eq]
  refine Ev.letS ?_
  by_cases h : tokFault c i a t = 0
  · obtain ⟨hb, h1, h2, h3, h4⟩ := tok_body h
    rw [if_pos h, if_pos h]
    refine Ev.pos rfl ?_
    refine Ev.bind (words_Show.ev (a := tokNum c i a t % 4294967296) (b := tokNum c i a t / 4294967296 % 4294967296) (c := tokNum c i a t / 18446744073709551616 % 4294967296) (by omega) (by omega) (by omega)) ?_
    rw [words3 ⟨h4.1, by omega⟩]
    have hs := dec_size h4
    have hw : wrap64 (20 - ((decB (tokNum c i a t)).size : Int)) = ((20 - (decB (tokNum c i a t)).size : Nat) : Int) := by rw [wr ⟨by omega, by omega⟩]; omega
    rw [hw]
    unfold strings_Repeat.f
    rw [if_pos ⟨⟨by omega, by omega⟩, by show 1 * _ ≤ _; omega⟩, Int.toNat_natCast]
    refine Ev.letS ?_
    refine Ev.pos ?_ ?_
    · rw [← ByteArray.size_append, pad_repeat, padB_size]; omega
    · rw [pad_repeat]; exact Ev.now _
  · rw [if_neg h, if_neg h]
    exact Ev.neg h (Ev.now _)
theorem TokenFormats : vendmeterlaw_TokenFormats.Pure := by
  intro c i a t _ _ _ _
  refine Ev.rounds ?_
  unfold vendmeterlaw_TokenFormats.f
  refine Ev.bind (token_Format.ev c i a t) (Ev.bind (vendmeterref_Formatted.ev c i a t) (Ev.pos rfl (Ev.ret (by simp))))

end Go.Proofs.Ytoookcmablnjfaa.Pure
