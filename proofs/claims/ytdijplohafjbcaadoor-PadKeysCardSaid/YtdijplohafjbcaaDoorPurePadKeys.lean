/- vendmeterlaw.PadKeys returns true at every text: keypad.Keys answers what the reference does. No condition but that Go's own two tables of package unicode/utf8 read as laid. -/
import Derived.Test.YtdijplohafjbcaaDoorPPadKeysx6
import Derived.Test.YtdijplohafjbcaaDoorXLib
set_option linter.unusedVariables false
set_option linter.unusedSimpArgs false
namespace Go.Proofs.YtdijplohafjbcaaDoor.Pure
open Go.RowKit Go.Proofs.YtdijplohafjbcaaDoor.PPadKeys Go.Proofs.YtdijplohafjbcaaDoorW.PrintWords Go.Proofs.YtdijplohafjbcaaDoorW.PrintLast Go.Proofs.YtdijplohafjbcaaDoorW.PrintMore Go.Proofs.YtdijplohafjbcaaDoorW.XLib

theorem dig_eq (c : Int) : vendmeterref_Digit.f c = some (decide (48 ≤ c ∧ c ≤ 57)) := by
  unfold vendmeterref_Digit.f
  by_cases h : c ≥ 48
  · rw [if_pos h]; congr 1; by_cases h2 : c ≤ 57 <;> simp [h, h2] <;> omega
  · rw [if_neg h]; congr 1; symm; exact decide_eq_false (fun g => h g.1)
theorem padmay_ev (s : ByteArray) (b : Bool) : Ev (fun k => vendmeterref_PadMay.f k s b) (decide (s.size ≤ 30) && allOk s) := by
  unfold vendmeterref_PadMay.f
  by_cases h : s.size ≤ 30
  · rw [decide_eq_true h]
    refine Ev.neg (by omega) ?_
    have step : ∀ i : Nat, i < s.size → rdOk s i → Ev (fun k => vendmeterref_PadMay.l0 k ((i + 1 : Nat) : Int) s b) (true && allOk s) → Ev (fun k => vendmeterref_PadMay.l0 k (i : Int) s b) (true && allOk s) := by
      intro i hi hk ih
      refine Ev.succ ?_
      simp only [vendmeterref_PadMay.l0]
      refine Ev.pos (by omega) (Ev.pos (by omega) ?_)
      rw [dig_eq, decide_eq_true (show 48 ≤ bt s (i : Int) ∧ bt s (i : Int) ≤ 57 from hk), wr (a := (i : Int) + 1) ⟨by omega, by omega⟩]
      exact Ev.letS (Ev.pos rfl ih)
    rcases allOk_split s with ⟨ha, hg⟩ | ⟨ha, m, hm, hg, hbad⟩
    · refine down (P := fun i => Ev (fun k => vendmeterref_PadMay.l0 k (i : Int) s b) (true && allOk s)) (n := s.size) ?_ (fun i hi ih => step i hi (hg i hi) ih)
      refine Ev.succ ?_
      simp only [vendmeterref_PadMay.l0]
      rw [ha]
      exact Ev.neg (by omega) (Ev.now _)
    · refine down (P := fun i => Ev (fun k => vendmeterref_PadMay.l0 k (i : Int) s b) (true && allOk s)) (n := m) ?_ (fun i hi ih => step i (by omega) (hg i hi) ih)
      refine Ev.succ ?_
      simp only [vendmeterref_PadMay.l0]
      refine Ev.pos (by omega) (Ev.pos (by omega) ?_)
      rw [dig_eq, decide_eq_false (show ¬ (48 ≤ bt s (m : Int) ∧ bt s (m : Int) ≤ 57) from hbad), ha]
      exact Ev.letS (Ev.neg (by decide) (Ev.now _))
  · rw [decide_eq_false h]
    exact Ev.pos (by omega) (Ev.now _)
theorem flag_ev {α : Type} {J : Nat → Bool → Option α} {r c d : Int} {v : α} (h : Ev (fun k => J k (decide (c ≤ r ∧ r ≤ d))) v) : Ev (fun k => if r ≥ c then J k (decide (r ≤ d)) else J k false) v := by
  by_cases hc : r ≥ c
  · refine Ev.pos hc ?_
    rw [show decide (r ≤ d) = decide (c ≤ r ∧ r ≤ d) by by_cases g : r ≤ d <;> simp [g] <;> omega]
    exact h
  · refine Ev.neg hc ?_
    rw [show false = decide (c ≤ r ∧ r ≤ d) from (decide_eq_false (fun g => hc g.1)).symm]
    exact h
theorem key_ev (r : Int) (hr : -2147483648 ≤ r ∧ r ≤ 2147483647) : Ev (fun k => vendmeterref_KeyDigit.f k r) (kdV r) := by
  have ha := kd_all r
  unfold vendmeterref_KeyDigit.f
  refine flag_ev (J := fun k x => vendmeterref_KeyDigit.j0 k r x) (Ev.succ ?_)
  simp only [vendmeterref_KeyDigit.j0]
  by_cases h0 : 48 ≤ r ∧ r ≤ 57
  · refine Ev.pos (decide_eq_true h0) (Ev.eq ?_ (Ev.now _)); rw [wr (a := r) ⟨by omega, by omega⟩, wr ⟨by omega, by omega⟩]; omega
  refine Ev.neg (by rw [decide_eq_true_eq]; exact h0) (flag_ev (J := fun k x => vendmeterref_KeyDigit.j1 k r x) (Ev.succ ?_))
  simp only [vendmeterref_KeyDigit.j1]
  by_cases h1 : 1632 ≤ r ∧ r ≤ 1641
  · refine Ev.pos (decide_eq_true h1) (Ev.eq ?_ (Ev.now _)); rw [wr (a := r) ⟨by omega, by omega⟩, wr ⟨by omega, by omega⟩]; omega
  refine Ev.neg (by rw [decide_eq_true_eq]; exact h1) (flag_ev (J := fun k x => vendmeterref_KeyDigit.j2 k r x) (Ev.succ ?_))
  simp only [vendmeterref_KeyDigit.j2]
  by_cases h2 : 1776 ≤ r ∧ r ≤ 1785
  · refine Ev.pos (decide_eq_true h2) (Ev.eq ?_ (Ev.now _)); rw [wr (a := r) ⟨by omega, by omega⟩, wr ⟨by omega, by omega⟩]; omega
  refine Ev.neg (by rw [decide_eq_true_eq]; exact h2) (flag_ev (J := fun k x => vendmeterref_KeyDigit.j3 k r x) (Ev.succ ?_))
  simp only [vendmeterref_KeyDigit.j3]
  by_cases h3 : 2406 ≤ r ∧ r ≤ 2415
  · refine Ev.pos (decide_eq_true h3) (Ev.eq ?_ (Ev.now _)); rw [wr (a := r) ⟨by omega, by omega⟩, wr ⟨by omega, by omega⟩]; omega
  refine Ev.neg (by rw [decide_eq_true_eq]; exact h3) (flag_ev (J := fun k x => vendmeterref_KeyDigit.j4 k r x) (Ev.succ ?_))
  simp only [vendmeterref_KeyDigit.j4]
  by_cases h4 : 2534 ≤ r ∧ r ≤ 2543
  · refine Ev.pos (decide_eq_true h4) (Ev.eq ?_ (Ev.now _)); rw [wr (a := r) ⟨by omega, by omega⟩, wr ⟨by omega, by omega⟩]; omega
  refine Ev.neg (by rw [decide_eq_true_eq]; exact h4) ?_
  by_cases h5 : r ≥ 65296
  · refine Ev.pos h5 ?_
    by_cases h6 : r ≤ 65305
    · refine Ev.pos h6 (Ev.eq ?_ (Ev.now _)); rw [wr (a := r) ⟨by omega, by omega⟩, wr ⟨by omega, by omega⟩]; omega
    · exact Ev.neg h6 (Ev.eq (by omega) (Ev.now _))
  · exact Ev.neg h5 (Ev.eq (by omega) (Ev.now _))
theorem enc_all : ∀ d : Fin 10, Utf8.encode (48 + (d.val : Int)) = strOfNums ([(48 + (d.val : Int)) % 256] : List Int) ∧ (strOfNums ([(48 + (d.val : Int)) % 256] : List Int)).size = 1 := by decide +kernel
theorem enc_at (d : Int) (hd : 0 ≤ d ∧ d ≤ 9) : Utf8.encode (48 + d) = strOfNums ([(48 + d) % 256] : List Int) ∧ (strOfNums ([(48 + d) % 256] : List Int)).size = 1 := by
  have h := enc_all ⟨d.toNat, by omega⟩
  dsimp only at h
  rwa [show ((d.toNat : Nat) : Int) = d by omega] at h
theorem dec1_ev (d : Int) (hd : 0 ≤ d ∧ d ≤ 9) : Ev (fun k => vendmeterref_Dec.f k d) (Utf8.encode (48 + d)) := by
  rw [(enc_at d hd).1]
  refine Ev.succ ?_
  simp only [vendmeterref_Dec.f]
  refine Ev.pos (by omega) ?_
  rw [decide_eq_true (show d < 10 by omega)]
  refine Ev.succ ?_
  simp only [vendmeterref_Dec.j0, if_true]
  rw [wr (a := 48 + d) ⟨by omega, by omega⟩]
  exact Ev.now _
theorem empty_of {s : ByteArray} (h : s.size = 0) : s = ByteArray.empty := by
  apply ByteArray.ext
  exact Array.eq_empty_of_size_eq_zero h
theorem pressed_ev (s : ByteArray) (b : Bool) (r : Int) (hr : -2147483648 ≤ r ∧ r ≤ 2147483647) : Ev (fun k => vendmeterref_Pressed.f k s b r) (padAns s b r) := by
  unfold vendmeterref_Pressed.f
  refine Ev.bind (padmay_ev s b) ?_
  unfold padAns
  by_cases h0 : (decide (s.size ≤ 30) && allOk s) = false
  · rw [if_pos h0, h0]
    exact Ev.neg (by decide) (Ev.now _)
  rw [if_neg h0]
  have h0' : (decide (s.size ≤ 30) && allOk s) = true := by simpa using h0
  have hsz : s.size ≤ 30 ∧ allOk s = true := by simpa using h0'
  rw [h0']
  refine Ev.pos rfl (Ev.bind (key_ev r hr) ?_)
  have ha := kd_all r
  have go : ∀ fl : Bool, (fl = true ↔ (0 ≤ kdV r ∧ s.size < 30)) → Ev (fun k => vendmeterref_Pressed.j0 k r s.size (kdV r) fl s b) (padAns s b r) := by
    intro fl hfl
    refine Ev.succ ?_
    simp only [vendmeterref_Pressed.j0]
    unfold padAns
    rw [if_neg h0]
    by_cases hd : 0 ≤ kdV r ∧ s.size < 30
    · have e := (enc_at (kdV r) (by omega))
      refine Ev.pos (hfl.2 hd) (Ev.bind (dec1_ev (kdV r) (by omega)) (Ev.pos (by rw [e.1, e.2]; omega) (Ev.eq ?_ (Ev.now _))))
      rw [if_neg (by omega), if_neg (by omega), if_neg (by omega), if_neg (by omega)]
    · refine Ev.neg (fun g => hd (hfl.1 g)) ?_
      have j1 : ∀ x : Bool, (x = true ↔ (r = 32 ∨ r = 45 ∨ r = 160)) → Ev (fun k => vendmeterref_Pressed.j1 k r s.size x s b) (if r = 32 ∨ r = 45 ∨ r = 160 then (s, b, [], 0) else if r = 42 then (if s.size = 0 then (ByteArray.empty, b, [], 0) else (s.extract 0 (s.size - 1), b, [], 0)) else if r = 35 then (if b = true then ((⟨#[]⟩ : ByteArray), false, [(⟨(⟨#[]⟩ : ByteArray), 3⟩ : S41)], 0) else if s.size = 0 then ((⟨#[]⟩ : ByteArray), false, [], 0) else ((⟨#[]⟩ : ByteArray), false, [(⟨s, 0⟩ : S41)], 0)) else if kdV r < 0 ∨ s.size = 30 then (s, true, [], 0) else (s ++ Utf8.encode (48 + kdV r), b, [], 0)) := by
        intro x hx
        refine Ev.succ ?_
        simp only [vendmeterref_Pressed.j1]
        by_cases h1 : r = 32 ∨ r = 45 ∨ r = 160
        · rw [if_pos h1]
          exact Ev.pos (hx.2 h1) (Ev.now _)
        rw [if_neg h1]
        refine Ev.neg (fun g => h1 (hx.1 g)) ?_
        refine Ev.iteR (fun h2 => ?_) (fun h2 => ?_)
        · by_cases hz : s.size = 0
          · rw [if_pos hz]
            exact Ev.neg (by omega) (Ev.eq (by rw [empty_of hz]) (Ev.now _))
          · rw [if_neg hz]
            have ew : wrap64 ((s.size : Int) - 1) = ((s.size - 1 : Nat) : Int) := by rw [wr ⟨by omega, by omega⟩]; omega
            rw [ew, Int.toNat_natCast]
            exact Ev.pos (by omega) (Ev.pos (by omega) (Ev.pos (by omega) (Ev.now _)))
        refine Ev.iteR (fun h3 => ?_) (fun h3 => ?_)
        · refine Ev.iteR (fun _ => Ev.now _) (fun _ => ?_)
          by_cases hz : s.size = 0
          · rw [if_pos hz]; exact Ev.pos (by omega) (Ev.now _)
          · rw [if_neg hz]; exact Ev.neg (by omega) (Ev.now _)
        rw [if_pos (by omega)]
        exact Ev.now _
      by_cases g1 : r = 32
      · exact Ev.pos g1 (j1 true ⟨fun _ => .inl g1, fun _ => rfl⟩)
      refine Ev.neg g1 ?_
      by_cases g2 : r = 45
      · exact Ev.pos g2 (j1 true ⟨fun _ => .inr (.inl g2), fun _ => rfl⟩)
      refine Ev.neg g2 (j1 _ ⟨fun g => .inr (.inr (by simpa using g)), fun g => by rcases g with g | g | g; exact absurd g g1; exact absurd g g2; simp [g]⟩)
  have fin := go
  unfold padAns at fin
  rw [if_neg h0] at fin
  by_cases hk : kdV r ≥ 0
  · refine Ev.pos hk (fin _ ?_)
    rw [decide_eq_true_eq]
    omega
  · refine Ev.neg hk (fin _ ?_)
    simp only [Bool.false_eq_true, false_iff]
    omega

theorem width_4 (s : ByteArray) (p : Nat) : (Utf8.decode s p).2 ≤ 4 := by
  rw [Lib.decode_at]
  unfold Lib.decodeN
  repeat' split
  all_goals simp
theorem get_ext (s : ByteArray) (p k : Nat) (hp : p ≤ s.size) : (s.extract p s.size).get! k = s.get! (p + k) := by
  have hz : (s.extract p s.size).size = s.size - p := by simp
  by_cases h : k < s.size - p
  · have h1 : k < (s.extract p s.size).size := by omega
    have h2 : p + k < s.size := by omega
    have e : (s.extract p s.size)[k]'h1 = s[p + k]'h2 := by simp [ByteArray.getElem_extract]
    have a : (s.extract p s.size).get! k = (s.extract p s.size)[k]'h1 := by
      show (s.extract p s.size).data[k]! = _
      exact getElem!_pos (s.extract p s.size).data k h1
    have b : s.get! (p + k) = s[p + k]'h2 := by
      show s.data[p + k]! = _
      exact getElem!_pos s.data (p + k) h2
    rw [a, b, e]
  · have a : (s.extract p s.size).get! k = default := by
      show (s.extract p s.size).data[k]! = _
      exact getElem!_neg (s.extract p s.size).data k (by show ¬ k < (s.extract p s.size).size; omega)
    have b : s.get! (p + k) = default := by
      show s.data[p + k]! = _
      exact getElem!_neg s.data (p + k) (by show ¬ p + k < s.size; omega)
    rw [a, b]
theorem go_extract (s : ByteArray) (p : Nat) (h : p < s.size) : Lib.decodeGo (s.extract p s.size) = Utf8.decode s p := by
  have hz : (s.extract p s.size).size = s.size - p := by simp
  have hd : Lib.decodeGo (s.extract p s.size) = Utf8.decode (s.extract p s.size) 0 := by
    unfold Lib.decodeGo
    rw [if_neg (by omega)]
  rw [hd, Lib.decode_at, Lib.decode_at, hz]
  simp only [get_ext s p _ (Nat.le_of_lt h), Nat.sub_zero, Nat.zero_add, Nat.add_zero]
theorem same_ents (l : List S41) (h : l.length ≤ 1000000) : Ev (fun k => vendmeterlaw_sameEntries.f k l l) true := by
  unfold vendmeterlaw_sameEntries.f
  refine Ev.pos rfl (same_ev (n := l.length) (by omega) (fun k i hi => ?_) (fun k => ?_))
  · simp only [vendmeterlaw_sameEntries.l0]; rw [if_pos (by omega), if_pos (by omega), if_pos (by omega)]; simp
  · simp only [vendmeterlaw_sameEntries.l0]; rw [if_neg (by omega)]
theorem keys_ev (s : ByteArray) (hs : s.size ≤ 2000) : ∀ (n p : Nat) (d : ByteArray) (b : Bool) (out : List S41), s.size - p ≤ n → d.size ≤ 30 ∧ allOk d = true → out.length ≤ p → p ≤ s.size + 4 →
    ∃ a : List S41 × ByteArray × Bool × Int, a.1.length ≤ s.size + 4 ∧ Ev (fun k => keypad_Keys.l0 k s p d b out) a ∧ Ev (fun k => vendmeterref_Typed.l0 k s out (p : Int) d b) a := by
  intro n
  induction n with
  | zero =>
    intro p d b out hn hd ho hp
    refine ⟨(out, d, b, 0), by dsimp only; omega, Ev.succ ?_, Ev.succ ?_⟩
    · simp only [keypad_Keys.l0]; exact Ev.neg (by omega) (Ev.now _)
    · simp only [vendmeterref_Typed.l0]; exact Ev.neg (by omega) (Ev.now _)
  | succ n ih =>
    intro p d b out hn hd ho hp
    by_cases h : p < s.size
    · have hw := Lib.width_pos s p
      have hw4 : (Utf8.decode s p).2 ≤ 4 := width_4 s p
      have hr := rune_bd s p
      have hsh := padAns_short d b ((Utf8.decode s p).1 : Int)
      obtain ⟨a, ha, e1, e2⟩ := ih (p + (Utf8.decode s p).2) (padAns d b ((Utf8.decode s p).1 : Int)).1 (padAns d b ((Utf8.decode s p).1 : Int)).2.1 (out ++ (padAns d b ((Utf8.decode s p).1 : Int)).2.2.1) (by omega) (padAns_ok d b _ hd) (by rw [List.length_append]; omega) (by omega)
      refine ⟨a, ha, Ev.succ ?_, Ev.succ ?_⟩
      · simp only [keypad_Keys.l0]; exact Ev.pos h e1
      · simp only [vendmeterref_Typed.l0]
        refine Ev.pos (by omega) (Ev.pos (by omega) (Ev.pos (by omega) ?_))
        unfold utf8_DecodeRuneInString.f
        rw [Int.toNat_natCast, go_extract s p h]
        refine Ev.letS ?_
        refine Ev.bind (pressed_ev d b _ hr) (Ev.pos (by dsimp only; omega) ?_)
        dsimp only
        rw [wr (a := (p : Int) + ((Utf8.decode s p).2 : Nat)) ⟨by omega, by omega⟩, show (p : Int) + ((Utf8.decode s p).2 : Nat) = ((p + (Utf8.decode s p).2 : Nat) : Int) by omega]
        exact e2
    · refine ⟨(out, d, b, 0), by dsimp only; omega, Ev.succ ?_, Ev.succ ?_⟩
      · simp only [keypad_Keys.l0]; exact Ev.neg h (Ev.now _)
      · simp only [vendmeterref_Typed.l0]; exact Ev.neg (by omega) (Ev.now _)
theorem PadKeys : vendmeterlaw_PadKeys.Pure := by
  intro s hw
  refine Ev.rounds ?_
  unfold vendmeterlaw_PadKeys.f keypad_Keys.f vendmeterref_Typed.f
  by_cases h : s.size > 2000
  · exact Ev.bind (Ev.pos h (Ev.now _)) (Ev.bind (Ev.pos (by omega) (Ev.now _)) (Ev.pos (by simp) (Ev.pos rfl (Ev.bind (same_ents [] (by simp)) (Ev.now _)))))
  · obtain ⟨a, ha, e1, e2⟩ := keys_ev s (by omega) s.size 0 ⟨#[]⟩ false [] (by omega) ⟨by decide, allOk_nil⟩ (by simp) (by omega)
    exact Ev.bind (Ev.neg h e1) (Ev.bind (Ev.neg (by omega) e2) (Ev.pos (by simp) (Ev.pos rfl (Ev.bind (same_ents _ (by omega)) (Ev.now _)))))

end Go.Proofs.YtdijplohafjbcaaDoor.Pure
