/- vendmeterlaw.PocketKeys returns true at every list of words, oracle and text: pocket.Keyed answers as the reference does, and the list and the oracle are as they were. No condition. -/
import Derived.Test.YtcllddkmcnfejaaGreatDoorPPocketKeysxL
import Derived.Test.YtcllddkmcnfejaaGreatDoorXPocketKeysLib
set_option linter.unusedVariables false
set_option linter.unusedSimpArgs false
namespace Go.Proofs.YtcllddkmcnfejaaGreatDoor.Pure
open Go.RowKit Go.Proofs.YtcllddkmcnfejaaGreatDoor.PPocketKeys Go.Proofs.YtcllddkmcnfejaaGreatDoorW.PrintWords Go.Proofs.YtcllddkmcnfejaaGreatDoorW.PrintLast Go.Proofs.YtcllddkmcnfejaaGreatDoorW.PrintMore Go.Proofs.YtcllddkmcnfejaaGreatDoorW.XLib

theorem vendmeterref_In.eq (a b c : Int) : vendmeterref_In.f a b c = some (decide (b ≤ a ∧ a ≤ c)) := by
 unfold vendmeterref_In.f
 by_cases h : b ≤ a
 ·
  rw [if_pos h]; simp [h]
 ·
  rw [if_neg h]; simp [h]
theorem rd_pair (l : List S55) (i : Nat) : rd_T55 l (i : Int) = l.getD i z55 := Eq.trans rfl rfl
/-- The place of what was tagged: -1: it was not. -/
def placeOf (a b c : Int) (l : List S55) : Int := match oracle_known.find a b c 0 l with | some (i, _) => (i : Int) | none => -1
theorem find_shift (a b c : Int) : ∀ (l : List S55) (i : Nat), oracle_known.find a b c i l = (oracle_known.find a b c 0 l).map fun x => (x.1 + i, x.2)
 | [], i => rfl
 | p :: l, i => by
  unfold oracle_known.find
  by_cases h : oracle_known.has a b c p = true
  ·
   rw [if_pos h, if_pos h]; simp
  ·
   rw [if_neg h, if_neg h, find_shift a b c l (i + 1), find_shift a b c l (0 + 1), Option.map_map]
   congr 1
   funext x
   simp; omega
theorem find_hit {a b c : Int} {l : List S55} {i : Nat} {v : Int} (h : oracle_known.find a b c 0 l = some (i, v)) : i < l.length ∧ oracle_known.has a b c (l.getD i z55) = true ∧ v = (l.getD i z55).f3 ∧ ∀ j, j < i → oracle_known.has a b c (l.getD j z55) = false := by
 induction l generalizing i with
 | nil => simp [oracle_known.find] at h
 | cons p l ih =>
  unfold oracle_known.find at h
  by_cases hp : oracle_known.has a b c p = true
  ·
   rw [if_pos hp] at h
   cases h
   exact ⟨by simp, hp, rfl, fun j hj => by omega⟩
  ·
   rw [if_neg hp, find_shift] at h
   cases hf : oracle_known.find a b c 0 l with
   | none => rw [hf] at h; cases h
   | some x =>
    obtain ⟨m, u⟩ := x
    rw [hf] at h
    simp only [Option.map_some, Option.some.injEq, Prod.mk.injEq] at h
    obtain ⟨rfl, rfl⟩ := h
    obtain ⟨h1, h2, h3, h4⟩ := ih hf
    refine ⟨by simp; omega, by simpa using h2, by simpa using h3, fun j hj => ?_⟩
    cases j with
    | zero => exact Bool.eq_false_iff.mpr hp
    | succ j => simpa using h4 j (by omega)
theorem find_miss {a b c : Int} {l : List S55} (h : oracle_known.find a b c 0 l = none) : ∀ j, j < l.length → oracle_known.has a b c (l.getD j z55) = false := by
 induction l with
 | nil => intro j hj; simp at hj
 | cons p l ih =>
  unfold oracle_known.find at h
  by_cases hp : oracle_known.has a b c p = true
  ·
   rw [if_pos hp] at h; cases h
  ·
   rw [if_neg hp, find_shift] at h
   intro j hj
   cases j with
   | zero => exact Bool.eq_false_iff.mpr hp
   | succ j =>
    have : oracle_known.find a b c 0 l = none := by
     cases hf : oracle_known.find a b c 0 l with
     | none => rfl
     | some x => rw [hf] at h; cases h
    simpa using ih this j (by simp at hj; omega)
theorem has_iff (a b c : Int) (p : S55) : oracle_known.has a b c p = true ↔ p.f0 = a ∧ p.f1 = b ∧ p.f2 = c := by
 simp only [oracle_known.has, Bool.and_eq_true, beq_iff_eq]
 constructor
 ·
  rintro ⟨rfl, rfl, rfl⟩; exact ⟨rfl, rfl, rfl⟩
 ·
  rintro ⟨rfl, rfl, rfl⟩; exact ⟨rfl, rfl, rfl⟩
theorem vendmeterref_tagged.ev (l : List S55) (a b c : Int) (hl : l.length ≤ 1152921504606846976) : Ev (fun k => vendmeterref_tagged.f k l a b c) (placeOf a b c l) := by
 unfold vendmeterref_tagged.f placeOf
 have miss : ∀ (r : Int) (i : Nat), i < l.length → oracle_known.has a b c (l.getD i z55) = false → Ev (fun k => vendmeterref_tagged.l0 k a b c ((i + 1 : Nat) : Int) l) r → Ev (fun k => vendmeterref_tagged.l0 k a b c (i : Int) l) r := by
  intro r i hi hh h
  have hn := fun h => (Bool.eq_false_iff.mp hh) ((has_iff a b c _).2 h)
  refine Ev.step (fun k => ?_) h
  simp only [vendmeterref_tagged.l0, rd_pair]
  rw [if_pos (by omega), if_pos (by omega), wn hi hl]
  by_cases h0 : (l.getD i z55).f0 = a
  ·
   rw [if_pos h0]
   by_cases h1 : (l.getD i z55).f1 = b
   ·
    rw [if_pos h1, if_neg (fun h2 => hn ⟨h0, h1, h2⟩)]
   ·
    rw [if_neg h1]
  ·
   rw [if_neg h0]
 cases hf : oracle_known.find a b c 0 l with
 | none =>
  refine down (P := fun j => Ev (fun k => vendmeterref_tagged.l0 k a b c (j : Int) l) (-1)) (n := l.length) ?_ (fun j hj h => miss _ j hj (find_miss hf j hj) h)
  refine Ev.step (f := fun _ => some (-1)) (fun k => ?_) (Ev.now _)
  simp only [vendmeterref_tagged.l0]; rw [if_neg (by omega)]
 | some x =>
  obtain ⟨i, v⟩ := x
  obtain ⟨h1, h2, h3, h4⟩ := find_hit hf
  refine down (P := fun j => Ev (fun k => vendmeterref_tagged.l0 k a b c (j : Int) l) (i : Int)) (n := i) ?_ (fun j hj h => miss _ j (by omega) (h4 j hj) h)
  obtain ⟨e0, e1, e2⟩ := (has_iff a b c _).1 h2
  refine Ev.step (f := fun _ => some (i : Int)) (fun k => ?_) (Ev.now _)
  simp only [vendmeterref_tagged.l0, rd_pair]
  rw [if_pos (by omega), if_pos (by omega), if_pos e0, if_pos e1, if_pos e2]
theorem vendmeterref_PairMay.eq (a b c t : Int) : vendmeterref_PairMay.f a b c t = some (oracle_known.pm ⟨a, b, c, t⟩ && oracle_known.tag ⟨a, b, c, t⟩) := by
 unfold vendmeterref_PairMay.f oracle_known.pm oracle_known.tag
 simp only [vendmeterref_In.eq, Option.bind_some]
 by_cases h0 : 0 ≤ a ∧ a ≤ 49
 ·
  rw [if_pos (decide_eq_true h0)]
  by_cases h1 : 0 ≤ b ∧ b ≤ 15
  ·
   rw [if_pos (decide_eq_true h1)]
   by_cases h2 : 0 ≤ c ∧ c ≤ 8796093022207
   ·
    rw [if_pos (decide_eq_true h2), decide_eq_true (show (0 ≤ a ∧ a < 50) ∧ (0 ≤ b ∧ b ≤ 15) ∧ (0 ≤ c ∧ c ≤ 8796093022207) by omega), Bool.true_and]
   ·
    rw [if_neg (by rw [decide_eq_true_eq]; exact h2), decide_eq_false (show ¬ ((0 ≤ a ∧ a < 50) ∧ (0 ≤ b ∧ b ≤ 15) ∧ (0 ≤ c ∧ c ≤ 8796093022207)) by omega), Bool.false_and]
  ·
   rw [if_neg (by rw [decide_eq_true_eq]; exact h1), decide_eq_false (show ¬ ((0 ≤ a ∧ a < 50) ∧ (0 ≤ b ∧ b ≤ 15) ∧ (0 ≤ c ∧ c ≤ 8796093022207)) by omega), Bool.false_and]
 ·
  rw [if_neg (by rw [decide_eq_true_eq]; exact h0), decide_eq_false (show ¬ ((0 ≤ a ∧ a < 50) ∧ (0 ≤ b ∧ b ≤ 15) ∧ (0 ≤ c ∧ c ≤ 8796093022207)) by omega), Bool.false_and]
theorem find_take (l : List S55) (i : Nat) (hi : i < l.length) : (oracle_known.find (l.getD i z55).f0 (l.getD i z55).f1 (l.getD i z55).f2 0 (l.take i)).isNone = decide (placeOf (l.getD i z55).f0 (l.getD i z55).f1 (l.getD i z55).f2 l = (i : Int)) := by
 have hself : oracle_known.has (l.getD i z55).f0 (l.getD i z55).f1 (l.getD i z55).f2 (l.getD i z55) = true := (has_iff _ _ _ _).2 ⟨rfl, rfl, rfl⟩
 generalize (l.getD i z55).f0 = a at *
 generalize (l.getD i z55).f1 = b at *
 generalize (l.getD i z55).f2 = c at *
 have htk : ∀ j, j < i → (l.take i).getD j z55 = l.getD j z55 := fun j hj => by
  rw [List.getD_eq_getElem?_getD, List.getElem?_take_of_lt hj, List.getD_eq_getElem?_getD]
 have hlen : (l.take i).length = i := by rw [List.length_take]; omega
 unfold placeOf
 cases hf : oracle_known.find a b c 0 l with
 | none => exact absurd hself (by rw [find_miss hf i hi]; decide)
 | some x =>
  obtain ⟨m, v⟩ := x
  obtain ⟨h1, h2, h3, h4⟩ := find_hit hf
  cases hg : oracle_known.find a b c 0 (l.take i) with
  | none =>
   have hmi : m = i := by
    rcases Nat.lt_trichotomy m i with h | h | h
    ·
     have := find_miss hg m (by omega)
     rw [htk m h, h2] at this; cases this
    ·
     exact h
    ·
     have := h4 i h
     rw [hself] at this; cases this
   simp [hmi]
  | some y =>
   obtain ⟨q, u⟩ := y
   obtain ⟨g1, g2, g3, g4⟩ := find_hit hg
   rw [htk q (by omega)] at g2
   have : ¬ ((m : Int) = (i : Int)) := fun e => by
    have := h4 q (by omega)
    rw [g2] at this; cases this
   simp [this]
theorem vendmeterref_OracleMay.ev (l : List S55) (hl : l.length ≤ 1152921504606846976) : Ev (fun k => vendmeterref_OracleMay.f k l) (oracle_known.ok l) := by
 unfold vendmeterref_OracleMay.f oracle_known.ok
 by_cases h5 : (l.length : Int) > 500
 ·
  refine Ev.pos h5 (Ev.ret ?_)
  rw [decide_eq_false (by omega)]; rfl
 ·
  refine Ev.neg h5 ?_
  rw [decide_eq_true (show l.length ≤ 500 by omega), Bool.true_and]
  have key : ∀ d i : Nat, i + d = l.length → Ev (fun k => vendmeterref_OracleMay.l0 k (i : Int) l) (oracle_known.good l d i) := by
   intro d
   induction d with
   | zero =>
    intro i hi
    refine Ev.step (f := fun _ => some true) (fun k => ?_) (Ev.now _)
    simp only [vendmeterref_OracleMay.l0]; rw [if_neg (by omega)]
   | succ d ih =>
    intro i hi
    have hft := find_take l i (by omega)
    simp only [oracle_known.good, rd_pair]
    rw [hft]
    refine Ev.step (f := fun k => (some (oracle_known.pm (l.getD i z55) && oracle_known.tag (l.getD i z55))).bind fun t120 => (if t120 = true then ((vendmeterref_tagged.f k l (l.getD i z55).f0 (l.getD i z55).f1 (l.getD i z55).f2).bind fun t121 => (if t121 = (i : Int) then (vendmeterref_OracleMay.l0 k ((i + 1 : Nat) : Int) l) else (some false))) else (some false))) (fun k => ?_) ?_
    ·
     simp only [vendmeterref_OracleMay.l0, rd_pair, vendmeterref_PairMay.eq]
     rw [if_pos (by omega), if_pos (by omega), wn (show i < l.length by omega) hl]
    ·
     refine Ev.letS ?_
     cases hp : oracle_known.pm (l.getD i z55) with
     | false => exact Ev.neg (by simp) (Ev.ret (by simp))
     | true =>
      cases ht : oracle_known.tag (l.getD i z55) with
      | false => exact Ev.neg (by simp) (Ev.ret (by simp))
      | true =>
       refine Ev.pos rfl (Ev.bind (vendmeterref_tagged.ev l _ _ _ hl) ?_)
       by_cases hpl : placeOf (l.getD i z55).f0 (l.getD i z55).f1 (l.getD i z55).f2 l = (i : Int)
       ·
        rw [decide_eq_true hpl]
        exact Ev.pos hpl (by simpa using ih (i + 1) (by omega))
       ·
        rw [decide_eq_false hpl]
        exact Ev.neg hpl (Ev.now _)
  exact key l.length 0 (by omega)
theorem vendmeterlaw_sameOracle.ev (l) (hl : l.length ≤ 1152921504606846976) : Ev (fun k => vendmeterlaw_sameOracle.f k l l) true := by
 unfold vendmeterlaw_sameOracle.f
 refine Ev.pos rfl (same_ev (l := fun k i => vendmeterlaw_sameOracle.l0 k i l l) hl (fun k i hi => ?_) (fun k => ?_))
 ·
  simp only [vendmeterlaw_sameOracle.l0]; rw [if_pos (by omega), if_pos (by omega), if_pos (by omega)]; simp
 ·
  simp only [vendmeterlaw_sameOracle.l0]; rw [if_neg (by omega)]
def lenN (n : Nat) : Nat := if n = 0 then 0 else Nat.log2 n + 1
theorem lenN_le (n m : Nat) : lenN n ≤ m ↔ n < 2 ^ m := by
 unfold lenN
 by_cases h : n = 0
 ·
  subst h; simp [Nat.two_pow_pos]
 ·
  rw [if_neg h, Nat.succ_le_iff, Nat.log2_lt h]
theorem lenN_shift (n k : Nat) (h : 2 ^ k ≤ n) : lenN n = k + lenN (n / 2 ^ k) := by
 have key : ∀ m, lenN n ≤ m ↔ k + lenN (n / 2 ^ k) ≤ m := by
  intro m
  rw [lenN_le]
  rcases Nat.lt_or_ge m k with hm | hm
  ·
   have h1 : 2 ^ m ≤ 2 ^ k := Nat.pow_le_pow_right (by decide) (by omega)
   constructor
   ·
    intro h2; omega
   ·
    intro h2; omega
  ·
   obtain ⟨j, rfl⟩ : ∃ j, m = k + j := ⟨m - k, by omega⟩
   rw [show k + lenN (n / 2 ^ k) ≤ k + j ↔ lenN (n / 2 ^ k) ≤ j by omega, lenN_le, Nat.div_lt_iff_lt_mul (Nat.two_pow_pos k), Nat.pow_add, Nat.mul_comm]
 exact Nat.le_antisymm ((key _).2 (Nat.le_refl _)) ((key _).1 (Nat.le_refl _))
def len8 : ByteArray := (⟨#[0, 1, 2, 2, 3, 3, 3, 3, 4, 4, 4, 4, 4, 4, 4, 4, 5, 5, 5, 5, 5, 5, 5, 5, 5, 5, 5, 5, 5, 5, 5, 5, 6, 6, 6, 6, 6, 6, 6, 6, 6, 6, 6, 6, 6, 6, 6, 6, 6, 6, 6, 6, 6, 6, 6, 6, 6, 6, 6, 6, 6, 6, 6, 6, 7, 7, 7, 7, 7, 7, 7, 7, 7, 7, 7, 7, 7, 7, 7, 7, 7, 7, 7, 7, 7, 7, 7, 7, 7, 7, 7, 7, 7, 7, 7, 7, 7, 7, 7, 7, 7, 7, 7, 7, 7, 7, 7, 7, 7, 7, 7, 7, 7, 7, 7, 7, 7, 7, 7, 7, 7, 7, 7, 7, 7, 7, 7, 7, 8, 8, 8, 8, 8, 8, 8, 8, 8, 8, 8, 8, 8, 8, 8, 8, 8, 8, 8, 8, 8, 8, 8, 8, 8, 8, 8, 8, 8, 8, 8, 8, 8, 8, 8, 8, 8, 8, 8, 8, 8, 8, 8, 8, 8, 8, 8, 8, 8, 8, 8, 8, 8, 8, 8, 8, 8, 8, 8, 8, 8, 8, 8, 8, 8, 8, 8, 8, 8, 8, 8, 8, 8, 8, 8, 8, 8, 8, 8, 8, 8, 8, 8, 8, 8, 8, 8, 8, 8, 8, 8, 8, 8, 8, 8, 8, 8, 8, 8, 8, 8, 8, 8, 8, 8, 8, 8, 8, 8, 8, 8, 8, 8, 8, 8, 8, 8, 8, 8, 8, 8, 8, 8, 8, 8, 8, 8, 8]⟩ : ByteArray)
set_option maxRecDepth 100000 in
theorem bt_len8 : ∀ n : Nat, n < 256 → bt len8 (n : Int) = ((lenN n : Nat) : Int) := by decide +kernel
set_option maxRecDepth 100000 in
theorem len64_j_eq (k : Nat) (x o : Int) : bits_Len64.j0 (k + 1) x o = if x ≥ 65536 then (if x / 65536 ≥ 256 then (if 0 ≤ ((x / 65536 / 256) % 256) then (if ((x / 65536 / 256) % 256) < 256 then (some (wrap64 (wrap64 (wrap64 (o + 16) + 8) + (wrap64 (bt len8 ((x / 65536 / 256) % 256)))))) else none) else none) else (if 0 ≤ ((x / 65536) % 256) then (if ((x / 65536) % 256) < 256 then (some (wrap64 (wrap64 (o + 16) + (wrap64 (bt len8 ((x / 65536) % 256)))))) else none) else none)) else (if x ≥ 256 then (if 0 ≤ ((x / 256) % 256) then (if ((x / 256) % 256) < 256 then (some (wrap64 (wrap64 (o + 8) + (wrap64 (bt len8 ((x / 256) % 256)))))) else none) else none) else (if 0 ≤ (x % 256) then (if (x % 256) < 256 then (some (wrap64 (o + (wrap64 (bt len8 (x % 256)))))) else none) else none)) := rfl
theorem len64_j (x : Nat) (hx : x < 4294967296) (o : Nat) (ho : o ≤ 32) : Ev (fun k => bits_Len64.j0 k (x : Int) (o : Int)) ((o + lenN x : Nat) : Int) := by
 have hb : lenN x ≤ 32 := (lenN_le x 32).2 hx
 have e1 : ((x : Int) / 65536 / 256) % 256 = ((x / 65536 / 256 : Nat) : Int) := by omega
 refine Ev.step (f := fun _ => some ((o + lenN x : Nat) : Int)) (fun k => ?_) (Ev.now _)
 rw [len64_j_eq]
 by_cases h1 : 65536 ≤ x
 ·
  have s1 := lenN_shift x 16 h1
  rw [if_pos (by omega)]
  by_cases h2 : 256 ≤ x / 65536
  ·
   have s2 := lenN_shift (x / 65536) 8 h2
   rw [if_pos (by omega), e1, if_pos (by omega), if_pos (by omega), bt_len8 _ (by omega)]
   have s3 : lenN x = 24 + lenN (x / 65536 / 256) := by rw [s1]; simp only [Nat.reducePow] at s2 ⊢; rw [s2]; omega
   rw [wr (a := (o : Int) + 16) ⟨by omega, by omega⟩, wr (a := (o : Int) + 16 + 8) ⟨by omega, by omega⟩, wr (a := ((lenN (x / 65536 / 256) : Nat) : Int)) ⟨by omega, by omega⟩, wr ⟨by omega, by omega⟩]
   congr 1
   omega
  ·
   have e2 : ((x : Int) / 65536) % 256 = ((x / 65536 : Nat) : Int) := by omega
   rw [if_neg (by omega), e2, if_pos (by omega), if_pos (by omega), bt_len8 _ (by omega)]
   have s3 : lenN x = 16 + lenN (x / 65536) := by rw [s1]
   rw [wr (a := (o : Int) + 16) ⟨by omega, by omega⟩, wr (a := ((lenN (x / 65536) : Nat) : Int)) ⟨by omega, by omega⟩, wr ⟨by omega, by omega⟩]
   congr 1
   omega
 ·
  rw [if_neg (by omega)]
  by_cases h2 : 256 ≤ x
  ·
   have s2 := lenN_shift x 8 h2
   have e2 : ((x : Int) / 256) % 256 = ((x / 256 : Nat) : Int) := by omega
   rw [if_pos (by omega), e2, if_pos (by omega), if_pos (by omega), bt_len8 _ (by omega)]
   have s3 : lenN x = 8 + lenN (x / 256) := by rw [s2]
   rw [wr (a := (o : Int) + 8) ⟨by omega, by omega⟩, wr (a := ((lenN (x / 256) : Nat) : Int)) ⟨by omega, by omega⟩, wr ⟨by omega, by omega⟩]
   congr 1
   omega
  ·
   have e2 : (x : Int) % 256 = ((x : Nat) : Int) := by omega
   rw [if_neg (by omega), e2, if_pos (by omega), if_pos (by omega), bt_len8 _ (by omega), wr (a := ((lenN x : Nat) : Int)) ⟨by omega, by omega⟩, wr ⟨by omega, by omega⟩]
   congr 1
theorem bits_Len64.ev (x : Nat) (hx : x < 18446744073709551616) : Ev (fun k => bits_Len64.f k (x : Int)) ((lenN x : Nat) : Int) := by
 unfold bits_Len64.f
 by_cases h : 4294967296 ≤ x
 ·
  have s := lenN_shift x 32 h
  refine Ev.pos (by omega) ?_
  have := len64_j (x / 4294967296) (by omega) 32 (by omega)
  rw [show ((x : Int) / 4294967296) = ((x / 4294967296 : Nat) : Int) by omega, s]
  exact this
 ·
  refine Ev.neg (by omega) ?_
  have := len64_j x (by omega) 0 (by omega)
  rw [Nat.zero_add] at this
  exact this
theorem u64w {a : Int} (h : 0 ≤ a ∧ a < 18446744073709551616) : IntKind.u64.wrap a = a := by simp [IntKind.wrap, IntKind.bits, IntKind.signed]; omega
def memF (H : Int) (b : Nat) : Nat → List Int
 | 0 => []
 | i + 1 => (if b.testBit i then [H - (i : Int)] else []) ++ memF H b i
theorem memF_len (H : Int) (b : Nat) : ∀ i, (memF H b i).length ≤ i
 | 0 => Nat.le_refl _
 | i + 1 => by
  have := memF_len H b i
  simp only [memF, List.length_append]
  split <;> simp <;> omega
theorem memF_high (H : Int) (b : Nat) : ∀ d i, b < 2 ^ i → memF H b (i + d) = memF H b i
 | 0, _, _ => rfl
 | d + 1, i, h => by
  rw [← Nat.add_assoc]
  simp only [memF]
  rw [memF_high H b d i h, Nat.testBit_lt_two_pow (Nat.lt_of_lt_of_le h (Nat.pow_le_pow_right (by decide) (Nat.le_add_right i d)))]
  rfl
theorem top_bit (b : Nat) (h : b ≠ 0) : b.testBit (lenN b - 1) = true ∧ b < 2 ^ lenN b ∧ 1 ≤ lenN b := by
 have h1 : 1 ≤ lenN b := by unfold lenN; rw [if_neg h]; omega
 have h2 := (lenN_le b (lenN b)).1 (Nat.le_refl _)
 refine ⟨?_, h2, h1⟩
 have h3 : ¬ b < 2 ^ (lenN b - 1) := fun h4 => by have := (lenN_le b (lenN b - 1)).2 h4; omega
 rw [Nat.testBit_eq_decide_div_mod_eq, decide_eq_true_eq]
 have h5 : b / 2 ^ (lenN b - 1) < 2 := by
  rw [Nat.div_lt_iff_lt_mul (Nat.two_pow_pos _), Nat.mul_comm, ← Nat.pow_succ, show (lenN b - 1).succ = lenN b by omega]
  exact h2
 have h6 : 0 < b / 2 ^ (lenN b - 1) := Nat.div_pos (by omega) (Nat.two_pow_pos _)
 omega
theorem memF_cons (H : Int) (b : Nat) (h : b ≠ 0) (hb : b < 18446744073709551616) : memF H b 64 = (H - ((lenN b - 1 : Nat) : Int)) :: memF H b (lenN b - 1) := by
 obtain ⟨t, h2, h1⟩ := top_bit b h
 have h64 : lenN b ≤ 64 := (lenN_le b 64).2 hb
 have e := memF_high H b (64 - lenN b) (lenN b) h2
 rw [show lenN b + (64 - lenN b) = 64 by omega] at e
 rw [e]
 obtain ⟨m, hm⟩ : ∃ m, lenN b = m + 1 := ⟨lenN b - 1, by omega⟩
 rw [hm] at t ⊢
 simp only [memF, Nat.add_sub_cancel] at t ⊢
 rw [if_pos t]; rfl
theorem memF_zero (H : Int) : ∀ i, memF H 0 i = []
 | 0 => rfl
 | i + 1 => by simp [memF, memF_zero H i]
theorem memF_mem (H : Int) (b : Nat) (x : Int) : ∀ i, x ∈ memF H b i ↔ ∃ j, j < i ∧ b.testBit j = true ∧ x = H - (j : Int)
 | 0 => by simp [memF]
 | i + 1 => by
  simp only [memF, List.mem_append, memF_mem H b x i]
  constructor
  ·
   rintro (h | ⟨j, h1, h2, h3⟩)
   ·
    by_cases ht : b.testBit i = true
    ·
     rw [if_pos ht] at h
     exact ⟨i, by omega, ht, by simpa using h⟩
    ·
     rw [if_neg ht] at h
     simp at h
   ·
    exact ⟨j, by omega, h2, h3⟩
  ·
   rintro ⟨j, h1, h2, h3⟩
   by_cases hj : j = i
   ·
    subst hj
    exact .inl (by rw [if_pos h2]; simpa using h3)
   ·
    exact .inr ⟨j, by omega, h2, h3⟩
theorem memF_last (H : Int) (b : Nat) : ∀ i, 0 < (memF H b (i + 1)).length → ((memF H b (i + 1)).getD ((memF H b (i + 1)).length - 1) 0 = H ↔ b.testBit 0 = true)
 | 0, h => by
  simp only [memF, List.append_nil] at h ⊢
  by_cases ht : b.testBit 0 = true
  ·
   simp [ht]
  ·
   simp [ht] at h
 | i + 1, h => by
  by_cases he : 0 < (memF H b (i + 1)).length
  ·
   have ih := memF_last H b i he
   have e : (memF H b (i + 1 + 1)).getD ((memF H b (i + 1 + 1)).length - 1) 0 = (memF H b (i + 1)).getD ((memF H b (i + 1)).length - 1) 0 := by
    rw [show memF H b (i + 1 + 1) = (if b.testBit (i + 1) then [H - ((i + 1 : Nat) : Int)] else []) ++ memF H b (i + 1) from rfl]
    rw [List.getD_eq_getElem?_getD, List.getD_eq_getElem?_getD, List.length_append, List.getElem?_append_right (by omega)]
    congr 2
    omega
   rw [e]
   exact ih
  ·
   have h0 : memF H b (i + 1) = [] := List.eq_nil_of_length_eq_zero (by omega)
   have hb0 : ¬ b.testBit 0 = true := by
    intro ht
    have := (memF_mem H b (H - ((0 : Nat) : Int)) (i + 1)).2 ⟨0, by omega, ht, rfl⟩
    rw [h0] at this
    simp at this
   rw [show memF H b (i + 1 + 1) = (if b.testBit (i + 1) then [H - ((i + 1 : Nat) : Int)] else []) ++ memF H b (i + 1) from rfl, h0] at h ⊢
   by_cases ht : b.testBit (i + 1) = true
   ·
    rw [if_pos ht]
    constructor
    ·
     intro e
     have : H - ((i + 1 : Nat) : Int) = H := by simpa using e
     omega
    ·
     intro e; exact absurd e hb0
   ·
    rw [if_neg ht] at h
    simp at h
def mayW (H : Int) (b : Nat) : Bool := decide ((H = 0 ∧ b = 0) ∨ ((1 ≤ H ∧ H ≤ 1048575) ∧ b % 2 = 1 ∧ ((lenN b : Nat) : Int) ≤ H))
theorem mayW_H {H : Int} {b : Nat} (h : mayW H b = true) : 0 ≤ H ∧ H ≤ 1048575 := by
 unfold mayW at h
 rw [decide_eq_true_eq] at h
 omega
theorem and_one (b : Nat) (hb : b < 18446744073709551616) : Go.bits .and .u64 (b : Int) 1 = ((b % 2 : Nat) : Int) := by
 have := u64_and_nat b 1 hb (by decide)
 rw [Nat.and_one_is_mod] at this
 exact this
theorem window_may.ev (H : Int) (b : Nat) (hb : b < 18446744073709551616) : Ev (fun k => window_may.f k H (b : Int)) (mayW H b) := by
 unfold window_may.f
 have h64 : lenN b ≤ 64 := (lenN_le b 64).2 hb
 by_cases h1 : H < 1
 ·
  refine Ev.pos h1 (Ev.ret ?_)
  unfold mayW
  rw [Bool.eq_iff_iff]
  simp only [Bool.and_eq_true, beq_iff_eq, decide_eq_true_eq]
  omega
 ·
  refine Ev.neg h1 ?_
  by_cases h2 : H ≤ 1048575
  ·
   refine Ev.pos h2 ?_
   rw [and_one b hb]
   by_cases h3 : b % 2 = 1
   ·
    refine Ev.pos (by omega) (Ev.bind (bits_Len64.ev b hb) (Ev.ret ?_))
    unfold mayW mn
    rw [decide_eq_decide]
    split <;> omega
   ·
    refine Ev.neg (by omega) (Ev.ret ?_)
    unfold mayW
    symm
    rw [decide_eq_false_iff_not]
    omega
  ·
   refine Ev.neg h2 (Ev.ret ?_)
   unfold mayW
   symm
   rw [decide_eq_false_iff_not]
   omega
theorem memF_low (H : Int) (b c : Nat) : ∀ i, (∀ j, j < i → b.testBit j = c.testBit j) → memF H b i = memF H c i
 | 0, _ => rfl
 | i + 1, h => by
  simp only [memF]
  rw [memF_low H b c i (fun j hj => h j (by omega)), h i (by omega)]
theorem shl_one (t : Nat) (ht : t < 64) : shl .u64 1 (t : Int) = ((2 ^ t : Nat) : Int) := by
 unfold shl
 have h1 : 2 ^ t < 18446744073709551616 := Nat.pow_lt_pow_right (by decide) ht
 rw [Int.toNat_natCast, show min t IntKind.u64.bits = t by show min t 64 = t; omega, Int.one_mul]
 have e : (2 : Int) ^ t = ((2 ^ t : Nat) : Int) := by simp
 rw [e]
 generalize 2 ^ t = q at h1
 rw [u64w ⟨by omega, by omega⟩]
theorem clear_top (b : Nat) (h : b ≠ 0) (hb : b < 18446744073709551616) : ∃ c : Nat, Go.bits .andNot .u64 (b : Int) ((2 ^ (lenN b - 1) : Nat) : Int) = (c : Int) ∧ c < 2 ^ (lenN b - 1) ∧ ∀ j, j < lenN b - 1 → b.testBit j = c.testBit j := by
 obtain ⟨t, h2, h1⟩ := top_bit b h
 have h64 : lenN b ≤ 64 := (lenN_le b 64).2 hb
 have hp : 2 ^ (lenN b - 1) < 18446744073709551616 := Nat.pow_lt_pow_right (by decide) (show lenN b - 1 < 64 by omega)
 refine ⟨b &&& (18446744073709551615 - 2 ^ (lenN b - 1)), u64_andNot_nat b _ hb hp, ?_, ?_⟩
 ·
  apply Nat.lt_pow_two_of_testBit
  intro j hj
  rw [Nat.testBit_and]
  by_cases e : j = lenN b - 1
  ·
   subst e
   have : (18446744073709551615 - 2 ^ (lenN b - 1)) = 2 ^ 64 - (2 ^ (lenN b - 1) + 1) := by omega
   rw [this, Nat.testBit_two_pow_sub_succ (by omega : 2 ^ (lenN b - 1) < 2 ^ 64)]
   simp
  ·
   rw [Nat.testBit_lt_two_pow (Nat.lt_of_lt_of_le h2 (Nat.pow_le_pow_right (by decide) (by omega)))]
   rfl
 ·
  intro j hj
  have : (18446744073709551615 - 2 ^ (lenN b - 1)) = 2 ^ 64 - (2 ^ (lenN b - 1) + 1) := by omega
  rw [Nat.testBit_and, this, Nat.testBit_two_pow_sub_succ (by omega : 2 ^ (lenN b - 1) < 2 ^ 64), Nat.testBit_two_pow_of_ne (by omega)]
  simp [show j < 64 by omega]
def usedAns (H : Int) (b : Nat) : List Int × Int := if mayW H b then (memF H b 64, 0) else ([], 5)
theorem window_Used.ev (H : Int) (b : Nat) (hb : b < 18446744073709551616) : Ev (fun k => window_Used.f k H (b : Int)) (usedAns H b) := by
 unfold window_Used.f usedAns
 refine Ev.bind (window_may.ev H b hb) ?_
 by_cases hm : mayW H b = true
 ·
  rw [if_pos hm]
  refine Ev.pos hm ?_
  have hH := mayW_H hm
  generalize hB : (b : Int) = B
  have key : ∀ (n c : Nat) (acc : List Int), lenN c ≤ n → c < 18446744073709551616 → acc.length + lenN c ≤ 64 → Ev (fun k => window_Used.l0 k acc (c : Int) H B) (acc ++ memF H c 64, 0) := by
   intro n
   induction n with
   | zero =>
    intro c acc hn hc _
    have c0 : c = 0 := by
     have := (lenN_le c 0).1 hn
     omega
    subst c0
    refine Ev.step (f := fun _ => some (acc, 0)) (fun k => ?_) (Ev.ret (by rw [memF_zero, List.append_nil]))
    simp only [window_Used.l0]; rw [if_pos (show ((0 : Nat) : Int) = 0 from rfl)]
   | succ n ih =>
    intro c acc hn hc ha
    by_cases c0 : c = 0
    ·
     subst c0
     refine Ev.step (f := fun _ => some (acc, 0)) (fun k => ?_) (Ev.ret (by rw [memF_zero, List.append_nil]))
     simp only [window_Used.l0]; rw [if_pos (show ((0 : Nat) : Int) = 0 from rfl)]
    ·
     obtain ⟨t, h2, h1⟩ := top_bit c c0
     have h64 : lenN c ≤ 64 := (lenN_le c 64).2 hc
     obtain ⟨e, he, hel, hlow⟩ := clear_top c c0 hc
     have hel2 := (lenN_le e (lenN c - 1)).2 hel
     have hlt : e < 18446744073709551616 := Nat.lt_of_lt_of_le hel (Nat.pow_le_pow_right (by decide) (show lenN c - 1 ≤ 64 by omega))
     have z := ih e (acc ++ [H - ((lenN c - 1 : Nat) : Int)]) (by omega) hlt (by simp; omega)
     refine Ev.step (f := fun k => (bits_Len64.f k (c : Int)).bind fun t105 => if acc.length < 17592186044416 then (if 0 ≤ (wrap64 (t105 - 1)) then (window_Used.l0 k (acc ++ [wrap64 (H - (wrap64 (t105 - 1)))]) (Go.bits .andNot .u64 (c : Int) (shl .u64 1 (wrap64 (t105 - 1)))) H B) else none) else none) (fun k => ?_) ?_
     ·
      simp only [window_Used.l0]; rw [if_neg (by omega)]
     ·
      refine Ev.bind (bits_Len64.ev c hc) (Ev.pos (by omega) ?_)
      rw [wr (a := ((lenN c : Nat) : Int) - 1) ⟨by omega, by omega⟩, show ((lenN c : Nat) : Int) - 1 = ((lenN c - 1 : Nat) : Int) by omega, wr (a := H - ((lenN c - 1 : Nat) : Int)) ⟨by omega, by omega⟩, shl_one _ (by omega), he]
      refine Ev.pos (by omega) (Ev.eq ?_ z)
      rw [memF_cons H c c0 hc, List.append_assoc, List.singleton_append, memF_low H c e _ hlow]
      have := memF_high H e (64 - (lenN c - 1)) (lenN c - 1) hel
      rw [show lenN c - 1 + (64 - (lenN c - 1)) = 64 by omega] at this
      rw [this]
  rw [← hB]
  have := key 64 b [] ((lenN_le b 64).2 hb) hb (by simp; exact (lenN_le b 64).2 hb)
  rw [hB] at this
  rw [hB]
  rw [← hB] at this ⊢
  simpa using this
 ·
  rw [if_neg hm]
  exact Ev.neg hm (Ev.now _)
def inM (me rev cr bad lock : Int) : Prop := (0 ≤ me ∧ me < 50) ∧ (0 ≤ rev ∧ rev ≤ 15) ∧ (0 ≤ cr ∧ cr ≤ 99999999) ∧ (0 ≤ bad ∧ bad < 5) ∧ (0 ≤ lock ∧ lock ≤ 30) ∧ (bad = 0 ∨ lock = 0)
instance (me rev cr bad lock : Int) : Decidable (inM me rev cr bad lock) := by unfold inM; infer_instance
def mayM (me rev cr H : Int) (b : Nat) (bad lock : Int) : Bool := decide (inM me rev cr bad lock) && mayW H b
theorem mayM_no {me rev cr bad lock : Int} (H : Int) (b : Nat) (h : ¬ inM me rev cr bad lock) : mayM me rev cr H b bad lock = false := by unfold mayM; rw [decide_eq_false h]; rfl
theorem mayM_yes {me rev cr bad lock : Int} (H : Int) (b : Nat) (h : inM me rev cr bad lock) : mayM me rev cr H b bad lock = mayW H b := by unfold mayM; rw [decide_eq_true h]; rfl
theorem mayM_in {me rev cr H : Int} {b : Nat} {bad lock : Int} (h : mayM me rev cr H b bad lock = true) : inM me rev cr bad lock ∧ mayW H b = true := by
 unfold mayM at h
 rw [Bool.and_eq_true, decide_eq_true_eq] at h
 exact h
theorem used_code (H : Int) (b : Nat) : ((usedAns H b).2 == 0) = mayW H b := by
 unfold usedAns
 cases mayW H b <;> rfl
theorem meter_may.ev (me rev cr H : Int) (b : Nat) (bad lock : Int) (hb : b < 18446744073709551616) : Ev (fun k => meter_may.f k me rev cr H (b : Int) bad lock) (mayM me rev cr H b bad lock) := by
 have jT : ∀ r, r = false → Ev (fun k => meter_may.j0 k true me rev cr H (b : Int) bad lock) r := by
  rintro r rfl
  exact Ev.step (f := fun _ => some false) (fun k => rfl) (Ev.now _)
 have no := fun h => mayM_no (me := me) (rev := rev) (cr := cr) (bad := bad) (lock := lock) H b h
 unfold meter_may.f
 refine Ev.split (fun h => jT _ (no (by unfold inM; omega))) (fun h1 => Ev.split (fun h => jT _ (no (by unfold inM; omega))) (fun h2 => Ev.split (fun h => jT _ (no (by unfold inM; omega))) (fun h3 => Ev.split (fun h => jT _ (no (by unfold inM; omega))) (fun h4 => Ev.split (fun h => jT _ (no (by unfold inM; omega))) (fun h5 => ?_)))))
 by_cases h6 : cr > 99999999
 ·
  rw [decide_eq_true h6]
  exact jT _ (no (by unfold inM; omega))
 ·
  rw [decide_eq_false h6]
  refine Ev.succ ?_
  simp only [meter_may.j0, Bool.false_eq_true, if_false]
  have hu : inM me rev cr bad lock → Ev (fun k => (window_Used.f k H (b : Int)).bind fun z => some (z.2 == 0)) (mayM me rev cr H b bad lock) := by
   intro h
   refine Ev.bind (window_Used.ev H b hb) (Ev.ret ?_)
   rw [used_code, mayM_yes H b h]
  refine Ev.split (fun h => Ev.ret (no (by unfold inM; omega)).symm) (fun g1 => Ev.split (fun h => Ev.ret (no (by unfold inM; omega)).symm) (fun g2 => Ev.split (fun h => Ev.ret (no (by unfold inM; omega)).symm) (fun g3 => Ev.split (fun h => Ev.ret (no (by unfold inM; omega)).symm) (fun g4 => Ev.split (fun g5 => Ev.split (fun h => Ev.ret (no (by unfold inM; omega)).symm) (fun g6 => hu (by unfold inM; omega))) (fun g5 => hu (by unfold inM; omega))))))
theorem vendmeterref_bitAt.ev (b i : Nat) (hb : b < 18446744073709551616) (hi : i ≤ 64) : Ev (fun k => vendmeterref_bitAt.f k (b : Int) (i : Int)) (b.testBit i) := by
 unfold vendmeterref_bitAt.f
 have key := down (P := fun j => Ev (fun k => vendmeterref_bitAt.l0 k ((b / 2 ^ j : Nat) : Int) (i : Int) (j : Int)) (b.testBit i)) (n := i) (by
  refine Ev.step (f := fun _ => some (b.testBit i)) (fun k => ?_) (Ev.now _)
  rw [Nat.testBit_eq_decide_div_mod_eq]
  generalize b / 2 ^ i = q
  simp only [vendmeterref_bitAt.l0]
  rw [if_neg (by omega), tm (by omega)]
  congr 1
  rw [Bool.eq_iff_iff]
  simp only [beq_iff_eq, decide_eq_true_eq]
  omega) (by
  intro j hj ih
  refine Ev.step (fun k => ?_) ih
  have hlt : b / 2 ^ j ≤ b := Nat.div_le_self _ _
  rw [Nat.pow_succ, ← Nat.div_div_eq_div_mul]
  generalize b / 2 ^ j = q at hlt
  simp only [vendmeterref_bitAt.l0]
  rw [if_pos (by omega), td (by omega), u64w ⟨by omega, by omega⟩, wn (show j < 65 by omega) (by omega)]
  rfl)
 simpa using key
theorem vendmeterref_members.ev (H : Int) (b : Nat) (hb : b < 18446744073709551616) (hH : 0 ≤ H ∧ H ≤ 1048575) : Ev (fun k => vendmeterref_members.f k H (b : Int)) (memF H b 64) := by
 unfold vendmeterref_members.f
 have key : ∀ i : Nat, i ≤ 64 → ∀ acc : List Int, acc.length + i ≤ 64 → Ev (fun k => vendmeterref_members.l0 k acc ((i : Int) - 1) H (b : Int)) (acc ++ memF H b i) := by
  intro i
  induction i with
  | zero =>
   intro _ acc _
   refine Ev.step (f := fun _ => some acc) (fun k => ?_) (Ev.ret (by simp [memF]))
   simp only [vendmeterref_members.l0]; rw [if_neg (by omega)]
  | succ i ih =>
   intro hi acc hacc
   refine Ev.step (f := fun k => (vendmeterref_bitAt.f k (b : Int) (i : Int)).bind fun t => if t = true then (if acc.length < 17592186044416 then vendmeterref_members.l0 k (acc ++ [H - (i : Int)]) ((i : Int) - 1) H (b : Int) else none) else vendmeterref_members.l0 k acc ((i : Int) - 1) H (b : Int)) (fun k => ?_) ?_
   ·
    simp only [vendmeterref_members.l0]
    rw [if_pos (by omega), show ((i + 1 : Nat) : Int) - 1 = (i : Int) by omega, wr (a := H - (i : Int)) ⟨by omega, by omega⟩, wr (a := (i : Int) - 1) ⟨by omega, by omega⟩]
   ·
    refine Ev.bind (vendmeterref_bitAt.ev b i hb (by omega)) ?_
    simp only [memF]
    by_cases ht : b.testBit i = true
    ·
     refine Ev.pos ht (Ev.pos (by omega) (Ev.eq ?_ (ih (by omega) (acc ++ [H - (i : Int)]) (by simp; omega))))
     rw [if_pos ht, List.append_assoc]
    ·
     refine Ev.neg ht (Ev.eq ?_ (ih (by omega) acc (by omega)))
     rw [if_neg ht, List.nil_append]
 simpa using key 64 (by omega) [] (by simp)
theorem vendmeterref_WindowMay.ev (H : Int) (b : Nat) (hb : b < 18446744073709551616) : Ev (fun k => vendmeterref_WindowMay.f k H (b : Int)) (mayW H b) := by
 unfold vendmeterref_WindowMay.f
 by_cases h0 : H = 0
 ·
  refine Ev.pos h0 (Ev.ret ?_)
  unfold mayW
  rw [Bool.eq_iff_iff]
  simp only [beq_iff_eq, decide_eq_true_eq]
  omega
 ·
  refine Ev.neg h0 ?_
  rw [vendmeterref_In.eq]
  refine Ev.letS ?_
  by_cases h1 : 1 ≤ H ∧ H ≤ 1048575
  ·
   refine Ev.pos (by simpa using h1) (Ev.bind (vendmeterref_members.ev H b hb (by omega)) ?_)
   have hlen := memF_len H b 64
   by_cases hz : b = 0
   ·
    subst hz
    rw [memF_zero]
    refine Ev.neg (by decide) (Ev.ret ?_)
    unfold mayW
    symm
    rw [decide_eq_false_iff_not]
    omega
   ·
    have hc := memF_cons H b hz hb
    have hp : 0 < (memF H b 64).length := by rw [hc]; simp
    have hl := memF_last H b 63 hp
    have hd : rd (memF H b 64) 0 = H - ((lenN b - 1 : Nat) : Int) := by rw [hc]; rfl
    obtain ⟨_, _, hn1⟩ := top_bit b hz
    refine Ev.pos (by omega) (Ev.pos (by omega) ?_)
    rw [hd]
    by_cases h2 : H - ((lenN b - 1 : Nat) : Int) ≥ 1
    ·
     refine Ev.pos h2 ?_
     rw [wr (a := ((memF H b 64).length : Int) - 1) ⟨by omega, by omega⟩]
     refine Ev.pos (by omega) (Ev.pos (by omega) (Ev.ret ?_))
     rw [show ((memF H b 64).length : Int) - 1 = (((memF H b 64).length - 1 : Nat) : Int) by omega, rd_nat]
     unfold mayW
     rw [Bool.eq_iff_iff]
     simp only [beq_iff_eq, decide_eq_true_eq]
     rw [hl, Nat.testBit_zero, decide_eq_true_eq]
     omega
    ·
     refine Ev.neg h2 (Ev.ret ?_)
     unfold mayW
     symm
     rw [decide_eq_false_iff_not]
     omega
  ·
   refine Ev.neg (by simpa using h1) (Ev.ret ?_)
   unfold mayW
   symm
   rw [decide_eq_false_iff_not]
   omega
theorem vendmeterref_MeterMay.ev (me rev cr H : Int) (b : Nat) (bad lock : Int) (hb : b < 18446744073709551616) : Ev (fun k => vendmeterref_MeterMay.f k me rev cr H (b : Int) bad lock) (mayM me rev cr H b bad lock) := by
 have jT : ∀ r, r = false → Ev (fun k => vendmeterref_MeterMay.j0 k true me rev cr H (b : Int) bad lock) r := by
  rintro r rfl
  exact Ev.step (f := fun _ => some false) (fun k => rfl) (Ev.now _)
 have j1T : ∀ r, r = false → Ev (fun k => vendmeterref_MeterMay.j1 k true me rev cr H (b : Int) bad lock) r := by
  rintro r rfl
  exact Ev.step (f := fun _ => some false) (fun k => rfl) (Ev.now _)
 have no := fun h => mayM_no (me := me) (rev := rev) (cr := cr) (bad := bad) (lock := lock) H b h
 unfold vendmeterref_MeterMay.f
 simp only [vendmeterref_In.eq, Option.bind_some]
 by_cases h1 : 0 ≤ me ∧ me ≤ 49
 ·
  by_cases h2 : 0 ≤ rev ∧ rev ≤ 15
  ·
   by_cases h3 : 0 ≤ cr ∧ cr ≤ 99999999
   ·
    simp only [h1, h2, h3, and_self, decide_true, if_true, Bool.not_true]
    refine Ev.succ ?_
    simp only [vendmeterref_MeterMay.j0, vendmeterref_In.eq, Option.bind_some, Bool.false_eq_true, if_false]
    by_cases h4 : 0 ≤ bad ∧ bad ≤ 4
    ·
     by_cases h5 : 0 ≤ lock ∧ lock ≤ 30
     ·
      simp only [h4, h5, and_self, decide_true, if_true, Bool.not_true]
      refine Ev.succ ?_
      simp only [vendmeterref_MeterMay.j1, Bool.false_eq_true, if_false]
      have hu : inM me rev cr bad lock → Ev (fun k => (vendmeterref_WindowMay.f k H (b : Int)).bind fun z => some z) (mayM me rev cr H b bad lock) := by
       intro h
       exact Ev.bind (vendmeterref_WindowMay.ev H b hb) (Ev.ret (mayM_yes H b h).symm)
      exact Ev.split (fun g => hu (by unfold inM; omega)) (fun g => Ev.split (fun g2 => hu (by unfold inM; omega)) (fun g2 => Ev.ret (no (by unfold inM; omega)).symm))
     ·
      simp only [h4, h5, and_self, decide_true, decide_false, if_true, Bool.not_false]
      exact j1T _ (no (by unfold inM; omega))
    ·
     simp only [h4, decide_false, Bool.false_eq_true, if_false]
     exact j1T _ (no (by unfold inM; omega))
   ·
    simp only [h1, h2, h3, and_self, decide_true, decide_false, if_true, Bool.not_false]
    exact jT _ (no (by unfold inM; omega))
  ·
   simp only [h1, h2, and_self, decide_true, decide_false, if_true, Bool.false_eq_true, if_false]
   exact jT _ (no (by unfold inM; omega))
 ·
  simp only [h1, decide_false, Bool.false_eq_true, if_false]
  exact jT _ (no (by unfold inM; omega))
def tokAmt (c a : Int) : Prop := (c = 0 ∧ 1 ≤ a ∧ a ≤ 2097151) ∨ (c = 2 ∧ 1 ≤ a ∧ a ≤ 15) ∨ ((c = 1 ∨ c = 3) ∧ a = 0)
instance (c a : Int) : Decidable (tokAmt c a) := by unfold tokAmt; infer_instance
def tokFault (c i a t : Int) : Int := if 0 ≤ c ∧ c ≤ 3 then (if (1 ≤ i ∧ i ≤ 1048575) ∧ (0 ≤ t ∧ t ≤ 65535) ∧ tokAmt c a then 0 else 2) else 9
theorem tok_cases (c : Int) : c = 0 ∨ c = 1 ∨ c = 2 ∨ c = 3 ∨ ¬ (0 ≤ c ∧ c ≤ 3) := by omega
theorem token_fault.eq (c i a t : Int) : token_fault.f c i a t = some (tokFault c i a t) := by
 unfold token_fault.f token_bounds.f tokFault tokAmt
 rcases tok_cases c with rfl | rfl | rfl | rfl | h
 case inr.inr.inr.inr => rw [if_neg (by omega), if_neg (by omega), if_neg (by omega), if_neg (by omega), if_neg h]; rfl
 all_goals
  simp only [if_true, if_false, Option.bind_some, Int.reduceEq]
  repeat' split
  all_goals first | rfl | omega | (simp at *; omega)
theorem tok_zero {c i a t : Int} (h : tokFault c i a t = 0) : (0 ≤ c ∧ c ≤ 3) ∧ (1 ≤ i ∧ i ≤ 1048575) ∧ (0 ≤ t ∧ t ≤ 65535) ∧ tokAmt c a := by
 unfold tokFault at h
 split at h
 ·
  split at h
  ·
   exact ⟨by assumption, by assumption⟩
  ·
   omega
 ·
  omega
theorem tok_amt {c a : Int} (h : tokAmt c a) : 0 ≤ a ∧ a ≤ 2097151 := by unfold tokAmt at h; omega
theorem vendmeterref_TokenFault.ev (c i a t : Int) : Ev (fun k => vendmeterref_TokenFault.f k c i a t) (tokFault c i a t) := by
 refine Ev.succ (Ev.succ (Ev.succ ⟨0, fun k _ => ?_⟩))
 simp only [vendmeterref_TokenFault.f, vendmeterref_TokenFault.j0, vendmeterref_TokenFault.j1, vendmeterref_TokenFault.j2, vendmeterref_In.eq, Option.bind_some]
 unfold tokFault tokAmt
 rcases tok_cases c with rfl | rfl | rfl | rfl | h
 case inr.inr.inr.inr => rw [decide_eq_false h, if_neg h]; rfl
 all_goals
  by_cases hi : 1 ≤ i ∧ i ≤ 1048575 <;> by_cases ht : 0 ≤ t ∧ t ≤ 65535
  all_goals simp [hi, ht]
  all_goals first | done | (split <;> rfl) | (split <;> simp_all <;> omega)
def bodyAns (c i a t : Int) : Int × Int := if tokFault c i a t = 0 then (c * 2199023255552 + i * 2097152 + a, 0) else (0, tokFault c i a t)
theorem vendmeterref_BodyOf.ev (c i a t : Int) : Ev (fun k => vendmeterref_BodyOf.f k c i a t) (bodyAns c i a t) := by
 unfold vendmeterref_BodyOf.f bodyAns
 refine Ev.bind (vendmeterref_TokenFault.ev c i a t) (Ev.iteR (fun h => ?_) (fun _ => Ev.now _))
 obtain ⟨hc, hi, ht, ha⟩ := tok_zero h
 have ha := tok_amt ha
 rw [wr (a := c * 2199023255552) ⟨by omega, by omega⟩, wr (a := i * 2097152) ⟨by omega, by omega⟩, wr (a := c * 2199023255552 + i * 2097152) ⟨by omega, by omega⟩, wr ⟨by omega, by omega⟩]
 exact Ev.now _
theorem i64_or_nat (a b : Nat) (ha : a < 9223372036854775808) (hb : b < 9223372036854775808) : Go.bits .or .i64 (a : Int) (b : Int) = ((a ||| b : Nat) : Int) := by
 have hx : a ||| b < 2 ^ 63 := Nat.or_lt_two_pow (by omega) (by omega)
 show IntKind.i64.wrap ((BitVec.ofInt 64 (a : Int) ||| BitVec.ofInt 64 (b : Int)).toNat : Int) = _
 rw [BitVec.toNat_or, ofInt_u64 a (by omega), ofInt_u64 b (by omega)]
 exact IntWalk.i64_in _ (by omega)
theorem token_Body.eq (c i a t : Int) : token_Body.f c i a t = some (bodyAns c i a t) := by
 unfold token_Body.f bodyAns
 rw [token_fault.eq, Option.bind_some]
 by_cases h : tokFault c i a t = 0
 ·
  rw [if_pos h, if_pos h]
  obtain ⟨hc, hi, ht, ha⟩ := tok_zero h
  have hA := tok_amt ha
  clear ha h
  obtain ⟨c, rfl⟩ := Int.eq_ofNat_of_zero_le hc.1
  obtain ⟨i, rfl⟩ := Int.eq_ofNat_of_zero_le (show 0 ≤ i by omega)
  obtain ⟨a, rfl⟩ := Int.eq_ofNat_of_zero_le hA.1
  rw [wr (a := (c : Int) * 1048576) ⟨by omega, by omega⟩, show (c : Int) * 1048576 = ((2 ^ 20 * c : Nat) : Int) by omega, i64_or_nat _ _ (by omega) (by omega), ← Nat.two_pow_add_eq_or_of_lt (show i < 2 ^ 20 by omega)]
  rw [wr (a := ((2 ^ 20 * c + i : Nat) : Int) * 2097152) ⟨by omega, by omega⟩, show ((2 ^ 20 * c + i : Nat) : Int) * 2097152 = ((2 ^ 21 * (2 ^ 20 * c + i) : Nat) : Int) by omega, i64_or_nat _ _ (by omega) (by omega), ← Nat.two_pow_add_eq_or_of_lt (show a < 2 ^ 21 by omega)]
  congr 2
  omega
 ·
  rw [if_neg h, if_neg h]
def judgeW (H : Int) (b : Nat) (id : Int) : Int :=
 if mayW H b then (if 1 ≤ id ∧ id ≤ 1048575 then (if H - id ≥ 64 then 13 else if 0 ≤ H - id ∧ b.testBit (H - id).toNat = true then 14 else 0) else 2) else 5
theorem shr_bit (b : Nat) (hb : b < 18446744073709551616) (x : Int) (h0 : 0 ≤ x) (h1 : x < 64) : Go.bits .and .u64 (shr .u64 (b : Int) x) 1 = ((b / 2 ^ x.toNat % 2 : Nat) : Int) := by
 unfold shr
 rw [show min x.toNat IntKind.u64.bits = x.toNat by show min x.toNat 64 = x.toNat; omega]
 have e : (b : Int) / 2 ^ x.toNat = ((b / 2 ^ x.toNat : Nat) : Int) := by simp
 rw [e]
 exact and_one _ (Nat.lt_of_le_of_lt (Nat.div_le_self _ _) hb)
theorem window_Judge.ev (H : Int) (b : Nat) (id : Int) (hb : b < 18446744073709551616) (hid : -9223372036854775808 ≤ id ∧ id ≤ 9223372036854775807) : Ev (fun k => window_Judge.f k H (b : Int) id) (judgeW H b id) := by
 unfold window_Judge.f judgeW
 refine Ev.bind (window_may.ev H b hb) ?_
 by_cases hm : mayW H b = true
 ·
  rw [if_pos hm]
  refine Ev.pos hm ?_
  have hH := mayW_H hm
  by_cases h1 : id < 1
  ·
   rw [if_neg (show ¬ (1 ≤ id ∧ id ≤ 1048575) by omega)]
   exact Ev.pos h1 (Ev.step (f := fun _ => some 2) (fun k => rfl) (Ev.now _))
  ·
   refine Ev.neg h1 ?_
   by_cases h2 : id > 1048575
   ·
    rw [if_neg (show ¬ (1 ≤ id ∧ id ≤ 1048575) by omega)]
    exact Ev.step (f := fun _ => some 2) (fun k => by simp only [window_Judge.j0, h2, decide_true, if_true]) (Ev.now _)
   ·
    rw [if_pos (show 1 ≤ id ∧ id ≤ 1048575 by omega), wr (a := H - id) ⟨by omega, by omega⟩]
    generalize hx : H - id = x
    refine Ev.step (f := fun _ => if x ≥ 64 then some 13 else if x ≥ 0 then (if 0 ≤ x then (if Go.bits .and .u64 (shr .u64 (b : Int) x) 1 = 1 then some 14 else some 0) else none) else some 0) (fun k => by simp only [window_Judge.j0, h2, decide_false]; rfl) ?_
    refine Ev.iteR (fun h3 => Ev.now _) (fun h3 => ?_)
    by_cases h4 : x ≥ 0
    ·
     refine Ev.pos h4 (Ev.pos h4 ?_)
     rw [shr_bit b hb x h4 (by omega)]
     have tb := Nat.testBit_eq_decide_div_mod_eq (x := b) (i := x.toNat)
     generalize b / 2 ^ x.toNat = q at tb
     by_cases h5 : q % 2 = 1
     ·
      exact Ev.eq (if_pos ⟨h4, by rw [tb]; simpa using h5⟩).symm (Ev.pos (by omega) (Ev.now _))
     ·
      exact Ev.eq (if_neg (fun z => h5 (by have := z.2; rw [tb] at this; simpa using this))).symm (Ev.neg (by omega) (Ev.now _))
    ·
     exact Ev.eq (if_neg (fun z => h4 z.1)).symm (Ev.neg h4 (Ev.now _))
 ·
  rw [if_neg hm]
  exact Ev.neg hm (Ev.now _)
theorem vendmeterref_Judged.ev (H : Int) (b : Nat) (id : Int) (hb : b < 18446744073709551616) : Ev (fun k => vendmeterref_Judged.f k H (b : Int) id) (judgeW H b id) := by
 unfold vendmeterref_Judged.f judgeW
 refine Ev.bind (vendmeterref_WindowMay.ev H b hb) ?_
 by_cases hm : mayW H b = true
 ·
  rw [if_pos hm]
  refine Ev.pos hm ?_
  have hH := mayW_H hm
  rw [vendmeterref_In.eq]
  refine Ev.letS ?_
  by_cases h1 : 1 ≤ id ∧ id ≤ 1048575
  ·
   rw [if_pos h1, wr (a := H - 64) ⟨by omega, by omega⟩]
   refine Ev.pos (by simpa using h1) ?_
   by_cases h2 : H - id ≥ 64
   ·
    rw [if_pos h2]; exact Ev.pos (by omega) (Ev.now _)
   ·
    rw [if_neg h2]
    refine Ev.neg (by omega) (Ev.bind (vendmeterref_members.ev H b hb hH) ?_)
    have key : ∀ (l : List Int), l.length ≤ 64 → ∀ d i : Nat, i + d = l.length → Ev (fun k => vendmeterref_Judged.l0 k id l (i : Int)) (if id ∈ l.drop i then 14 else 0) := by
     intro l hl d
     induction d with
     | zero =>
      intro i hi
      refine Ev.step (f := fun _ => some 0) (fun k => ?_) (Ev.ret ?_)
      ·
       simp only [vendmeterref_Judged.l0]; rw [if_neg (by omega)]
      ·
       rw [List.drop_of_length_le (by omega)]; rfl
     | succ d ih =>
      intro i hi
      rw [drop_getD l i 0 (by omega)]
      by_cases e : l.getD i 0 = id
      ·
       refine Ev.step (f := fun _ => some 14) (fun k => ?_) (Ev.ret ?_)
       ·
        simp only [vendmeterref_Judged.l0, rd_nat]; rw [if_pos (by omega), if_pos (by omega), if_pos e]
       ·
        rw [e, if_pos List.mem_cons_self]
      ·
       refine Ev.step (fun k => ?_) (Ev.eq ?_ (ih (i + 1) (by omega)))
       ·
        simp only [vendmeterref_Judged.l0, rd_nat]; rw [if_pos (by omega), if_pos (by omega), if_neg e, wn (show i < l.length by omega) (by omega)]
       ·
        have : id ∈ l.getD i 0 :: l.drop (i + 1) ↔ id ∈ l.drop (i + 1) := by rw [List.mem_cons]; exact ⟨fun h => h.resolve_left (fun z => e z.symm), .inr⟩
        by_cases hc : id ∈ l.drop (i + 1)
        ·
         rw [if_pos hc, if_pos (this.2 hc)]
        ·
         rw [if_neg hc, if_neg (fun z => hc (this.1 z))]
    have k0 := key (memF H b 64) (memF_len H b 64) (memF H b 64).length 0 (by omega)
    rw [List.drop_zero] at k0
    refine Ev.eq ?_ k0
    have : id ∈ memF H b 64 ↔ (0 ≤ H - id ∧ b.testBit (H - id).toNat = true) := by
     rw [memF_mem]
     constructor
     ·
      rintro ⟨j, h3, h4, rfl⟩
      refine ⟨by omega, ?_⟩
      rw [show (H - (H - (j : Int))).toNat = j by omega]
      exact h4
     ·
      rintro ⟨h3, h4⟩
      exact ⟨(H - id).toNat, by omega, h4, by omega⟩
    by_cases hc : id ∈ memF H b 64
    ·
     rw [if_pos hc, if_pos (this.1 hc)]
    ·
     rw [if_neg hc, if_neg (fun z => hc (this.2 z))]
  ·
   rw [if_neg h1]
   exact Ev.neg (by simpa using h1) (Ev.now _)
 ·
  rw [if_neg hm]
  exact Ev.neg hm (Ev.now _)
def takeBits (H : Int) (b : Nat) (id : Int) : Nat := if id > H then (b * 2 ^ (id - H).toNat % 18446744073709551616) ||| 1 else b ||| 2 ^ (H - id).toNat
theorem takeBits_pos {H : Int} {b : Nat} {id : Int} (h : id > H) : takeBits H b id = (b * 2 ^ (id - H).toNat % 18446744073709551616) ||| 1 := if_pos h
theorem takeBits_neg {H : Int} {b : Nat} {id : Int} (h : ¬ id > H) : takeBits H b id = b ||| 2 ^ (H - id).toNat := if_neg h
def takeW (H : Int) (b : Nat) (id : Int) : Int × Int × Int :=
 if judgeW H b id = 0 then ((if id > H then id else H), ((takeBits H b id : Nat) : Int), 0) else (0, 0, judgeW H b id)
theorem judge_ok {H : Int} {b : Nat} {id : Int} (h : judgeW H b id = 0) : mayW H b = true ∧ 1 ≤ id ∧ id ≤ 1048575 ∧ H - id < 64 ∧ (0 ≤ H - id → b.testBit (H - id).toNat = false) := by
 unfold judgeW at h
 split at h
 ·
  split at h
  ·
   split at h
   ·
    omega
   ·
    split at h
    ·
     omega
    ·
     rename_i h1 h2 h3 h4
     refine ⟨h1, h2.1, h2.2, by omega, fun h5 => ?_⟩
     by_cases h6 : b.testBit (H - id).toNat = true
     ·
      exact absurd ⟨h5, h6⟩ h4
     ·
      simpa using h6
  ·
   omega
 ·
  omega
theorem u64wrap_mod (n : Nat) : IntKind.u64.wrap (n : Int) = ((n % 18446744073709551616 : Nat) : Int) := by simp [IntKind.wrap, IntKind.bits, IntKind.signed]
theorem two64 : (18446744073709551616 : Nat) = 2 ^ 64 := by decide
theorem shl_any (b s : Nat) : shl .u64 (b : Int) (s : Int) = ((b * 2 ^ s % 18446744073709551616 : Nat) : Int) := by
 unfold shl
 rw [Int.toNat_natCast]
 have e : (b : Int) * 2 ^ min s IntKind.u64.bits = ((b * 2 ^ min s 64 : Nat) : Int) := by show (b : Int) * 2 ^ min s 64 = _; simp
 rw [e, u64wrap_mod]
 congr 1
 rcases Nat.lt_or_ge s 64 with h | h
 ·
  rw [Nat.min_eq_left (by omega)]
 ·
  rw [Nat.min_eq_right h, two64]
  obtain ⟨j, rfl⟩ : ∃ j, s = 64 + j := ⟨s - 64, by omega⟩
  rw [Nat.mul_mod_left, Nat.pow_add, ← Nat.mul_assoc, Nat.mul_right_comm, Nat.mul_mod_left]
theorem window_Take.ev (H : Int) (b : Nat) (id : Int) (hb : b < 18446744073709551616) (hid : -9223372036854775808 ≤ id ∧ id ≤ 9223372036854775807) : Ev (fun k => window_Take.f k H (b : Int) id) (takeW H b id) := by
 unfold window_Take.f takeW
 refine Ev.bind (window_Judge.ev H b id hb hid) ?_
 refine Ev.iteR (fun h => ?_) (fun h => Ev.now _)
 ·
  obtain ⟨hm, h1, h2, h3, _⟩ := judge_ok h
  have hH := mayW_H hm
  by_cases hp : id > H
  ·
   rw [takeBits_pos hp, show (if id > H then id else H) = id from if_pos hp, wr (a := id - H) ⟨by omega, by omega⟩]
   refine Ev.pos hp (Ev.pos (by omega) (Ev.ret ?_))
   obtain ⟨s, hs⟩ := Int.eq_ofNat_of_zero_le (show 0 ≤ id - H by omega)
   rw [hs, shl_any, Int.toNat_natCast]
   have := u64_or_nat (b * 2 ^ s % 18446744073709551616) 1 (Nat.mod_lt _ (by decide)) (by decide)
   rw [show ((1 : Nat) : Int) = 1 from rfl] at this
   rw [this]
  ·
   rw [takeBits_neg hp, show (if id > H then id else H) = H from if_neg hp, wr (a := H - id) ⟨by omega, by omega⟩]
   refine Ev.neg hp (Ev.pos (by omega) (Ev.ret ?_))
   obtain ⟨s, hs⟩ := Int.eq_ofNat_of_zero_le (show 0 ≤ H - id by omega)
   have h64 : 2 ^ s < 18446744073709551616 := Nat.pow_lt_pow_right (by decide) (show s < 64 by omega)
   have e := shl_any 1 s
   rw [Nat.one_mul, Nat.mod_eq_of_lt h64, show ((1 : Nat) : Int) = 1 from rfl] at e
   rw [hs, e, Int.toNat_natCast, u64_or_nat b _ hb h64]
theorem window_of_val (high : Int) (l : List Int) (T : Nat) (hh : 0 ≤ high ∧ high ≤ 1048575) (hl : l.length ≤ 65) (hT : T < 18446744073709551616) (hc : ∀ i : Nat, i < 64 → l.count (high - (i : Int)) = (T.testBit i).toNat) :
  Ev (fun k => vendmeterref_windowOf.f k high l) (high, (T : Int)) := by
 unfold vendmeterref_windowOf.f
 have half : ∀ i : Nat, 2 * (T / 2 ^ (i + 1)) + (T.testBit i).toNat = T / 2 ^ i := by
  intro i
  rw [Nat.pow_succ, ← Nat.div_div_eq_div_mul, Nat.testBit_eq_decide_div_mod_eq]
  generalize T / 2 ^ i = q
  by_cases h : q % 2 = 1
  ·
   simp only [h, decide_true, Bool.toNat_true]; omega
  ·
   simp only [h, decide_false, Bool.toNat_false]; omega
 have key : ∀ i : Nat, i ≤ 64 → Ev (fun k => vendmeterref_windowOf.l0 k high l ((i : Int) - 1) high ((T / 2 ^ i : Nat) : Int)) (high, (T : Int)) := by
  intro i
  induction i with
  | zero =>
   intro _
   refine Ev.step (f := fun _ => some (high, (T : Int))) (fun k => ?_) (Ev.now _)
   simp only [vendmeterref_windowOf.l0]
   rw [if_neg (by omega), Nat.pow_zero, Nat.div_one]
  | succ i ih =>
   intro hi
   have hf := half i
   have hci := hc i (by omega)
   have hle : T / 2 ^ i ≤ T := Nat.div_le_self _ _
   have ih' := ih (by omega)
   generalize T / 2 ^ i = q at *
   generalize T / 2 ^ (i + 1) = p at *
   have inner : ∀ d j : Nat, j + d = l.length → ∀ v : Nat, v + (l.drop j).count (high - (i : Int)) = q → Ev (fun k => vendmeterref_windowOf.l1 k high l (i : Int) (j : Int) high (v : Int)) (high, (T : Int)) := by
    intro d
    induction d with
    | zero =>
     intro j hj v hv
     rw [List.drop_of_length_le (by omega)] at hv
     refine Ev.step (fun k => ?_) ih'
     simp only [vendmeterref_windowOf.l1]
     rw [if_neg (by omega), wr (a := (i : Int) - 1) ⟨by omega, by omega⟩]
     congr 2 <;> simpa using hv
    | succ d ihd =>
     intro j hj v hv
     rw [drop_getD l j 0 (by omega), List.count_cons] at hv
     by_cases e : l.getD j 0 = high - (i : Int)
     ·
      rw [if_pos (by simpa using e)] at hv
      refine Ev.step (fun k => ?_) (ihd (j + 1) (by omega) (v + 1) (by omega))
      simp only [vendmeterref_windowOf.l1, rd_nat]
      rw [if_pos (by omega), if_pos (by omega), wr (a := high - (i : Int)) ⟨by omega, by omega⟩, if_pos e, wn (show j < l.length by omega) (by omega), show (v : Int) + 1 = ((v + 1 : Nat) : Int) by omega, u64wrap_mod, Nat.mod_eq_of_lt (by omega)]
     ·
      rw [if_neg (by simpa using e)] at hv
      refine Ev.step (fun k => ?_) (ihd (j + 1) (by omega) v (by omega))
      simp only [vendmeterref_windowOf.l1, rd_nat]
      rw [if_pos (by omega), if_pos (by omega), wr (a := high - (i : Int)) ⟨by omega, by omega⟩, if_neg e, wn (show j < l.length by omega) (by omega)]
   refine Ev.step (fun k => ?_) (inner l.length 0 (by omega) (2 * p) (by rw [List.drop_zero]; omega))
   simp only [vendmeterref_windowOf.l0]
   rw [if_pos (by omega), show ((i + 1 : Nat) : Int) - 1 = (i : Int) by omega, show 2 * (p : Int) = ((2 * p : Nat) : Int) by omega, u64wrap_mod, Nat.mod_eq_of_lt (by omega)]
   rfl
 have k0 := key 64 (Nat.le_refl _)
 rw [Nat.div_eq_of_lt (by rw [← two64]; exact hT)] at k0
 exact k0
theorem memF_count (H : Int) (b : Nat) (x : Int) : ∀ n : Nat, (memF H b n).count x = if 0 ≤ H - x ∧ H - x < (n : Int) then (b.testBit (H - x).toNat).toNat else 0
 | 0 => by rw [if_neg (by omega)]; rfl
 | n + 1 => by
  simp only [memF, List.count_append, memF_count H b x n]
  by_cases e : H - x = (n : Int)
  ·
   have a1 : ¬ (0 ≤ H - x ∧ H - x < (n : Int)) := by omega
   have a2 : 0 ≤ H - x ∧ H - x < ((n + 1 : Nat) : Int) := by omega
   rw [if_neg a1, if_pos a2, e, Int.toNat_natCast, Nat.add_zero]
   by_cases ht : b.testBit n = true
   ·
    rw [if_pos ht, ht, show x = H - (n : Int) by omega]
    simp
   ·
    have hf : b.testBit n = false := by simpa using ht
    rw [if_neg ht, hf]
    rfl
  ·
   have z : (if b.testBit n = true then [H - (n : Int)] else []).count x = 0 := by
    split
    ·
     rw [List.count_eq_zero]
     simp
     omega
    ·
     rfl
   rw [z, Nat.zero_add]
   by_cases h : 0 ≤ H - x ∧ H - x < (n : Int)
   ·
    rw [if_pos h, if_pos (by omega)]
   ·
    rw [if_neg h, if_neg (by omega)]
theorem vendmeterref_TakenBy.ev (H : Int) (b : Nat) (id : Int) (hb : b < 18446744073709551616) : Ev (fun k => vendmeterref_TakenBy.f k H (b : Int) id) (takeW H b id) := by
 unfold vendmeterref_TakenBy.f takeW
 refine Ev.bind (vendmeterref_Judged.ev H b id hb) ?_
 refine Ev.iteR (fun h => ?_) (fun h => Ev.now _)
 ·
  obtain ⟨hm, h1, h2, h3, h4⟩ := judge_ok h
  have hH := mayW_H hm
  have hlen := memF_len H b 64
  by_cases hp : id > H
  ·
   rw [show (if id > H then id else H) = id from if_pos hp]
   refine Ev.pos hp (Ev.bind (vendmeterref_members.ev H b hb hH) (Ev.pos (by omega) (Ev.bind (window_of_val id _ (takeBits H b id) (by omega) (by simp; omega) ?_ ?_) (Ev.now _))))
   ·
    rw [takeBits_pos hp, two64]
    exact Nat.or_lt_two_pow (Nat.mod_lt _ (by decide)) (by decide)
   ·
    intro i hi
    obtain ⟨s, hs⟩ := Int.eq_ofNat_of_zero_le (show 0 ≤ id - H by omega)
    rw [takeBits_pos hp, hs, Int.toNat_natCast, List.count_append, memF_count, Nat.testBit_or, two64, Nat.testBit_mod_two_pow, Nat.mul_comm b, Nat.testBit_two_pow_mul, List.count_singleton]
    rcases Nat.eq_zero_or_pos i with rfl | hi0
    ·
     rw [if_neg (by omega)]
     have e0 : (id == id - ((0 : Nat) : Int)) = true := by rw [beq_iff_eq]; omega
     rw [e0]
     have e1 : ¬ (0 ≥ s) := by omega
     simp [e1]
    ·
     have e0 : (id == id - (i : Int)) = false := by rw [beq_eq_false_iff_ne]; omega
     rw [e0]
     have t1 : Nat.testBit 1 i = false := by
      rw [Nat.testBit_eq_decide_div_mod_eq, Nat.div_eq_of_lt (Nat.one_lt_two_pow (by omega))]
      rfl
     rw [t1]
     by_cases hs2 : s ≤ i
     ·
      rw [if_pos (by omega), show (H - (id - (i : Int))).toNat = i - s by omega]
      simp [hi, hs2]
     ·
      rw [if_neg (by omega)]
      simp [hs2]
  ·
   rw [show (if id > H then id else H) = H from if_neg hp]
   refine Ev.neg hp (Ev.bind (vendmeterref_members.ev H b hb hH) (Ev.pos (by omega) (Ev.bind (window_of_val H _ (takeBits H b id) hH (by simp; omega) ?_ ?_) (Ev.now _))))
   ·
    rw [takeBits_neg hp, two64]
    exact Nat.or_lt_two_pow (by rw [← two64]; exact hb) (Nat.pow_lt_pow_right (by decide) (by omega))
   ·
    intro i hi
    obtain ⟨s, hs⟩ := Int.eq_ofNat_of_zero_le (show 0 ≤ H - id by omega)
    have h5 := h4 (by omega)
    rw [hs, Int.toNat_natCast] at h5
    rw [takeBits_neg hp, hs, Int.toNat_natCast, List.count_append, memF_count, Nat.testBit_or, Nat.testBit_two_pow, List.count_singleton, show H - (H - (i : Int)) = (i : Int) by omega, if_pos (by omega), Int.toNat_natCast]
    by_cases e : s = i
    ·
     subst e
     have e0 : (id == H - (s : Int)) = true := by rw [beq_iff_eq]; omega
     rw [e0, h5]
     simp
    ·
     have e0 : (id == H - (i : Int)) = false := by rw [beq_eq_false_iff_ne]; omega
     rw [e0]
     simp [e]
theorem vendmeterlaw_oracles.eq (l) (h : l.length * 32 ≤ 140737488351232) : vendmeterlaw_oracles.f l = some l := by
 unfold vendmeterlaw_oracles.f
 rw [if_pos (by simp only [List.length_nil]; omega)]; rfl
def hitAt (l : List S55) (me body tag : Int) (j : Nat) : Prop := (l.getD j z55).f0 = me ∧ (l.getD j z55).f2 = body ∧ (l.getD j z55).f3 = tag
theorem good_at (l : List S55) : ∀ (d i : Nat), i + d = l.length → oracle_known.good l d i = true → ∀ j, i ≤ j → j < l.length → (oracle_known.find (l.getD j z55).f0 (l.getD j z55).f1 (l.getD j z55).f2 0 (l.take j)).isNone = true ∧ oracle_known.pm (l.getD j z55) = true
 | 0, i, hi, _, j, hj, hl => by omega
 | d + 1, i, hi, h, j, hj, hl => by
  simp only [oracle_known.good, rd_pair, Bool.and_eq_true] at h
  by_cases e : j = i
  ·
   subst e
   exact ⟨h.1, h.2.1⟩
  ·
   exact good_at l d (i + 1) (by omega) h.2.2.2 j (by omega) hl
theorem ok_at {l : List S55} (h : oracle_known.ok l = true) {j : Nat} (hj : j < l.length) : (∃ v, oracle_known.find (l.getD j z55).f0 (l.getD j z55).f1 (l.getD j z55).f2 0 l = some (j, v)) ∧ 0 ≤ (l.getD j z55).f1 := by
 unfold oracle_known.ok at h
 rw [Bool.and_eq_true] at h
 obtain ⟨h1, h2⟩ := good_at l l.length 0 (by omega) h.2 j (by omega) hj
 constructor
 ·
  rw [find_take l j hj, decide_eq_true_eq] at h1
  unfold placeOf at h1
  cases hf : oracle_known.find (l.getD j z55).f0 (l.getD j z55).f1 (l.getD j z55).f2 0 l with
  | none => rw [hf] at h1; simp only at h1; omega
  | some x =>
   rw [hf] at h1
   obtain ⟨i, v⟩ := x
   simp only at h1
   exact ⟨v, by rw [show i = j by omega]⟩
 ·
  unfold oracle_known.pm at h2
  rw [decide_eq_true_eq] at h2
  exact h2.2.1.1
theorem ver_iff {l : List S55} (h : oracle_known.ok l = true) (me body tag r : Int) : mstate.ver l me body tag r = true ↔ ∃ j, j < l.length ∧ hitAt l me body tag j ∧ (l.getD j z55).f1 = r := by
 unfold mstate.ver oracle_Verify.f
 rw [h, Option.getD_some, Bool.true_and]
 constructor
 ·
  intro hv
  cases hf : oracle_known.find me r body 0 l with
  | none => rw [hf] at hv; cases hv
  | some x =>
   obtain ⟨i, v⟩ := x
   rw [hf] at hv
   obtain ⟨h1, h2, h3, h4⟩ := find_hit hf
   obtain ⟨e1, e2, e3⟩ := (has_iff _ _ _ _).1 h2
   simp only [beq_iff_eq] at hv
   exact ⟨i, h1, ⟨e1, e3, by rw [← h3, hv]⟩, e2⟩
 ·
  rintro ⟨j, hj, ⟨e1, e2, e3⟩, e4⟩
  obtain ⟨⟨v, hf⟩, _⟩ := ok_at h hj
  have h3 := (find_hit hf).2.2.1
  rw [e1, e2, e4] at hf
  rw [hf]
  simp only [beq_iff_eq]
  rw [h3, e3]
theorem hunt_some {l : List S55} {me body tag : Int} : ∀ {n r : Nat}, mstate.hunt l me body tag n = some r → r < n ∧ mstate.ver l me body tag (r : Int) = true ∧ ∀ q : Nat, r < q → q < n → ¬ mstate.ver l me body tag (q : Int) = true
 | 0, r, h => by cases h
 | n + 1, r, h => by
  unfold mstate.hunt at h
  by_cases hv : mstate.ver l me body tag (n : Int) = true
  ·
   rw [if_pos hv] at h
   cases h
   exact ⟨by omega, hv, fun q h1 h2 => by omega⟩
  ·
   rw [if_neg hv] at h
   obtain ⟨h1, h2, h3⟩ := hunt_some h
   refine ⟨by omega, h2, fun q g1 g2 => ?_⟩
   by_cases e : q = n
   ·
    rw [e]; exact hv
   ·
    exact h3 q g1 (by omega)
theorem hunt_none {l : List S55} {me body tag : Int} : ∀ {n : Nat}, mstate.hunt l me body tag n = none → ∀ q : Nat, q < n → ¬ mstate.ver l me body tag (q : Int) = true
 | 0, _, q, hq => by omega
 | n + 1, h, q, hq => by
  unfold mstate.hunt at h
  by_cases hv : mstate.ver l me body tag (n : Int) = true
  ·
   rw [if_pos hv] at h
   cases h
  ·
   rw [if_neg hv] at h
   by_cases e : q = n
   ·
    rw [e]; exact hv
   ·
    exact hunt_none h q (by omega)
def sellSays (l : List S55) (me rev body tag : Int) (i : Nat) (kk s : Int) : Prop :=
 (s = 0 ∧ ∃ j, i ≤ j ∧ j < l.length ∧ hitAt l me body tag j ∧ (l.getD j z55).f1 = rev) ∨
 ((∀ j, i ≤ j → j < l.length → hitAt l me body tag j → ¬ (l.getD j z55).f1 = rev) ∧ ((s = 1 ∧ (kk = 1 ∨ ∃ j, i ≤ j ∧ j < l.length ∧ hitAt l me body tag j ∧ (l.getD j z55).f1 < rev)) ∨ (s = 2 ∧ kk = 2 ∧ ∀ j, i ≤ j → j < l.length → hitAt l me body tag j → ¬ (l.getD j z55).f1 ≤ rev)))
theorem says_skip {l : List S55} {me rev body tag : Int} {i : Nat} {kk s : Int} (h : sellSays l me rev body tag (i + 1) kk s) (hn : hitAt l me body tag i → ¬ (l.getD i z55).f1 ≤ rev) : sellSays l me rev body tag i kk s := by
 rcases h with ⟨e, j, h1, h2, h3, h4⟩ | ⟨h1, ⟨e, h2⟩ | ⟨e, h2, h3⟩⟩
 ·
  exact Or.inl ⟨e, j, by omega, h2, h3, h4⟩
 ·
  refine Or.inr ⟨fun j g1 g2 g3 => ?_, Or.inl ⟨e, ?_⟩⟩
  ·
   by_cases q : j = i
   ·
    subst q
    have := hn g3
    omega
   ·
    exact h1 j (by omega) g2 g3
  ·
   rcases h2 with h2 | ⟨j, g1, g2⟩
   ·
    exact Or.inl h2
   ·
    exact Or.inr ⟨j, by omega, g2⟩
 ·
  refine Or.inr ⟨fun j g1 g2 g3 => ?_, Or.inr ⟨e, h2, fun j g1 g2 g3 => ?_⟩⟩
  ·
   by_cases q : j = i
   ·
    subst q
    have := hn g3
    omega
   ·
    exact h1 j (by omega) g2 g3
  ·
   by_cases q : j = i
   ·
    subst q
    exact hn g3
   ·
    exact h3 j (by omega) g2 g3
theorem says_one {l : List S55} {me rev body tag : Int} {i : Nat} {kk s : Int} (h : sellSays l me rev body tag (i + 1) 1 s) (hi : i < l.length) (hh : hitAt l me body tag i) (hn : (l.getD i z55).f1 < rev) : sellSays l me rev body tag i kk s := by
 rcases h with ⟨e, j, h1, h2, h3, h4⟩ | ⟨h1, ⟨e, h2⟩ | ⟨e, h2, h3⟩⟩
 ·
  exact Or.inl ⟨e, j, by omega, h2, h3, h4⟩
 ·
  refine Or.inr ⟨fun j g1 g2 g3 => ?_, Or.inl ⟨e, Or.inr ⟨i, by omega, hi, hh, hn⟩⟩⟩
  by_cases q : j = i
  ·
   subst q
   omega
  ·
   exact h1 j (by omega) g2 g3
 ·
  omega
theorem sellKey_l0 (me rev cr H b bad lock : Int) (l : List S55) (body tag : Int) (hl : l.length ≤ 500) : ∀ (d i : Nat) (kk : Int), i + d = l.length → (kk = 1 ∨ kk = 2) → ∃ s, sellSays l me rev body tag i kk s ∧ Ev (fun k => vendmeterref_sellKey.l0 k body tag kk (i : Int) me rev cr H b bad lock l) s
 | 0, i, kk, hi, hk => by
  refine ⟨kk, Or.inr ⟨fun j g1 g2 => by omega, ?_⟩, ?_⟩
  ·
   rcases hk with hk | hk
   ·
    exact Or.inl ⟨hk, Or.inl hk⟩
   ·
    exact Or.inr ⟨hk, hk, fun j g1 g2 => by omega⟩
  ·
   refine Ev.step (f := fun _ => some kk) (fun k => ?_) (Ev.now _)
   simp only [vendmeterref_sellKey.l0]; rw [if_neg (by omega)]
 | d + 1, i, kk, hi, hk => by
  have hi' : i < l.length := by omega
  have skip : (hitAt l me body tag i → ¬ (l.getD i z55).f1 ≤ rev) → (∀ k, vendmeterref_sellKey.l0 (k + 1 + 1) body tag kk (i : Int) me rev cr H b bad lock l = vendmeterref_sellKey.l0 k body tag kk ((i + 1 : Nat) : Int) me rev cr H b bad lock l) → ∃ s, sellSays l me rev body tag i kk s ∧ Ev (fun k => vendmeterref_sellKey.l0 k body tag kk (i : Int) me rev cr H b bad lock l) s := by
   intro hn he
   obtain ⟨s, h1, h2⟩ := sellKey_l0 me rev cr H b bad lock l body tag hl d (i + 1) kk (by omega) hk
   exact ⟨s, says_skip h1 hn, Ev.succ (Ev.step he h2)⟩
  have w := wn hi' (by omega)
  by_cases h0 : (l.getD i z55).f0 = me
  case neg =>
   refine skip (fun h => absurd h.1 h0) (fun k => ?_)
   simp only [vendmeterref_sellKey.l0, vendmeterref_sellKey.j1, rd_pair]
   rw [if_pos (by omega), if_pos (by omega), if_neg h0, if_pos trivial, w]
  by_cases h2 : (l.getD i z55).f2 = body
  case neg =>
   refine skip (fun h => absurd h.2.1 h2) (fun k => ?_)
   simp only [vendmeterref_sellKey.l0, vendmeterref_sellKey.j1, rd_pair]
   rw [if_pos (by omega), if_pos (by omega), if_pos h0, if_neg h2, if_pos trivial, w]
  by_cases h3 : (l.getD i z55).f3 = tag
  case neg =>
   refine skip (fun h => absurd h.2.2 h3) (fun k => ?_)
   simp only [vendmeterref_sellKey.l0, vendmeterref_sellKey.j1, rd_pair]
   rw [if_pos (by omega), if_pos (by omega), if_pos h0, if_pos h2, if_neg h3, if_pos trivial, w]
  by_cases h1 : (l.getD i z55).f1 > rev
  ·
   refine skip (fun _ => by omega) (fun k => ?_)
   simp only [vendmeterref_sellKey.l0, vendmeterref_sellKey.j1, rd_pair]
   rw [if_pos (by omega), if_pos (by omega), if_pos h0, if_pos h2, if_pos h3, if_pos (decide_eq_true h1), w]
  by_cases h4 : (l.getD i z55).f1 = rev
  ·
   refine ⟨0, Or.inl ⟨rfl, i, by omega, hi', ⟨h0, h2, h3⟩, h4⟩, ?_⟩
   refine Ev.succ (Ev.step (f := fun _ => some 0) (fun k => ?_) (Ev.now _))
   simp only [vendmeterref_sellKey.l0, vendmeterref_sellKey.j1, rd_pair]
   rw [if_pos (by omega), if_pos (by omega), if_pos h0, if_pos h2, if_pos h3, if_neg (by rw [decide_eq_false h1]; exact Bool.false_ne_true), if_pos h4]
  ·
   obtain ⟨s, g1, g2⟩ := sellKey_l0 me rev cr H b bad lock l body tag hl d (i + 1) 1 (by omega) (Or.inl rfl)
   refine ⟨s, says_one g1 hi' ⟨h0, h2, h3⟩ (by omega), Ev.succ (Ev.step (fun k => ?_) g2)⟩
   simp only [vendmeterref_sellKey.l0, vendmeterref_sellKey.j1, rd_pair]
   rw [if_pos (by omega), if_pos (by omega), if_pos h0, if_pos h2, if_pos h3, if_neg (by rw [decide_eq_false h1]; exact Bool.false_ne_true), if_neg h4, w]
theorem sellKey_ev (me rev cr H b bad lock : Int) (l : List S55) (body tag : Int) (hok : oracle_known.ok l = true) (hl : l.length ≤ 500) (hr : 0 ≤ rev) (hb : 0 ≤ bad ∧ bad < 5) :
  ∃ s, Ev (fun k => vendmeterref_sellKey.f k me rev cr H b bad lock l body tag) s ∧ ((s = 0 ∧ mstate.soldF l me rev bad lock body tag = (bad, lock, 0)) ∨ (s = 1 ∧ mstate.soldF l me rev bad lock body tag = (bad, lock, 11)) ∨ (s = 2 ∧ mstate.soldF l me rev bad lock body tag = if wrap64 (bad + 1) ≥ 5 then (0, 30, 12) else (wrap64 (bad + 1), lock, 12))) := by
 obtain ⟨s, h1, h2⟩ := sellKey_l0 me rev cr H b bad lock l body tag hl l.length 0 2 (by omega) (Or.inr rfl)
 refine ⟨s, h2, ?_⟩
 unfold mstate.soldF
 cases hh : mstate.hunt l me body tag (rev.toNat + 1) with
 | some r =>
  obtain ⟨g1, g2, g3⟩ := hunt_some hh
  obtain ⟨j, j1, j2, j3⟩ := (ver_iff hok me body tag _).1 g2
  simp only
  rcases h1 with ⟨e, i, i1, i2, i3, i4⟩ | ⟨n1, ⟨e, n2⟩ | ⟨e, n2, n3⟩⟩
  ·
   refine Or.inl ⟨e, ?_⟩
   by_cases q : (r : Int) = rev
   ·
    rw [if_neg (by omega)]
   ·
    exact absurd ((ver_iff hok me body tag _).2 ⟨i, i2, i3, by rw [i4]; omega⟩) (g3 rev.toNat (by omega) (by omega))
  ·
   refine Or.inr (Or.inl ⟨e, ?_⟩)
   have := n1 j (by omega) j1 j2
   rw [if_pos (by omega)]
  ·
   have := n3 j (by omega) j1 j2
   omega
 | none =>
  have hn := hunt_none hh
  simp only
  have none : ∀ i, i < l.length → hitAt l me body tag i → ¬ (l.getD i z55).f1 ≤ rev := by
   intro i i1 i2 i3
   have i4 := (ok_at hok i1).2
   exact hn (l.getD i z55).f1.toNat (by omega) ((ver_iff hok me body tag _).2 ⟨i, i1, i2, by omega⟩)
  rcases h1 with ⟨e, i, i1, i2, i3, i4⟩ | ⟨n1, ⟨e, n2⟩ | ⟨e, n2, n3⟩⟩
  ·
   exact absurd (by omega) (none i i2 i3)
  ·
   rcases n2 with n2 | ⟨j, j1, j2, j3, j4⟩
   ·
    omega
   ·
    exact absurd (by omega) (none j j2 j3)
  ·
   refine Or.inr (Or.inr ⟨e, ?_⟩)
   rw [wr ⟨by omega, by omega⟩]
   by_cases q : bad + 1 = 5
   ·
    rw [if_pos q, if_pos (by omega)]
   ·
    rw [if_neg q, if_neg (by omega)]
theorem take_fin (me rev cr H : Int) (b bad lock cls amt w1 w2 e : Int) (hc : cls = 0 ∨ cls = 1 ∨ cls = 2) (hr : 0 ≤ cr ∧ cr ≤ 99999999) (ha : 0 ≤ amt ∧ amt ≤ 2097151) :
  (me, (mstate.takeF rev cr H b bad 0 cls amt w1 w2 e).1, (mstate.takeF rev cr H b bad 0 cls amt w1 w2 e).2.1, (mstate.takeF rev cr H b bad 0 cls amt w1 w2 e).2.2.1, (mstate.takeF rev cr H b bad 0 cls amt w1 w2 e).2.2.2.1, (mstate.takeF rev cr H b bad 0 cls amt w1 w2 e).2.2.2.2.1, lock, (mstate.takeF rev cr H b bad 0 cls amt w1 w2 e).2.2.2.2.2.1, (mstate.takeF rev cr H b bad 0 cls amt w1 w2 e).2.2.2.2.2.2) = vendmeterref_MeterKeyed.fin me rev cr H b bad lock cls amt w1 w2 e := by
 unfold mstate.takeF vendmeterref_MeterKeyed.fin mstate.does
 by_cases h : e = 0
 ·
  simp only [if_pos h]
  rcases hc with rfl | rfl | rfl
  ·
   rw [wr (a := cr + amt) ⟨by omega, by omega⟩, wr (a := 99999999 - cr) ⟨by omega, by omega⟩]
   by_cases q : cr + amt > 99999999
   ·
    rw [if_pos (show amt > 99999999 - cr by omega)]
    simp [q]
   ·
    rw [if_neg (show ¬ amt > 99999999 - cr by omega)]
    simp [q]
  ·
   simp
  ·
   by_cases q : amt ≤ rev
   ·
    simp [q]
   ·
    simp [q]
 ·
  simp only [if_neg h]
def parsedAns (s : ByteArray) : Int × Int × Int × Int × Int :=
 if s.size = 20 then (if rdAll s 20 = true then (if 73786976294838206464 ≤ rdV s 20 then (0, 0, 0, 0, 2) else if rdV s 20 % 97 = 0 then (if 576460752303423488 ≤ rdV s 20 / 97 then (0, 0, 0, 0, 2) else
  (if tokFault (rdV s 20 / 97 / 144115188075855872) (rdV s 20 / 97 / 137438953472 % 1048576) (rdV s 20 / 97 / 65536 % 2097152) (rdV s 20 / 97 % 65536) = 0 then (rdV s 20 / 97 / 144115188075855872, rdV s 20 / 97 / 137438953472 % 1048576, rdV s 20 / 97 / 65536 % 2097152, rdV s 20 / 97 % 65536, 0) else (0, 0, 0, 0, 2)))
  else (0, 0, 0, 0, 8)) else (0, 0, 0, 0, 7)) else (0, 0, 0, 0, 6)
theorem token_Parse.eq (s : ByteArray) : token_Parse.f s = some (parsedAns s) := by
 unfold token_Parse.f parsedAns
 rw [token_fault.eq, Option.bind_some]
 repeat' split
 all_goals first | rfl | contradiction
theorem vendmeterref_Parsed.ev (s : ByteArray) : Ev (fun k => vendmeterref_Parsed.f k s) (parsedAns s) := by
 unfold vendmeterref_Parsed.f parsedAns
 refine Ev.iteR (fun _ => Ev.iteR (fun _ => Ev.iteR (fun _ => Ev.now _) (fun _ => Ev.iteR (fun _ => Ev.iteR (fun _ => Ev.now _) (fun _ => ?_)) (fun _ => Ev.now _))) (fun _ => Ev.now _)) (fun _ => Ev.now _)
 refine Ev.bind (vendmeterref_TokenFault.ev _ _ _ _) (Ev.iteR (fun _ => Ev.now _) (fun _ => Ev.now _))
def markOf (m : Int) : Int := if m > 3 then 0 else m
def newerOf (a b : Int) : Int := if markOf a = 0 ∧ markOf b = 0 then -1 else if markOf a = 0 then 1 else if markOf b = 0 ∨ markOf a = markOf b ∨ markOf b % 3 + 1 = markOf a then 0 else 1
theorem newer_cases (a b : Int) : newerOf a b = -1 ∨ newerOf a b = 0 ∨ newerOf a b = 1 := by
 unfold newerOf
 split
 ·
  exact .inl rfl
 ·
  split
  ·
   exact .inr (.inr rfl)
  ·
   split
   ·
    exact .inr (.inl rfl)
   ·
    exact .inr (.inr rfl)
theorem slot_size.eq (w n : Int) (hn : -9223372036854775808 ≤ n ∧ n ≤ 9223372036854775807) : slot_size.f w n = some (decide ((1 ≤ n ∧ n ≤ 64) ∧ w = 2 * n + 2)) := by
 unfold slot_size.f
 by_cases h1 : n ≥ 1
 ·
  by_cases h2 : n ≤ 64
  ·
   rw [if_pos h1, if_pos h2, wr (a := n + 1) ⟨by omega, by omega⟩, wr (a := 2 * (n + 1)) ⟨by omega, by omega⟩]
   congr 1
   rw [Bool.eq_iff_iff]
   simp only [beq_iff_eq, decide_eq_true_eq]
   omega
  ·
   rw [if_pos h1, if_neg h2]
   congr 1
   symm
   rw [decide_eq_false_iff_not]
   omega
 ·
  rw [if_neg h1]
  congr 1
  symm
  rw [decide_eq_false_iff_not]
  omega
theorem slot_next.eq (m : Int) (h0 : 0 ≤ m) : slot_next.f m = some (m % 3 + 1) := by
 unfold slot_next.f
 rw [tm h0]
 congr 1
 omega
theorem slot_pair_mark.eq (l : List Int) (n : Nat) (hn : 1 ≤ n ∧ n ≤ 64) (hl : l.length = 2 * n + 2) (s : Int) (hs : s = 0 ∨ s = 1) : slot_pair_mark.f l (n : Int) s = some (markOf (rd l (s * ((n : Int) + 1)))) := by
 unfold slot_pair_mark.f markOf
 have e : wrap64 (s * wrap64 ((n : Int) + 1)) = s * ((n : Int) + 1) := by
  rw [wr (a := (n : Int) + 1) ⟨by omega, by omega⟩]
  rcases hs with rfl | rfl <;> exact wr ⟨by omega, by omega⟩
 rw [e, if_pos (by rcases hs with rfl | rfl <;> omega), if_pos (by rcases hs with rfl | rfl <;> omega)]
 split <;> rfl
theorem slot_pair_newer.ev (l : List Int) (n : Nat) (hn : 1 ≤ n ∧ n ≤ 64) (hl : l.length = 2 * n + 2) (h0 : 0 ≤ rd l 0) (h1 : 0 ≤ rd l ((n : Int) + 1)) : Ev (fun k => slot_pair_newer.f k l (n : Int)) (newerOf (rd l 0) (rd l ((n : Int) + 1))) := by
 unfold slot_pair_newer.f
 rw [slot_pair_mark.eq l n hn hl 0 (.inl rfl), slot_pair_mark.eq l n hn hl 1 (.inr rfl), Int.zero_mul, Int.one_mul]
 have hm : 0 ≤ markOf (rd l ((n : Int) + 1)) := by unfold markOf; split <;> omega
 simp only [Option.bind_some]
 unfold newerOf
 generalize markOf (rd l 0) = a
 generalize markOf (rd l ((n : Int) + 1)) = b at hm
 by_cases ha : a = 0
 ·
  refine Ev.pos ha ?_
  by_cases hb : b = 0
  ·
   rw [if_pos ⟨ha, hb⟩]
   refine Ev.step (f := fun _ => some (-1)) (fun k => ?_) (Ev.now _)
   simp only [slot_pair_newer.j0, hb]; rfl
  ·
   rw [if_neg (by omega), if_pos ha]
   refine Ev.step (f := fun _ => some 1) (fun k => ?_) (Ev.now _)
   simp only [slot_pair_newer.j0, ha, if_true, beq_eq_false_iff_ne.2 hb]; rfl
 ·
  refine Ev.neg ha ?_
  rw [if_neg (by omega), if_neg ha]
  by_cases hb : b = 0
  ·
   rw [if_pos (.inl hb)]
   refine Ev.step (f := fun _ => some 0) (fun k => ?_) (Ev.now _)
   simp only [slot_pair_newer.j0, ha, hb, if_true, if_false]; rfl
  ·
   by_cases hab : a = b
   ·
    rw [if_pos (.inr (.inl hab))]
    refine Ev.step (f := fun _ => some 0) (fun k => ?_) (Ev.now _)
    subst hab
    simp only [slot_pair_newer.j0, ha, if_true, if_false]; rfl
   ·
    by_cases hc : b % 3 + 1 = a
    ·
     rw [if_pos (.inr (.inr hc))]
     refine Ev.step (f := fun _ => some 0) (fun k => ?_) (Ev.now _)
     simp only [slot_pair_newer.j0, ha, hb, hab, slot_next.eq b hm, Option.bind_some, hc, if_true, if_false]; rfl
    ·
     rw [if_neg (by omega)]
     refine Ev.step (f := fun _ => some 1) (fun k => ?_) (Ev.now _)
     simp only [slot_pair_newer.j0, ha, hb, hab, slot_next.eq b hm, Option.bind_some, hc, if_false]; rfl
theorem vendmeterref_SlotFits.eq (w n : Int) (hn : -9223372036854775808 ≤ n ∧ n ≤ 9223372036854775807) : vendmeterref_SlotFits.f w n = some (decide ((1 ≤ n ∧ n ≤ 64) ∧ w = 2 * n + 2)) := by
 unfold vendmeterref_SlotFits.f
 simp only [vendmeterref_In.eq, Option.bind_some]
 by_cases h : 1 ≤ n ∧ n ≤ 64
 ·
  simp only [h, and_self, true_and, decide_true, if_true]
  rw [wr (a := 2 * n) ⟨by omega, by omega⟩, wr (a := 2 * n + 2) ⟨by omega, by omega⟩]
  congr 1
 ·
  simp only [h, false_and, decide_false]; rfl
theorem follows_eq (a b : Int) : vendmeterref_follows.f a b = some (decide ((a = 1 ∧ b = 2) ∨ (a = 2 ∧ b = 3) ∨ (a = 3 ∧ b = 1))) := by
 unfold vendmeterref_follows.f
 by_cases h1 : a = 1
 ·
  subst h1
  by_cases h2 : b = 2
  ·
   simp [h2]
  ·
   simp [h2]
 ·
  by_cases h2 : a = 2
  ·
   subst h2
   by_cases h3 : b = 3
   ·
    simp [h3]
   ·
    simp [h3]
  ·
   by_cases h3 : a = 3
   ·
    subst h3
    by_cases h4 : b = 1 <;> simp [h4]
   ·
    simp [h1, h2, h3]
set_option maxHeartbeats 2000000 in
theorem counts_ev (l : List Int) (n : Nat) (hn : 1 ≤ n ∧ n ≤ 64) (hl : l.length = 2 * n + 2) (h0 : 0 ≤ rd l 0) (h1 : 0 ≤ rd l ((n : Int) + 1)) : Ev (fun k => vendmeterref_counts.f k l (n : Int)) (if newerOf (rd l 0) (rd l ((n : Int) + 1)) = -1 then 2 else newerOf (rd l 0) (rd l ((n : Int) + 1))) := by
 unfold vendmeterref_counts.f
 rw [wr (a := (n : Int) + 1) ⟨by omega, by omega⟩]
 generalize rd l ((n : Int) + 1) = b at *
 generalize rd l 0 = a at *
 refine Ev.pos (by omega) (Ev.pos (by omega) (Ev.pos (by omega) ?_))
 have key : ∀ x : Bool, x = decide (1 ≤ a ∧ a ≤ 3) → Ev (fun k => vendmeterref_counts.j0 k a b x) (if newerOf a b = -1 then 2 else newerOf a b) := by
  intro x hx
  have key2 : ∀ y : Bool, y = decide (1 ≤ b ∧ b ≤ 3) → Ev (fun k => vendmeterref_counts.j1 k a b x y) (if newerOf a b = -1 then 2 else newerOf a b) := by
   intro y hy
   by_cases ha : 1 ≤ a ∧ a ≤ 3
   ·
    have hx' : x = true := by rw [hx]; simpa using ha
    by_cases hb : 1 ≤ b ∧ b ≤ 3
    ·
     have hy' : y = true := by rw [hy]; simpa using hb
     subst hx' hy'
     refine Ev.step (f := fun k => vendmeterref_counts.j2 k a b true true false) (fun k => rfl) (Ev.step (f := fun k => vendmeterref_counts.j3 k a b true true) (fun k => rfl) (Ev.step (f := fun _ => if decide ((a = 1 ∧ b = 2) ∨ (a = 2 ∧ b = 3) ∨ (a = 3 ∧ b = 1)) = true then some 1 else some 0) (fun k => by simp only [vendmeterref_counts.j3, follows_eq, if_true, Option.bind_some]) ?_))
     have hma : markOf a = a := by unfold markOf; rw [if_neg (by omega)]
     have hmb : markOf b = b := by unfold markOf; rw [if_neg (by omega)]
     refine Ev.split (fun c => Ev.ret ?_) (fun c => Ev.ret ?_)
     ·
      rw [decide_eq_true_eq] at c
      unfold newerOf
      rw [hma, hmb, if_neg (by omega : ¬ (a = 0 ∧ b = 0)), if_neg (by omega : ¬ a = 0), if_neg (show ¬ (b = 0 ∨ a = b ∨ b % 3 + 1 = a) by omega)]; rfl
     ·
      rw [decide_eq_true_eq] at c
      unfold newerOf
      rw [hma, hmb, if_neg (by omega : ¬ (a = 0 ∧ b = 0)), if_neg (by omega : ¬ a = 0), if_pos (show b = 0 ∨ a = b ∨ b % 3 + 1 = a by omega)]; rfl
    ·
     have hy' : y = false := by rw [hy]; simpa using hb
     subst hx' hy'
     refine Ev.step (f := fun k => vendmeterref_counts.j2 k a b true false false) (fun k => rfl) (Ev.step (f := fun k => vendmeterref_counts.j3 k a b false false) (fun k => rfl) (Ev.step (f := fun _ => some 0) (fun k => rfl) (Ev.ret ?_)))
     have hma : markOf a = a := by unfold markOf; rw [if_neg (by omega)]
     have hmb : markOf b = 0 := by unfold markOf; split <;> omega
     unfold newerOf
     rw [hma, hmb, if_neg (by omega : ¬ (a = 0 ∧ (0 : Int) = 0)), if_neg (by omega : ¬ a = 0), if_pos (show (0 : Int) = 0 ∨ a = 0 ∨ (0 : Int) % 3 + 1 = a from .inl rfl)]; rfl
   ·
    have hx' : x = false := by rw [hx]; simpa using ha
    have hma : markOf a = 0 := by unfold markOf; split <;> omega
    by_cases hb : 1 ≤ b ∧ b ≤ 3
    ·
     have hy' : y = true := by rw [hy]; simpa using hb
     subst hx' hy'
     refine Ev.step (f := fun k => vendmeterref_counts.j2 k a b false true false) (fun k => rfl) (Ev.step (f := fun k => vendmeterref_counts.j3 k a b true false) (fun k => rfl) (Ev.step (f := fun _ => some 1) (fun k => rfl) (Ev.ret ?_)))
     have hmb : markOf b = b := by unfold markOf; rw [if_neg (by omega)]
     unfold newerOf
     rw [hma, hmb, if_neg (by omega : ¬ ((0 : Int) = 0 ∧ b = 0)), if_pos (show (0 : Int) = 0 from rfl)]; rfl
    ·
     have hy' : y = false := by rw [hy]; simpa using hb
     subst hx' hy'
     refine Ev.step (f := fun k => vendmeterref_counts.j2 k a b false false true) (fun k => rfl) (Ev.step (f := fun _ => some 2) (fun k => rfl) (Ev.ret ?_))
     have hmb : markOf b = 0 := by unfold markOf; split <;> omega
     unfold newerOf
     rw [hma, hmb, if_pos (show (0 : Int) = 0 ∧ (0 : Int) = 0 from ⟨rfl, rfl⟩)]; rfl
  by_cases hb1 : b ≥ 1
  ·
   exact Ev.step (f := fun k => vendmeterref_counts.j1 k a b x (decide (b ≤ 3))) (fun k => by simp only [vendmeterref_counts.j0]; rw [if_pos hb1]) (key2 _ (by congr 1; simp only [eq_iff_iff]; omega))
  ·
   exact Ev.step (f := fun k => vendmeterref_counts.j1 k a b x false) (fun k => by simp only [vendmeterref_counts.j0]; rw [if_neg hb1]) (key2 _ (by symm; rw [decide_eq_false_iff_not]; omega))
 by_cases ha1 : a ≥ 1
 ·
  exact Ev.pos ha1 (key _ (by congr 1; simp only [eq_iff_iff]; omega))
 ·
  exact Ev.neg ha1 (key _ (by symm; rw [decide_eq_false_iff_not]; omega))
theorem rd_nn {l : List Int} (h : ∀ y ∈ l, (Lit.int .u32 y).wf = true) (i : Int) : 0 ≤ rd l i := by
 unfold rd
 rcases Nat.lt_or_ge i.toNat l.length with h1 | h1
 ·
  exact (wfu32 (h _ (getD_mem l _ 0 h1))).1
 ·
  rw [List.getD_eq_getElem?_getD, List.getElem?_eq_none h1]; decide
def loadAns (l : List Int) (n : Nat) (s : Nat) : List Int := (l.drop (s * (n + 1) + 1)).take n
theorem take_snoc' (l : List Int) (o i : Nat) (h : o + i < l.length) : (l.drop o).take (i + 1) = (l.drop o).take i ++ [l.getD (o + i) 0] := by
 rw [take_getD (l.drop o) i 0 (by rw [List.length_drop]; omega)]
 congr 2
 simp [List.getD_eq_getElem?_getD]
theorem load_len (l : List Int) (n s : Nat) (hs1 : s ≤ 1) (hll : l.length = 2 * n + 2) : (loadAns l n s).length = n := by
 have hs2 : s * (n + 1) ≤ n + 1 := by
  have := Nat.mul_le_mul_right (n + 1) hs1
  omega
 unfold loadAns; rw [List.length_take, List.length_drop]; omega
theorem sw0 (n s : Nat) (hn : n ≤ 64) (hs1 : s ≤ 1) : Aside0 (wrap64 ((s : Int) * wrap64 ((n : Int) + 1)) = ((s * (n + 1) : Nat) : Int)) := by
 constructor
 have hs2 : s * (n + 1) ≤ n + 1 := by
  have := Nat.mul_le_mul_right (n + 1) hs1
  omega
 have m1 : (s : Int) * ((n : Int) + 1) = ((s * (n + 1) : Nat) : Int) := by rw [Int.natCast_mul]; rfl
 rw [wr (a := (n : Int) + 1) ⟨by omega, by omega⟩, m1, wr ⟨by omega, by omega⟩]
theorem load_p (l : List Int) (n s : Nat) (hn : 1 ≤ n ∧ n ≤ 64) (hs1 : s ≤ 1) (hll : l.length = 2 * n + 2) (hnew : Ev (fun k => slot_pair_newer.f k l (n : Int)) (s : Int)) : Ev (fun k => slot_Load.f k l (n : Int)) (loadAns l n s, 0) := by
 have hlen := load_len l n s hs1 hll
 have w0 := sw0 n s hn.2 hs1
 have hs2 : s * (n + 1) ≤ n + 1 := by
  have := Nat.mul_le_mul_right (n + 1) hs1
  omega
 unfold slot_Load.f
 rw [slot_size.eq _ _ ⟨by omega, by omega⟩]
 refine Ev.letS (Ev.pos (by rw [decide_eq_true_eq]; omega) ?_)
 refine Ev.bind hnew (Ev.neg (by omega) ?_)
 rw [w0.out]
 generalize hz : s * (n + 1) = z at hs2
 rw [wr (a := (z : Int) + 1) ⟨by omega, by omega⟩, wr (a := (z : Int) + 1 + (n : Int)) ⟨by omega, by omega⟩]
 have t1 : ((z : Int) + 1 + (n : Int)).toNat = z + 1 + n := by omega
 have t2 : ((z : Int) + 1).toNat = z + 1 := by omega
 rw [t1, t2]
 have e : (l.take (z + 1 + n)).drop (z + 1) = loadAns l n s := by
  unfold loadAns
  rw [List.drop_take, hz]
  congr 1
  omega
 rw [e]
 exact Ev.pos (by omega) (Ev.pos (by omega) (Ev.pos (by omega) (Ev.pos (by rw [hlen]; simp only [List.length_nil]; omega) (Ev.now _))))
theorem load_q (l : List Int) (n s : Nat) (hn : 1 ≤ n ∧ n ≤ 64) (hs1 : s ≤ 1) (hll : l.length = 2 * n + 2) (hcnt : Ev (fun k => vendmeterref_counts.f k l (n : Int)) (s : Int)) : Ev (fun k => vendmeterref_SlotLoaded.f k l (n : Int)) (loadAns l n s, 0) := by
 have hlen := load_len l n s hs1 hll
 have w0 := sw0 n s hn.2 hs1
 have hs2 : s * (n + 1) ≤ n + 1 := by
  have := Nat.mul_le_mul_right (n + 1) hs1
  omega
 unfold vendmeterref_SlotLoaded.f
 rw [vendmeterref_SlotFits.eq _ _ ⟨by omega, by omega⟩]
 refine Ev.letS (Ev.pos (by rw [decide_eq_true_eq]; omega) ?_)
 refine Ev.bind hcnt (Ev.neg (by omega) ?_)
 unfold loadAns
 generalize hz : s * (n + 1) = z at hs2 w0
 have key := down (P := fun i => Ev (fun k => vendmeterref_SlotLoaded.l0 k l (n : Int) (s : Int) ((l.drop (z + 1)).take i) ((i : Int) + 1)) ((l.drop (z + 1)).take n, 0)) (n := n) (by
  refine Ev.step (f := fun _ => some ((l.drop (z + 1)).take n, 0)) (fun k => ?_) (Ev.now _)
  simp only [vendmeterref_SlotLoaded.l0]; rw [if_neg (by omega)]) (by
  intro i hi ih
  refine Ev.step (fun k => ?_) ih
  simp only [vendmeterref_SlotLoaded.l0, w0.out]
  rw [wr (a := (z : Int) + ((i : Int) + 1)) ⟨by omega, by omega⟩, wr (a := (i : Int) + 1 + 1) ⟨by omega, by omega⟩, show (z : Int) + ((i : Int) + 1) = ((z + 1 + i : Nat) : Int) by omega, show (i : Int) + 1 + 1 = ((i + 1 : Nat) : Int) + 1 by omega,
   if_pos (by omega), if_pos (by omega), if_pos (by omega), if_pos (by rw [List.length_take, List.length_drop]; omega), rd_nat, ← take_snoc' l _ i (by omega)])
 simpa using key
theorem slot_load_both (l : List Int) (n' : Int) (h : ∀ y ∈ l, (Lit.int .u32 y).wf = true) (hb : -9223372036854775808 ≤ n' ∧ n' ≤ 9223372036854775807) (hl : l.length ≤ 1152921504606846976) :
  ∃ r : List Int × Int, r.1.length ≤ 64 ∧ (∀ y ∈ r.1, y ∈ l) ∧ (r.2 = 0 → (r.1.length : Int) = n' ∧ (l.length : Int) = 2 * n' + 2 ∧ 1 ≤ n' ∧ newerOf (rd l 0) (rd l (n' + 1)) ≠ -1) ∧ Ev (fun k => slot_Load.f k l n') r ∧ Ev (fun k => vendmeterref_SlotLoaded.f k l n') r := by
 by_cases hs : (1 ≤ n' ∧ n' ≤ 64) ∧ (l.length : Int) = 2 * n' + 2
 ·
  obtain ⟨n, rfl⟩ := Int.eq_ofNat_of_zero_le (show 0 ≤ n' by omega)
  have hn' : 1 ≤ n ∧ n ≤ 64 := by omega
  have hll : l.length = 2 * n + 2 := by omega
  have h0 := rd_nn h 0
  have h1 := rd_nn h ((n : Int) + 1)
  have hnew := slot_pair_newer.ev l n hn' hll h0 h1
  have hcnt := counts_ev l n hn' hll h0 h1
  rcases newer_cases (rd l 0) (rd l ((n : Int) + 1)) with e | e
  ·
   rw [e] at hnew hcnt
   refine ⟨([], 17), by simp, by simp, by simp, ?_, ?_⟩
   ·
    unfold slot_Load.f
    rw [slot_size.eq _ _ hb]
    exact Ev.letS (Ev.pos (by rw [decide_eq_true_eq]; exact hs) (Ev.bind hnew (Ev.pos (by decide) (Ev.now _))))
   ·
    unfold vendmeterref_SlotLoaded.f
    rw [vendmeterref_SlotFits.eq _ _ hb]
    exact Ev.letS (Ev.pos (by rw [decide_eq_true_eq]; exact hs) (Ev.bind hcnt (Ev.pos (by decide) (Ev.now _))))
  ·
   obtain ⟨s, hs1, es⟩ : ∃ s : Nat, s ≤ 1 ∧ newerOf (rd l 0) (rd l ((n : Int) + 1)) = (s : Int) := by
    rcases e with e | e
    ·
     exact ⟨0, by omega, e⟩
    ·
     exact ⟨1, by omega, e⟩
   have hne : newerOf (rd l 0) (rd l ((n : Int) + 1)) ≠ -1 := by rw [es]; omega
   rw [es] at hnew hcnt
   rw [if_neg (by omega)] at hcnt
   exact ⟨(loadAns l n s, 0), by rw [load_len l n s hs1 hll]; omega, fun y hy => List.mem_of_mem_drop (List.mem_of_mem_take hy), fun _ => ⟨by rw [load_len l n s hs1 hll], by omega, by omega, hne⟩, load_p l n s hn' hs1 hll hnew, load_q l n s hn' hs1 hll hcnt⟩
 ·
  refine ⟨([], 1), by simp, by simp, by simp, ?_, ?_⟩
  ·
   unfold slot_Load.f
   rw [slot_size.eq _ _ hb]
   exact Ev.letS (Ev.neg (by rw [decide_eq_true_eq]; exact hs) (Ev.now _))
  ·
   unfold vendmeterref_SlotLoaded.f
   rw [vendmeterref_SlotFits.eq _ _ hb]
   exact Ev.letS (Ev.neg (by rw [decide_eq_true_eq]; exact hs) (Ev.now _))
def readBits (l : List Int) : Nat := (rd l 4 * 4294967296 + rd l 3).toNat
def readAns (l : List Int) : Int × Int × Int × Int × Int × Int × Int × Int :=
 if (l.length : Int) = 5 then (if mayM (rd l 1 % 256) (rd l 1 / 256 % 256) (rd l 0) (rd l 2) (readBits l) (rd l 1 / 65536 % 256) (rd l 1 / 16777216) = true then
  (rd l 1 % 256, rd l 1 / 256 % 256, rd l 0, rd l 2, (readBits l : Int), rd l 1 / 65536 % 256, rd l 1 / 16777216, 0) else (0, 0, 0, 0, 0, 0, 0, 5)) else (0, 0, 0, 0, 0, 0, 0, 1)
theorem readBits_lt {a c : Int} (ha : 0 ≤ a ∧ a ≤ 4294967295) (hc : 0 ≤ c ∧ c ≤ 4294967295) : (c * 4294967296 + a).toNat < 18446744073709551616 := by omega
theorem readBits_or {a c : Int} (ha : 0 ≤ a ∧ a ≤ 4294967295) (hc : 0 ≤ c ∧ c ≤ 4294967295) : Go.bits .or .u64 a (c * 4294967296) = (((c * 4294967296 + a).toNat : Nat) : Int) := by
 obtain ⟨a, rfl⟩ := Int.eq_ofNat_of_zero_le ha.1
 obtain ⟨c, rfl⟩ := Int.eq_ofNat_of_zero_le hc.1
 rw [show ((c : Int) * 4294967296) = ((2 ^ 32 * c : Nat) : Int) by omega, u64_or_nat _ _ (by omega) (by omega), Nat.or_comm, ← Nat.two_pow_add_eq_or_of_lt (show a < 2 ^ 32 by omega)]
 omega
theorem words_bd {l : List Int} (h : ∀ y ∈ l, (Lit.int .u32 y).wf = true) (i : Nat) (hi : i < l.length) : 0 ≤ rd l (i : Int) ∧ rd l (i : Int) ≤ 4294967295 := by
 have := wfu32 (h _ (getD_mem l i 0 hi))
 rw [rd_nat]; exact this
theorem meter_Read.ev (l : List Int) (h : ∀ y ∈ l, (Lit.int .u32 y).wf = true) : Ev (fun k => meter_Read.f k l) (readAns l) := by
 unfold meter_Read.f readAns
 refine Ev.iteR (fun h5 => ?_) (fun _ => Ev.now _)
 have bd := fun i hi => words_bd h i hi
 refine Ev.pos (fun i hi => bd i (by omega)) ?_
 have b1 : 0 ≤ rd l 1 ∧ rd l 1 ≤ 4294967295 := bd 1 (by omega)
 have b3 : 0 ≤ rd l 3 ∧ rd l 3 ≤ 4294967295 := bd 3 (by omega)
 have b4 : 0 ≤ rd l 4 ∧ rd l 4 ≤ 4294967295 := bd 4 (by omega)
 rw [readBits_or b3 b4, show rd l 1 / 16777216 % 256 = rd l 1 / 16777216 by omega]
 exact Ev.bind (meter_may.ev _ _ _ _ _ _ _ (readBits_lt b3 b4)) (Ev.iteR (fun _ => Ev.now _) (fun _ => Ev.now _))
theorem vendmeterref_MeterRead.ev (l : List Int) (h : ∀ y ∈ l, (Lit.int .u32 y).wf = true) : Ev (fun k => vendmeterref_MeterRead.f k l) (readAns l) := by
 unfold vendmeterref_MeterRead.f readAns
 refine Ev.iteR (fun h5 => ?_) (fun _ => Ev.now _)
 have bd := fun i hi => words_bd h i hi
 have b0 : 0 ≤ rd l 0 ∧ rd l 0 ≤ 4294967295 := bd 0 (by omega)
 have b1 : 0 ≤ rd l 1 ∧ rd l 1 ≤ 4294967295 := bd 1 (by omega)
 have b2 : 0 ≤ rd l 2 ∧ rd l 2 ≤ 4294967295 := bd 2 (by omega)
 have b3 : 0 ≤ rd l 3 ∧ rd l 3 ≤ 4294967295 := bd 3 (by omega)
 have b4 : 0 ≤ rd l 4 ∧ rd l 4 ≤ 4294967295 := bd 4 (by omega)
 refine Ev.pos (by omega) (Ev.pos (by omega) (Ev.pos (by omega) (Ev.pos (by omega) (Ev.pos (by omega) ?_))))
 have e : IntKind.u64.wrap ((IntKind.u64.wrap ((IntKind.u64.wrap (rd l 4)) * 4294967296)) + (IntKind.u64.wrap (rd l 3))) = (readBits l : Int) := by
  rw [u64w (a := rd l 4) ⟨b4.1, by omega⟩, u64w (a := rd l 4 * 4294967296) ⟨by omega, by omega⟩, u64w (a := rd l 3) ⟨b3.1, by omega⟩, u64w (a := rd l 4 * 4294967296 + rd l 3) ⟨by omega, by omega⟩]
  unfold readBits; omega
 rw [e, wr (a := rd l 1) ⟨by omega, by omega⟩, wr (a := rd l 0) ⟨by omega, by omega⟩, wr (a := rd l 2) ⟨by omega, by omega⟩, td b1.1, td b1.1, td b1.1, tm b1.1]
 rw [wr (a := rd l 1 / 256) ⟨by omega, by omega⟩, wr (a := rd l 1 / 65536) ⟨by omega, by omega⟩, wr (a := rd l 1 / 16777216) ⟨by omega, by omega⟩, tm (a := rd l 1 / 256) (by omega), tm (a := rd l 1 / 65536) (by omega)]
 exact Ev.bind (vendmeterref_MeterMay.ev _ _ _ _ _ _ _ (readBits_lt b3 b4)) (Ev.iteR (fun _ => Ev.now _) (fun _ => Ev.now _))
def bootAns (r : List Int × Int) : Int × Int × Int × Int × Int × Int × Int × Int := if r.2 = 0 then readAns r.1 else (0, 0, 0, 0, 0, 0, 0, r.2)
theorem booted_both (l : List Int) (h : ∀ y ∈ l, (Lit.int .u32 y).wf = true) (hl : l.length ≤ 1152921504606846976) :
  ∃ r : List Int × Int, r.1.length ≤ 64 ∧ (∀ y ∈ r.1, y ∈ l) ∧ (r.2 = 0 → (r.1.length : Int) = 5 ∧ (l.length : Int) = 12 ∧ newerOf (rd l 0) (rd l 6) ≠ -1) ∧ Ev (fun k => pocket_Boot.f k l) (bootAns r) ∧ Ev (fun k => vendmeterref_Booted.f k l) (bootAns r) := by
 obtain ⟨r, h1, h2, h3, p, q⟩ := slot_load_both l 5 h (by omega) hl
 have hw : ∀ y ∈ r.1, (Lit.int .u32 y).wf = true := fun y hy => h y (h2 y hy)
 refine ⟨r, h1, h2, fun e => by obtain ⟨a, b, _, d⟩ := h3 e; exact ⟨a, by omega, d⟩, ?_, ?_⟩
 ·
  unfold pocket_Boot.f bootAns
  exact Ev.bind p (Ev.iteR (fun _ => Ev.bind (meter_Read.ev r.1 hw) (Ev.now _)) (fun _ => Ev.now _))
 ·
  unfold vendmeterref_Booted.f bootAns
  exact Ev.bind q (Ev.iteR (fun _ => Ev.bind (vendmeterref_MeterRead.ev r.1 hw) (Ev.now _)) (fun _ => Ev.now _))
def meterList (me rev cr H : Int) (b : Nat) (bad lock : Int) : List Int := [cr, me + 256 * (rev + 256 * (bad + 256 * lock)), H, (b : Int) % 4294967296, (b : Int) / 4294967296]
def wordsAns (me rev cr H : Int) (b : Nat) (bad lock : Int) : List Int × Int := if mayM me rev cr H b bad lock then (meterList me rev cr H b bad lock, 0) else ([], 5)
theorem flags_eq (me rev bad lock : Nat) (h1 : me < 50) (h2 : rev ≤ 15) (h3 : bad < 5) (h4 : lock ≤ 30) :
  Go.bits .or .u32 (Go.bits .or .u32 (Go.bits .or .u32 ((((lock : Int) % 4294967296) * 16777216) % 4294967296) ((((bad : Int) % 4294967296) * 65536) % 4294967296)) ((((rev : Int) % 4294967296) * 256) % 4294967296)) ((me : Int) % 4294967296) = (me : Int) + 256 * ((rev : Int) + 256 * ((bad : Int) + 256 * (lock : Int))) := by
 rw [show (((lock : Int) % 4294967296) * 16777216) % 4294967296 = ((2 ^ 24 * lock : Nat) : Int) by omega, show (((bad : Int) % 4294967296) * 65536) % 4294967296 = ((bad * 65536 : Nat) : Int) by omega, show (((rev : Int) % 4294967296) * 256) % 4294967296 = ((rev * 256 : Nat) : Int) by omega, show (me : Int) % 4294967296 = (me : Int) by omega]
 rw [u32_or_nat _ _ (by omega) (by omega), ← Nat.two_pow_add_eq_or_of_lt (show bad * 65536 < 2 ^ 24 by omega), show 2 ^ 24 * lock + bad * 65536 = 2 ^ 16 * (256 * lock + bad) by omega]
 rw [u32_or_nat _ _ (by omega) (by omega), ← Nat.two_pow_add_eq_or_of_lt (show rev * 256 < 2 ^ 16 by omega), show 2 ^ 16 * (256 * lock + bad) + rev * 256 = 2 ^ 8 * (256 * (256 * lock + bad) + rev) by omega]
 rw [u32_or_nat _ _ (by omega) (by omega), ← Nat.two_pow_add_eq_or_of_lt (show me < 2 ^ 8 by omega)]
 omega
theorem meter_Words.ev (me rev cr H : Int) (b : Nat) (bad lock : Int) (hb : b < 18446744073709551616) : Ev (fun k => meter_Words.f k me rev cr H (b : Int) bad lock) (wordsAns me rev cr H b bad lock) := by
 unfold meter_Words.f wordsAns
 refine Ev.bind (meter_may.ev me rev cr H b bad lock hb) (Ev.iteR (fun h => Ev.ret ?_) (fun h => Ev.now _))
 obtain ⟨⟨h1, h2, h3, h4, h5, _⟩, hw⟩ := mayM_in h
 have hH := mayW_H hw
 obtain ⟨me, rfl⟩ := Int.eq_ofNat_of_zero_le h1.1
 obtain ⟨rev, rfl⟩ := Int.eq_ofNat_of_zero_le h2.1
 obtain ⟨bad, rfl⟩ := Int.eq_ofNat_of_zero_le h4.1
 obtain ⟨lock, rfl⟩ := Int.eq_ofNat_of_zero_le h5.1
 unfold meterList
 rw [flags_eq me rev bad lock (by omega) (by omega) (by omega) (by omega), show cr % 4294967296 = cr by omega, show H % 4294967296 = H by omega, show ((b : Int) / 4294967296) % 4294967296 = (b : Int) / 4294967296 by omega]
theorem vendmeterref_MeterWorded.ev (me rev cr H : Int) (b : Nat) (bad lock : Int) (hb : b < 18446744073709551616) : Ev (fun k => vendmeterref_MeterWorded.f k me rev cr H (b : Int) bad lock) (wordsAns me rev cr H b bad lock) := by
 unfold vendmeterref_MeterWorded.f wordsAns
 refine Ev.bind (vendmeterref_MeterMay.ev me rev cr H b bad lock hb) (Ev.iteR (fun h => Ev.ret ?_) (fun h => Ev.now _))
 obtain ⟨⟨h1, h2, h3, h4, h5, _⟩, hw⟩ := mayM_in h
 have hH := mayW_H hw
 unfold meterList
 rw [wr (a := 256 * lock) ⟨by omega, by omega⟩, wr (a := bad + 256 * lock) ⟨by omega, by omega⟩, wr (a := 256 * (bad + 256 * lock)) ⟨by omega, by omega⟩, wr (a := rev + 256 * (bad + 256 * lock)) ⟨by omega, by omega⟩, wr (a := 256 * (rev + 256 * (bad + 256 * lock))) ⟨by omega, by omega⟩, wr (a := me + 256 * (rev + 256 * (bad + 256 * lock))) ⟨by omega, by omega⟩]
 rw [tm (Int.natCast_nonneg b), td (Int.natCast_nonneg b), u64w ⟨by omega, by omega⟩, show cr % 4294967296 = cr by omega, show H % 4294967296 = H by omega, show ((b : Int) / 4294967296) % 4294967296 = (b : Int) / 4294967296 by omega, show ((b : Int) % 4294967296) % 4294967296 = (b : Int) % 4294967296 by omega, show (me + 256 * (rev + 256 * (bad + 256 * lock))) % 4294967296 = me + 256 * (rev + 256 * (bad + 256 * lock)) by omega]
def wrs (o : Nat) : List Int → List S53
 | [] => []
 | x :: l => ⟨(o : Int), x⟩ :: wrs (o + 1) l
theorem wrs_snoc (x : Int) : ∀ (o : Nat) (l : List Int), wrs o (l ++ [x]) = wrs o l ++ [⟨((o + l.length : Nat) : Int), x⟩]
 | o, [] => by simp [wrs]
 | o, y :: l => by
  simp only [List.cons_append, wrs, wrs_snoc x (o + 1) l, List.length_cons]
  congr 4
  omega
theorem wrs_len : ∀ (o : Nat) (l : List Int), (wrs o l).length = l.length
 | _, [] => rfl
 | o, _ :: l => by simp [wrs, wrs_len (o + 1) l]
def storeAns (r : List Int) (other : Nat) (m : Int) : List S53 := ⟨(other : Int), 0⟩ :: (wrs (other + 1) r ++ [⟨(other : Int), m⟩])
theorem mark3 (a b : Int) (ha : 0 ≤ a) (hb : 0 ≤ b) (h : newerOf a b = 0) : 1 ≤ a ∧ a ≤ 3 := by
 have hm : ¬ markOf a = 0 := by
  intro hm
  unfold newerOf at h
  by_cases hb0 : markOf b = 0
  ·
   rw [if_pos ⟨hm, hb0⟩] at h; omega
  ·
   rw [if_neg (fun x => hb0 x.2), if_pos hm] at h; omega
 unfold markOf at hm
 by_cases h3 : a > 3
 ·
  rw [if_pos h3] at hm; exact absurd rfl hm
 ·
  rw [if_neg h3] at hm; omega
theorem mark4 (a b : Int) (ha : 0 ≤ a) (hb : 0 ≤ b) (h : newerOf a b = 1) : 1 ≤ b ∧ b ≤ 3 := by
 have hm : ¬ markOf b = 0 := by
  intro hm
  unfold newerOf at h
  by_cases ha0 : markOf a = 0
  ·
   rw [if_pos ⟨ha0, hm⟩] at h; omega
  ·
   rw [if_neg (fun x => ha0 x.1), if_neg ha0, if_pos (.inl hm)] at h; omega
 unfold markOf at hm
 by_cases h3 : b > 3
 ·
  rw [if_pos h3] at hm; exact absurd rfl hm
 ·
  rw [if_neg h3] at hm; omega
theorem store_p (l r : List Int) (n : Nat) (hr : r.length = n) (hn : 1 ≤ n ∧ n ≤ 64) (hll : l.length = 2 * n + 2) (s : Nat) (hs1 : s ≤ 1) (m : Int) (hm : rd l ((s : Int) * ((n : Int) + 1)) = m) (hm1 : 1 ≤ m ∧ m ≤ 3) (hnew : Ev (fun k => slot_pair_newer.f k l (n : Int)) (s : Int)) :
  Ev (fun k => slot_Store.f k l r) (storeAns r ((1 - s) * (n + 1)) (m % 3 + 1), 0) := by
 unfold slot_Store.f
 rw [slot_size.eq _ _ ⟨by omega, by omega⟩]
 refine Ev.letS (Ev.pos (by rw [decide_eq_true_eq]; omega) ?_)
 rw [hr]
 refine Ev.bind hnew (Ev.neg (by omega) ?_)
 have hz : wrap64 (wrap64 (1 - (s : Int)) * wrap64 ((n : Int) + 1)) = (((1 - s) * (n + 1) : Nat) : Int) := by
  rcases (show s = 0 ∨ s = 1 by omega) with rfl | rfl
  ·
   rw [wr (a := 1 - ((0 : Nat) : Int)) ⟨by omega, by omega⟩, wr (a := (n : Int) + 1) ⟨by omega, by omega⟩, wr ⟨by omega, by omega⟩]; omega
  ·
   rw [wr (a := 1 - ((1 : Nat) : Int)) ⟨by omega, by omega⟩, wr (a := (n : Int) + 1) ⟨by omega, by omega⟩, wr ⟨by omega, by omega⟩]; omega
 have hzb : (1 - s) * (n + 1) ≤ n + 1 := by rcases (show s = 0 ∨ s = 1 by omega) with rfl | rfl <;> omega
 rw [hz]
 clear hz hnew
 generalize (1 - s) * (n + 1) = z at hzb
 have key := down (P := fun i => Ev (fun k => slot_Store.l0 k (s : Int) (z : Int) (⟨(z : Int), 0⟩ :: wrs (z + 1) (r.take i)) r (n : Int) (i : Int) l (n : Int)) (storeAns r z (m % 3 + 1), 0)) (n := n) (by
  refine Ev.step (f := fun _ => some (storeAns r z (m % 3 + 1), 0)) (fun k => ?_) (Ev.now _)
  simp only [slot_Store.l0, slot_pair_mark.eq l n hn hll (s : Int) (by omega), hm]
  rw [show markOf m = m by unfold markOf; rw [if_neg (by omega)]]
  simp only [slot_next.eq m (by omega), Option.bind_some]
  rw [if_neg (by omega), List.take_of_length_le (by omega), if_pos (by simp only [List.length_cons, wrs_len]; omega)]
  rfl) (by
  intro i hi ih
  refine Ev.step (fun k => ?_) ih
  simp only [slot_Store.l0, rd_nat]
  rw [if_pos (by omega), if_pos (by omega), if_pos (by omega), if_pos (by simp only [List.length_cons, wrs_len, List.length_take]; omega), wr (a := (z : Int) + 1) ⟨by omega, by omega⟩, wr (a := (z : Int) + 1 + (i : Int)) ⟨by omega, by omega⟩, wn (show i < n by omega) (by omega), take_getD r i 0 (by omega), wrs_snoc]
  rw [List.cons_append, List.length_take, Nat.min_eq_left (by omega), show (z : Int) + 1 + (i : Int) = ((z + 1 + i : Nat) : Int) by omega])
 exact key
theorem store_q (l r : List Int) (n : Nat) (hr : r.length = n) (hn : 1 ≤ n ∧ n ≤ 64) (hll : l.length = 2 * n + 2) (s : Nat) (hs1 : s ≤ 1) (m : Int) (hm : rd l ((s : Int) * ((n : Int) + 1)) = m) (hm1 : 1 ≤ m ∧ m ≤ 3) (hcnt : Ev (fun k => vendmeterref_counts.f k l (n : Int)) (s : Int)) :
  Ev (fun k => vendmeterref_SlotStored.f k l r) (storeAns r ((1 - s) * (n + 1)) (m % 3 + 1), 0) := by
 unfold vendmeterref_SlotStored.f
 rw [vendmeterref_SlotFits.eq _ _ ⟨by omega, by omega⟩]
 refine Ev.letS (Ev.pos (by rw [decide_eq_true_eq]; omega) ?_)
 rw [hr]
 refine Ev.bind hcnt (Ev.neg (by omega) ?_)
 have key0 : ∀ z : Nat, z ≤ n + 1 → Ev (fun k => vendmeterref_SlotStored.j1 k r (n : Int) (z : Int) (m % 3 + 1)) (storeAns r z (m % 3 + 1), 0) := by
  intro z hzb
  have key := down (P := fun i => Ev (fun k => vendmeterref_SlotStored.l0 k r (n : Int) (z : Int) (m % 3 + 1) (⟨(z : Int), 0⟩ :: wrs (z + 1) (r.take i)) (i : Int)) (storeAns r z (m % 3 + 1), 0)) (n := n) (by
   refine Ev.step (f := fun _ => some (storeAns r z (m % 3 + 1), 0)) (fun k => ?_) (Ev.now _)
   simp only [vendmeterref_SlotStored.l0]
   rw [if_neg (by omega), List.take_of_length_le (by omega), if_pos (by simp only [List.length_cons, wrs_len]; omega)]
   rfl) (by
   intro i hi ih
   refine Ev.step (fun k => ?_) ih
   simp only [vendmeterref_SlotStored.l0, rd_nat]
   rw [if_pos (by omega), if_pos (by omega), if_pos (by omega), if_pos (by simp only [List.length_cons, wrs_len, List.length_take]; omega), wr (a := (z : Int) + 1) ⟨by omega, by omega⟩, wr (a := (z : Int) + 1 + (i : Int)) ⟨by omega, by omega⟩, wn (show i < n by omega) (by omega), take_getD r i 0 (by omega), wrs_snoc]
   rw [List.cons_append, List.length_take, Nat.min_eq_left (by omega), show (z : Int) + 1 + (i : Int) = ((z + 1 + i : Nat) : Int) by omega])
  exact Ev.step (fun k => rfl) key
 have key1 : ∀ z : Nat, z ≤ n + 1 → Ev (fun k => vendmeterref_SlotStored.j0 k l r (n : Int) (s : Int) (z : Int)) (storeAns r z (m % 3 + 1), 0) := by
  intro z hzb
  have e1 : (s : Int) * ((n : Int) + 1) < (l.length : Int) ∧ 0 ≤ (s : Int) * ((n : Int) + 1) := by
   rcases (show s = 0 ∨ s = 1 by omega) with rfl | rfl <;> omega
  refine Ev.step (fun k => ?_) (key0 z hzb)
  simp only [vendmeterref_SlotStored.j0]
  rw [wr (a := (n : Int) + 1) ⟨by omega, by omega⟩, wr (a := (s : Int) * ((n : Int) + 1)) ⟨by omega, by omega⟩, if_pos e1.2, if_pos e1.1, hm]
  rcases (show m = 1 ∨ m = 2 ∨ m = 3 by omega) with rfl | rfl | rfl <;> rfl
 rcases (show s = 0 ∨ s = 1 by omega) with rfl | rfl
 ·
  refine Ev.pos rfl ?_
  rw [wr (a := (n : Int) + 1) ⟨by omega, by omega⟩]
  have := key1 (n + 1) (Nat.le_refl _)
  rw [show (1 - 0) * (n + 1) = n + 1 by omega]
  exact this
 ·
  refine Ev.neg (by decide) ?_
  have := key1 0 (by omega)
  rw [show (1 - 1) * (n + 1) = 0 by omega]
  exact this
theorem store_both (l r : List Int) (h0 : 0 ≤ rd l 0) (h1 : 0 ≤ rd l ((r.length : Int) + 1)) (hl : l.length ≤ 1152921504606846976) (hl2 : r.length ≤ 1152921504606846976) : ∃ x : List S53 × Int, x.1.length ≤ 70 ∧ Ev (fun k => slot_Store.f k l r) x ∧ Ev (fun k => vendmeterref_SlotStored.f k l r) x := by
 by_cases hs : (1 ≤ r.length ∧ r.length ≤ 64) ∧ l.length = 2 * r.length + 2
 ·
  obtain ⟨hn', hll⟩ := hs
  have hnew := slot_pair_newer.ev l r.length hn' hll h0 h1
  have hcnt := counts_ev l r.length hn' hll h0 h1
  have m3 := mark3 _ _ h0 h1
  have m4 := mark4 _ _ h0 h1
  rcases newer_cases (rd l 0) (rd l ((r.length : Int) + 1)) with e | e | e
  ·
   rw [e] at hnew hcnt
   refine ⟨([], 17), by simp, ?_, ?_⟩
   ·
    unfold slot_Store.f
    rw [slot_size.eq _ _ ⟨by omega, by omega⟩]
    exact Ev.letS (Ev.pos (by rw [decide_eq_true_eq]; omega) (Ev.bind hnew (Ev.pos (by decide) (Ev.now _))))
   ·
    unfold vendmeterref_SlotStored.f
    rw [vendmeterref_SlotFits.eq _ _ ⟨by omega, by omega⟩]
    exact Ev.letS (Ev.pos (by rw [decide_eq_true_eq]; omega) (Ev.bind hcnt (Ev.pos (by decide) (Ev.now _))))
  ·
   rw [e] at hnew hcnt
   exact ⟨_, by simp [storeAns, wrs_len]; omega, store_p l r r.length rfl hn' hll 0 (by omega) (rd l 0) (by simp) (m3 e) hnew, store_q l r r.length rfl hn' hll 0 (by omega) (rd l 0) (by simp) (m3 e) hcnt⟩
  ·
   rw [e] at hnew hcnt
   exact ⟨_, by simp [storeAns, wrs_len]; omega, store_p l r r.length rfl hn' hll 1 (by omega) (rd l ((r.length : Int) + 1)) (by simp) (m4 e) hnew, store_q l r r.length rfl hn' hll 1 (by omega) (rd l ((r.length : Int) + 1)) (by simp) (m4 e) hcnt⟩
 ·
  refine ⟨([], 1), by simp, ?_, ?_⟩
  ·
   unfold slot_Store.f
   rw [slot_size.eq _ _ ⟨by omega, by omega⟩]
   exact Ev.letS (Ev.neg (by rw [decide_eq_true_eq]; omega) (Ev.now _))
  ·
   unfold vendmeterref_SlotStored.f
   rw [vendmeterref_SlotFits.eq _ _ ⟨by omega, by omega⟩]
   exact Ev.letS (Ev.neg (by rw [decide_eq_true_eq]; omega) (Ev.now _))
def difL (a b : List Int) : Nat → Nat → List S53
 | 0, _ => []
 | d + 1, i => if a.getD i 0 = b.getD i 0 then difL a b d (i + 1) else ⟨(i : Int), b.getD i 0⟩ :: difL a b d (i + 1)
theorem Differsl_ev (a b : List Int) (n : Nat) (ha : a.length = n) (hb : b.length = n) (hn : n ≤ 2048) : ∀ (d i : Nat) (out : List S53), i + d = n → out.length ≤ i → Ev (fun k => vendmeterref_Differs.l0 k a b out (i : Int)) (out ++ difL a b d i, 0)
 | 0, i, out, hi, ho => by
  refine Ev.step (f := fun _ => some (out, 0)) (fun k => ?_) (Ev.ret (by simp [difL]))
  simp only [vendmeterref_Differs.l0]; rw [if_neg (by omega)]
 | d + 1, i, out, hi, ho => by
  unfold difL
  by_cases h : a.getD i 0 = b.getD i 0
  ·
   rw [if_pos h]
   refine Ev.step (fun k => ?_) (Differsl_ev a b n ha hb hn d (i + 1) out (by omega) (by omega))
   simp only [vendmeterref_Differs.l0, rd_nat]
   rw [if_pos (by omega), if_pos (by omega), if_pos (by omega), if_pos h, wn (show i < n by omega) (by omega)]
  ·
   rw [if_neg h]
   refine Ev.eq ?_ (Ev.step (f := fun k => vendmeterref_Differs.l0 k a b (out ++ [⟨(i : Int), b.getD i 0⟩]) ((i + 1 : Nat) : Int)) (fun k => ?_) (Differsl_ev a b n ha hb hn d (i + 1) (out ++ [⟨(i : Int), b.getD i 0⟩]) (by omega) (by rw [List.length_append]; simp; omega)))
   ·
    simp
   ·
    simp only [vendmeterref_Differs.l0, rd_nat]
    rw [if_pos (by omega), if_pos (by omega), if_pos (by omega), if_neg h, if_pos (by omega), wn (show i < n by omega) (by omega)]
theorem Differs_ev (a b : List Int) (n : Nat) (ha : a.length = n) (hb : b.length = n) (hn : 1 ≤ n ∧ n ≤ 2048) : Ev (fun k => vendmeterref_Differs.f k a b) (difL a b n 0, 0) := by
 unfold vendmeterref_Differs.f
 rw [vendmeterref_In.eq]
 refine Ev.letS (Ev.pos (by rw [decide_eq_true_eq]; omega) ?_)
 have e : ((a.length : Int) != (b.length : Int)) = false := bne_eq_false_iff_eq.mpr (by omega)
 rw [e]
 refine Ev.step (f := fun k => vendmeterref_Differs.l0 k a b [] 0) (fun k => ?_) (Differsl_ev a b n ha hb hn.2 n 0 [] (by omega) (by simp))
 simp [vendmeterref_Differs.j0]
theorem meterList_inj {me rev cr H : Int} {b : Nat} {bad lock me' rev' cr' H' : Int} {b' : Nat} {bad' lock' : Int} (hb : b < 18446744073709551616) (hb' : b' < 18446744073709551616) (hm : inM me rev cr bad lock) (hm' : inM me' rev' cr' bad' lock') :
  ((difL (meterList me rev cr H b bad lock) (meterList me' rev' cr' H' b' bad' lock') 5 0).length : Int) = 0 ↔ (me = me' ∧ rev = rev' ∧ cr = cr' ∧ H = H' ∧ b = b' ∧ bad = bad' ∧ lock = lock') := by
 have e1 : me + 256 * (rev + 256 * (bad + 256 * lock)) = me' + 256 * (rev' + 256 * (bad' + 256 * lock')) ↔ (me = me' ∧ rev = rev' ∧ bad = bad' ∧ lock = lock') := by unfold inM at hm hm'; omega
 have e2 : ((b : Int) % 4294967296 = (b' : Int) % 4294967296 ∧ (b : Int) / 4294967296 = (b' : Int) / 4294967296) ↔ b = b' := by omega
 have key : ∀ (x1 x2 x3 x4 x5 y1 y2 y3 y4 y5 : Int), ((difL [x1, x2, x3, x4, x5] [y1, y2, y3, y4, y5] 5 0).length : Int) = 0 ↔ (x1 = y1 ∧ x2 = y2 ∧ x3 = y3 ∧ x4 = y4 ∧ x5 = y5) := by
  intro x1 x2 x3 x4 x5 y1 y2 y3 y4 y5
  by_cases h1 : x1 = y1 <;> by_cases h2 : x2 = y2 <;> by_cases h3 : x3 = y3 <;> by_cases h4 : x4 = y4 <;> by_cases h5 : x5 = y5 <;> simp [difL, h1, h2, h3, h4, h5] <;> omega
 unfold meterList
 rw [key, e1]
 constructor
 ·
  rintro ⟨p1, ⟨p2, p3, p4, p5⟩, p6, p7, p8⟩; exact ⟨p2, p3, p1, p6, e2.1 ⟨p7, p8⟩, p4, p5⟩
 ·
  rintro ⟨p2, p3, p1, p6, p7, p4, p5⟩; exact ⟨p1, ⟨p2, p3, p4, p5⟩, p6, (e2.2 p7).1, (e2.2 p7).2⟩
theorem moved_any (l : List Int) (h0 : 0 ≤ rd l 0) (h6 : 0 ≤ rd l 6) (hl : l.length ≤ 1152921504606846976) (me rev cr H : Int) (b : Nat) (bad lock me' rev' cr' H' : Int) (b' : Nat) (bad' lock' : Int) (hb : b < 18446744073709551616) (hb' : b' < 18446744073709551616) (hm : mayM me rev cr H b bad lock = true) (hm' : mayM me' rev' cr' H' b' bad' lock' = true) :
  ∃ x : List S53, x.length ≤ 70 ∧ Ev (fun k => pocket_moved.f k l me rev cr H (b : Int) bad lock me' rev' cr' H' (b' : Int) bad' lock') x ∧ Ev (fun k => vendmeterref_stored.f k l me rev cr H (b : Int) bad lock me' rev' cr' H' (b' : Int) bad' lock') x := by
 have w1 := vendmeterref_MeterWorded.ev me rev cr H b bad lock hb
 have w2 := vendmeterref_MeterWorded.ev me' rev' cr' H' b' bad' lock' hb'
 have w3 := meter_Words.ev me' rev' cr' H' b' bad' lock' hb'
 have e1 : wordsAns me rev cr H b bad lock = (meterList me rev cr H b bad lock, 0) := by unfold wordsAns; rw [if_pos hm]
 have e2 : wordsAns me' rev' cr' H' b' bad' lock' = (meterList me' rev' cr' H' b' bad' lock', 0) := by unfold wordsAns; rw [if_pos hm']
 rw [e1] at w1
 rw [e2] at w2 w3
 have hd := Differs_ev (meterList me rev cr H b bad lock) (meterList me' rev' cr' H' b' bad' lock') 5 rfl rfl (by omega)
 have hj := meterList_inj (H := H) (H' := H') hb hb' (mayM_in hm).1 (mayM_in hm').1
 obtain ⟨x, hx, p, q⟩ := store_both l (meterList me' rev' cr' H' b' bad' lock') h0 h6 hl (by simp [meterList])
 by_cases hs : me = me' ∧ rev = rev' ∧ cr = cr' ∧ H = H' ∧ b = b' ∧ bad = bad' ∧ lock = lock'
 ·
  refine ⟨[], by simp, ?_, ?_⟩
  ·
   unfold pocket_moved.f
   obtain ⟨rfl, rfl, rfl, rfl, rfl, rfl, rfl⟩ := hs
   exact Ev.pos (by simp) (Ev.now _)
  ·
   unfold vendmeterref_stored.f
   exact Ev.bind w1 (Ev.bind w2 (Ev.bind hd (Ev.pos (hj.2 hs) (Ev.now _))))
 ·
  refine ⟨x.1, hx, ?_, ?_⟩
  ·
   unfold pocket_moved.f
   refine Ev.neg (fun h => hs ?_) (Ev.bind w3 (Ev.pos rfl (Ev.bind p (Ev.now _))))
   simp only [Bool.and_eq_true, beq_iff_eq] at h
   exact ⟨h.1, h.2.1, h.2.2.1, h.2.2.2.1.1, Int.ofNat.inj h.2.2.2.1.2, h.2.2.2.2.1, h.2.2.2.2.2⟩
  ·
   unfold vendmeterref_stored.f
   exact Ev.bind w1 (Ev.bind w2 (Ev.bind hd (Ev.neg (fun h => hs (hj.1 h)) (Ev.bind q (Ev.now _)))))
theorem vendmeterlaw_sameWords.ev (l) (hl : l.length ≤ 1152921504606846976) : Ev (fun k => vendmeterlaw_sameWords.f k l l) true := by
 unfold vendmeterlaw_sameWords.f
 refine Ev.pos rfl (same_ev hl (fun k i hi => ?_) (fun k => ?_))
 ·
  simp only [vendmeterlaw_sameWords.l0]; rw [if_pos (by omega), if_pos (by omega), if_pos (by omega)]; simp
 ·
  simp only [vendmeterlaw_sameWords.l0]; rw [if_neg (by omega)]
theorem vendmeterlaw_sameWrites.ev (l) (hl : l.length ≤ 1152921504606846976) : Ev (fun k => vendmeterlaw_sameWrites.f k l l) true := by
 unfold vendmeterlaw_sameWrites.f
 refine Ev.pos rfl (same_ev hl (fun k i hi => ?_) (fun k => ?_))
 ·
  simp only [vendmeterlaw_sameWrites.l0]; rw [if_pos (by omega), if_pos (by omega), if_pos (by omega)]; simp
 ·
  simp only [vendmeterlaw_sameWrites.l0]; rw [if_neg (by omega)]
theorem vendmeterlaw_words.eq (l) (h : l.length * 4 ≤ 140737488351232) : vendmeterlaw_words.f l = some l := by
 unfold vendmeterlaw_words.f
 rw [if_pos (by simp only [List.length_nil]; omega)]; rfl

theorem take_may {H : Int} {b : Nat} {id : Int} (hb : b < 18446744073709551616) (h : judgeW H b id = 0) : mayW (if id > H then id else H) (takeBits H b id) = true ∧ takeBits H b id < 18446744073709551616 := by
 obtain ⟨hm, h1, h2, h3, h4⟩ := judge_ok h
 have hH := mayW_H hm
 unfold mayW at hm
 rw [decide_eq_true_eq] at hm
 have hlen : ((lenN b : Nat) : Int) ≤ H := by
  rcases hm with ⟨_, rfl⟩ | hm
  ·
   have : lenN 0 = 0 := by have := (lenN_le 0 0).2 (by decide); omega
   omega
  ·
   exact hm.2.2
 obtain ⟨z, rfl⟩ := Int.eq_ofNat_of_zero_le hH.1
 have hbH : b < 2 ^ z := (lenN_le b z).1 (by omega)
 by_cases hp : id > (z : Int)
 ·
  rw [takeBits_pos hp, if_pos hp]
  obtain ⟨s, hs⟩ := Int.eq_ofNat_of_zero_le (show 0 ≤ id - (z : Int) by omega)
  rw [hs, Int.toNat_natCast]
  obtain ⟨n, hn⟩ : ∃ n : Nat, id = (n : Int) := Int.eq_ofNat_of_zero_le (by omega)
  have hpow : b * 2 ^ s < 2 ^ n := by
   rw [show n = z + s by omega, Nat.pow_add]
   exact Nat.mul_lt_mul_of_pos_right hbH (Nat.two_pow_pos s)
  have hn1 : 1 < 2 ^ n := Nat.one_lt_two_pow (by omega)
  have hlt : (b * 2 ^ s % 18446744073709551616) ||| 1 < 2 ^ n := Nat.or_lt_two_pow (Nat.lt_of_le_of_lt (Nat.mod_le _ _) hpow) hn1
  refine ⟨?_, by rw [two64]; exact Nat.or_lt_two_pow (Nat.mod_lt _ (Nat.two_pow_pos 64)) (by decide)⟩
  unfold mayW
  rw [decide_eq_true_eq]
  refine Or.inr ⟨by omega, ?_, ?_⟩
  ·
   have := Nat.testBit_or (b * 2 ^ s % 18446744073709551616) 1 0
   rw [Nat.testBit_zero, Nat.testBit_zero 1] at this
   simp
  ·
   have := (lenN_le _ n).2 hlt
   omega
 ·
  rw [takeBits_neg hp, if_neg hp]
  obtain ⟨s, hs⟩ := Int.eq_ofNat_of_zero_le (show 0 ≤ (z : Int) - id by omega)
  have h5 := h4 (by omega)
  rw [hs, Int.toNat_natCast] at h5 ⊢
  have hodd : (1 ≤ (z : Int) ∧ (z : Int) ≤ 1048575) ∧ b % 2 = 1 ∧ ((lenN b : Nat) : Int) ≤ (z : Int) := hm.resolve_left (fun g => by omega)
  have hs64 : 2 ^ s < 2 ^ 64 := Nat.pow_lt_pow_right (by decide) (by omega)
  refine ⟨?_, by rw [two64]; exact Nat.or_lt_two_pow (by rw [← two64]; exact hb) hs64⟩
  unfold mayW
  rw [decide_eq_true_eq]
  refine Or.inr ⟨hodd.1, ?_, ?_⟩
  ·
   have := Nat.testBit_or b (2 ^ s) 0
   rw [Nat.testBit_zero, Nat.testBit_zero b, hodd.2.1] at this
   simpa using this
  ·
   have := (lenN_le (b ||| 2 ^ s) z).2 (Nat.or_lt_two_pow hbH (Nat.pow_lt_pow_right (by decide) (by omega)))
   omega
theorem keyed_next (me rev cr H : Int) (b : Nat) (bad lock : Int) (l : List S55) (cls id amt tag : Int) (hb : b < 18446744073709551616) (hl : l.length ≤ 1152921504606846976) (hm : mayM me rev cr H b bad lock = true) (ho : oracle_known.ok l = true) :
  ∃ (me' rev' cr' H' : Int) (b' : Nat) (bad' lock' add e : Int), b' < 18446744073709551616 ∧ mayM me' rev' cr' H' b' bad' lock' = true ∧ e ≠ 5 ∧ Ev (fun k => meter_Key.f k me rev cr H (b : Int) bad lock l cls id amt tag) (me', rev', cr', H', (b' : Int), bad', lock', add, e) ∧ Ev (fun k => vendmeterref_MeterKeyed.f k me rev cr H (b : Int) bad lock l cls id amt tag) (me', rev', cr', H', (b' : Int), bad', lock', add, e) := by
 have m1 := meter_may.ev me rev cr H b bad lock hb
 have m2 := vendmeterref_MeterMay.ev me rev cr H b bad lock hb
 have o1 : Ev (fun _ => oracle_May.f l) (oracle_known.ok l) := Ev.some_ rfl
 have o2 := vendmeterref_OracleMay.ev l hl
 have b1 : Ev (fun _ => token_Body.f cls id amt tag) (bodyAns cls id amt tag) := Ev.some_ (token_Body.eq cls id amt tag)
 have b2 := vendmeterref_BodyOf.ev cls id amt tag
 unfold meter_Key.f vendmeterref_MeterKeyed.f
 by_cases hd : (bodyAns cls id amt tag).2 = 0
 case neg =>
  refine ⟨me, rev, cr, H, b, bad, lock, 0, (bodyAns cls id amt tag).2, hb, hm, ?_, Ev.bind m1 (Ev.pos hm (Ev.bind o1 (Ev.pos ho (Ev.bind b1 (Ev.neg hd (Ev.now _)))))), Ev.bind m2 (Ev.pos hm (Ev.bind o2 (Ev.pos ho (Ev.bind b2 (Ev.neg hd (Ev.now _))))))⟩
  unfold bodyAns
  by_cases q : tokFault cls id amt tag = 0
  ·
   rw [if_pos q]; show (0 : Int) ≠ 5; decide
  ·
   rw [if_neg q]
   show tokFault cls id amt tag ≠ 5
   unfold tokFault
   (repeat' split) <;> decide
 obtain ⟨⟨i1, i2, i3, i4, i5, i6⟩, hw⟩ := mayM_in hm
 have hz : tokFault cls id amt tag = 0 := by
  unfold bodyAns at hd
  by_cases q : tokFault cls id amt tag = 0
  ·
   exact q
  ·
   rw [if_neg q] at hd; exact hd
 obtain ⟨c1, c2, c3, c4⟩ := tok_zero hz
 have c5 := tok_amt c4
 by_cases hk : lock > 0
 ·
  exact ⟨me, rev, cr, H, b, bad, lock, 0, 10, hb, hm, by decide, Ev.bind m1 (Ev.pos hm (Ev.bind o1 (Ev.pos ho (Ev.bind b1 (Ev.pos hd (Ev.pos hk (Ev.now _))))))), Ev.bind m2 (Ev.pos hm (Ev.bind o2 (Ev.pos ho (Ev.bind b2 (Ev.pos hd (Ev.pos hk (Ev.now _)))))))⟩
 by_cases h3 : cls = 3
 ·
  exact ⟨me, rev, cr, H, b, bad, lock, 0, 0, hb, hm, by decide, Ev.bind m1 (Ev.pos hm (Ev.bind o1 (Ev.pos ho (Ev.bind b1 (Ev.pos hd (Ev.neg hk (Ev.pos h3 (Ev.now _)))))))), Ev.bind m2 (Ev.pos hm (Ev.bind o2 (Ev.pos ho (Ev.bind b2 (Ev.pos hd (Ev.neg hk (Ev.pos h3 (Ev.now _))))))))⟩
 obtain ⟨s, e1, e2⟩ := sellKey_ev me rev cr H b bad lock l (bodyAns cls id amt tag).1 tag ho (by unfold oracle_known.ok at ho; rw [Bool.and_eq_true, decide_eq_true_eq] at ho; exact ho.1) i2.1 i4
 have fin : ∀ {r : Int × Int × Int × Int × Int × Int × Int × Int × Int}, r = vendmeterref_MeterKeyed.fin me rev cr H (b : Int) bad lock cls amt (takeW H b id).1 (takeW H b id).2.1 (takeW H b id).2.2 → ∃ (me' rev' cr' H' : Int) (b' : Nat) (bad' lock' add e : Int), b' < 18446744073709551616 ∧ mayM me' rev' cr' H' b' bad' lock' = true ∧ e ≠ 5 ∧ r = (me', rev', cr', H', (b' : Int), bad', lock', add, e) := by
  rintro r rfl
  unfold takeW
  by_cases hj : judgeW H b id = 0
  ·
   rw [if_pos hj]
   obtain ⟨tm, tl⟩ := take_may hb hj
   unfold vendmeterref_MeterKeyed.fin
   simp only [if_true]
   by_cases g0 : cls = 0
   ·
    rw [if_pos g0, wr (a := 99999999 - cr) ⟨by omega, by omega⟩]
    by_cases g1 : amt > 99999999 - cr
    ·
     rw [if_pos g1]; exact ⟨_, _, _, _, b, _, _, _, _, hb, hm, by decide, rfl⟩
    ·
     rw [if_neg g1, wr (a := cr + amt) ⟨by omega, by omega⟩]
     exact ⟨_, _, _, _, takeBits H b id, _, _, _, _, tl, (mayM_yes _ _ (by unfold inM; omega)).trans tm, by decide, rfl⟩
   ·
    rw [if_neg g0]
    by_cases g2 : cls = 2
    ·
     rw [if_pos g2]
     by_cases g1 : amt ≤ rev
     ·
      rw [if_pos g1]; exact ⟨_, _, _, _, b, _, _, _, _, hb, hm, by decide, rfl⟩
     ·
      rw [if_neg g1]
      have c6 : amt ≤ 15 := by unfold tokAmt at c4; omega
      exact ⟨_, _, _, _, takeBits H b id, _, _, _, _, tl, (mayM_yes _ _ (by unfold inM; omega)).trans tm, by decide, rfl⟩
    ·
     rw [if_neg g2]
     by_cases g1 : cls = 1
     ·
      rw [if_pos g1]
      exact ⟨_, _, _, _, takeBits H b id, _, _, _, _, tl, (mayM_yes _ _ (by unfold inM; omega)).trans tm, by decide, rfl⟩
     ·
      omega
  ·
   rw [if_neg hj]
   refine ⟨me, rev, cr, H, b, bad, lock, 0, judgeW H b id, hb, hm, ?_, ?_⟩
   ·
    unfold judgeW
    rw [if_pos hw]
    (repeat' split) <;> decide
   ·
    unfold vendmeterref_MeterKeyed.fin
    exact if_neg hj
 have hid : -9223372036854775808 ≤ id ∧ id ≤ 9223372036854775807 := by omega
 rcases e2 with ⟨rfl, e2⟩ | ⟨rfl, e2⟩ | ⟨rfl, e2⟩
 ·
  have qq := take_fin me rev cr H b bad lock cls amt (takeW H b id).1 (takeW H b id).2.1 (takeW H b id).2.2 (by omega) i3 c5
  obtain ⟨me', rev', cr', H', b', bad', lock', add, e, q1, q2, q3, q4⟩ := fin qq
  refine ⟨me', rev', cr', H', b', bad', lock', add, e, q1, q2, q3, Ev.eq q4 (Ev.bind m1 (Ev.pos hm (Ev.bind o1 (Ev.pos ho (Ev.bind b1 (Ev.pos hd (Ev.neg hk (Ev.neg h3 (Ev.pos i2 (?_)))))))))), Ev.eq (qq.symm.trans q4) (Ev.bind m2 (Ev.pos hm (Ev.bind o2 (Ev.pos ho (Ev.bind b2 (Ev.pos hd (Ev.neg hk (Ev.neg h3 (Ev.bind e1 (Ev.neg (by decide) (Ev.neg (by decide) (Ev.bind (vendmeterref_TakenBy.ev H b id hb) (Ev.now _)))))))))))))⟩
  rw [e2]
  exact Ev.pos rfl (Ev.bind (window_Take.ev H b id hb hid) (Ev.now _))
 ·
  refine ⟨me, rev, cr, H, b, bad, lock, 0, 11, hb, hm, by decide, Ev.bind m1 (Ev.pos hm (Ev.bind o1 (Ev.pos ho (Ev.bind b1 (Ev.pos hd (Ev.neg hk (Ev.neg h3 (Ev.pos i2 (?_))))))))), Ev.bind m2 (Ev.pos hm (Ev.bind o2 (Ev.pos ho (Ev.bind b2 (Ev.pos hd (Ev.neg hk (Ev.neg h3 (Ev.bind e1 (Ev.pos rfl (Ev.now _))))))))))⟩
  rw [e2]
  exact Ev.neg (by simp) (Ev.now _)
 ·
  have hwb : wrap64 (bad + 1) = bad + 1 := wr ⟨by omega, by omega⟩
  by_cases q : wrap64 (bad + 1) ≥ 5
  ·
   rw [if_pos q] at e2
   refine ⟨me, rev, cr, H, b, 0, 30, 0, 12, hb, (mayM_yes _ _ (by unfold inM; omega)).trans hw, by decide, Ev.bind m1 (Ev.pos hm (Ev.bind o1 (Ev.pos ho (Ev.bind b1 (Ev.pos hd (Ev.neg hk (Ev.neg h3 (Ev.pos i2 (?_))))))))), Ev.bind m2 (Ev.pos hm (Ev.bind o2 (Ev.pos ho (Ev.bind b2 (Ev.pos hd (Ev.neg hk (Ev.neg h3 (Ev.bind e1 (Ev.neg (by decide) (Ev.pos rfl (Ev.pos q (Ev.now _))))))))))))⟩
   rw [e2]
   exact Ev.neg (by simp) (Ev.now _)
  ·
   rw [if_neg q] at e2
   refine ⟨me, rev, cr, H, b, wrap64 (bad + 1), lock, 0, 12, hb, (mayM_yes _ _ (by rw [hwb] at q ⊢; unfold inM; omega)).trans hw, by decide, Ev.bind m1 (Ev.pos hm (Ev.bind o1 (Ev.pos ho (Ev.bind b1 (Ev.pos hd (Ev.neg hk (Ev.neg h3 (Ev.pos i2 (?_))))))))), Ev.bind m2 (Ev.pos hm (Ev.bind o2 (Ev.pos ho (Ev.bind b2 (Ev.pos hd (Ev.neg hk (Ev.neg h3 (Ev.bind e1 (Ev.neg (by decide) (Ev.pos rfl (Ev.neg q (Ev.now _))))))))))))⟩
   rw [e2]
   exact Ev.neg (by simp) (Ev.now _)
theorem keyedp_both (l : List Int) (o : List S55) (s : ByteArray) (h : ∀ y ∈ l, (Lit.int .u32 y).wf = true) (hl : l.length ≤ 1152921504606846976) (ho : o.length ≤ 1152921504606846976) :
  ∃ r : List S53 × Int × Int, r.1.length ≤ 70 ∧ Ev (fun k => pocket_Keyed.f k l o s) r ∧ Ev (fun k => vendmeterref_PocketKeyed.f k l o s) r := by
 obtain ⟨r, h1, h2, h3, p, q⟩ := booted_both l h hl
 have o2 := vendmeterref_OracleMay.ev o ho
 have t1 : Ev (fun _ => token_Parse.f s) (parsedAns s) := Ev.some_ (token_Parse.eq s)
 have t2 := vendmeterref_Parsed.ev s
 have no : ∀ c : Int, ¬ c = 0 → bootAns r = (0, 0, 0, 0, 0, 0, 0, c) → ∃ r : List S53 × Int × Int, r.1.length ≤ 70 ∧ Ev (fun k => pocket_Keyed.f k l o s) r ∧ Ev (fun k => vendmeterref_PocketKeyed.f k l o s) r := by
  intro c hc e
  rw [e] at p q
  refine ⟨([], 0, c), by simp, ?_, ?_⟩
  ·
   unfold pocket_Keyed.f
   exact Ev.bind p (Ev.neg hc (Ev.now _))
  ·
   unfold vendmeterref_PocketKeyed.f
   exact Ev.bind q (Ev.neg hc (Ev.now _))
 by_cases hr : r.2 = 0
 ·
  obtain ⟨h5, h12, _⟩ := h3 hr
  have e0 : bootAns r = readAns r.1 := by unfold bootAns; rw [if_pos hr]
  unfold readAns at e0
  rw [if_pos h5] at e0
  by_cases hm : mayM (rd r.1 1 % 256) (rd r.1 1 / 256 % 256) (rd r.1 0) (rd r.1 2) (readBits r.1) (rd r.1 1 / 65536 % 256) (rd r.1 1 / 16777216) = true
  ·
   rw [if_pos hm] at e0
   rw [e0] at p q
   have hw : ∀ y ∈ r.1, (Lit.int .u32 y).wf = true := fun y hy => h y (h2 y hy)
   have hb : readBits r.1 < 18446744073709551616 := readBits_lt (words_bd hw 3 (by omega)) (words_bd hw 4 (by omega))
   generalize rd r.1 1 % 256 = me at *
   generalize rd r.1 1 / 256 % 256 = rev at *
   generalize rd r.1 0 = cr at *
   generalize rd r.1 2 = H at *
   generalize readBits r.1 = b at *
   generalize rd r.1 1 / 65536 % 256 = bad at *
   generalize rd r.1 1 / 16777216 = lock at *
   by_cases hp : (parsedAns s).2.2.2.2 = 0
   ·
    by_cases hor : oracle_known.ok o = true
    ·
     obtain ⟨me', rev', cr', H', b', bad', lock', add, e, q1, q2, q3, k1, k2⟩ := keyed_next me rev cr H b bad lock o (parsedAns s).1 (parsedAns s).2.1 (parsedAns s).2.2.1 (parsedAns s).2.2.2.1 hb ho hm hor
     obtain ⟨x, hx, m1, m2⟩ := moved_any l (rd_nn h 0) (rd_nn h 6) hl me rev cr H b bad lock me' rev' cr' H' b' bad' lock' hb q1 hm q2
     refine ⟨(x, add, e), hx, ?_, ?_⟩
     ·
      unfold pocket_Keyed.f
      exact Ev.bind p (Ev.pos rfl (Ev.bind t1 (Ev.pos hp (Ev.bind k1 (Ev.neg q3 (Ev.bind m1 (Ev.now _)))))))
     ·
      unfold vendmeterref_PocketKeyed.f
      exact Ev.bind q (Ev.pos rfl (Ev.bind t2 (Ev.pos hp (Ev.bind o2 (Ev.pos hor (Ev.bind k2 (Ev.bind m2 (Ev.now _))))))))
    ·
     refine ⟨([], 0, 5), by simp, ?_, ?_⟩
     ·
      unfold pocket_Keyed.f
      refine Ev.bind p (Ev.pos rfl (Ev.bind t1 (Ev.pos hp (Ev.bind (a := (0, 0, 0, 0, 0, 0, 0, 0, 5)) ?_ (Ev.pos rfl (Ev.now _))))))
      unfold meter_Key.f
      exact Ev.bind (meter_may.ev me rev cr H b bad lock hb) (Ev.pos hm (Ev.bind (Ev.some_ (show oracle_May.f o = some (oracle_known.ok o) from rfl)) (Ev.neg hor (Ev.now _))))
     ·
      unfold vendmeterref_PocketKeyed.f
      exact Ev.bind q (Ev.pos rfl (Ev.bind t2 (Ev.pos hp (Ev.bind o2 (Ev.neg hor (Ev.now _))))))
   ·
    refine ⟨([], 0, (parsedAns s).2.2.2.2), by simp, ?_, ?_⟩
    ·
     unfold pocket_Keyed.f
     exact Ev.bind p (Ev.pos rfl (Ev.bind t1 (Ev.neg hp (Ev.now _))))
    ·
     unfold vendmeterref_PocketKeyed.f
     exact Ev.bind q (Ev.pos rfl (Ev.bind t2 (Ev.neg hp (Ev.now _))))
  ·
   rw [if_neg hm] at e0
   exact no 5 (by decide) e0
 ·
  exact no r.2 hr (by unfold bootAns; rw [if_neg hr])
theorem PocketKeys : vendmeterlaw_PocketKeys.Pure := by
 intro l o s h g _
 refine Ev.rounds ?_
 unfold vendmeterlaw_PocketKeys.f
 rw [vendmeterlaw_words.eq l h.1, vendmeterlaw_oracles.eq o g.1]
 have hl := h.1
 have hg := g.1
 obtain ⟨r, hr, p, q⟩ := keyedp_both l o s h.2 (by omega) (by omega)
 exact Ev.letS (Ev.letS (Ev.bind p (Ev.bind q (Ev.pos rfl (Ev.pos rfl (Ev.bind (vendmeterlaw_sameWrites.ev _ (by omega)) (Ev.pos rfl (Ev.bind (vendmeterlaw_sameWords.ev l (by omega)) (Ev.pos rfl (Ev.bind (vendmeterlaw_sameOracle.ev o (by omega)) (Ev.now _)))))))))))

end Go.Proofs.YtcllddkmcnfejaaGreatDoor.Pure

