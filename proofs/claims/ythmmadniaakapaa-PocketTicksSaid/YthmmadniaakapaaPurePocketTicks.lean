/- vendmeterlaw.PocketTicks returns true at every list of words and load: pocket.Ticked answers as the reference does, and the list is as it was. No condition. -/
import Derived.Test.YthmmadniaakapaaPPocketTicksxL
import Derived.Test.YthmmadniaakapaaXLib
set_option linter.unusedVariables false
set_option linter.unusedSimpArgs false
namespace Go.Proofs.Ythmmadniaakapaa.Pure
open Go.RowKit Go.Proofs.Ythmmadniaakapaa.PPocketTicks Go.Proofs.YthmmadniaakapaaW.PrintWords Go.Proofs.YthmmadniaakapaaW.PrintLast Go.Proofs.YthmmadniaakapaaW.PrintMore Go.Proofs.YthmmadniaakapaaW.XLib

def markOf (m : Int) : Int := if m > 3 then 0 else m
def newerOf (a b : Int) : Int := if markOf a = 0 ∧ markOf b = 0 then -1 else if markOf a = 0 then 1 else if markOf b = 0 ∨ markOf a = markOf b ∨ markOf b % 3 + 1 = markOf a then 0 else 1
theorem newer_cases (a b : Int) : newerOf a b = -1 ∨ newerOf a b = 0 ∨ newerOf a b = 1 := by
  unfold newerOf
  split
  · exact .inl rfl
  · split
    · exact .inr (.inr rfl)
    · split
      · exact .inr (.inl rfl)
      · exact .inr (.inr rfl)
theorem slot_size.eq (w n : Int) (hn : -9223372036854775808 ≤ n ∧ n ≤ 9223372036854775807) : slot_size.f w n = some (decide ((1 ≤ n ∧ n ≤ 64) ∧ w = 2 * n + 2)) := by
  unfold slot_size.f
  by_cases h1 : n ≥ 1
  · by_cases h2 : n ≤ 64
    · rw [if_pos h1, if_pos h2, wr (a := n + 1) ⟨by omega, by omega⟩, wr (a := 2 * (n + 1)) ⟨by omega, by omega⟩]
      congr 1
      rw [Bool.eq_iff_iff]
      simp only [beq_iff_eq, decide_eq_true_eq]
      omega
    · rw [if_pos h1, if_neg h2]
      congr 1
      symm
      rw [decide_eq_false_iff_not]
      omega
  · rw [if_neg h1]
    congr 1
    symm
    rw [decide_eq_false_iff_not]
    omega
theorem slot_next.eq (m : Int) (h0 : 0 ≤ m) : slot_next.f m = some (m % 3 + 1) := by
  unfold slot_next.f
  rw [tm h0]
  congr 1
  omega
theorem slot_pair_mark.eq (l : List Int) (n : Nat) (hn : 1 ≤ n ∧ n ≤ 64) (hl : l.length = 2 * n + 2) (s : Int) (hs : s = 0 ∨ s = 1) : slot_pair_mark.f l (n : Int) s = some (markOf (rd l (s * ((n : Int) + 1)))) := by
  unfold slot_pair_mark.f markOf
  have e : wrap64 (s * wrap64 ((n : Int) + 1)) = s * ((n : Int) + 1) := by
    rw [wr (a := (n : Int) + 1) ⟨by omega, by omega⟩]
    rcases hs with rfl | rfl <;> exact wr ⟨by omega, by omega⟩
  rw [e, if_pos (by rcases hs with rfl | rfl <;> omega), if_pos (by rcases hs with rfl | rfl <;> omega)]
  split <;> rfl
theorem slot_pair_newer.ev (l : List Int) (n : Nat) (hn : 1 ≤ n ∧ n ≤ 64) (hl : l.length = 2 * n + 2) (h0 : 0 ≤ rd l 0) (h1 : 0 ≤ rd l ((n : Int) + 1)) : Ev (fun k => slot_pair_newer.f k l (n : Int)) (newerOf (rd l 0) (rd l ((n : Int) + 1))) := by
  unfold slot_pair_newer.f
  rw [slot_pair_mark.eq l n hn hl 0 (.inl rfl), slot_pair_mark.eq l n hn hl 1 (.inr rfl), Int.zero_mul, Int.one_mul]
  have hm : 0 ≤ markOf (rd l ((n : Int) + 1)) := by unfold markOf; split <;> omega
  simp only [Option.bind_some]
  unfold newerOf
  generalize markOf (rd l 0) = a
  generalize markOf (rd l ((n : Int) + 1)) = b at hm
  by_cases ha : a = 0
  · refine Ev.pos ha ?_
    by_cases hb : b = 0
    · rw [if_pos ⟨ha, hb⟩]
      refine Ev.step (f := fun _ => some (-1)) (fun k => ?_) (Ev.now _)
      simp only [slot_pair_newer.j0, hb]; rfl
    · rw [if_neg (by omega), if_pos ha]
      refine Ev.step (f := fun _ => some 1) (fun k => ?_) (Ev.now _)
      simp only [slot_pair_newer.j0, ha, if_true, beq_eq_false_iff_ne.2 hb]; rfl
  · refine Ev.neg ha ?_
    rw [if_neg (by omega), if_neg ha]
    by_cases hb : b = 0
    · rw [if_pos (.inl hb)]
      refine Ev.step (f := fun _ => some 0) (fun k => ?_) (Ev.now _)
      simp only [slot_pair_newer.j0, ha, hb, if_true, if_false]; rfl
    · by_cases hab : a = b
      · rw [if_pos (.inr (.inl hab))]
        refine Ev.step (f := fun _ => some 0) (fun k => ?_) (Ev.now _)
        subst hab
        simp only [slot_pair_newer.j0, ha, if_true, if_false]; rfl
      · by_cases hc : b % 3 + 1 = a
        · rw [if_pos (.inr (.inr hc))]
          refine Ev.step (f := fun _ => some 0) (fun k => ?_) (Ev.now _)
          simp only [slot_pair_newer.j0, ha, hb, hab, slot_next.eq b hm, Option.bind_some, hc, if_true, if_false]; rfl
        · rw [if_neg (by omega)]
          refine Ev.step (f := fun _ => some 1) (fun k => ?_) (Ev.now _)
          simp only [slot_pair_newer.j0, ha, hb, hab, slot_next.eq b hm, Option.bind_some, hc, if_false]; rfl
theorem vendmeterref_In.eq (a b c : Int) : vendmeterref_In.f a b c = some (decide (b ≤ a ∧ a ≤ c)) := by
  unfold vendmeterref_In.f
  by_cases h : b ≤ a
  · rw [if_pos h]; simp [h]
  · rw [if_neg h]; simp [h]
theorem vendmeterref_SlotFits.eq (w n : Int) (hn : -9223372036854775808 ≤ n ∧ n ≤ 9223372036854775807) : vendmeterref_SlotFits.f w n = some (decide ((1 ≤ n ∧ n ≤ 64) ∧ w = 2 * n + 2)) := by
  unfold vendmeterref_SlotFits.f
  simp only [vendmeterref_In.eq, Option.bind_some]
  by_cases h : 1 ≤ n ∧ n ≤ 64
  · simp only [h, and_self, true_and, decide_true, if_true]
    rw [wr (a := 2 * n) ⟨by omega, by omega⟩, wr (a := 2 * n + 2) ⟨by omega, by omega⟩]
    congr 1
  · simp only [h, false_and, decide_false]; rfl
theorem follows_eq (a b : Int) : vendmeterref_follows.f a b = some (decide ((a = 1 ∧ b = 2) ∨ (a = 2 ∧ b = 3) ∨ (a = 3 ∧ b = 1))) := by
  unfold vendmeterref_follows.f
  by_cases h1 : a = 1
  · subst h1
    by_cases h2 : b = 2
    · simp [h2]
    · simp [h2]
  · by_cases h2 : a = 2
    · subst h2
      by_cases h3 : b = 3
      · simp [h3]
      · simp [h3]
    · by_cases h3 : a = 3
      · subst h3
        by_cases h4 : b = 1 <;> simp [h4]
      · simp [h1, h2, h3]
set_option maxHeartbeats 2000000 in
theorem counts_ev (l : List Int) (n : Nat) (hn : 1 ≤ n ∧ n ≤ 64) (hl : l.length = 2 * n + 2) (h0 : 0 ≤ rd l 0) (h1 : 0 ≤ rd l ((n : Int) + 1)) : Ev (fun k => vendmeterref_counts.f k l (n : Int)) (if newerOf (rd l 0) (rd l ((n : Int) + 1)) = -1 then 2 else newerOf (rd l 0) (rd l ((n : Int) + 1))) := by
  unfold vendmeterref_counts.f
  rw [wr (a := (n : Int) + 1) ⟨by omega, by omega⟩]
  generalize rd l ((n : Int) + 1) = b at *
  generalize rd l 0 = a at *
  refine Ev.pos (by omega) (Ev.pos (by omega) (Ev.pos (by omega) ?_))
  have key : ∀ x : Bool, x = decide (1 ≤ a ∧ a ≤ 3) → Ev (fun k => vendmeterref_counts.j0 k a b x) (if newerOf a b = -1 then 2 else newerOf a b) := by
    intro x hx
    have key2 : ∀ y : Bool, y = decide (1 ≤ b ∧ b ≤ 3) → Ev (fun k => vendmeterref_counts.j1 k a b x y) (if newerOf a b = -1 then 2 else newerOf a b) := by
      intro y hy
      by_cases ha : 1 ≤ a ∧ a ≤ 3
      · have hx' : x = true := by rw [hx]; simpa using ha
        by_cases hb : 1 ≤ b ∧ b ≤ 3
        · have hy' : y = true := by rw [hy]; simpa using hb
          subst hx' hy'
          refine Ev.step (f := fun k => vendmeterref_counts.j2 k a b true true false) (fun k => rfl) (Ev.step (f := fun k => vendmeterref_counts.j3 k a b true true) (fun k => rfl) (Ev.step (f := fun _ => if decide ((a = 1 ∧ b = 2) ∨ (a = 2 ∧ b = 3) ∨ (a = 3 ∧ b = 1)) = true then some 1 else some 0) (fun k => by simp only [vendmeterref_counts.j3, follows_eq, if_true, Option.bind_some]) ?_))
          have hma : markOf a = a := by unfold markOf; rw [if_neg (by omega)]
          have hmb : markOf b = b := by unfold markOf; rw [if_neg (by omega)]
          refine Ev.split (fun c => Ev.ret ?_) (fun c => Ev.ret ?_)
          · rw [decide_eq_true_eq] at c
            unfold newerOf
            rw [hma, hmb, if_neg (by omega : ¬ (a = 0 ∧ b = 0)), if_neg (by omega : ¬ a = 0), if_neg (show ¬ (b = 0 ∨ a = b ∨ b % 3 + 1 = a) by omega)]; rfl
          · rw [decide_eq_true_eq] at c
            unfold newerOf
            rw [hma, hmb, if_neg (by omega : ¬ (a = 0 ∧ b = 0)), if_neg (by omega : ¬ a = 0), if_pos (show b = 0 ∨ a = b ∨ b % 3 + 1 = a by omega)]; rfl
        · have hy' : y = false := by rw [hy]; simpa using hb
          subst hx' hy'
          refine Ev.step (f := fun k => vendmeterref_counts.j2 k a b true false false) (fun k => rfl) (Ev.step (f := fun k => vendmeterref_counts.j3 k a b false false) (fun k => rfl) (Ev.step (f := fun _ => some 0) (fun k => rfl) (Ev.ret ?_)))
          have hma : markOf a = a := by unfold markOf; rw [if_neg (by omega)]
          have hmb : markOf b = 0 := by unfold markOf; split <;> omega
          unfold newerOf
          rw [hma, hmb, if_neg (by omega : ¬ (a = 0 ∧ (0 : Int) = 0)), if_neg (by omega : ¬ a = 0), if_pos (show (0 : Int) = 0 ∨ a = 0 ∨ (0 : Int) % 3 + 1 = a from .inl rfl)]; rfl
      · have hx' : x = false := by rw [hx]; simpa using ha
        have hma : markOf a = 0 := by unfold markOf; split <;> omega
        by_cases hb : 1 ≤ b ∧ b ≤ 3
        · have hy' : y = true := by rw [hy]; simpa using hb
          subst hx' hy'
          refine Ev.step (f := fun k => vendmeterref_counts.j2 k a b false true false) (fun k => rfl) (Ev.step (f := fun k => vendmeterref_counts.j3 k a b true false) (fun k => rfl) (Ev.step (f := fun _ => some 1) (fun k => rfl) (Ev.ret ?_)))
          have hmb : markOf b = b := by unfold markOf; rw [if_neg (by omega)]
          unfold newerOf
          rw [hma, hmb, if_neg (by omega : ¬ ((0 : Int) = 0 ∧ b = 0)), if_pos (show (0 : Int) = 0 from rfl)]; rfl
        · have hy' : y = false := by rw [hy]; simpa using hb
          subst hx' hy'
          refine Ev.step (f := fun k => vendmeterref_counts.j2 k a b false false true) (fun k => rfl) (Ev.step (f := fun _ => some 2) (fun k => rfl) (Ev.ret ?_))
          have hmb : markOf b = 0 := by unfold markOf; split <;> omega
          unfold newerOf
          rw [hma, hmb, if_pos (show (0 : Int) = 0 ∧ (0 : Int) = 0 from ⟨rfl, rfl⟩)]; rfl
    by_cases hb1 : b ≥ 1
    · exact Ev.step (f := fun k => vendmeterref_counts.j1 k a b x (decide (b ≤ 3))) (fun k => by simp only [vendmeterref_counts.j0]; rw [if_pos hb1]) (key2 _ (by congr 1; simp only [eq_iff_iff]; omega))
    · exact Ev.step (f := fun k => vendmeterref_counts.j1 k a b x false) (fun k => by simp only [vendmeterref_counts.j0]; rw [if_neg hb1]) (key2 _ (by symm; rw [decide_eq_false_iff_not]; omega))
  by_cases ha1 : a ≥ 1
  · exact Ev.pos ha1 (key _ (by congr 1; simp only [eq_iff_iff]; omega))
  · exact Ev.neg ha1 (key _ (by symm; rw [decide_eq_false_iff_not]; omega))
theorem rd_nn {l : List Int} (h : ∀ y ∈ l, (Lit.int .u32 y).wf = true) (i : Int) : 0 ≤ rd l i := by
  unfold rd
  rcases Nat.lt_or_ge i.toNat l.length with h1 | h1
  · exact (wfu32 (h _ (getD_mem l _ 0 h1))).1
  · rw [List.getD_eq_getElem?_getD, List.getElem?_eq_none h1]; decide
def loadAns (l : List Int) (n : Nat) (s : Nat) : List Int := (l.drop (s * (n + 1) + 1)).take n
theorem take_snoc' (l : List Int) (o i : Nat) (h : o + i < l.length) : (l.drop o).take (i + 1) = (l.drop o).take i ++ [l.getD (o + i) 0] := by
  rw [take_getD (l.drop o) i 0 (by rw [List.length_drop]; omega)]
  congr 2
  simp [List.getD_eq_getElem?_getD]
theorem load_len (l : List Int) (n s : Nat) (hs1 : s ≤ 1) (hll : l.length = 2 * n + 2) : (loadAns l n s).length = n := by
  have hs2 : s * (n + 1) ≤ n + 1 := by
    have := Nat.mul_le_mul_right (n + 1) hs1
    omega
  unfold loadAns; rw [List.length_take, List.length_drop]; omega
theorem sw0 (n s : Nat) (hn : n ≤ 64) (hs1 : s ≤ 1) : Aside0 (wrap64 ((s : Int) * wrap64 ((n : Int) + 1)) = ((s * (n + 1) : Nat) : Int)) := by
  constructor
  have hs2 : s * (n + 1) ≤ n + 1 := by
    have := Nat.mul_le_mul_right (n + 1) hs1
    omega
  have m1 : (s : Int) * ((n : Int) + 1) = ((s * (n + 1) : Nat) : Int) := by rw [Int.natCast_mul]; rfl
  rw [wr (a := (n : Int) + 1) ⟨by omega, by omega⟩, m1, wr ⟨by omega, by omega⟩]
theorem load_p (l : List Int) (n s : Nat) (hn : 1 ≤ n ∧ n ≤ 64) (hs1 : s ≤ 1) (hll : l.length = 2 * n + 2) (hnew : Ev (fun k => slot_pair_newer.f k l (n : Int)) (s : Int)) : Ev (fun k => slot_Load.f k l (n : Int)) (loadAns l n s, 0) := by
  have hlen := load_len l n s hs1 hll
  have w0 := sw0 n s hn.2 hs1
  have hs2 : s * (n + 1) ≤ n + 1 := by
    have := Nat.mul_le_mul_right (n + 1) hs1
    omega
  unfold slot_Load.f
  rw [slot_size.eq _ _ ⟨by omega, by omega⟩]
  refine Ev.letS (Ev.pos (by rw [decide_eq_true_eq]; omega) ?_)
  refine Ev.bind hnew (Ev.neg (by omega) ?_)
  rw [w0.out]
  generalize hz : s * (n + 1) = z at hs2
  rw [wr (a := (z : Int) + 1) ⟨by omega, by omega⟩, wr (a := (z : Int) + 1 + (n : Int)) ⟨by omega, by omega⟩]
  have t1 : ((z : Int) + 1 + (n : Int)).toNat = z + 1 + n := by omega
  have t2 : ((z : Int) + 1).toNat = z + 1 := by omega
  rw [t1, t2]
  have e : (l.take (z + 1 + n)).drop (z + 1) = loadAns l n s := by
    unfold loadAns
    rw [List.drop_take, hz]
    congr 1
    omega
  rw [e]
  exact Ev.pos (by omega) (Ev.pos (by omega) (Ev.pos (by omega) (Ev.pos (by rw [hlen]; simp only [List.length_nil]; omega) (Ev.now _))))
theorem load_q (l : List Int) (n s : Nat) (hn : 1 ≤ n ∧ n ≤ 64) (hs1 : s ≤ 1) (hll : l.length = 2 * n + 2) (hcnt : Ev (fun k => vendmeterref_counts.f k l (n : Int)) (s : Int)) : Ev (fun k => vendmeterref_SlotLoaded.f k l (n : Int)) (loadAns l n s, 0) := by
  have hlen := load_len l n s hs1 hll
  have w0 := sw0 n s hn.2 hs1
  have hs2 : s * (n + 1) ≤ n + 1 := by
    have := Nat.mul_le_mul_right (n + 1) hs1
    omega
  unfold vendmeterref_SlotLoaded.f
  rw [vendmeterref_SlotFits.eq _ _ ⟨by omega, by omega⟩]
  refine Ev.letS (Ev.pos (by rw [decide_eq_true_eq]; omega) ?_)
  refine Ev.bind hcnt (Ev.neg (by omega) ?_)
  unfold loadAns
  generalize hz : s * (n + 1) = z at hs2 w0
  have key := down (P := fun i => Ev (fun k => vendmeterref_SlotLoaded.l0 k l (n : Int) (s : Int) ((l.drop (z + 1)).take i) ((i : Int) + 1)) ((l.drop (z + 1)).take n, 0)) (n := n) (by
    refine Ev.step (f := fun _ => some ((l.drop (z + 1)).take n, 0)) (fun k => ?_) (Ev.now _)
    simp only [vendmeterref_SlotLoaded.l0]; rw [if_neg (by omega)]) (by
    intro i hi ih
    refine Ev.step (fun k => ?_) ih
    simp only [vendmeterref_SlotLoaded.l0, w0.out]
    rw [wr (a := (z : Int) + ((i : Int) + 1)) ⟨by omega, by omega⟩, wr (a := (i : Int) + 1 + 1) ⟨by omega, by omega⟩, show (z : Int) + ((i : Int) + 1) = ((z + 1 + i : Nat) : Int) by omega, show (i : Int) + 1 + 1 = ((i + 1 : Nat) : Int) + 1 by omega,
      if_pos (by omega), if_pos (by omega), if_pos (by omega), if_pos (by rw [List.length_take, List.length_drop]; omega), rd_nat, ← take_snoc' l _ i (by omega)])
  simpa using key
theorem slot_load_both (l : List Int) (n' : Int) (h : ∀ y ∈ l, (Lit.int .u32 y).wf = true) (hb : -9223372036854775808 ≤ n' ∧ n' ≤ 9223372036854775807) (hl : l.length ≤ 1152921504606846976) :
    ∃ r : List Int × Int, r.1.length ≤ 64 ∧ (∀ y ∈ r.1, y ∈ l) ∧ (r.2 = 0 → (r.1.length : Int) = n' ∧ (l.length : Int) = 2 * n' + 2 ∧ 1 ≤ n' ∧ newerOf (rd l 0) (rd l (n' + 1)) ≠ -1) ∧ Ev (fun k => slot_Load.f k l n') r ∧ Ev (fun k => vendmeterref_SlotLoaded.f k l n') r := by
  by_cases hs : (1 ≤ n' ∧ n' ≤ 64) ∧ (l.length : Int) = 2 * n' + 2
  · obtain ⟨n, rfl⟩ := Int.eq_ofNat_of_zero_le (show 0 ≤ n' by omega)
    have hn' : 1 ≤ n ∧ n ≤ 64 := by omega
    have hll : l.length = 2 * n + 2 := by omega
    have h0 := rd_nn h 0
    have h1 := rd_nn h ((n : Int) + 1)
    have hnew := slot_pair_newer.ev l n hn' hll h0 h1
    have hcnt := counts_ev l n hn' hll h0 h1
    rcases newer_cases (rd l 0) (rd l ((n : Int) + 1)) with e | e
    · rw [e] at hnew hcnt
      refine ⟨([], 17), by simp, by simp, by simp, ?_, ?_⟩
      · unfold slot_Load.f
        rw [slot_size.eq _ _ hb]
        exact Ev.letS (Ev.pos (by rw [decide_eq_true_eq]; exact hs) (Ev.bind hnew (Ev.pos (by decide) (Ev.now _))))
      · unfold vendmeterref_SlotLoaded.f
        rw [vendmeterref_SlotFits.eq _ _ hb]
        exact Ev.letS (Ev.pos (by rw [decide_eq_true_eq]; exact hs) (Ev.bind hcnt (Ev.pos (by decide) (Ev.now _))))
    · obtain ⟨s, hs1, es⟩ : ∃ s : Nat, s ≤ 1 ∧ newerOf (rd l 0) (rd l ((n : Int) + 1)) = (s : Int) := by
        rcases e with e | e
        · exact ⟨0, by omega, e⟩
        · exact ⟨1, by omega, e⟩
      have hne : newerOf (rd l 0) (rd l ((n : Int) + 1)) ≠ -1 := by rw [es]; omega
      rw [es] at hnew hcnt
      rw [if_neg (by omega)] at hcnt
      exact ⟨(loadAns l n s, 0), by rw [load_len l n s hs1 hll]; omega, fun y hy => List.mem_of_mem_drop (List.mem_of_mem_take hy), fun _ => ⟨by rw [load_len l n s hs1 hll], by omega, by omega, hne⟩, load_p l n s hn' hs1 hll hnew, load_q l n s hn' hs1 hll hcnt⟩
  · refine ⟨([], 1), by simp, by simp, by simp, ?_, ?_⟩
    · unfold slot_Load.f
      rw [slot_size.eq _ _ hb]
      exact Ev.letS (Ev.neg (by rw [decide_eq_true_eq]; exact hs) (Ev.now _))
    · unfold vendmeterref_SlotLoaded.f
      rw [vendmeterref_SlotFits.eq _ _ hb]
      exact Ev.letS (Ev.neg (by rw [decide_eq_true_eq]; exact hs) (Ev.now _))
def lenN (n : Nat) : Nat := if n = 0 then 0 else Nat.log2 n + 1
theorem lenN_le (n m : Nat) : lenN n ≤ m ↔ n < 2 ^ m := by
  unfold lenN
  by_cases h : n = 0
  · subst h; simp [Nat.two_pow_pos]
  · rw [if_neg h, Nat.succ_le_iff, Nat.log2_lt h]
theorem lenN_shift (n k : Nat) (h : 2 ^ k ≤ n) : lenN n = k + lenN (n / 2 ^ k) := by
  have key : ∀ m, lenN n ≤ m ↔ k + lenN (n / 2 ^ k) ≤ m := by
    intro m
    rw [lenN_le]
    rcases Nat.lt_or_ge m k with hm | hm
    · have h1 : 2 ^ m ≤ 2 ^ k := Nat.pow_le_pow_right (by decide) (by omega)
      constructor
      · intro h2; omega
      · intro h2; omega
    · obtain ⟨j, rfl⟩ : ∃ j, m = k + j := ⟨m - k, by omega⟩
      rw [show k + lenN (n / 2 ^ k) ≤ k + j ↔ lenN (n / 2 ^ k) ≤ j by omega, lenN_le, Nat.div_lt_iff_lt_mul (Nat.two_pow_pos k), Nat.pow_add, Nat.mul_comm]
  exact Nat.le_antisymm ((key _).2 (Nat.le_refl _)) ((key _).1 (Nat.le_refl _))
def len8 : ByteArray := (⟨#[0, 1, 2, 2, 3, 3, 3, 3, 4, 4, 4, 4, 4, 4, 4, 4, 5, 5, 5, 5, 5, 5, 5, 5, 5, 5, 5, 5, 5, 5, 5, 5, 6, 6, 6, 6, 6, 6, 6, 6, 6, 6, 6, 6, 6, 6, 6, 6, 6, 6, 6, 6, 6, 6, 6, 6, 6, 6, 6, 6, 6, 6, 6, 6, 7, 7, 7, 7, 7, 7, 7, 7, 7, 7, 7, 7, 7, 7, 7, 7, 7, 7, 7, 7, 7, 7, 7, 7, 7, 7, 7, 7, 7, 7, 7, 7, 7, 7, 7, 7, 7, 7, 7, 7, 7, 7, 7, 7, 7, 7, 7, 7, 7, 7, 7, 7, 7, 7, 7, 7, 7, 7, 7, 7, 7, 7, 7, 7, 8, 8, 8, 8, 8, 8, 8, 8, 8, 8, 8, 8, 8, 8, 8, 8, 8, 8, 8, 8, 8, 8, 8, 8, 8, 8, 8, 8, 8, 8, 8, 8, 8, 8, 8, 8, 8, 8, 8, 8, 8, 8, 8, 8, 8, 8, 8, 8, 8, 8, 8, 8, 8, 8, 8, 8, 8, 8, 8, 8, 8, 8, 8, 8, 8, 8, 8, 8, 8, 8, 8, 8, 8, 8, 8, 8, 8, 8, 8, 8, 8, 8, 8, 8, 8, 8, 8, 8, 8, 8, 8, 8, 8, 8, 8, 8, 8, 8, 8, 8, 8, 8, 8, 8, 8, 8, 8, 8, 8, 8, 8, 8, 8, 8, 8, 8, 8, 8, 8, 8, 8, 8, 8, 8, 8, 8, 8, 8]⟩ : ByteArray)
set_option maxRecDepth 100000 in
theorem bt_len8 : ∀ n : Nat, n < 256 → bt len8 (n : Int) = ((lenN n : Nat) : Int) := by decide +kernel
set_option maxRecDepth 100000 in
theorem len64_j_eq (k : Nat) (x o : Int) : bits_Len64.j0 (k + 1) x o = if x ≥ 65536 then (if x / 65536 ≥ 256 then (if 0 ≤ ((x / 65536 / 256) % 256) then (if ((x / 65536 / 256) % 256) < 256 then (some (wrap64 (wrap64 (wrap64 (o + 16) + 8) + (wrap64 (bt len8 ((x / 65536 / 256) % 256)))))) else none) else none) else (if 0 ≤ ((x / 65536) % 256) then (if ((x / 65536) % 256) < 256 then (some (wrap64 (wrap64 (o + 16) + (wrap64 (bt len8 ((x / 65536) % 256)))))) else none) else none)) else (if x ≥ 256 then (if 0 ≤ ((x / 256) % 256) then (if ((x / 256) % 256) < 256 then (some (wrap64 (wrap64 (o + 8) + (wrap64 (bt len8 ((x / 256) % 256)))))) else none) else none) else (if 0 ≤ (x % 256) then (if (x % 256) < 256 then (some (wrap64 (o + (wrap64 (bt len8 (x % 256)))))) else none) else none)) := rfl
theorem len64_j (x : Nat) (hx : x < 4294967296) (o : Nat) (ho : o ≤ 32) : Ev (fun k => bits_Len64.j0 k (x : Int) (o : Int)) ((o + lenN x : Nat) : Int) := by
  have hb : lenN x ≤ 32 := (lenN_le x 32).2 hx
  have e1 : ((x : Int) / 65536 / 256) % 256 = ((x / 65536 / 256 : Nat) : Int) := by omega
  refine Ev.step (f := fun _ => some ((o + lenN x : Nat) : Int)) (fun k => ?_) (Ev.now _)
  rw [len64_j_eq]
  by_cases h1 : 65536 ≤ x
  · have s1 := lenN_shift x 16 h1
    rw [if_pos (by omega)]
    by_cases h2 : 256 ≤ x / 65536
    · have s2 := lenN_shift (x / 65536) 8 h2
      rw [if_pos (by omega), e1, if_pos (by omega), if_pos (by omega), bt_len8 _ (by omega)]
      have s3 : lenN x = 24 + lenN (x / 65536 / 256) := by rw [s1]; simp only [Nat.reducePow] at s2 ⊢; rw [s2]; omega
      rw [wr (a := (o : Int) + 16) ⟨by omega, by omega⟩, wr (a := (o : Int) + 16 + 8) ⟨by omega, by omega⟩, wr (a := ((lenN (x / 65536 / 256) : Nat) : Int)) ⟨by omega, by omega⟩, wr ⟨by omega, by omega⟩]
      congr 1
      omega
    · have e2 : ((x : Int) / 65536) % 256 = ((x / 65536 : Nat) : Int) := by omega
      rw [if_neg (by omega), e2, if_pos (by omega), if_pos (by omega), bt_len8 _ (by omega)]
      have s3 : lenN x = 16 + lenN (x / 65536) := by rw [s1]
      rw [wr (a := (o : Int) + 16) ⟨by omega, by omega⟩, wr (a := ((lenN (x / 65536) : Nat) : Int)) ⟨by omega, by omega⟩, wr ⟨by omega, by omega⟩]
      congr 1
      omega
  · rw [if_neg (by omega)]
    by_cases h2 : 256 ≤ x
    · have s2 := lenN_shift x 8 h2
      have e2 : ((x : Int) / 256) % 256 = ((x / 256 : Nat) : Int) := by omega
      rw [if_pos (by omega), e2, if_pos (by omega), if_pos (by omega), bt_len8 _ (by omega)]
      have s3 : lenN x = 8 + lenN (x / 256) := by rw [s2]
      rw [wr (a := (o : Int) + 8) ⟨by omega, by omega⟩, wr (a := ((lenN (x / 256) : Nat) : Int)) ⟨by omega, by omega⟩, wr ⟨by omega, by omega⟩]
      congr 1
      omega
    · have e2 : (x : Int) % 256 = ((x : Nat) : Int) := by omega
      rw [if_neg (by omega), e2, if_pos (by omega), if_pos (by omega), bt_len8 _ (by omega), wr (a := ((lenN x : Nat) : Int)) ⟨by omega, by omega⟩, wr ⟨by omega, by omega⟩]
      congr 1
theorem bits_Len64.ev (x : Nat) (hx : x < 18446744073709551616) : Ev (fun k => bits_Len64.f k (x : Int)) ((lenN x : Nat) : Int) := by
  unfold bits_Len64.f
  by_cases h : 4294967296 ≤ x
  · have s := lenN_shift x 32 h
    refine Ev.pos (by omega) ?_
    have := len64_j (x / 4294967296) (by omega) 32 (by omega)
    rw [show ((x : Int) / 4294967296) = ((x / 4294967296 : Nat) : Int) by omega, s]
    exact this
  · refine Ev.neg (by omega) ?_
    have := len64_j x (by omega) 0 (by omega)
    rw [Nat.zero_add] at this
    exact this
theorem u64w {a : Int} (h : 0 ≤ a ∧ a < 18446744073709551616) : IntKind.u64.wrap a = a := by simp [IntKind.wrap, IntKind.bits, IntKind.signed]; omega
def memF (H : Int) (b : Nat) : Nat → List Int
  | 0 => []
  | i + 1 => (if b.testBit i then [H - (i : Int)] else []) ++ memF H b i
theorem memF_len (H : Int) (b : Nat) : ∀ i, (memF H b i).length ≤ i
  | 0 => Nat.le_refl _
  | i + 1 => by
    have := memF_len H b i
    simp only [memF, List.length_append]
    split <;> simp <;> omega
theorem memF_high (H : Int) (b : Nat) : ∀ d i, b < 2 ^ i → memF H b (i + d) = memF H b i
  | 0, _, _ => rfl
  | d + 1, i, h => by
    rw [← Nat.add_assoc]
    simp only [memF]
    rw [memF_high H b d i h, Nat.testBit_lt_two_pow (Nat.lt_of_lt_of_le h (Nat.pow_le_pow_right (by decide) (Nat.le_add_right i d)))]
    rfl
theorem top_bit (b : Nat) (h : b ≠ 0) : b.testBit (lenN b - 1) = true ∧ b < 2 ^ lenN b ∧ 1 ≤ lenN b := by
  have h1 : 1 ≤ lenN b := by unfold lenN; rw [if_neg h]; omega
  have h2 := (lenN_le b (lenN b)).1 (Nat.le_refl _)
  refine ⟨?_, h2, h1⟩
  have h3 : ¬ b < 2 ^ (lenN b - 1) := fun h4 => by have := (lenN_le b (lenN b - 1)).2 h4; omega
  rw [Nat.testBit_eq_decide_div_mod_eq, decide_eq_true_eq]
  have h5 : b / 2 ^ (lenN b - 1) < 2 := by
    rw [Nat.div_lt_iff_lt_mul (Nat.two_pow_pos _), Nat.mul_comm, ← Nat.pow_succ, show (lenN b - 1).succ = lenN b by omega]
    exact h2
  have h6 : 0 < b / 2 ^ (lenN b - 1) := Nat.div_pos (by omega) (Nat.two_pow_pos _)
  omega
theorem memF_cons (H : Int) (b : Nat) (h : b ≠ 0) (hb : b < 18446744073709551616) : memF H b 64 = (H - ((lenN b - 1 : Nat) : Int)) :: memF H b (lenN b - 1) := by
  obtain ⟨t, h2, h1⟩ := top_bit b h
  have h64 : lenN b ≤ 64 := (lenN_le b 64).2 hb
  have e := memF_high H b (64 - lenN b) (lenN b) h2
  rw [show lenN b + (64 - lenN b) = 64 by omega] at e
  rw [e]
  obtain ⟨m, hm⟩ : ∃ m, lenN b = m + 1 := ⟨lenN b - 1, by omega⟩
  rw [hm] at t ⊢
  simp only [memF, Nat.add_sub_cancel] at t ⊢
  rw [if_pos t]; rfl
theorem memF_zero (H : Int) : ∀ i, memF H 0 i = []
  | 0 => rfl
  | i + 1 => by simp [memF, memF_zero H i]
theorem memF_mem (H : Int) (b : Nat) (x : Int) : ∀ i, x ∈ memF H b i ↔ ∃ j, j < i ∧ b.testBit j = true ∧ x = H - (j : Int)
  | 0 => by simp [memF]
  | i + 1 => by
    simp only [memF, List.mem_append, memF_mem H b x i]
    constructor
    · rintro (h | ⟨j, h1, h2, h3⟩)
      · by_cases ht : b.testBit i = true
        · rw [if_pos ht] at h
          exact ⟨i, by omega, ht, by simpa using h⟩
        · rw [if_neg ht] at h
          simp at h
      · exact ⟨j, by omega, h2, h3⟩
    · rintro ⟨j, h1, h2, h3⟩
      by_cases hj : j = i
      · subst hj
        exact .inl (by rw [if_pos h2]; simpa using h3)
      · exact .inr ⟨j, by omega, h2, h3⟩
theorem memF_last (H : Int) (b : Nat) : ∀ i, 0 < (memF H b (i + 1)).length → ((memF H b (i + 1)).getD ((memF H b (i + 1)).length - 1) 0 = H ↔ b.testBit 0 = true)
  | 0, h => by
    simp only [memF, List.append_nil] at h ⊢
    by_cases ht : b.testBit 0 = true
    · simp [ht]
    · simp [ht] at h
  | i + 1, h => by
    by_cases he : 0 < (memF H b (i + 1)).length
    · have ih := memF_last H b i he
      have e : (memF H b (i + 1 + 1)).getD ((memF H b (i + 1 + 1)).length - 1) 0 = (memF H b (i + 1)).getD ((memF H b (i + 1)).length - 1) 0 := by
        rw [show memF H b (i + 1 + 1) = (if b.testBit (i + 1) then [H - ((i + 1 : Nat) : Int)] else []) ++ memF H b (i + 1) from rfl]
        rw [List.getD_eq_getElem?_getD, List.getD_eq_getElem?_getD, List.length_append, List.getElem?_append_right (by omega)]
        congr 2
        omega
      rw [e]
      exact ih
    · have h0 : memF H b (i + 1) = [] := List.eq_nil_of_length_eq_zero (by omega)
      have hb0 : ¬ b.testBit 0 = true := by
        intro ht
        have := (memF_mem H b (H - ((0 : Nat) : Int)) (i + 1)).2 ⟨0, by omega, ht, rfl⟩
        rw [h0] at this
        simp at this
      rw [show memF H b (i + 1 + 1) = (if b.testBit (i + 1) then [H - ((i + 1 : Nat) : Int)] else []) ++ memF H b (i + 1) from rfl, h0] at h ⊢
      by_cases ht : b.testBit (i + 1) = true
      · rw [if_pos ht]
        constructor
        · intro e
          have : H - ((i + 1 : Nat) : Int) = H := by simpa using e
          omega
        · intro e; exact absurd e hb0
      · rw [if_neg ht] at h
        simp at h
def mayW (H : Int) (b : Nat) : Bool := decide ((H = 0 ∧ b = 0) ∨ ((1 ≤ H ∧ H ≤ 1048575) ∧ b % 2 = 1 ∧ ((lenN b : Nat) : Int) ≤ H))
theorem mayW_H {H : Int} {b : Nat} (h : mayW H b = true) : 0 ≤ H ∧ H ≤ 1048575 := by
  unfold mayW at h
  rw [decide_eq_true_eq] at h
  omega
theorem and_one (b : Nat) (hb : b < 18446744073709551616) : Go.bits .and .u64 (b : Int) 1 = ((b % 2 : Nat) : Int) := by
  have := u64_and_nat b 1 hb (by decide)
  rw [Nat.and_one_is_mod] at this
  exact this
theorem window_may.ev (H : Int) (b : Nat) (hb : b < 18446744073709551616) : Ev (fun k => window_may.f k H (b : Int)) (mayW H b) := by
  unfold window_may.f
  have h64 : lenN b ≤ 64 := (lenN_le b 64).2 hb
  by_cases h1 : H < 1
  · refine Ev.pos h1 (Ev.ret ?_)
    unfold mayW
    rw [Bool.eq_iff_iff]
    simp only [Bool.and_eq_true, beq_iff_eq, decide_eq_true_eq]
    omega
  · refine Ev.neg h1 ?_
    by_cases h2 : H ≤ 1048575
    · refine Ev.pos h2 ?_
      rw [and_one b hb]
      by_cases h3 : b % 2 = 1
      · refine Ev.pos (by omega) (Ev.bind (bits_Len64.ev b hb) (Ev.ret ?_))
        unfold mayW mn
        rw [decide_eq_decide]
        split <;> omega
      · refine Ev.neg (by omega) (Ev.ret ?_)
        unfold mayW
        symm
        rw [decide_eq_false_iff_not]
        omega
    · refine Ev.neg h2 (Ev.ret ?_)
      unfold mayW
      symm
      rw [decide_eq_false_iff_not]
      omega
theorem memF_low (H : Int) (b c : Nat) : ∀ i, (∀ j, j < i → b.testBit j = c.testBit j) → memF H b i = memF H c i
  | 0, _ => rfl
  | i + 1, h => by
    simp only [memF]
    rw [memF_low H b c i (fun j hj => h j (by omega)), h i (by omega)]
theorem shl_one (t : Nat) (ht : t < 64) : shl .u64 1 (t : Int) = ((2 ^ t : Nat) : Int) := by
  unfold shl
  have h1 : 2 ^ t < 18446744073709551616 := Nat.pow_lt_pow_right (by decide) ht
  rw [Int.toNat_natCast, show min t IntKind.u64.bits = t by show min t 64 = t; omega, Int.one_mul]
  have e : (2 : Int) ^ t = ((2 ^ t : Nat) : Int) := by simp
  rw [e]
  generalize 2 ^ t = q at h1
  rw [u64w ⟨by omega, by omega⟩]
theorem clear_top (b : Nat) (h : b ≠ 0) (hb : b < 18446744073709551616) : ∃ c : Nat, Go.bits .andNot .u64 (b : Int) ((2 ^ (lenN b - 1) : Nat) : Int) = (c : Int) ∧ c < 2 ^ (lenN b - 1) ∧ ∀ j, j < lenN b - 1 → b.testBit j = c.testBit j := by
  obtain ⟨t, h2, h1⟩ := top_bit b h
  have h64 : lenN b ≤ 64 := (lenN_le b 64).2 hb
  have hp : 2 ^ (lenN b - 1) < 18446744073709551616 := Nat.pow_lt_pow_right (by decide) (show lenN b - 1 < 64 by omega)
  refine ⟨b &&& (18446744073709551615 - 2 ^ (lenN b - 1)), u64_andNot_nat b _ hb hp, ?_, ?_⟩
  · apply Nat.lt_pow_two_of_testBit
    intro j hj
    rw [Nat.testBit_and]
    by_cases e : j = lenN b - 1
    · subst e
      have : (18446744073709551615 - 2 ^ (lenN b - 1)) = 2 ^ 64 - (2 ^ (lenN b - 1) + 1) := by omega
      rw [this, Nat.testBit_two_pow_sub_succ (by omega : 2 ^ (lenN b - 1) < 2 ^ 64)]
      simp
    · rw [Nat.testBit_lt_two_pow (Nat.lt_of_lt_of_le h2 (Nat.pow_le_pow_right (by decide) (by omega)))]
      rfl
  · intro j hj
    have : (18446744073709551615 - 2 ^ (lenN b - 1)) = 2 ^ 64 - (2 ^ (lenN b - 1) + 1) := by omega
    rw [Nat.testBit_and, this, Nat.testBit_two_pow_sub_succ (by omega : 2 ^ (lenN b - 1) < 2 ^ 64), Nat.testBit_two_pow_of_ne (by omega)]
    simp [show j < 64 by omega]
def usedAns (H : Int) (b : Nat) : List Int × Int := if mayW H b then (memF H b 64, 0) else ([], 5)
theorem window_Used.ev (H : Int) (b : Nat) (hb : b < 18446744073709551616) : Ev (fun k => window_Used.f k H (b : Int)) (usedAns H b) := by
  unfold window_Used.f usedAns
  refine Ev.bind (window_may.ev H b hb) ?_
  by_cases hm : mayW H b = true
  · rw [if_pos hm]
    refine Ev.pos hm ?_
    have hH := mayW_H hm
    generalize hB : (b : Int) = B
    have key : ∀ (n c : Nat) (acc : List Int), lenN c ≤ n → c < 18446744073709551616 → acc.length + lenN c ≤ 64 → Ev (fun k => window_Used.l0 k acc (c : Int) H B) (acc ++ memF H c 64, 0) := by
      intro n
      induction n with
      | zero =>
        intro c acc hn hc _
        have c0 : c = 0 := by
          have := (lenN_le c 0).1 hn
          omega
        subst c0
        refine Ev.step (f := fun _ => some (acc, 0)) (fun k => ?_) (Ev.ret (by rw [memF_zero, List.append_nil]))
        simp only [window_Used.l0]; rw [if_pos (show ((0 : Nat) : Int) = 0 from rfl)]
      | succ n ih =>
        intro c acc hn hc ha
        by_cases c0 : c = 0
        · subst c0
          refine Ev.step (f := fun _ => some (acc, 0)) (fun k => ?_) (Ev.ret (by rw [memF_zero, List.append_nil]))
          simp only [window_Used.l0]; rw [if_pos (show ((0 : Nat) : Int) = 0 from rfl)]
        · obtain ⟨t, h2, h1⟩ := top_bit c c0
          have h64 : lenN c ≤ 64 := (lenN_le c 64).2 hc
          obtain ⟨e, he, hel, hlow⟩ := clear_top c c0 hc
          have hel2 := (lenN_le e (lenN c - 1)).2 hel
          have hlt : e < 18446744073709551616 := Nat.lt_of_lt_of_le hel (Nat.pow_le_pow_right (by decide) (show lenN c - 1 ≤ 64 by omega))
          have z := ih e (acc ++ [H - ((lenN c - 1 : Nat) : Int)]) (by omega) hlt (by simp; omega)
          refine Ev.step (f := fun k => (bits_Len64.f k (c : Int)).bind fun t105 => if acc.length < 17592186044416 then (if 0 ≤ (wrap64 (t105 - 1)) then (window_Used.l0 k (acc ++ [wrap64 (H - (wrap64 (t105 - 1)))]) (Go.bits .andNot .u64 (c : Int) (shl .u64 1 (wrap64 (t105 - 1)))) H B) else none) else none) (fun k => ?_) ?_
          · simp only [window_Used.l0]; rw [if_neg (by omega)]
          · refine Ev.bind (bits_Len64.ev c hc) (Ev.pos (by omega) ?_)
            rw [wr (a := ((lenN c : Nat) : Int) - 1) ⟨by omega, by omega⟩, show ((lenN c : Nat) : Int) - 1 = ((lenN c - 1 : Nat) : Int) by omega, wr (a := H - ((lenN c - 1 : Nat) : Int)) ⟨by omega, by omega⟩, shl_one _ (by omega), he]
            refine Ev.pos (by omega) (Ev.eq ?_ z)
            rw [memF_cons H c c0 hc, List.append_assoc, List.singleton_append, memF_low H c e _ hlow]
            have := memF_high H e (64 - (lenN c - 1)) (lenN c - 1) hel
            rw [show lenN c - 1 + (64 - (lenN c - 1)) = 64 by omega] at this
            rw [this]
    rw [← hB]
    have := key 64 b [] ((lenN_le b 64).2 hb) hb (by simp; exact (lenN_le b 64).2 hb)
    rw [hB] at this
    rw [hB]
    rw [← hB] at this ⊢
    simpa using this
  · rw [if_neg hm]
    exact Ev.neg hm (Ev.now _)
def inM (me rev cr bad lock : Int) : Prop := (0 ≤ me ∧ me < 50) ∧ (0 ≤ rev ∧ rev ≤ 15) ∧ (0 ≤ cr ∧ cr ≤ 99999999) ∧ (0 ≤ bad ∧ bad < 5) ∧ (0 ≤ lock ∧ lock ≤ 30) ∧ (bad = 0 ∨ lock = 0)
instance (me rev cr bad lock : Int) : Decidable (inM me rev cr bad lock) := by unfold inM; infer_instance
def mayM (me rev cr H : Int) (b : Nat) (bad lock : Int) : Bool := decide (inM me rev cr bad lock) && mayW H b
theorem mayM_no {me rev cr bad lock : Int} (H : Int) (b : Nat) (h : ¬ inM me rev cr bad lock) : mayM me rev cr H b bad lock = false := by unfold mayM; rw [decide_eq_false h]; rfl
theorem mayM_yes {me rev cr bad lock : Int} (H : Int) (b : Nat) (h : inM me rev cr bad lock) : mayM me rev cr H b bad lock = mayW H b := by unfold mayM; rw [decide_eq_true h]; rfl
theorem mayM_in {me rev cr H : Int} {b : Nat} {bad lock : Int} (h : mayM me rev cr H b bad lock = true) : inM me rev cr bad lock ∧ mayW H b = true := by
  unfold mayM at h
  rw [Bool.and_eq_true, decide_eq_true_eq] at h
  exact h
theorem used_code (H : Int) (b : Nat) : ((usedAns H b).2 == 0) = mayW H b := by
  unfold usedAns
  cases mayW H b <;> rfl
theorem meter_may.ev (me rev cr H : Int) (b : Nat) (bad lock : Int) (hb : b < 18446744073709551616) : Ev (fun k => meter_may.f k me rev cr H (b : Int) bad lock) (mayM me rev cr H b bad lock) := by
  have jT : ∀ r, r = false → Ev (fun k => meter_may.j0 k true me rev cr H (b : Int) bad lock) r := by
    rintro r rfl
    exact Ev.step (f := fun _ => some false) (fun k => rfl) (Ev.now _)
  have no := fun h => mayM_no (me := me) (rev := rev) (cr := cr) (bad := bad) (lock := lock) H b h
  unfold meter_may.f
  refine Ev.split (fun h => jT _ (no (by unfold inM; omega))) (fun h1 => Ev.split (fun h => jT _ (no (by unfold inM; omega))) (fun h2 => Ev.split (fun h => jT _ (no (by unfold inM; omega))) (fun h3 => Ev.split (fun h => jT _ (no (by unfold inM; omega))) (fun h4 => Ev.split (fun h => jT _ (no (by unfold inM; omega))) (fun h5 => ?_)))))
  by_cases h6 : cr > 99999999
  · rw [decide_eq_true h6]
    exact jT _ (no (by unfold inM; omega))
  · rw [decide_eq_false h6]
    refine Ev.succ ?_
    simp only [meter_may.j0, Bool.false_eq_true, if_false]
    have hu : inM me rev cr bad lock → Ev (fun k => (window_Used.f k H (b : Int)).bind fun z => some (z.2 == 0)) (mayM me rev cr H b bad lock) := by
      intro h
      refine Ev.bind (window_Used.ev H b hb) (Ev.ret ?_)
      rw [used_code, mayM_yes H b h]
    refine Ev.split (fun h => Ev.ret (no (by unfold inM; omega)).symm) (fun g1 => Ev.split (fun h => Ev.ret (no (by unfold inM; omega)).symm) (fun g2 => Ev.split (fun h => Ev.ret (no (by unfold inM; omega)).symm) (fun g3 => Ev.split (fun h => Ev.ret (no (by unfold inM; omega)).symm) (fun g4 => Ev.split (fun g5 => Ev.split (fun h => Ev.ret (no (by unfold inM; omega)).symm) (fun g6 => hu (by unfold inM; omega))) (fun g5 => hu (by unfold inM; omega))))))
theorem vendmeterref_bitAt.ev (b i : Nat) (hb : b < 18446744073709551616) (hi : i ≤ 64) : Ev (fun k => vendmeterref_bitAt.f k (b : Int) (i : Int)) (b.testBit i) := by
  unfold vendmeterref_bitAt.f
  have key := down (P := fun j => Ev (fun k => vendmeterref_bitAt.l0 k ((b / 2 ^ j : Nat) : Int) (i : Int) (j : Int)) (b.testBit i)) (n := i) (by
    refine Ev.step (f := fun _ => some (b.testBit i)) (fun k => ?_) (Ev.now _)
    rw [Nat.testBit_eq_decide_div_mod_eq]
    generalize b / 2 ^ i = q
    simp only [vendmeterref_bitAt.l0]
    rw [if_neg (by omega), tm (by omega)]
    congr 1
    rw [Bool.eq_iff_iff]
    simp only [beq_iff_eq, decide_eq_true_eq]
    omega) (by
    intro j hj ih
    refine Ev.step (fun k => ?_) ih
    have hlt : b / 2 ^ j ≤ b := Nat.div_le_self _ _
    rw [Nat.pow_succ, ← Nat.div_div_eq_div_mul]
    generalize b / 2 ^ j = q at hlt
    simp only [vendmeterref_bitAt.l0]
    rw [if_pos (by omega), td (by omega), u64w ⟨by omega, by omega⟩, wn (show j < 65 by omega) (by omega)]
    rfl)
  simpa using key
theorem vendmeterref_members.ev (H : Int) (b : Nat) (hb : b < 18446744073709551616) (hH : 0 ≤ H ∧ H ≤ 1048575) : Ev (fun k => vendmeterref_members.f k H (b : Int)) (memF H b 64) := by
  unfold vendmeterref_members.f
  have key : ∀ i : Nat, i ≤ 64 → ∀ acc : List Int, acc.length + i ≤ 64 → Ev (fun k => vendmeterref_members.l0 k acc ((i : Int) - 1) H (b : Int)) (acc ++ memF H b i) := by
    intro i
    induction i with
    | zero =>
      intro _ acc _
      refine Ev.step (f := fun _ => some acc) (fun k => ?_) (Ev.ret (by simp [memF]))
      simp only [vendmeterref_members.l0]; rw [if_neg (by omega)]
    | succ i ih =>
      intro hi acc hacc
      refine Ev.step (f := fun k => (vendmeterref_bitAt.f k (b : Int) (i : Int)).bind fun t => if t = true then (if acc.length < 17592186044416 then vendmeterref_members.l0 k (acc ++ [H - (i : Int)]) ((i : Int) - 1) H (b : Int) else none) else vendmeterref_members.l0 k acc ((i : Int) - 1) H (b : Int)) (fun k => ?_) ?_
      · simp only [vendmeterref_members.l0]
        rw [if_pos (by omega), show ((i + 1 : Nat) : Int) - 1 = (i : Int) by omega, wr (a := H - (i : Int)) ⟨by omega, by omega⟩, wr (a := (i : Int) - 1) ⟨by omega, by omega⟩]
      · refine Ev.bind (vendmeterref_bitAt.ev b i hb (by omega)) ?_
        simp only [memF]
        by_cases ht : b.testBit i = true
        · refine Ev.pos ht (Ev.pos (by omega) (Ev.eq ?_ (ih (by omega) (acc ++ [H - (i : Int)]) (by simp; omega))))
          rw [if_pos ht, List.append_assoc]
        · refine Ev.neg ht (Ev.eq ?_ (ih (by omega) acc (by omega)))
          rw [if_neg ht, List.nil_append]
  simpa using key 64 (by omega) [] (by simp)
theorem vendmeterref_WindowMay.ev (H : Int) (b : Nat) (hb : b < 18446744073709551616) : Ev (fun k => vendmeterref_WindowMay.f k H (b : Int)) (mayW H b) := by
  unfold vendmeterref_WindowMay.f
  by_cases h0 : H = 0
  · refine Ev.pos h0 (Ev.ret ?_)
    unfold mayW
    rw [Bool.eq_iff_iff]
    simp only [beq_iff_eq, decide_eq_true_eq]
    omega
  · refine Ev.neg h0 ?_
    rw [vendmeterref_In.eq]
    refine Ev.letS ?_
    by_cases h1 : 1 ≤ H ∧ H ≤ 1048575
    · refine Ev.pos (by simpa using h1) (Ev.bind (vendmeterref_members.ev H b hb (by omega)) ?_)
      have hlen := memF_len H b 64
      by_cases hz : b = 0
      · subst hz
        rw [memF_zero]
        refine Ev.neg (by decide) (Ev.ret ?_)
        unfold mayW
        symm
        rw [decide_eq_false_iff_not]
        omega
      · have hc := memF_cons H b hz hb
        have hp : 0 < (memF H b 64).length := by rw [hc]; simp
        have hl := memF_last H b 63 hp
        have hd : rd (memF H b 64) 0 = H - ((lenN b - 1 : Nat) : Int) := by rw [hc]; rfl
        obtain ⟨_, _, hn1⟩ := top_bit b hz
        refine Ev.pos (by omega) (Ev.pos (by omega) ?_)
        rw [hd]
        by_cases h2 : H - ((lenN b - 1 : Nat) : Int) ≥ 1
        · refine Ev.pos h2 ?_
          rw [wr (a := ((memF H b 64).length : Int) - 1) ⟨by omega, by omega⟩]
          refine Ev.pos (by omega) (Ev.pos (by omega) (Ev.ret ?_))
          rw [show ((memF H b 64).length : Int) - 1 = (((memF H b 64).length - 1 : Nat) : Int) by omega, rd_nat]
          unfold mayW
          rw [Bool.eq_iff_iff]
          simp only [beq_iff_eq, decide_eq_true_eq]
          rw [hl, Nat.testBit_zero, decide_eq_true_eq]
          omega
        · refine Ev.neg h2 (Ev.ret ?_)
          unfold mayW
          symm
          rw [decide_eq_false_iff_not]
          omega
    · refine Ev.neg (by simpa using h1) (Ev.ret ?_)
      unfold mayW
      symm
      rw [decide_eq_false_iff_not]
      omega
theorem vendmeterref_MeterMay.ev (me rev cr H : Int) (b : Nat) (bad lock : Int) (hb : b < 18446744073709551616) : Ev (fun k => vendmeterref_MeterMay.f k me rev cr H (b : Int) bad lock) (mayM me rev cr H b bad lock) := by
  have jT : ∀ r, r = false → Ev (fun k => vendmeterref_MeterMay.j0 k true me rev cr H (b : Int) bad lock) r := by
    rintro r rfl
    exact Ev.step (f := fun _ => some false) (fun k => rfl) (Ev.now _)
  have j1T : ∀ r, r = false → Ev (fun k => vendmeterref_MeterMay.j1 k true me rev cr H (b : Int) bad lock) r := by
    rintro r rfl
    exact Ev.step (f := fun _ => some false) (fun k => rfl) (Ev.now _)
  have no := fun h => mayM_no (me := me) (rev := rev) (cr := cr) (bad := bad) (lock := lock) H b h
  unfold vendmeterref_MeterMay.f
  simp only [vendmeterref_In.eq, Option.bind_some]
  by_cases h1 : 0 ≤ me ∧ me ≤ 49
  · by_cases h2 : 0 ≤ rev ∧ rev ≤ 15
    · by_cases h3 : 0 ≤ cr ∧ cr ≤ 99999999
      · simp only [h1, h2, h3, and_self, decide_true, if_true, Bool.not_true]
        refine Ev.succ ?_
        simp only [vendmeterref_MeterMay.j0, vendmeterref_In.eq, Option.bind_some, Bool.false_eq_true, if_false]
        by_cases h4 : 0 ≤ bad ∧ bad ≤ 4
        · by_cases h5 : 0 ≤ lock ∧ lock ≤ 30
          · simp only [h4, h5, and_self, decide_true, if_true, Bool.not_true]
            refine Ev.succ ?_
            simp only [vendmeterref_MeterMay.j1, Bool.false_eq_true, if_false]
            have hu : inM me rev cr bad lock → Ev (fun k => (vendmeterref_WindowMay.f k H (b : Int)).bind fun z => some z) (mayM me rev cr H b bad lock) := by
              intro h
              exact Ev.bind (vendmeterref_WindowMay.ev H b hb) (Ev.ret (mayM_yes H b h).symm)
            exact Ev.split (fun g => hu (by unfold inM; omega)) (fun g => Ev.split (fun g2 => hu (by unfold inM; omega)) (fun g2 => Ev.ret (no (by unfold inM; omega)).symm))
          · simp only [h4, h5, and_self, decide_true, decide_false, if_true, Bool.not_false]
            exact j1T _ (no (by unfold inM; omega))
        · simp only [h4, decide_false, Bool.false_eq_true, if_false]
          exact j1T _ (no (by unfold inM; omega))
      · simp only [h1, h2, h3, and_self, decide_true, decide_false, if_true, Bool.not_false]
        exact jT _ (no (by unfold inM; omega))
    · simp only [h1, h2, and_self, decide_true, decide_false, if_true, Bool.false_eq_true, if_false]
      exact jT _ (no (by unfold inM; omega))
  · simp only [h1, decide_false, Bool.false_eq_true, if_false]
    exact jT _ (no (by unfold inM; omega))
def readBits (l : List Int) : Nat := (rd l 4 * 4294967296 + rd l 3).toNat
def readAns (l : List Int) : Int × Int × Int × Int × Int × Int × Int × Int :=
  if (l.length : Int) = 5 then (if mayM (rd l 1 % 256) (rd l 1 / 256 % 256) (rd l 0) (rd l 2) (readBits l) (rd l 1 / 65536 % 256) (rd l 1 / 16777216) = true then
    (rd l 1 % 256, rd l 1 / 256 % 256, rd l 0, rd l 2, (readBits l : Int), rd l 1 / 65536 % 256, rd l 1 / 16777216, 0) else (0, 0, 0, 0, 0, 0, 0, 5)) else (0, 0, 0, 0, 0, 0, 0, 1)
theorem readBits_lt {a c : Int} (ha : 0 ≤ a ∧ a ≤ 4294967295) (hc : 0 ≤ c ∧ c ≤ 4294967295) : (c * 4294967296 + a).toNat < 18446744073709551616 := by omega
theorem readBits_or {a c : Int} (ha : 0 ≤ a ∧ a ≤ 4294967295) (hc : 0 ≤ c ∧ c ≤ 4294967295) : Go.bits .or .u64 a (c * 4294967296) = (((c * 4294967296 + a).toNat : Nat) : Int) := by
  obtain ⟨a, rfl⟩ := Int.eq_ofNat_of_zero_le ha.1
  obtain ⟨c, rfl⟩ := Int.eq_ofNat_of_zero_le hc.1
  rw [show ((c : Int) * 4294967296) = ((2 ^ 32 * c : Nat) : Int) by omega, u64_or_nat _ _ (by omega) (by omega), Nat.or_comm, ← Nat.two_pow_add_eq_or_of_lt (show a < 2 ^ 32 by omega)]
  omega
theorem words_bd {l : List Int} (h : ∀ y ∈ l, (Lit.int .u32 y).wf = true) (i : Nat) (hi : i < l.length) : 0 ≤ rd l (i : Int) ∧ rd l (i : Int) ≤ 4294967295 := by
  have := wfu32 (h _ (getD_mem l i 0 hi))
  rw [rd_nat]; exact this
theorem meter_Read.ev (l : List Int) (h : ∀ y ∈ l, (Lit.int .u32 y).wf = true) : Ev (fun k => meter_Read.f k l) (readAns l) := by
  unfold meter_Read.f readAns
  refine Ev.iteR (fun h5 => ?_) (fun _ => Ev.now _)
  have bd := fun i hi => words_bd h i hi
  refine Ev.pos (fun i hi => bd i (by omega)) ?_
  have b1 : 0 ≤ rd l 1 ∧ rd l 1 ≤ 4294967295 := bd 1 (by omega)
  have b3 : 0 ≤ rd l 3 ∧ rd l 3 ≤ 4294967295 := bd 3 (by omega)
  have b4 : 0 ≤ rd l 4 ∧ rd l 4 ≤ 4294967295 := bd 4 (by omega)
  rw [readBits_or b3 b4, show rd l 1 / 16777216 % 256 = rd l 1 / 16777216 by omega]
  exact Ev.bind (meter_may.ev _ _ _ _ _ _ _ (readBits_lt b3 b4)) (Ev.iteR (fun _ => Ev.now _) (fun _ => Ev.now _))
theorem vendmeterref_MeterRead.ev (l : List Int) (h : ∀ y ∈ l, (Lit.int .u32 y).wf = true) : Ev (fun k => vendmeterref_MeterRead.f k l) (readAns l) := by
  unfold vendmeterref_MeterRead.f readAns
  refine Ev.iteR (fun h5 => ?_) (fun _ => Ev.now _)
  have bd := fun i hi => words_bd h i hi
  have b0 : 0 ≤ rd l 0 ∧ rd l 0 ≤ 4294967295 := bd 0 (by omega)
  have b1 : 0 ≤ rd l 1 ∧ rd l 1 ≤ 4294967295 := bd 1 (by omega)
  have b2 : 0 ≤ rd l 2 ∧ rd l 2 ≤ 4294967295 := bd 2 (by omega)
  have b3 : 0 ≤ rd l 3 ∧ rd l 3 ≤ 4294967295 := bd 3 (by omega)
  have b4 : 0 ≤ rd l 4 ∧ rd l 4 ≤ 4294967295 := bd 4 (by omega)
  refine Ev.pos (by omega) (Ev.pos (by omega) (Ev.pos (by omega) (Ev.pos (by omega) (Ev.pos (by omega) ?_))))
  have e : IntKind.u64.wrap ((IntKind.u64.wrap ((IntKind.u64.wrap (rd l 4)) * 4294967296)) + (IntKind.u64.wrap (rd l 3))) = (readBits l : Int) := by
    rw [u64w (a := rd l 4) ⟨b4.1, by omega⟩, u64w (a := rd l 4 * 4294967296) ⟨by omega, by omega⟩, u64w (a := rd l 3) ⟨b3.1, by omega⟩, u64w (a := rd l 4 * 4294967296 + rd l 3) ⟨by omega, by omega⟩]
    unfold readBits; omega
  rw [e, wr (a := rd l 1) ⟨by omega, by omega⟩, wr (a := rd l 0) ⟨by omega, by omega⟩, wr (a := rd l 2) ⟨by omega, by omega⟩, td b1.1, td b1.1, td b1.1, tm b1.1]
  rw [wr (a := rd l 1 / 256) ⟨by omega, by omega⟩, wr (a := rd l 1 / 65536) ⟨by omega, by omega⟩, wr (a := rd l 1 / 16777216) ⟨by omega, by omega⟩, tm (a := rd l 1 / 256) (by omega), tm (a := rd l 1 / 65536) (by omega)]
  exact Ev.bind (vendmeterref_MeterMay.ev _ _ _ _ _ _ _ (readBits_lt b3 b4)) (Ev.iteR (fun _ => Ev.now _) (fun _ => Ev.now _))
def bootAns (r : List Int × Int) : Int × Int × Int × Int × Int × Int × Int × Int := if r.2 = 0 then readAns r.1 else (0, 0, 0, 0, 0, 0, 0, r.2)
theorem booted_both (l : List Int) (h : ∀ y ∈ l, (Lit.int .u32 y).wf = true) (hl : l.length ≤ 1152921504606846976) :
    ∃ r : List Int × Int, r.1.length ≤ 64 ∧ (∀ y ∈ r.1, y ∈ l) ∧ (r.2 = 0 → (r.1.length : Int) = 5 ∧ (l.length : Int) = 12 ∧ newerOf (rd l 0) (rd l 6) ≠ -1) ∧ Ev (fun k => pocket_Boot.f k l) (bootAns r) ∧ Ev (fun k => vendmeterref_Booted.f k l) (bootAns r) := by
  obtain ⟨r, h1, h2, h3, p, q⟩ := slot_load_both l 5 h (by omega) hl
  have hw : ∀ y ∈ r.1, (Lit.int .u32 y).wf = true := fun y hy => h y (h2 y hy)
  refine ⟨r, h1, h2, fun e => by obtain ⟨a, b, _, d⟩ := h3 e; exact ⟨a, by omega, d⟩, ?_, ?_⟩
  · unfold pocket_Boot.f bootAns
    exact Ev.bind p (Ev.iteR (fun _ => Ev.bind (meter_Read.ev r.1 hw) (Ev.now _)) (fun _ => Ev.now _))
  · unfold vendmeterref_Booted.f bootAns
    exact Ev.bind q (Ev.iteR (fun _ => Ev.bind (vendmeterref_MeterRead.ev r.1 hw) (Ev.now _)) (fun _ => Ev.now _))
def tickAns (me rev cr H : Int) (b : Nat) (bad lock load : Int) : Int × Int × Int × Int × Int × Int × Int × Int × Int :=
  if mayM me rev cr H b bad lock then (if 0 ≤ load ∧ load ≤ 1000 then (me, rev, cr - mn load cr, H, (b : Int), bad, mx (lock - 1) 0, mn load cr, 0) else (me, rev, cr, H, (b : Int), bad, lock, 0, 2)) else (0, 0, 0, 0, 0, 0, 0, 0, 5)
theorem meter_Tick.ev (me rev cr H : Int) (b : Nat) (bad lock load : Int) (hb : b < 18446744073709551616) : Ev (fun k => meter_Tick.f k me rev cr H (b : Int) bad lock load) (tickAns me rev cr H b bad lock load) := by
  unfold meter_Tick.f tickAns
  refine Ev.bind (meter_may.ev me rev cr H b bad lock hb) (Ev.iteR (fun h => ?_) (fun h => Ev.now _))
  obtain ⟨⟨h1, h2, h3, h4, h5, _⟩, hw⟩ := mayM_in h
  by_cases g1 : load < 0
  · exact Ev.eq (if_neg (by omega)).symm (Ev.pos g1 (Ev.now _))
  · by_cases g2 : load > 1000
    · exact Ev.eq (if_neg (by omega)).symm (Ev.neg g1 (Ev.pos g2 (Ev.now _)))
    · refine Ev.eq (if_pos (by omega)).symm (Ev.neg g1 (Ev.neg g2 (Ev.ret ?_)))
      have hm : 0 ≤ mn load cr ∧ mn load cr ≤ cr := by unfold mn; split <;> omega
      rw [wr (a := cr - mn load cr) ⟨by omega, by omega⟩, wr (a := lock - 1) ⟨by omega, by omega⟩]
theorem vendmeterref_MeterTicked.ev (me rev cr H : Int) (b : Nat) (bad lock load : Int) (hb : b < 18446744073709551616) : Ev (fun k => vendmeterref_MeterTicked.f k me rev cr H (b : Int) bad lock load) (tickAns me rev cr H b bad lock load) := by
  unfold vendmeterref_MeterTicked.f tickAns
  refine Ev.bind (vendmeterref_MeterMay.ev me rev cr H b bad lock hb) (Ev.iteR (fun h => ?_) (fun h => Ev.now _))
  obtain ⟨⟨h1, h2, h3, h4, h5, _⟩, hw⟩ := mayM_in h
  rw [vendmeterref_In.eq]
  refine Ev.letS ?_
  by_cases g : 0 ≤ load ∧ load ≤ 1000
  · refine Ev.eq (if_pos g).symm (Ev.pos (by simpa using g) ?_)
    have e1 : load ≥ cr → mn load cr = cr := by intro z; unfold mn; split <;> omega
    have e2 : ¬ load ≥ cr → mn load cr = load := by intro z; unfold mn; split <;> omega
    have e3 : lock > 0 → mx (lock - 1) 0 = lock - 1 := by intro z; unfold mx; split <;> omega
    have e4 : ¬ lock > 0 → mx (lock - 1) 0 = lock := by intro z; unfold mx; split <;> omega
    rw [wr (a := lock - 1) ⟨by omega, by omega⟩]
    refine Ev.split (fun g1 => Ev.split (fun g2 => Ev.ret ?_) (fun g2 => Ev.ret ?_)) (fun g1 => Ev.split (fun g2 => Ev.ret ?_) (fun g2 => Ev.ret ?_))
    · rw [e1 g2, e3 g1, Int.sub_self]
    · rw [e2 g2, e3 g1, wr (a := cr - load) ⟨by omega, by omega⟩]
    · rw [e1 g2, e4 g1, Int.sub_self]
    · rw [e2 g2, e4 g1, wr (a := cr - load) ⟨by omega, by omega⟩]
  · exact Ev.eq (if_neg g).symm (Ev.neg (by simpa using g) (Ev.now _))
def meterList (me rev cr H : Int) (b : Nat) (bad lock : Int) : List Int := [cr, me + 256 * (rev + 256 * (bad + 256 * lock)), H, (b : Int) % 4294967296, (b : Int) / 4294967296]
def wordsAns (me rev cr H : Int) (b : Nat) (bad lock : Int) : List Int × Int := if mayM me rev cr H b bad lock then (meterList me rev cr H b bad lock, 0) else ([], 5)
theorem flags_eq (me rev bad lock : Nat) (h1 : me < 50) (h2 : rev ≤ 15) (h3 : bad < 5) (h4 : lock ≤ 30) :
    Go.bits .or .u32 (Go.bits .or .u32 (Go.bits .or .u32 ((((lock : Int) % 4294967296) * 16777216) % 4294967296) ((((bad : Int) % 4294967296) * 65536) % 4294967296)) ((((rev : Int) % 4294967296) * 256) % 4294967296)) ((me : Int) % 4294967296) = (me : Int) + 256 * ((rev : Int) + 256 * ((bad : Int) + 256 * (lock : Int))) := by
  rw [show (((lock : Int) % 4294967296) * 16777216) % 4294967296 = ((2 ^ 24 * lock : Nat) : Int) by omega, show (((bad : Int) % 4294967296) * 65536) % 4294967296 = ((bad * 65536 : Nat) : Int) by omega, show (((rev : Int) % 4294967296) * 256) % 4294967296 = ((rev * 256 : Nat) : Int) by omega, show (me : Int) % 4294967296 = (me : Int) by omega]
  rw [u32_or_nat _ _ (by omega) (by omega), ← Nat.two_pow_add_eq_or_of_lt (show bad * 65536 < 2 ^ 24 by omega), show 2 ^ 24 * lock + bad * 65536 = 2 ^ 16 * (256 * lock + bad) by omega]
  rw [u32_or_nat _ _ (by omega) (by omega), ← Nat.two_pow_add_eq_or_of_lt (show rev * 256 < 2 ^ 16 by omega), show 2 ^ 16 * (256 * lock + bad) + rev * 256 = 2 ^ 8 * (256 * (256 * lock + bad) + rev) by omega]
  rw [u32_or_nat _ _ (by omega) (by omega), ← Nat.two_pow_add_eq_or_of_lt (show me < 2 ^ 8 by omega)]
  omega
theorem meter_Words.ev (me rev cr H : Int) (b : Nat) (bad lock : Int) (hb : b < 18446744073709551616) : Ev (fun k => meter_Words.f k me rev cr H (b : Int) bad lock) (wordsAns me rev cr H b bad lock) := by
  unfold meter_Words.f wordsAns
  refine Ev.bind (meter_may.ev me rev cr H b bad lock hb) (Ev.iteR (fun h => Ev.ret ?_) (fun h => Ev.now _))
  obtain ⟨⟨h1, h2, h3, h4, h5, _⟩, hw⟩ := mayM_in h
  have hH := mayW_H hw
  obtain ⟨me, rfl⟩ := Int.eq_ofNat_of_zero_le h1.1
  obtain ⟨rev, rfl⟩ := Int.eq_ofNat_of_zero_le h2.1
  obtain ⟨bad, rfl⟩ := Int.eq_ofNat_of_zero_le h4.1
  obtain ⟨lock, rfl⟩ := Int.eq_ofNat_of_zero_le h5.1
  unfold meterList
  rw [flags_eq me rev bad lock (by omega) (by omega) (by omega) (by omega), show cr % 4294967296 = cr by omega, show H % 4294967296 = H by omega, show ((b : Int) / 4294967296) % 4294967296 = (b : Int) / 4294967296 by omega]
theorem vendmeterref_MeterWorded.ev (me rev cr H : Int) (b : Nat) (bad lock : Int) (hb : b < 18446744073709551616) : Ev (fun k => vendmeterref_MeterWorded.f k me rev cr H (b : Int) bad lock) (wordsAns me rev cr H b bad lock) := by
  unfold vendmeterref_MeterWorded.f wordsAns
  refine Ev.bind (vendmeterref_MeterMay.ev me rev cr H b bad lock hb) (Ev.iteR (fun h => Ev.ret ?_) (fun h => Ev.now _))
  obtain ⟨⟨h1, h2, h3, h4, h5, _⟩, hw⟩ := mayM_in h
  have hH := mayW_H hw
  unfold meterList
  rw [wr (a := 256 * lock) ⟨by omega, by omega⟩, wr (a := bad + 256 * lock) ⟨by omega, by omega⟩, wr (a := 256 * (bad + 256 * lock)) ⟨by omega, by omega⟩, wr (a := rev + 256 * (bad + 256 * lock)) ⟨by omega, by omega⟩, wr (a := 256 * (rev + 256 * (bad + 256 * lock))) ⟨by omega, by omega⟩, wr (a := me + 256 * (rev + 256 * (bad + 256 * lock))) ⟨by omega, by omega⟩]
  rw [tm (Int.natCast_nonneg b), td (Int.natCast_nonneg b), u64w ⟨by omega, by omega⟩, show cr % 4294967296 = cr by omega, show H % 4294967296 = H by omega, show ((b : Int) / 4294967296) % 4294967296 = (b : Int) / 4294967296 by omega, show ((b : Int) % 4294967296) % 4294967296 = (b : Int) % 4294967296 by omega, show (me + 256 * (rev + 256 * (bad + 256 * lock))) % 4294967296 = me + 256 * (rev + 256 * (bad + 256 * lock)) by omega]
def wrs (o : Nat) : List Int → List S105
  | [] => []
  | x :: l => ⟨(o : Int), x⟩ :: wrs (o + 1) l
theorem wrs_snoc (x : Int) : ∀ (o : Nat) (l : List Int), wrs o (l ++ [x]) = wrs o l ++ [⟨((o + l.length : Nat) : Int), x⟩]
  | o, [] => by simp [wrs]
  | o, y :: l => by
    simp only [List.cons_append, wrs, wrs_snoc x (o + 1) l, List.length_cons]
    congr 4
    omega
theorem wrs_len : ∀ (o : Nat) (l : List Int), (wrs o l).length = l.length
  | _, [] => rfl
  | o, _ :: l => by simp [wrs, wrs_len (o + 1) l]
def storeAns (r : List Int) (other : Nat) (m : Int) : List S105 := ⟨(other : Int), 0⟩ :: (wrs (other + 1) r ++ [⟨(other : Int), m⟩])
theorem mark3 (a b : Int) (ha : 0 ≤ a) (hb : 0 ≤ b) (h : newerOf a b = 0) : 1 ≤ a ∧ a ≤ 3 := by
  have hm : ¬ markOf a = 0 := by
    intro hm
    unfold newerOf at h
    by_cases hb0 : markOf b = 0
    · rw [if_pos ⟨hm, hb0⟩] at h; omega
    · rw [if_neg (fun x => hb0 x.2), if_pos hm] at h; omega
  unfold markOf at hm
  by_cases h3 : a > 3
  · rw [if_pos h3] at hm; exact absurd rfl hm
  · rw [if_neg h3] at hm; omega
theorem mark4 (a b : Int) (ha : 0 ≤ a) (hb : 0 ≤ b) (h : newerOf a b = 1) : 1 ≤ b ∧ b ≤ 3 := by
  have hm : ¬ markOf b = 0 := by
    intro hm
    unfold newerOf at h
    by_cases ha0 : markOf a = 0
    · rw [if_pos ⟨ha0, hm⟩] at h; omega
    · rw [if_neg (fun x => ha0 x.1), if_neg ha0, if_pos (.inl hm)] at h; omega
  unfold markOf at hm
  by_cases h3 : b > 3
  · rw [if_pos h3] at hm; exact absurd rfl hm
  · rw [if_neg h3] at hm; omega
theorem store_p (l r : List Int) (n : Nat) (hr : r.length = n) (hn : 1 ≤ n ∧ n ≤ 64) (hll : l.length = 2 * n + 2) (s : Nat) (hs1 : s ≤ 1) (m : Int) (hm : rd l ((s : Int) * ((n : Int) + 1)) = m) (hm1 : 1 ≤ m ∧ m ≤ 3) (hnew : Ev (fun k => slot_pair_newer.f k l (n : Int)) (s : Int)) :
    Ev (fun k => slot_Store.f k l r) (storeAns r ((1 - s) * (n + 1)) (m % 3 + 1), 0) := by
  unfold slot_Store.f
  rw [slot_size.eq _ _ ⟨by omega, by omega⟩]
  refine Ev.letS (Ev.pos (by rw [decide_eq_true_eq]; omega) ?_)
  rw [hr]
  refine Ev.bind hnew (Ev.neg (by omega) ?_)
  have hz : wrap64 (wrap64 (1 - (s : Int)) * wrap64 ((n : Int) + 1)) = (((1 - s) * (n + 1) : Nat) : Int) := by
    rcases (show s = 0 ∨ s = 1 by omega) with rfl | rfl
    · rw [wr (a := 1 - ((0 : Nat) : Int)) ⟨by omega, by omega⟩, wr (a := (n : Int) + 1) ⟨by omega, by omega⟩, wr ⟨by omega, by omega⟩]; omega
    · rw [wr (a := 1 - ((1 : Nat) : Int)) ⟨by omega, by omega⟩, wr (a := (n : Int) + 1) ⟨by omega, by omega⟩, wr ⟨by omega, by omega⟩]; omega
  have hzb : (1 - s) * (n + 1) ≤ n + 1 := by rcases (show s = 0 ∨ s = 1 by omega) with rfl | rfl <;> omega
  rw [hz]
  clear hz hnew
  generalize (1 - s) * (n + 1) = z at hzb
  have key := down (P := fun i => Ev (fun k => slot_Store.l0 k (s : Int) (z : Int) (⟨(z : Int), 0⟩ :: wrs (z + 1) (r.take i)) r (n : Int) (i : Int) l (n : Int)) (storeAns r z (m % 3 + 1), 0)) (n := n) (by
    refine Ev.step (f := fun _ => some (storeAns r z (m % 3 + 1), 0)) (fun k => ?_) (Ev.now _)
    simp only [slot_Store.l0, slot_pair_mark.eq l n hn hll (s : Int) (by omega), hm]
    rw [show markOf m = m by unfold markOf; rw [if_neg (by omega)]]
    simp only [slot_next.eq m (by omega), Option.bind_some]
    rw [if_neg (by omega), List.take_of_length_le (by omega), if_pos (by simp only [List.length_cons, wrs_len]; omega)]
    rfl) (by
    intro i hi ih
    refine Ev.step (fun k => ?_) ih
    simp only [slot_Store.l0, rd_nat]
    rw [if_pos (by omega), if_pos (by omega), if_pos (by omega), if_pos (by simp only [List.length_cons, wrs_len, List.length_take]; omega), wr (a := (z : Int) + 1) ⟨by omega, by omega⟩, wr (a := (z : Int) + 1 + (i : Int)) ⟨by omega, by omega⟩, wn (show i < n by omega) (by omega), take_getD r i 0 (by omega), wrs_snoc]
    rw [List.cons_append, List.length_take, Nat.min_eq_left (by omega), show (z : Int) + 1 + (i : Int) = ((z + 1 + i : Nat) : Int) by omega])
  exact key
theorem store_q (l r : List Int) (n : Nat) (hr : r.length = n) (hn : 1 ≤ n ∧ n ≤ 64) (hll : l.length = 2 * n + 2) (s : Nat) (hs1 : s ≤ 1) (m : Int) (hm : rd l ((s : Int) * ((n : Int) + 1)) = m) (hm1 : 1 ≤ m ∧ m ≤ 3) (hcnt : Ev (fun k => vendmeterref_counts.f k l (n : Int)) (s : Int)) :
    Ev (fun k => vendmeterref_SlotStored.f k l r) (storeAns r ((1 - s) * (n + 1)) (m % 3 + 1), 0) := by
  unfold vendmeterref_SlotStored.f
  rw [vendmeterref_SlotFits.eq _ _ ⟨by omega, by omega⟩]
  refine Ev.letS (Ev.pos (by rw [decide_eq_true_eq]; omega) ?_)
  rw [hr]
  refine Ev.bind hcnt (Ev.neg (by omega) ?_)
  have key0 : ∀ z : Nat, z ≤ n + 1 → Ev (fun k => vendmeterref_SlotStored.j1 k r (n : Int) (z : Int) (m % 3 + 1)) (storeAns r z (m % 3 + 1), 0) := by
    intro z hzb
    have key := down (P := fun i => Ev (fun k => vendmeterref_SlotStored.l0 k r (n : Int) (z : Int) (m % 3 + 1) (⟨(z : Int), 0⟩ :: wrs (z + 1) (r.take i)) (i : Int)) (storeAns r z (m % 3 + 1), 0)) (n := n) (by
      refine Ev.step (f := fun _ => some (storeAns r z (m % 3 + 1), 0)) (fun k => ?_) (Ev.now _)
      simp only [vendmeterref_SlotStored.l0]
      rw [if_neg (by omega), List.take_of_length_le (by omega), if_pos (by simp only [List.length_cons, wrs_len]; omega)]
      rfl) (by
      intro i hi ih
      refine Ev.step (fun k => ?_) ih
      simp only [vendmeterref_SlotStored.l0, rd_nat]
      rw [if_pos (by omega), if_pos (by omega), if_pos (by omega), if_pos (by simp only [List.length_cons, wrs_len, List.length_take]; omega), wr (a := (z : Int) + 1) ⟨by omega, by omega⟩, wr (a := (z : Int) + 1 + (i : Int)) ⟨by omega, by omega⟩, wn (show i < n by omega) (by omega), take_getD r i 0 (by omega), wrs_snoc]
      rw [List.cons_append, List.length_take, Nat.min_eq_left (by omega), show (z : Int) + 1 + (i : Int) = ((z + 1 + i : Nat) : Int) by omega])
    exact Ev.step (fun k => rfl) key
  have key1 : ∀ z : Nat, z ≤ n + 1 → Ev (fun k => vendmeterref_SlotStored.j0 k l r (n : Int) (s : Int) (z : Int)) (storeAns r z (m % 3 + 1), 0) := by
    intro z hzb
    have e1 : (s : Int) * ((n : Int) + 1) < (l.length : Int) ∧ 0 ≤ (s : Int) * ((n : Int) + 1) := by
      rcases (show s = 0 ∨ s = 1 by omega) with rfl | rfl <;> omega
    refine Ev.step (fun k => ?_) (key0 z hzb)
    simp only [vendmeterref_SlotStored.j0]
    rw [wr (a := (n : Int) + 1) ⟨by omega, by omega⟩, wr (a := (s : Int) * ((n : Int) + 1)) ⟨by omega, by omega⟩, if_pos e1.2, if_pos e1.1, hm]
    rcases (show m = 1 ∨ m = 2 ∨ m = 3 by omega) with rfl | rfl | rfl <;> rfl
  rcases (show s = 0 ∨ s = 1 by omega) with rfl | rfl
  · refine Ev.pos rfl ?_
    rw [wr (a := (n : Int) + 1) ⟨by omega, by omega⟩]
    have := key1 (n + 1) (Nat.le_refl _)
    rw [show (1 - 0) * (n + 1) = n + 1 by omega]
    exact this
  · refine Ev.neg (by decide) ?_
    have := key1 0 (by omega)
    rw [show (1 - 1) * (n + 1) = 0 by omega]
    exact this
theorem store_both (l r : List Int) (h0 : 0 ≤ rd l 0) (h1 : 0 ≤ rd l ((r.length : Int) + 1)) (hl : l.length ≤ 1152921504606846976) (hl2 : r.length ≤ 1152921504606846976) : ∃ x : List S105 × Int, x.1.length ≤ 70 ∧ Ev (fun k => slot_Store.f k l r) x ∧ Ev (fun k => vendmeterref_SlotStored.f k l r) x := by
  by_cases hs : (1 ≤ r.length ∧ r.length ≤ 64) ∧ l.length = 2 * r.length + 2
  · obtain ⟨hn', hll⟩ := hs
    have hnew := slot_pair_newer.ev l r.length hn' hll h0 h1
    have hcnt := counts_ev l r.length hn' hll h0 h1
    have m3 := mark3 _ _ h0 h1
    have m4 := mark4 _ _ h0 h1
    rcases newer_cases (rd l 0) (rd l ((r.length : Int) + 1)) with e | e | e
    · rw [e] at hnew hcnt
      refine ⟨([], 17), by simp, ?_, ?_⟩
      · unfold slot_Store.f
        rw [slot_size.eq _ _ ⟨by omega, by omega⟩]
        exact Ev.letS (Ev.pos (by rw [decide_eq_true_eq]; omega) (Ev.bind hnew (Ev.pos (by decide) (Ev.now _))))
      · unfold vendmeterref_SlotStored.f
        rw [vendmeterref_SlotFits.eq _ _ ⟨by omega, by omega⟩]
        exact Ev.letS (Ev.pos (by rw [decide_eq_true_eq]; omega) (Ev.bind hcnt (Ev.pos (by decide) (Ev.now _))))
    · rw [e] at hnew hcnt
      exact ⟨_, by simp [storeAns, wrs_len]; omega, store_p l r r.length rfl hn' hll 0 (by omega) (rd l 0) (by simp) (m3 e) hnew, store_q l r r.length rfl hn' hll 0 (by omega) (rd l 0) (by simp) (m3 e) hcnt⟩
    · rw [e] at hnew hcnt
      exact ⟨_, by simp [storeAns, wrs_len]; omega, store_p l r r.length rfl hn' hll 1 (by omega) (rd l ((r.length : Int) + 1)) (by simp) (m4 e) hnew, store_q l r r.length rfl hn' hll 1 (by omega) (rd l ((r.length : Int) + 1)) (by simp) (m4 e) hcnt⟩
  · refine ⟨([], 1), by simp, ?_, ?_⟩
    · unfold slot_Store.f
      rw [slot_size.eq _ _ ⟨by omega, by omega⟩]
      exact Ev.letS (Ev.neg (by rw [decide_eq_true_eq]; omega) (Ev.now _))
    · unfold vendmeterref_SlotStored.f
      rw [vendmeterref_SlotFits.eq _ _ ⟨by omega, by omega⟩]
      exact Ev.letS (Ev.neg (by rw [decide_eq_true_eq]; omega) (Ev.now _))
theorem vendmeterlaw_sameWords.ev (l) (hl : l.length ≤ 1152921504606846976) : Ev (fun k => vendmeterlaw_sameWords.f k l l) true := by
  unfold vendmeterlaw_sameWords.f
  refine Ev.pos rfl (same_ev hl (fun k i hi => ?_) (fun k => ?_))
  · simp only [vendmeterlaw_sameWords.l0]; rw [if_pos (by omega), if_pos (by omega), if_pos (by omega)]; simp
  · simp only [vendmeterlaw_sameWords.l0]; rw [if_neg (by omega)]
theorem vendmeterlaw_sameWrites.ev (l) (hl : l.length ≤ 1152921504606846976) : Ev (fun k => vendmeterlaw_sameWrites.f k l l) true := by
  unfold vendmeterlaw_sameWrites.f
  refine Ev.pos rfl (same_ev hl (fun k i hi => ?_) (fun k => ?_))
  · simp only [vendmeterlaw_sameWrites.l0]; rw [if_pos (by omega), if_pos (by omega), if_pos (by omega)]; simp
  · simp only [vendmeterlaw_sameWrites.l0]; rw [if_neg (by omega)]
theorem vendmeterlaw_words.eq (l) (h : l.length * 4 ≤ 140737488351232) : vendmeterlaw_words.f l = some l := by
  unfold vendmeterlaw_words.f
  rw [if_pos (by simp only [List.length_nil]; omega)]; rfl

def difL (a b : List Int) : Nat → Nat → List S105
  | 0, _ => []
  | d + 1, i => if a.getD i 0 = b.getD i 0 then difL a b d (i + 1) else ⟨(i : Int), b.getD i 0⟩ :: difL a b d (i + 1)
theorem Differsl_ev (a b : List Int) (n : Nat) (ha : a.length = n) (hb : b.length = n) (hn : n ≤ 2048) : ∀ (d i : Nat) (out : List S105), i + d = n → out.length ≤ i → Ev (fun k => vendmeterref_Differs.l0 k a b out (i : Int)) (out ++ difL a b d i, 0)
  | 0, i, out, hi, ho => by
    refine Ev.step (f := fun _ => some (out, 0)) (fun k => ?_) (Ev.ret (by simp [difL]))
    simp only [vendmeterref_Differs.l0]; rw [if_neg (by omega)]
  | d + 1, i, out, hi, ho => by
    unfold difL
    by_cases h : a.getD i 0 = b.getD i 0
    · rw [if_pos h]
      refine Ev.step (fun k => ?_) (Differsl_ev a b n ha hb hn d (i + 1) out (by omega) (by omega))
      simp only [vendmeterref_Differs.l0, rd_nat]
      rw [if_pos (by omega), if_pos (by omega), if_pos (by omega), if_pos h, wn (show i < n by omega) (by omega)]
    · rw [if_neg h]
      refine Ev.eq ?_ (Ev.step (f := fun k => vendmeterref_Differs.l0 k a b (out ++ [⟨(i : Int), b.getD i 0⟩]) ((i + 1 : Nat) : Int)) (fun k => ?_) (Differsl_ev a b n ha hb hn d (i + 1) (out ++ [⟨(i : Int), b.getD i 0⟩]) (by omega) (by rw [List.length_append]; simp; omega)))
      · simp
      · simp only [vendmeterref_Differs.l0, rd_nat]
        rw [if_pos (by omega), if_pos (by omega), if_pos (by omega), if_neg h, if_pos (by omega), wn (show i < n by omega) (by omega)]
theorem Differs_ev (a b : List Int) (n : Nat) (ha : a.length = n) (hb : b.length = n) (hn : 1 ≤ n ∧ n ≤ 2048) : Ev (fun k => vendmeterref_Differs.f k a b) (difL a b n 0, 0) := by
  unfold vendmeterref_Differs.f
  rw [vendmeterref_In.eq]
  refine Ev.letS (Ev.pos (by rw [decide_eq_true_eq]; omega) ?_)
  have e : ((a.length : Int) != (b.length : Int)) = false := bne_eq_false_iff_eq.mpr (by omega)
  rw [e]
  refine Ev.step (f := fun k => vendmeterref_Differs.l0 k a b [] 0) (fun k => ?_) (Differsl_ev a b n ha hb hn.2 n 0 [] (by omega) (by simp))
  simp [vendmeterref_Differs.j0]
theorem difL_meter (me rev cr cr' H : Int) (b : Nat) (bad lock lock' : Int) : ((difL (meterList me rev cr H b bad lock) (meterList me rev cr' H b bad lock') 5 0).length : Int) = 0 ↔ (cr = cr' ∧ lock = lock') := by
  have e : me + 256 * (rev + 256 * (bad + 256 * lock)) = me + 256 * (rev + 256 * (bad + 256 * lock')) ↔ lock = lock' := by omega
  by_cases h1 : cr = cr'
  · by_cases h2 : lock = lock'
    · simp [difL, meterList, h1, h2]
    · have h3 : ¬ me + 256 * (rev + 256 * (bad + 256 * lock)) = me + 256 * (rev + 256 * (bad + 256 * lock')) := fun h => h2 (e.1 h)
      simp [difL, meterList, h1, h2, h3]
      try omega
  · simp [difL, meterList, h1]
    try omega
theorem moved_both (l : List Int) (h0 : 0 ≤ rd l 0) (h6 : 0 ≤ rd l 6) (hl : l.length ≤ 1152921504606846976) (me rev cr cr' H : Int) (b : Nat) (bad lock lock' : Int) (hb : b < 18446744073709551616) (hm : mayM me rev cr H b bad lock = true) (hm' : mayM me rev cr' H b bad lock' = true) :
    ∃ x : List S105, x.length ≤ 70 ∧ Ev (fun k => pocket_moved.f k l me rev cr H (b : Int) bad lock me rev cr' H (b : Int) bad lock') x ∧ Ev (fun k => vendmeterref_stored.f k l me rev cr H (b : Int) bad lock me rev cr' H (b : Int) bad lock') x := by
  have w1 := vendmeterref_MeterWorded.ev me rev cr H b bad lock hb
  have w2 := vendmeterref_MeterWorded.ev me rev cr' H b bad lock' hb
  have w3 := meter_Words.ev me rev cr' H b bad lock' hb
  have e1 : wordsAns me rev cr H b bad lock = (meterList me rev cr H b bad lock, 0) := by unfold wordsAns; rw [if_pos hm]
  have e2 : wordsAns me rev cr' H b bad lock' = (meterList me rev cr' H b bad lock', 0) := by unfold wordsAns; rw [if_pos hm']
  rw [e1] at w1
  rw [e2] at w2 w3
  have hd := Differs_ev (meterList me rev cr H b bad lock) (meterList me rev cr' H b bad lock') 5 rfl rfl (by omega)
  obtain ⟨x, hx, p, q⟩ := store_both l (meterList me rev cr' H b bad lock') h0 h6 hl (by simp [meterList])
  by_cases hs : cr = cr' ∧ lock = lock'
  · refine ⟨[], by simp, ?_, ?_⟩
    · unfold pocket_moved.f
      obtain ⟨rfl, rfl⟩ := hs
      exact Ev.pos (by simp) (Ev.now _)
    · unfold vendmeterref_stored.f
      exact Ev.bind w1 (Ev.bind w2 (Ev.bind hd (Ev.pos ((difL_meter me rev cr cr' H b bad lock lock').2 hs) (Ev.now _))))
  · refine ⟨x.1, hx, ?_, ?_⟩
    · unfold pocket_moved.f
      refine Ev.neg (fun h => hs ?_) (Ev.bind w3 (Ev.pos rfl (Ev.bind p (Ev.now _))))
      simp only [Bool.and_eq_true, beq_iff_eq] at h
      exact ⟨h.2.2.1, h.2.2.2.2.2⟩
    · unfold vendmeterref_stored.f
      exact Ev.bind w1 (Ev.bind w2 (Ev.bind hd (Ev.neg (fun h => hs ((difL_meter me rev cr cr' H b bad lock lock').1 h)) (Ev.bind q (Ev.now _)))))
theorem tick_may (me rev cr H : Int) (b : Nat) (bad lock load : Int) (h : mayM me rev cr H b bad lock = true) (hl : 0 ≤ load) : mayM me rev (cr - mn load cr) H b bad (mx (lock - 1) 0) = true := by
  obtain ⟨h1, h2⟩ := mayM_in h
  rw [mayM_yes H b, h2]
  unfold inM at *
  unfold mn mx
  split <;> split <;> omega
theorem ticked_both (l : List Int) (load : Int) (h : ∀ y ∈ l, (Lit.int .u32 y).wf = true) (hl : l.length ≤ 1152921504606846976) :
    ∃ r : List S105 × Int × Int, r.1.length ≤ 70 ∧ Ev (fun k => pocket_Ticked.f k l load) r ∧ Ev (fun k => vendmeterref_PocketTicked.f k l load) r := by
  obtain ⟨r, h1, h2, h3, p, q⟩ := booted_both l h hl
  have no : ∀ c : Int, ¬ c = 0 → bootAns r = (0, 0, 0, 0, 0, 0, 0, c) → ∃ r : List S105 × Int × Int, r.1.length ≤ 70 ∧ Ev (fun k => pocket_Ticked.f k l load) r ∧ Ev (fun k => vendmeterref_PocketTicked.f k l load) r := by
    intro c hc e
    rw [e] at p q
    refine ⟨([], 0, c), by simp, ?_, ?_⟩
    · unfold pocket_Ticked.f
      exact Ev.bind p (Ev.neg hc (Ev.now _))
    · unfold vendmeterref_PocketTicked.f
      exact Ev.bind q (Ev.neg hc (Ev.now _))
  by_cases hr : r.2 = 0
  · obtain ⟨h5, h12, _⟩ := h3 hr
    have e0 : bootAns r = readAns r.1 := by unfold bootAns; rw [if_pos hr]
    unfold readAns at e0
    rw [if_pos h5] at e0
    by_cases hm : mayM (rd r.1 1 % 256) (rd r.1 1 / 256 % 256) (rd r.1 0) (rd r.1 2) (readBits r.1) (rd r.1 1 / 65536 % 256) (rd r.1 1 / 16777216) = true
    · rw [if_pos hm] at e0
      rw [e0] at p q
      have hw : ∀ y ∈ r.1, (Lit.int .u32 y).wf = true := fun y hy => h y (h2 y hy)
      have hb : readBits r.1 < 18446744073709551616 := readBits_lt (words_bd hw 3 (by omega)) (words_bd hw 4 (by omega))
      generalize rd r.1 1 % 256 = me at *
      generalize rd r.1 1 / 256 % 256 = rev at *
      generalize rd r.1 0 = cr at *
      generalize rd r.1 2 = H at *
      generalize readBits r.1 = b at *
      generalize rd r.1 1 / 65536 % 256 = bad at *
      generalize rd r.1 1 / 16777216 = lock at *
      have t1 := meter_Tick.ev me rev cr H b bad lock load hb
      have t2 := vendmeterref_MeterTicked.ev me rev cr H b bad lock load hb
      unfold tickAns at t1 t2
      rw [if_pos hm] at t1 t2
      by_cases hload : 0 ≤ load ∧ load ≤ 1000
      · rw [if_pos hload] at t1 t2
        obtain ⟨x, hx, m1, m2⟩ := moved_both l (rd_nn h 0) (rd_nn h 6) hl me rev cr (cr - mn load cr) H b bad lock (mx (lock - 1) 0) hb hm (tick_may me rev cr H b bad lock load hm hload.1)
        refine ⟨(x, mn load cr, 0), hx, ?_, ?_⟩
        · unfold pocket_Ticked.f
          exact Ev.bind p (Ev.pos rfl (Ev.bind t1 (Ev.pos rfl (Ev.bind m1 (Ev.now _)))))
        · unfold vendmeterref_PocketTicked.f
          exact Ev.bind q (Ev.pos rfl (Ev.bind t2 (Ev.pos rfl (Ev.bind m2 (Ev.now _)))))
      · rw [if_neg hload] at t1 t2
        refine ⟨([], 0, 2), by simp, ?_, ?_⟩
        · unfold pocket_Ticked.f
          exact Ev.bind p (Ev.pos rfl (Ev.bind t1 (Ev.neg (show ¬ (2 : Int) = 0 by decide) (Ev.now _))))
        · unfold vendmeterref_PocketTicked.f
          exact Ev.bind q (Ev.pos rfl (Ev.bind t2 (Ev.neg (show ¬ (2 : Int) = 0 by decide) (Ev.now _))))
    · rw [if_neg hm] at e0
      exact no 5 (by decide) e0
  · exact no r.2 hr (by unfold bootAns; rw [if_neg hr])
theorem PocketTicks : vendmeterlaw_PocketTicks.Pure := by
  intro l load h _
  refine Ev.rounds ?_
  unfold vendmeterlaw_PocketTicks.f
  rw [vendmeterlaw_words.eq l h.1]
  have hl := h.1
  obtain ⟨r, hr, p, q⟩ := ticked_both l load h.2 (by omega)
  exact Ev.letS (Ev.bind p (Ev.bind q (Ev.pos rfl (Ev.pos rfl (Ev.bind (vendmeterlaw_sameWrites.ev _ (by omega)) (Ev.pos rfl (Ev.bind (vendmeterlaw_sameWords.ev l (by omega)) (Ev.now _))))))))

end Go.Proofs.Ythmmadniaakapaa.Pure
