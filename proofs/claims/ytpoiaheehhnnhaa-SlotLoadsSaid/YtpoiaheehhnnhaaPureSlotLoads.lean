/- vendmeterlaw.SlotLoads returns true at every list of words and every number: slot.Load answers as the reference does, and the words are as they were. No condition. -/
import Derived.Test.YtpoiaheehhnnhaaPSlotLoadsxL
import Derived.Test.YtpoiaheehhnnhaaXLib
set_option linter.unusedVariables false
set_option linter.unusedSimpArgs false
namespace Go.Proofs.Ytpoiaheehhnnhaa.Pure
open Go.RowKit Go.Proofs.Ytpoiaheehhnnhaa.PSlotLoads Go.Proofs.YtpoiaheehhnnhaaW.PrintWords Go.Proofs.YtpoiaheehhnnhaaW.PrintLast Go.Proofs.YtpoiaheehhnnhaaW.PrintMore Go.Proofs.YtpoiaheehhnnhaaW.XLib

def markOf (m : Int) : Int := if m > 3 then 0 else m
def newerOf (a b : Int) : Int := if markOf a = 0 ∧ markOf b = 0 then -1 else if markOf a = 0 then 1 else if markOf b = 0 ∨ markOf a = markOf b ∨ markOf b % 3 + 1 = markOf a then 0 else 1
theorem newer_cases (a b : Int) : newerOf a b = -1 ∨ newerOf a b = 0 ∨ newerOf a b = 1 := by
  unfold newerOf
  split
  · exact .inl rfl
  · split
    · exact .inr (.inr rfl)
    · split
      · exact .inr (.inl rfl)
      · exact .inr (.inr rfl)
theorem slot_size.eq (w n : Int) (hn : -9223372036854775808 ≤ n ∧ n ≤ 9223372036854775807) : slot_size.f w n = some (decide ((1 ≤ n ∧ n ≤ 64) ∧ w = 2 * n + 2)) := by
  unfold slot_size.f
  by_cases h1 : n ≥ 1
  · by_cases h2 : n ≤ 64
    · rw [if_pos h1, if_pos h2, wr (a := n + 1) ⟨by omega, by omega⟩, wr (a := 2 * (n + 1)) ⟨by omega, by omega⟩]
      congr 1
      rw [Bool.eq_iff_iff]
      simp only [beq_iff_eq, decide_eq_true_eq]
      omega
    · rw [if_pos h1, if_neg h2]
      congr 1
      symm
      rw [decide_eq_false_iff_not]
      omega
  · rw [if_neg h1]
    congr 1
    symm
    rw [decide_eq_false_iff_not]
    omega
theorem slot_next.eq (m : Int) (h0 : 0 ≤ m) : slot_next.f m = some (m % 3 + 1) := by
  unfold slot_next.f
  rw [tm h0]
  congr 1
  omega
theorem slot_pair_mark.eq (l : List Int) (n : Nat) (hn : 1 ≤ n ∧ n ≤ 64) (hl : l.length = 2 * n + 2) (s : Int) (hs : s = 0 ∨ s = 1) : slot_pair_mark.f l (n : Int) s = some (markOf (rd l (s * ((n : Int) + 1)))) := by
  unfold slot_pair_mark.f markOf
  have e : wrap64 (s * wrap64 ((n : Int) + 1)) = s * ((n : Int) + 1) := by
    rw [wr (a := (n : Int) + 1) ⟨by omega, by omega⟩]
    rcases hs with rfl | rfl <;> exact wr ⟨by omega, by omega⟩
  rw [e, if_pos (by rcases hs with rfl | rfl <;> omega), if_pos (by rcases hs with rfl | rfl <;> omega)]
  split <;> rfl
theorem slot_pair_newer.ev (l : List Int) (n : Nat) (hn : 1 ≤ n ∧ n ≤ 64) (hl : l.length = 2 * n + 2) (h0 : 0 ≤ rd l 0) (h1 : 0 ≤ rd l ((n : Int) + 1)) : Ev (fun k => slot_pair_newer.f k l (n : Int)) (newerOf (rd l 0) (rd l ((n : Int) + 1))) := by
  unfold slot_pair_newer.f
  rw [slot_pair_mark.eq l n hn hl 0 (.inl rfl), slot_pair_mark.eq l n hn hl 1 (.inr rfl), Int.zero_mul, Int.one_mul]
  have hm : 0 ≤ markOf (rd l ((n : Int) + 1)) := by unfold markOf; split <;> omega
  simp only [Option.bind_some]
  unfold newerOf
  generalize markOf (rd l 0) = a
  generalize markOf (rd l ((n : Int) + 1)) = b at hm
  by_cases ha : a = 0
  · refine Ev.pos ha ?_
    by_cases hb : b = 0
    · rw [if_pos ⟨ha, hb⟩]
      refine Ev.step (f := fun _ => some (-1)) (fun k => ?_) (Ev.now _)
      simp only [slot_pair_newer.j0, hb]; rfl
    · rw [if_neg (by omega), if_pos ha]
      refine Ev.step (f := fun _ => some 1) (fun k => ?_) (Ev.now _)
      simp only [slot_pair_newer.j0, ha, if_true, beq_eq_false_iff_ne.2 hb]; rfl
  · refine Ev.neg ha ?_
    rw [if_neg (by omega), if_neg ha]
    by_cases hb : b = 0
    · rw [if_pos (.inl hb)]
      refine Ev.step (f := fun _ => some 0) (fun k => ?_) (Ev.now _)
      simp only [slot_pair_newer.j0, ha, hb, if_true, if_false]; rfl
    · by_cases hab : a = b
      · rw [if_pos (.inr (.inl hab))]
        refine Ev.step (f := fun _ => some 0) (fun k => ?_) (Ev.now _)
        subst hab
        simp only [slot_pair_newer.j0, ha, if_true, if_false]; rfl
      · by_cases hc : b % 3 + 1 = a
        · rw [if_pos (.inr (.inr hc))]
          refine Ev.step (f := fun _ => some 0) (fun k => ?_) (Ev.now _)
          simp only [slot_pair_newer.j0, ha, hb, hab, slot_next.eq b hm, Option.bind_some, hc, if_true, if_false]; rfl
        · rw [if_neg (by omega)]
          refine Ev.step (f := fun _ => some 1) (fun k => ?_) (Ev.now _)
          simp only [slot_pair_newer.j0, ha, hb, hab, slot_next.eq b hm, Option.bind_some, hc, if_false]; rfl
theorem vendmeterref_In.eq (a b c : Int) : vendmeterref_In.f a b c = some (decide (b ≤ a ∧ a ≤ c)) := by
  unfold vendmeterref_In.f
  by_cases h : b ≤ a
  · rw [if_pos h]; simp [h]
  · rw [if_neg h]; simp [h]
theorem vendmeterref_SlotFits.eq (w n : Int) (hn : -9223372036854775808 ≤ n ∧ n ≤ 9223372036854775807) : vendmeterref_SlotFits.f w n = some (decide ((1 ≤ n ∧ n ≤ 64) ∧ w = 2 * n + 2)) := by
  unfold vendmeterref_SlotFits.f
  simp only [vendmeterref_In.eq, Option.bind_some]
  by_cases h : 1 ≤ n ∧ n ≤ 64
  · simp only [h, and_self, true_and, decide_true, if_true]
    rw [wr (a := 2 * n) ⟨by omega, by omega⟩, wr (a := 2 * n + 2) ⟨by omega, by omega⟩]
    congr 1
  · simp only [h, false_and, decide_false]; rfl
theorem follows_eq (a b : Int) : vendmeterref_follows.f a b = some (decide ((a = 1 ∧ b = 2) ∨ (a = 2 ∧ b = 3) ∨ (a = 3 ∧ b = 1))) := by
  unfold vendmeterref_follows.f
  by_cases h1 : a = 1
  · subst h1
    by_cases h2 : b = 2
    · simp [h2]
    · simp [h2]
  · by_cases h2 : a = 2
    · subst h2
      by_cases h3 : b = 3
      · simp [h3]
      · simp [h3]
    · by_cases h3 : a = 3
      · subst h3
        by_cases h4 : b = 1 <;> simp [h4]
      · simp [h1, h2, h3]
set_option maxHeartbeats 2000000 in
theorem counts_ev (l : List Int) (n : Nat) (hn : 1 ≤ n ∧ n ≤ 64) (hl : l.length = 2 * n + 2) (h0 : 0 ≤ rd l 0) (h1 : 0 ≤ rd l ((n : Int) + 1)) : Ev (fun k => vendmeterref_counts.f k l (n : Int)) (if newerOf (rd l 0) (rd l ((n : Int) + 1)) = -1 then 2 else newerOf (rd l 0) (rd l ((n : Int) + 1))) := by
  unfold vendmeterref_counts.f
  rw [wr (a := (n : Int) + 1) ⟨by omega, by omega⟩]
  generalize rd l ((n : Int) + 1) = b at *
  generalize rd l 0 = a at *
  refine Ev.pos (by omega) (Ev.pos (by omega) (Ev.pos (by omega) ?_))
  have key : ∀ x : Bool, x = decide (1 ≤ a ∧ a ≤ 3) → Ev (fun k => vendmeterref_counts.j0 k a b x) (if newerOf a b = -1 then 2 else newerOf a b) := by
    intro x hx
    have key2 : ∀ y : Bool, y = decide (1 ≤ b ∧ b ≤ 3) → Ev (fun k => vendmeterref_counts.j1 k a b x y) (if newerOf a b = -1 then 2 else newerOf a b) := by
      intro y hy
      by_cases ha : 1 ≤ a ∧ a ≤ 3
      · have hx' : x = true := by rw [hx]; simpa using ha
        by_cases hb : 1 ≤ b ∧ b ≤ 3
        · have hy' : y = true := by rw [hy]; simpa using hb
          subst hx' hy'
          refine Ev.step (f := fun k => vendmeterref_counts.j2 k a b true true false) (fun k => rfl) (Ev.step (f := fun k => vendmeterref_counts.j3 k a b true true) (fun k => rfl) (Ev.step (f := fun _ => if decide ((a = 1 ∧ b = 2) ∨ (a = 2 ∧ b = 3) ∨ (a = 3 ∧ b = 1)) = true then some 1 else some 0) (fun k => by simp only [vendmeterref_counts.j3, follows_eq, if_true, Option.bind_some]) ?_))
          have hma : markOf a = a := by unfold markOf; rw [if_neg (by omega)]
          have hmb : markOf b = b := by unfold markOf; rw [if_neg (by omega)]
          refine Ev.split (fun c => Ev.ret ?_) (fun c => Ev.ret ?_)
          · rw [decide_eq_true_eq] at c
            unfold newerOf
            rw [hma, hmb, if_neg (by omega : ¬ (a = 0 ∧ b = 0)), if_neg (by omega : ¬ a = 0), if_neg (show ¬ (b = 0 ∨ a = b ∨ b % 3 + 1 = a) by omega)]; rfl
          · rw [decide_eq_true_eq] at c
            unfold newerOf
            rw [hma, hmb, if_neg (by omega : ¬ (a = 0 ∧ b = 0)), if_neg (by omega : ¬ a = 0), if_pos (show b = 0 ∨ a = b ∨ b % 3 + 1 = a by omega)]; rfl
        · have hy' : y = false := by rw [hy]; simpa using hb
          subst hx' hy'
          refine Ev.step (f := fun k => vendmeterref_counts.j2 k a b true false false) (fun k => rfl) (Ev.step (f := fun k => vendmeterref_counts.j3 k a b false false) (fun k => rfl) (Ev.step (f := fun _ => some 0) (fun k => rfl) (Ev.ret ?_)))
          have hma : markOf a = a := by unfold markOf; rw [if_neg (by omega)]
          have hmb : markOf b = 0 := by unfold markOf; split <;> omega
          unfold newerOf
          rw [hma, hmb, if_neg (by omega : ¬ (a = 0 ∧ (0 : Int) = 0)), if_neg (by omega : ¬ a = 0), if_pos (show (0 : Int) = 0 ∨ a = 0 ∨ (0 : Int) % 3 + 1 = a from .inl rfl)]; rfl
      · have hx' : x = false := by rw [hx]; simpa using ha
        have hma : markOf a = 0 := by unfold markOf; split <;> omega
        by_cases hb : 1 ≤ b ∧ b ≤ 3
        · have hy' : y = true := by rw [hy]; simpa using hb
          subst hx' hy'
          refine Ev.step (f := fun k => vendmeterref_counts.j2 k a b false true false) (fun k => rfl) (Ev.step (f := fun k => vendmeterref_counts.j3 k a b true false) (fun k => rfl) (Ev.step (f := fun _ => some 1) (fun k => rfl) (Ev.ret ?_)))
          have hmb : markOf b = b := by unfold markOf; rw [if_neg (by omega)]
          unfold newerOf
          rw [hma, hmb, if_neg (by omega : ¬ ((0 : Int) = 0 ∧ b = 0)), if_pos (show (0 : Int) = 0 from rfl)]; rfl
        · have hy' : y = false := by rw [hy]; simpa using hb
          subst hx' hy'
          refine Ev.step (f := fun k => vendmeterref_counts.j2 k a b false false true) (fun k => rfl) (Ev.step (f := fun _ => some 2) (fun k => rfl) (Ev.ret ?_))
          have hmb : markOf b = 0 := by unfold markOf; split <;> omega
          unfold newerOf
          rw [hma, hmb, if_pos (show (0 : Int) = 0 ∧ (0 : Int) = 0 from ⟨rfl, rfl⟩)]; rfl
    by_cases hb1 : b ≥ 1
    · exact Ev.step (f := fun k => vendmeterref_counts.j1 k a b x (decide (b ≤ 3))) (fun k => by simp only [vendmeterref_counts.j0]; rw [if_pos hb1]) (key2 _ (by congr 1; simp only [eq_iff_iff]; omega))
    · exact Ev.step (f := fun k => vendmeterref_counts.j1 k a b x false) (fun k => by simp only [vendmeterref_counts.j0]; rw [if_neg hb1]) (key2 _ (by symm; rw [decide_eq_false_iff_not]; omega))
  by_cases ha1 : a ≥ 1
  · exact Ev.pos ha1 (key _ (by congr 1; simp only [eq_iff_iff]; omega))
  · exact Ev.neg ha1 (key _ (by symm; rw [decide_eq_false_iff_not]; omega))
theorem vendmeterlaw_sameWords.ev (l) (hl : l.length ≤ 1152921504606846976) : Ev (fun k => vendmeterlaw_sameWords.f k l l) true := by
  unfold vendmeterlaw_sameWords.f
  refine Ev.pos rfl (same_ev hl (fun k i hi => ?_) (fun k => ?_))
  · simp only [vendmeterlaw_sameWords.l0]; rw [if_pos (by omega), if_pos (by omega), if_pos (by omega)]; simp
  · simp only [vendmeterlaw_sameWords.l0]; rw [if_neg (by omega)]
theorem vendmeterlaw_words.eq (l) (h : l.length * 4 ≤ 140737488351232) : vendmeterlaw_words.f l = some l := by
  unfold vendmeterlaw_words.f
  rw [if_pos (by simp only [List.length_nil]; omega)]; rfl

theorem rd_nn {l : List Int} (h : ∀ y ∈ l, (Lit.int .u32 y).wf = true) (i : Int) : 0 ≤ rd l i := by
  unfold rd
  rcases Nat.lt_or_ge i.toNat l.length with h1 | h1
  · exact (wfu32 (h _ (getD_mem l _ 0 h1))).1
  · rw [List.getD_eq_getElem?_getD, List.getElem?_eq_none h1]; decide
def loadAns (l : List Int) (n : Nat) (s : Nat) : List Int := (l.drop (s * (n + 1) + 1)).take n
theorem take_snoc' (l : List Int) (o i : Nat) (h : o + i < l.length) : (l.drop o).take (i + 1) = (l.drop o).take i ++ [l.getD (o + i) 0] := by
  rw [take_getD (l.drop o) i 0 (by rw [List.length_drop]; omega)]
  congr 2
  simp [List.getD_eq_getElem?_getD]
theorem load_len (l : List Int) (n s : Nat) (hs1 : s ≤ 1) (hll : l.length = 2 * n + 2) : (loadAns l n s).length = n := by
  have hs2 : s * (n + 1) ≤ n + 1 := by
    have := Nat.mul_le_mul_right (n + 1) hs1
    omega
  unfold loadAns; rw [List.length_take, List.length_drop]; omega
theorem sw0 (n s : Nat) (hn : n ≤ 64) (hs1 : s ≤ 1) : Aside0 (wrap64 ((s : Int) * wrap64 ((n : Int) + 1)) = ((s * (n + 1) : Nat) : Int)) := by
  constructor
  have hs2 : s * (n + 1) ≤ n + 1 := by
    have := Nat.mul_le_mul_right (n + 1) hs1
    omega
  have m1 : (s : Int) * ((n : Int) + 1) = ((s * (n + 1) : Nat) : Int) := by rw [Int.natCast_mul]; rfl
  rw [wr (a := (n : Int) + 1) ⟨by omega, by omega⟩, m1, wr ⟨by omega, by omega⟩]
theorem load_p (l : List Int) (n s : Nat) (hn : 1 ≤ n ∧ n ≤ 64) (hs1 : s ≤ 1) (hll : l.length = 2 * n + 2) (hnew : Ev (fun k => slot_pair_newer.f k l (n : Int)) (s : Int)) : Ev (fun k => slot_Load.f k l (n : Int)) (loadAns l n s, 0) := by
  have hlen := load_len l n s hs1 hll
  have w0 := sw0 n s hn.2 hs1
  have hs2 : s * (n + 1) ≤ n + 1 := by
    have := Nat.mul_le_mul_right (n + 1) hs1
    omega
  unfold slot_Load.f
  rw [slot_size.eq _ _ ⟨by omega, by omega⟩]
  refine Ev.letS (Ev.pos (by rw [decide_eq_true_eq]; omega) ?_)
  refine Ev.bind hnew (Ev.neg (by omega) ?_)
  rw [w0.out]
  generalize hz : s * (n + 1) = z at hs2
  rw [wr (a := (z : Int) + 1) ⟨by omega, by omega⟩, wr (a := (z : Int) + 1 + (n : Int)) ⟨by omega, by omega⟩]
  have t1 : ((z : Int) + 1 + (n : Int)).toNat = z + 1 + n := by omega
  have t2 : ((z : Int) + 1).toNat = z + 1 := by omega
  rw [t1, t2]
  have e : (l.take (z + 1 + n)).drop (z + 1) = loadAns l n s := by
    unfold loadAns
    rw [List.drop_take, hz]
    congr 1
    omega
  rw [e]
  exact Ev.pos (by omega) (Ev.pos (by omega) (Ev.pos (by omega) (Ev.pos (by rw [hlen]; simp only [List.length_nil]; omega) (Ev.now _))))
theorem load_q (l : List Int) (n s : Nat) (hn : 1 ≤ n ∧ n ≤ 64) (hs1 : s ≤ 1) (hll : l.length = 2 * n + 2) (hcnt : Ev (fun k => vendmeterref_counts.f k l (n : Int)) (s : Int)) : Ev (fun k => vendmeterref_SlotLoaded.f k l (n : Int)) (loadAns l n s, 0) := by
  have hlen := load_len l n s hs1 hll
  have w0 := sw0 n s hn.2 hs1
  have hs2 : s * (n + 1) ≤ n + 1 := by
    have := Nat.mul_le_mul_right (n + 1) hs1
    omega
  unfold vendmeterref_SlotLoaded.f
  rw [vendmeterref_SlotFits.eq _ _ ⟨by omega, by omega⟩]
  refine Ev.letS (Ev.pos (by rw [decide_eq_true_eq]; omega) ?_)
  refine Ev.bind hcnt (Ev.neg (by omega) ?_)
  unfold loadAns
  generalize hz : s * (n + 1) = z at hs2 w0
  have key := down (P := fun i => Ev (fun k => vendmeterref_SlotLoaded.l0 k l (n : Int) (s : Int) ((l.drop (z + 1)).take i) ((i : Int) + 1)) ((l.drop (z + 1)).take n, 0)) (n := n) (by
    refine Ev.step (f := fun _ => some ((l.drop (z + 1)).take n, 0)) (fun k => ?_) (Ev.now _)
    simp only [vendmeterref_SlotLoaded.l0]; rw [if_neg (by omega)]) (by
    intro i hi ih
    refine Ev.step (fun k => ?_) ih
    simp only [vendmeterref_SlotLoaded.l0, w0.out]
    rw [wr (a := (z : Int) + ((i : Int) + 1)) ⟨by omega, by omega⟩, wr (a := (i : Int) + 1 + 1) ⟨by omega, by omega⟩, show (z : Int) + ((i : Int) + 1) = ((z + 1 + i : Nat) : Int) by omega, show (i : Int) + 1 + 1 = ((i + 1 : Nat) : Int) + 1 by omega,
      if_pos (by omega), if_pos (by omega), if_pos (by omega), if_pos (by rw [List.length_take, List.length_drop]; omega), rd_nat, ← take_snoc' l _ i (by omega)])
  simpa using key
theorem SlotLoads : vendmeterlaw_SlotLoads.Pure := by
  intro l n' h hn
  have hb := wf64 hn
  have h4 := h.1
  refine Ev.rounds ?_
  unfold vendmeterlaw_SlotLoads.f
  rw [vendmeterlaw_words.eq l h.1]
  refine Ev.letS ?_
  have hl : l.length ≤ 1152921504606846976 := by omega
  have fin : ∀ r : List Int × Int, r.1.length ≤ 64 → Ev (fun k => slot_Load.f k l n') r → Ev (fun k => vendmeterref_SlotLoaded.f k l n') r → Ev (fun k => (slot_Load.f k l n').bind fun x => (vendmeterref_SlotLoaded.f k l n').bind fun y => if x.2 = y.2 then (vendmeterlaw_sameWords.f k x.1 y.1).bind fun z => if z = true then (vendmeterlaw_sameWords.f k l l).bind fun u => some u else some false else some false) true := by
    intro r hr p q
    exact Ev.bind p (Ev.bind q (Ev.pos rfl (Ev.bind (vendmeterlaw_sameWords.ev _ (by omega)) (Ev.pos rfl (Ev.bind (vendmeterlaw_sameWords.ev l hl) (Ev.now _))))))
  by_cases hs : (1 ≤ n' ∧ n' ≤ 64) ∧ (l.length : Int) = 2 * n' + 2
  · obtain ⟨n, rfl⟩ := Int.eq_ofNat_of_zero_le (show 0 ≤ n' by omega)
    have hn' : 1 ≤ n ∧ n ≤ 64 := by omega
    have hll : l.length = 2 * n + 2 := by omega
    have h0 := rd_nn h.2 0
    have h1 := rd_nn h.2 ((n : Int) + 1)
    have hnew := slot_pair_newer.ev l n hn' hll h0 h1
    have hcnt := counts_ev l n hn' hll h0 h1
    rcases newer_cases (rd l 0) (rd l ((n : Int) + 1)) with e | e
    · rw [e] at hnew hcnt
      refine fin ([], 17) (by simp) ?_ ?_
      · unfold slot_Load.f
        rw [slot_size.eq _ _ hb]
        exact Ev.letS (Ev.pos (by rw [decide_eq_true_eq]; exact hs) (Ev.bind hnew (Ev.pos (by decide) (Ev.now _))))
      · unfold vendmeterref_SlotLoaded.f
        rw [vendmeterref_SlotFits.eq _ _ hb]
        exact Ev.letS (Ev.pos (by rw [decide_eq_true_eq]; exact hs) (Ev.bind hcnt (Ev.pos (by decide) (Ev.now _))))
    · obtain ⟨s, hs1, es⟩ : ∃ s : Nat, s ≤ 1 ∧ newerOf (rd l 0) (rd l ((n : Int) + 1)) = (s : Int) := by
        rcases e with e | e
        · exact ⟨0, by omega, e⟩
        · exact ⟨1, by omega, e⟩
      rw [es] at hnew hcnt
      rw [if_neg (by omega)] at hcnt
      exact fin _ (by rw [load_len l n s hs1 hll]; omega) (load_p l n s hn' hs1 hll hnew) (load_q l n s hn' hs1 hll hcnt)
  · refine fin ([], 1) (by simp) ?_ ?_
    · unfold slot_Load.f
      rw [slot_size.eq _ _ hb]
      exact Ev.letS (Ev.neg (by rw [decide_eq_true_eq]; exact hs) (Ev.now _))
    · unfold vendmeterref_SlotLoaded.f
      rw [vendmeterref_SlotFits.eq _ _ hb]
      exact Ev.letS (Ev.neg (by rw [decide_eq_true_eq]; exact hs) (Ev.now _))

end Go.Proofs.Ytpoiaheehhnnhaa.Pure
