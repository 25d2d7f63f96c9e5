/- vendmeterlaw.SlotStores returns true at every two lists of words: slot.Store answers as the reference does, and both lists are as they were. No condition. -/
import Derived.Test.YtpoiaheehhnnhaaPSlotStoresxL
import Derived.Test.YtpoiaheehhnnhaaXLib
set_option linter.unusedVariables false
set_option linter.unusedSimpArgs false
namespace Go.Proofs.Ytpoiaheehhnnhaa.Pure
open Go.RowKit Go.Proofs.Ytpoiaheehhnnhaa.PSlotStores Go.Proofs.YtpoiaheehhnnhaaW.PrintWords Go.Proofs.YtpoiaheehhnnhaaW.PrintLast Go.Proofs.YtpoiaheehhnnhaaW.PrintMore Go.Proofs.YtpoiaheehhnnhaaW.XLib

def markOf (m : Int) : Int := if m > 3 then 0 else m
def newerOf (a b : Int) : Int := if markOf a = 0 ∧ markOf b = 0 then -1 else if markOf a = 0 then 1 else if markOf b = 0 ∨ markOf a = markOf b ∨ markOf b % 3 + 1 = markOf a then 0 else 1
theorem newer_cases (a b : Int) : newerOf a b = -1 ∨ newerOf a b = 0 ∨ newerOf a b = 1 := by
  unfold newerOf
  split
  · exact .inl rfl
  · split
    · exact .inr (.inr rfl)
    · split
      · exact .inr (.inl rfl)
      · exact .inr (.inr rfl)
theorem slot_size.eq (w n : Int) (hn : -9223372036854775808 ≤ n ∧ n ≤ 9223372036854775807) : slot_size.f w n = some (decide ((1 ≤ n ∧ n ≤ 64) ∧ w = 2 * n + 2)) := by
  unfold slot_size.f
  by_cases h1 : n ≥ 1
  · by_cases h2 : n ≤ 64
    · rw [if_pos h1, if_pos h2, wr (a := n + 1) ⟨by omega, by omega⟩, wr (a := 2 * (n + 1)) ⟨by omega, by omega⟩]
      congr 1
      rw [Bool.eq_iff_iff]
      simp only [beq_iff_eq, decide_eq_true_eq]
      omega
    · rw [if_pos h1, if_neg h2]
      congr 1
      symm
      rw [decide_eq_false_iff_not]
      omega
  · rw [if_neg h1]
    congr 1
    symm
    rw [decide_eq_false_iff_not]
    omega
theorem slot_next.eq (m : Int) (h0 : 0 ≤ m) : slot_next.f m = some (m % 3 + 1) := by
  unfold slot_next.f
  rw [tm h0]
  congr 1
  omega
theorem slot_pair_mark.eq (l : List Int) (n : Nat) (hn : 1 ≤ n ∧ n ≤ 64) (hl : l.length = 2 * n + 2) (s : Int) (hs : s = 0 ∨ s = 1) : slot_pair_mark.f l (n : Int) s = some (markOf (rd l (s * ((n : Int) + 1)))) := by
  unfold slot_pair_mark.f markOf
  have e : wrap64 (s * wrap64 ((n : Int) + 1)) = s * ((n : Int) + 1) := by
    rw [wr (a := (n : Int) + 1) ⟨by omega, by omega⟩]
    rcases hs with rfl | rfl <;> exact wr ⟨by omega, by omega⟩
  rw [e, if_pos (by rcases hs with rfl | rfl <;> omega), if_pos (by rcases hs with rfl | rfl <;> omega)]
  split <;> rfl
theorem slot_pair_newer.ev (l : List Int) (n : Nat) (hn : 1 ≤ n ∧ n ≤ 64) (hl : l.length = 2 * n + 2) (h0 : 0 ≤ rd l 0) (h1 : 0 ≤ rd l ((n : Int) + 1)) : Ev (fun k => slot_pair_newer.f k l (n : Int)) (newerOf (rd l 0) (rd l ((n : Int) + 1))) := by
  unfold slot_pair_newer.f
  rw [slot_pair_mark.eq l n hn hl 0 (.inl rfl), slot_pair_mark.eq l n hn hl 1 (.inr rfl), Int.zero_mul, Int.one_mul]
  have hm : 0 ≤ markOf (rd l ((n : Int) + 1)) := by unfold markOf; split <;> omega
  simp only [Option.bind_some]
  unfold newerOf
  generalize markOf (rd l 0) = a
  generalize markOf (rd l ((n : Int) + 1)) = b at hm
  by_cases ha : a = 0
  · refine Ev.pos ha ?_
    by_cases hb : b = 0
    · rw [if_pos ⟨ha, hb⟩]
      refine Ev.step (f := fun _ => some (-1)) (fun k => ?_) (Ev.now _)
      simp only [slot_pair_newer.j0, hb]; rfl
    · rw [if_neg (by omega), if_pos ha]
      refine Ev.step (f := fun _ => some 1) (fun k => ?_) (Ev.now _)
      simp only [slot_pair_newer.j0, ha, if_true, beq_eq_false_iff_ne.2 hb]; rfl
  · refine Ev.neg ha ?_
    rw [if_neg (by omega), if_neg ha]
    by_cases hb : b = 0
    · rw [if_pos (.inl hb)]
      refine Ev.step (f := fun _ => some 0) (fun k => ?_) (Ev.now _)
      simp only [slot_pair_newer.j0, ha, hb, if_true, if_false]; rfl
    · by_cases hab : a = b
      · rw [if_pos (.inr (.inl hab))]
        refine Ev.step (f := fun _ => some 0) (fun k => ?_) (Ev.now _)
        subst hab
        simp only [slot_pair_newer.j0, ha, if_true, if_false]; rfl
      · by_cases hc : b % 3 + 1 = a
        · rw [if_pos (.inr (.inr hc))]
          refine Ev.step (f := fun _ => some 0) (fun k => ?_) (Ev.now _)
          simp only [slot_pair_newer.j0, ha, hb, hab, slot_next.eq b hm, Option.bind_some, hc, if_true, if_false]; rfl
        · rw [if_neg (by omega)]
          refine Ev.step (f := fun _ => some 1) (fun k => ?_) (Ev.now _)
          simp only [slot_pair_newer.j0, ha, hb, hab, slot_next.eq b hm, Option.bind_some, hc, if_false]; rfl
theorem vendmeterref_In.eq (a b c : Int) : vendmeterref_In.f a b c = some (decide (b ≤ a ∧ a ≤ c)) := by
  unfold vendmeterref_In.f
  by_cases h : b ≤ a
  · rw [if_pos h]; simp [h]
  · rw [if_neg h]; simp [h]
theorem vendmeterref_SlotFits.eq (w n : Int) (hn : -9223372036854775808 ≤ n ∧ n ≤ 9223372036854775807) : vendmeterref_SlotFits.f w n = some (decide ((1 ≤ n ∧ n ≤ 64) ∧ w = 2 * n + 2)) := by
  unfold vendmeterref_SlotFits.f
  simp only [vendmeterref_In.eq, Option.bind_some]
  by_cases h : 1 ≤ n ∧ n ≤ 64
  · simp only [h, and_self, true_and, decide_true, if_true]
    rw [wr (a := 2 * n) ⟨by omega, by omega⟩, wr (a := 2 * n + 2) ⟨by omega, by omega⟩]
    congr 1
  · simp only [h, false_and, decide_false]; rfl
theorem follows_eq (a b : Int) : vendmeterref_follows.f a b = some (decide ((a = 1 ∧ b = 2) ∨ (a = 2 ∧ b = 3) ∨ (a = 3 ∧ b = 1))) := by
  unfold vendmeterref_follows.f
  by_cases h1 : a = 1
  · subst h1
    by_cases h2 : b = 2
    · simp [h2]
    · simp [h2]
  · by_cases h2 : a = 2
    · subst h2
      by_cases h3 : b = 3
      · simp [h3]
      · simp [h3]
    · by_cases h3 : a = 3
      · subst h3
        by_cases h4 : b = 1 <;> simp [h4]
      · simp [h1, h2, h3]
set_option maxHeartbeats 2000000 in
theorem counts_ev (l : List Int) (n : Nat) (hn : 1 ≤ n ∧ n ≤ 64) (hl : l.length = 2 * n + 2) (h0 : 0 ≤ rd l 0) (h1 : 0 ≤ rd l ((n : Int) + 1)) : Ev (fun k => vendmeterref_counts.f k l (n : Int)) (if newerOf (rd l 0) (rd l ((n : Int) + 1)) = -1 then 2 else newerOf (rd l 0) (rd l ((n : Int) + 1))) := by
  unfold vendmeterref_counts.f
  rw [wr (a := (n : Int) + 1) ⟨by omega, by omega⟩]
  generalize rd l ((n : Int) + 1) = b at *
  generalize rd l 0 = a at *
  refine Ev.pos (by omega) (Ev.pos (by omega) (Ev.pos (by omega) ?_))
  have key : ∀ x : Bool, x = decide (1 ≤ a ∧ a ≤ 3) → Ev (fun k => vendmeterref_counts.j0 k a b x) (if newerOf a b = -1 then 2 else newerOf a b) := by
    intro x hx
    have key2 : ∀ y : Bool, y = decide (1 ≤ b ∧ b ≤ 3) → Ev (fun k => vendmeterref_counts.j1 k a b x y) (if newerOf a b = -1 then 2 else newerOf a b) := by
      intro y hy
      by_cases ha : 1 ≤ a ∧ a ≤ 3
      · have hx' : x = true := by rw [hx]; simpa using ha
        by_cases hb : 1 ≤ b ∧ b ≤ 3
        · have hy' : y = true := by rw [hy]; simpa using hb
          subst hx' hy'
          refine Ev.step (f := fun k => vendmeterref_counts.j2 k a b true true false) (fun k => rfl) (Ev.step (f := fun k => vendmeterref_counts.j3 k a b true true) (fun k => rfl) (Ev.step (f := fun _ => if decide ((a = 1 ∧ b = 2) ∨ (a = 2 ∧ b = 3) ∨ (a = 3 ∧ b = 1)) = true then some 1 else some 0) (fun k => by simp only [vendmeterref_counts.j3, follows_eq, if_true, Option.bind_some]) ?_))
          have hma : markOf a = a := by unfold markOf; rw [if_neg (by omega)]
          have hmb : markOf b = b := by unfold markOf; rw [if_neg (by omega)]
          refine Ev.split (fun c => Ev.ret ?_) (fun c => Ev.ret ?_)
          · rw [decide_eq_true_eq] at c
            unfold newerOf
            rw [hma, hmb, if_neg (by omega : ¬ (a = 0 ∧ b = 0)), if_neg (by omega : ¬ a = 0), if_neg (show ¬ (b = 0 ∨ a = b ∨ b % 3 + 1 = a) by omega)]; rfl
          · rw [decide_eq_true_eq] at c
            unfold newerOf
            rw [hma, hmb, if_neg (by omega : ¬ (a = 0 ∧ b = 0)), if_neg (by omega : ¬ a = 0), if_pos (show b = 0 ∨ a = b ∨ b % 3 + 1 = a by omega)]; rfl
        · have hy' : y = false := by rw [hy]; simpa using hb
          subst hx' hy'
          refine Ev.step (f := fun k => vendmeterref_counts.j2 k a b true false false) (fun k => rfl) (Ev.step (f := fun k => vendmeterref_counts.j3 k a b false false) (fun k => rfl) (Ev.step (f := fun _ => some 0) (fun k => rfl) (Ev.ret ?_)))
          have hma : markOf a = a := by unfold markOf; rw [if_neg (by omega)]
          have hmb : markOf b = 0 := by unfold markOf; split <;> omega
          unfold newerOf
          rw [hma, hmb, if_neg (by omega : ¬ (a = 0 ∧ (0 : Int) = 0)), if_neg (by omega : ¬ a = 0), if_pos (show (0 : Int) = 0 ∨ a = 0 ∨ (0 : Int) % 3 + 1 = a from .inl rfl)]; rfl
      · have hx' : x = false := by rw [hx]; simpa using ha
        have hma : markOf a = 0 := by unfold markOf; split <;> omega
        by_cases hb : 1 ≤ b ∧ b ≤ 3
        · have hy' : y = true := by rw [hy]; simpa using hb
          subst hx' hy'
          refine Ev.step (f := fun k => vendmeterref_counts.j2 k a b false true false) (fun k => rfl) (Ev.step (f := fun k => vendmeterref_counts.j3 k a b true false) (fun k => rfl) (Ev.step (f := fun _ => some 1) (fun k => rfl) (Ev.ret ?_)))
          have hmb : markOf b = b := by unfold markOf; rw [if_neg (by omega)]
          unfold newerOf
          rw [hma, hmb, if_neg (by omega : ¬ ((0 : Int) = 0 ∧ b = 0)), if_pos (show (0 : Int) = 0 from rfl)]; rfl
        · have hy' : y = false := by rw [hy]; simpa using hb
          subst hx' hy'
          refine Ev.step (f := fun k => vendmeterref_counts.j2 k a b false false true) (fun k => rfl) (Ev.step (f := fun _ => some 2) (fun k => rfl) (Ev.ret ?_))
          have hmb : markOf b = 0 := by unfold markOf; split <;> omega
          unfold newerOf
          rw [hma, hmb, if_pos (show (0 : Int) = 0 ∧ (0 : Int) = 0 from ⟨rfl, rfl⟩)]; rfl
    by_cases hb1 : b ≥ 1
    · exact Ev.step (f := fun k => vendmeterref_counts.j1 k a b x (decide (b ≤ 3))) (fun k => by simp only [vendmeterref_counts.j0]; rw [if_pos hb1]) (key2 _ (by congr 1; simp only [eq_iff_iff]; omega))
    · exact Ev.step (f := fun k => vendmeterref_counts.j1 k a b x false) (fun k => by simp only [vendmeterref_counts.j0]; rw [if_neg hb1]) (key2 _ (by symm; rw [decide_eq_false_iff_not]; omega))
  by_cases ha1 : a ≥ 1
  · exact Ev.pos ha1 (key _ (by congr 1; simp only [eq_iff_iff]; omega))
  · exact Ev.neg ha1 (key _ (by symm; rw [decide_eq_false_iff_not]; omega))
theorem vendmeterlaw_sameWords.ev (l) (hl : l.length ≤ 1152921504606846976) : Ev (fun k => vendmeterlaw_sameWords.f k l l) true := by
  unfold vendmeterlaw_sameWords.f
  refine Ev.pos rfl (same_ev hl (fun k i hi => ?_) (fun k => ?_))
  · simp only [vendmeterlaw_sameWords.l0]; rw [if_pos (by omega), if_pos (by omega), if_pos (by omega)]; simp
  · simp only [vendmeterlaw_sameWords.l0]; rw [if_neg (by omega)]
theorem vendmeterlaw_sameWrites.ev (l) (hl : l.length ≤ 1152921504606846976) : Ev (fun k => vendmeterlaw_sameWrites.f k l l) true := by
  unfold vendmeterlaw_sameWrites.f
  refine Ev.pos rfl (same_ev hl (fun k i hi => ?_) (fun k => ?_))
  · simp only [vendmeterlaw_sameWrites.l0]; rw [if_pos (by omega), if_pos (by omega), if_pos (by omega)]; simp
  · simp only [vendmeterlaw_sameWrites.l0]; rw [if_neg (by omega)]
theorem vendmeterlaw_words.eq (l) (h : l.length * 4 ≤ 140737488351232) : vendmeterlaw_words.f l = some l := by
  unfold vendmeterlaw_words.f
  rw [if_pos (by simp only [List.length_nil]; omega)]; rfl

theorem rd_nn {l : List Int} (h : ∀ y ∈ l, (Lit.int .u32 y).wf = true) (i : Int) : 0 ≤ rd l i ∧ rd l i ≤ 4294967295 := by
  unfold rd
  rcases Nat.lt_or_ge i.toNat l.length with h1 | h1
  · exact wfu32 (h _ (getD_mem l _ 0 h1))
  · rw [List.getD_eq_getElem?_getD, List.getElem?_eq_none h1]; exact ⟨by decide, by decide⟩
def wrs (o : Nat) : List Int → List S65
  | [] => []
  | x :: l => ⟨(o : Int), x⟩ :: wrs (o + 1) l
theorem wrs_snoc (x : Int) : ∀ (o : Nat) (l : List Int), wrs o (l ++ [x]) = wrs o l ++ [⟨((o + l.length : Nat) : Int), x⟩]
  | o, [] => by simp [wrs]
  | o, y :: l => by
    simp only [List.cons_append, wrs, wrs_snoc x (o + 1) l, List.length_cons]
    congr 4
    omega
theorem wrs_len : ∀ (o : Nat) (l : List Int), (wrs o l).length = l.length
  | _, [] => rfl
  | o, _ :: l => by simp [wrs, wrs_len (o + 1) l]
def storeAns (r : List Int) (other : Nat) (m : Int) : List S65 := ⟨(other : Int), 0⟩ :: (wrs (other + 1) r ++ [⟨(other : Int), m⟩])
theorem mark3 (a b : Int) (ha : 0 ≤ a) (hb : 0 ≤ b) (h : newerOf a b = 0) : 1 ≤ a ∧ a ≤ 3 := by
  have hm : ¬ markOf a = 0 := by
    intro hm
    unfold newerOf at h
    by_cases hb0 : markOf b = 0
    · rw [if_pos ⟨hm, hb0⟩] at h; omega
    · rw [if_neg (fun x => hb0 x.2), if_pos hm] at h; omega
  unfold markOf at hm
  by_cases h3 : a > 3
  · rw [if_pos h3] at hm; exact absurd rfl hm
  · rw [if_neg h3] at hm; omega
theorem mark4 (a b : Int) (ha : 0 ≤ a) (hb : 0 ≤ b) (h : newerOf a b = 1) : 1 ≤ b ∧ b ≤ 3 := by
  have hm : ¬ markOf b = 0 := by
    intro hm
    unfold newerOf at h
    by_cases ha0 : markOf a = 0
    · rw [if_pos ⟨ha0, hm⟩] at h; omega
    · rw [if_neg (fun x => ha0 x.1), if_neg ha0, if_pos (.inl hm)] at h; omega
  unfold markOf at hm
  by_cases h3 : b > 3
  · rw [if_pos h3] at hm; exact absurd rfl hm
  · rw [if_neg h3] at hm; omega
theorem store_p (l r : List Int) (n : Nat) (hr : r.length = n) (hn : 1 ≤ n ∧ n ≤ 64) (hll : l.length = 2 * n + 2) (s : Nat) (hs1 : s ≤ 1) (m : Int) (hm : rd l ((s : Int) * ((n : Int) + 1)) = m) (hm1 : 1 ≤ m ∧ m ≤ 3) (hnew : Ev (fun k => slot_pair_newer.f k l (n : Int)) (s : Int)) :
    Ev (fun k => slot_Store.f k l r) (storeAns r ((1 - s) * (n + 1)) (m % 3 + 1), 0) := by
  unfold slot_Store.f
  rw [slot_size.eq _ _ ⟨by omega, by omega⟩]
  refine Ev.letS (Ev.pos (by rw [decide_eq_true_eq]; omega) ?_)
  rw [hr]
  refine Ev.bind hnew (Ev.neg (by omega) ?_)
  have hz : wrap64 (wrap64 (1 - (s : Int)) * wrap64 ((n : Int) + 1)) = (((1 - s) * (n + 1) : Nat) : Int) := by
    rcases (show s = 0 ∨ s = 1 by omega) with rfl | rfl
    · rw [wr (a := 1 - ((0 : Nat) : Int)) ⟨by omega, by omega⟩, wr (a := (n : Int) + 1) ⟨by omega, by omega⟩, wr ⟨by omega, by omega⟩]; omega
    · rw [wr (a := 1 - ((1 : Nat) : Int)) ⟨by omega, by omega⟩, wr (a := (n : Int) + 1) ⟨by omega, by omega⟩, wr ⟨by omega, by omega⟩]; omega
  have hzb : (1 - s) * (n + 1) ≤ n + 1 := by rcases (show s = 0 ∨ s = 1 by omega) with rfl | rfl <;> omega
  rw [hz]
  clear hz hnew
  generalize (1 - s) * (n + 1) = z at hzb
  have key := down (P := fun i => Ev (fun k => slot_Store.l0 k (s : Int) (z : Int) (⟨(z : Int), 0⟩ :: wrs (z + 1) (r.take i)) r (n : Int) (i : Int) l (n : Int)) (storeAns r z (m % 3 + 1), 0)) (n := n) (by
    refine Ev.step (f := fun _ => some (storeAns r z (m % 3 + 1), 0)) (fun k => ?_) (Ev.now _)
    simp only [slot_Store.l0, slot_pair_mark.eq l n hn hll (s : Int) (by omega), hm]
    rw [show markOf m = m by unfold markOf; rw [if_neg (by omega)]]
    simp only [slot_next.eq m (by omega), Option.bind_some]
    rw [if_neg (by omega), List.take_of_length_le (by omega), if_pos (by simp only [List.length_cons, wrs_len]; omega)]
    rfl) (by
    intro i hi ih
    refine Ev.step (fun k => ?_) ih
    simp only [slot_Store.l0, rd_nat]
    rw [if_pos (by omega), if_pos (by omega), if_pos (by omega), if_pos (by simp only [List.length_cons, wrs_len, List.length_take]; omega), wr (a := (z : Int) + 1) ⟨by omega, by omega⟩, wr (a := (z : Int) + 1 + (i : Int)) ⟨by omega, by omega⟩, wn (show i < n by omega) (by omega), take_getD r i 0 (by omega), wrs_snoc]
    rw [List.cons_append, List.length_take, Nat.min_eq_left (by omega), show (z : Int) + 1 + (i : Int) = ((z + 1 + i : Nat) : Int) by omega])
  exact key
theorem store_q (l r : List Int) (n : Nat) (hr : r.length = n) (hn : 1 ≤ n ∧ n ≤ 64) (hll : l.length = 2 * n + 2) (s : Nat) (hs1 : s ≤ 1) (m : Int) (hm : rd l ((s : Int) * ((n : Int) + 1)) = m) (hm1 : 1 ≤ m ∧ m ≤ 3) (hcnt : Ev (fun k => vendmeterref_counts.f k l (n : Int)) (s : Int)) :
    Ev (fun k => vendmeterref_SlotStored.f k l r) (storeAns r ((1 - s) * (n + 1)) (m % 3 + 1), 0) := by
  unfold vendmeterref_SlotStored.f
  rw [vendmeterref_SlotFits.eq _ _ ⟨by omega, by omega⟩]
  refine Ev.letS (Ev.pos (by rw [decide_eq_true_eq]; omega) ?_)
  rw [hr]
  refine Ev.bind hcnt (Ev.neg (by omega) ?_)
  have key0 : ∀ z : Nat, z ≤ n + 1 → Ev (fun k => vendmeterref_SlotStored.j1 k r (n : Int) (z : Int) (m % 3 + 1)) (storeAns r z (m % 3 + 1), 0) := by
    intro z hzb
    have key := down (P := fun i => Ev (fun k => vendmeterref_SlotStored.l0 k r (n : Int) (z : Int) (m % 3 + 1) (⟨(z : Int), 0⟩ :: wrs (z + 1) (r.take i)) (i : Int)) (storeAns r z (m % 3 + 1), 0)) (n := n) (by
      refine Ev.step (f := fun _ => some (storeAns r z (m % 3 + 1), 0)) (fun k => ?_) (Ev.now _)
      simp only [vendmeterref_SlotStored.l0]
      rw [if_neg (by omega), List.take_of_length_le (by omega), if_pos (by simp only [List.length_cons, wrs_len]; omega)]
      rfl) (by
      intro i hi ih
      refine Ev.step (fun k => ?_) ih
      simp only [vendmeterref_SlotStored.l0, rd_nat]
      rw [if_pos (by omega), if_pos (by omega), if_pos (by omega), if_pos (by simp only [List.length_cons, wrs_len, List.length_take]; omega), wr (a := (z : Int) + 1) ⟨by omega, by omega⟩, wr (a := (z : Int) + 1 + (i : Int)) ⟨by omega, by omega⟩, wn (show i < n by omega) (by omega), take_getD r i 0 (by omega), wrs_snoc]
      rw [List.cons_append, List.length_take, Nat.min_eq_left (by omega), show (z : Int) + 1 + (i : Int) = ((z + 1 + i : Nat) : Int) by omega])
    exact Ev.step (fun k => rfl) key
  have key1 : ∀ z : Nat, z ≤ n + 1 → Ev (fun k => vendmeterref_SlotStored.j0 k l r (n : Int) (s : Int) (z : Int)) (storeAns r z (m % 3 + 1), 0) := by
    intro z hzb
    have e1 : (s : Int) * ((n : Int) + 1) < (l.length : Int) ∧ 0 ≤ (s : Int) * ((n : Int) + 1) := by
      rcases (show s = 0 ∨ s = 1 by omega) with rfl | rfl <;> omega
    refine Ev.step (fun k => ?_) (key0 z hzb)
    simp only [vendmeterref_SlotStored.j0]
    rw [wr (a := (n : Int) + 1) ⟨by omega, by omega⟩, wr (a := (s : Int) * ((n : Int) + 1)) ⟨by omega, by omega⟩, if_pos e1.2, if_pos e1.1, hm]
    rcases (show m = 1 ∨ m = 2 ∨ m = 3 by omega) with rfl | rfl | rfl <;> rfl
  rcases (show s = 0 ∨ s = 1 by omega) with rfl | rfl
  · refine Ev.pos rfl ?_
    rw [wr (a := (n : Int) + 1) ⟨by omega, by omega⟩]
    have := key1 (n + 1) (Nat.le_refl _)
    rw [show (1 - 0) * (n + 1) = n + 1 by omega]
    exact this
  · refine Ev.neg (by decide) ?_
    have := key1 0 (by omega)
    rw [show (1 - 1) * (n + 1) = 0 by omega]
    exact this
theorem SlotStores : vendmeterlaw_SlotStores.Pure := by
  intro l r h hr
  have h4 := h.1
  have h5 := hr.1
  refine Ev.rounds ?_
  unfold vendmeterlaw_SlotStores.f
  rw [vendmeterlaw_words.eq l h.1, vendmeterlaw_words.eq r hr.1]
  refine Ev.letS (Ev.letS ?_)
  have hl : l.length ≤ 1152921504606846976 := by omega
  have hl2 : r.length ≤ 1152921504606846976 := by omega
  have fin : ∀ x : List S65 × Int, x.1.length ≤ 70 → Ev (fun k => slot_Store.f k l r) x → Ev (fun k => vendmeterref_SlotStored.f k l r) x → Ev (fun k => (slot_Store.f k l r).bind fun x => (vendmeterref_SlotStored.f k l r).bind fun y => if x.2 = y.2 then (vendmeterlaw_sameWrites.f k x.1 y.1).bind fun z => if z = true then (vendmeterlaw_sameWords.f k l l).bind fun u => if u = true then (vendmeterlaw_sameWords.f k r r).bind fun v => some v else some false else some false else some false) true := by
    intro x hx p q
    exact Ev.bind p (Ev.bind q (Ev.pos rfl (Ev.bind (vendmeterlaw_sameWrites.ev _ (by omega)) (Ev.pos rfl (Ev.bind (vendmeterlaw_sameWords.ev l hl) (Ev.pos rfl (Ev.bind (vendmeterlaw_sameWords.ev r hl2) (Ev.now _))))))))
  by_cases hs : (1 ≤ r.length ∧ r.length ≤ 64) ∧ l.length = 2 * r.length + 2
  · obtain ⟨hn', hll⟩ := hs
    have h0 := rd_nn h.2 0
    have h1 := rd_nn h.2 ((r.length : Int) + 1)
    have hnew := slot_pair_newer.ev l r.length hn' hll h0.1 h1.1
    have hcnt := counts_ev l r.length hn' hll h0.1 h1.1
    have m3 := mark3 _ _ h0.1 h1.1
    have m4 := mark4 _ _ h0.1 h1.1
    rcases newer_cases (rd l 0) (rd l ((r.length : Int) + 1)) with e | e | e
    · rw [e] at hnew hcnt
      refine fin ([], 17) (by simp) ?_ ?_
      · unfold slot_Store.f
        rw [slot_size.eq _ _ ⟨by omega, by omega⟩]
        exact Ev.letS (Ev.pos (by rw [decide_eq_true_eq]; omega) (Ev.bind hnew (Ev.pos (by decide) (Ev.now _))))
      · unfold vendmeterref_SlotStored.f
        rw [vendmeterref_SlotFits.eq _ _ ⟨by omega, by omega⟩]
        exact Ev.letS (Ev.pos (by rw [decide_eq_true_eq]; omega) (Ev.bind hcnt (Ev.pos (by decide) (Ev.now _))))
    · rw [e] at hnew hcnt
      exact fin _ (by simp [storeAns, wrs_len]; omega) (store_p l r r.length rfl hn' hll 0 (by omega) (rd l 0) (by simp) (m3 e) hnew) (store_q l r r.length rfl hn' hll 0 (by omega) (rd l 0) (by simp) (m3 e) hcnt)
    · rw [e] at hnew hcnt
      exact fin _ (by simp [storeAns, wrs_len]; omega) (store_p l r r.length rfl hn' hll 1 (by omega) (rd l ((r.length : Int) + 1)) (by simp) (m4 e) hnew) (store_q l r r.length rfl hn' hll 1 (by omega) (rd l ((r.length : Int) + 1)) (by simp) (m4 e) hcnt)
  · refine fin ([], 1) (by simp) ?_ ?_
    · unfold slot_Store.f
      rw [slot_size.eq _ _ ⟨by omega, by omega⟩]
      exact Ev.letS (Ev.neg (by rw [decide_eq_true_eq]; omega) (Ev.now _))
    · unfold vendmeterref_SlotStored.f
      rw [vendmeterref_SlotFits.eq _ _ ⟨by omega, by omega⟩]
      exact Ev.letS (Ev.neg (by rw [decide_eq_true_eq]; omega) (Ev.now _))

end Go.Proofs.Ytpoiaheehhnnhaa.Pure
