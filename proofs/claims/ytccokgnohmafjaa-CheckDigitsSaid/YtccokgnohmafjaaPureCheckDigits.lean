/- vendmeterlaw.CheckDigits returns true at every text: check.Digit answers as the reference does. No condition. -/
import Derived.Test.YtccokgnohmafjaaPCheckDigitsx2
import Derived.Test.YtccokgnohmafjaaXLib
set_option linter.unusedVariables false
set_option linter.unusedSimpArgs false
namespace Go.Proofs.Ytccokgnohmafjaa.Pure
open Go.RowKit Go.Proofs.Ytccokgnohmafjaa.PCheckDigits Go.Proofs.YtccokgnohmafjaaW.PrintWords Go.Proofs.YtccokgnohmafjaaW.PrintLast Go.Proofs.YtccokgnohmafjaaW.PrintMore Go.Proofs.YtccokgnohmafjaaW.XLib

def okAt (s : ByteArray) (p : Nat) : Bool := decide (48 ≤ bt s (p : Int) ∧ bt s (p : Int) ≤ 57)
def okFrom (s : ByteArray) : Nat → Nat → Bool
  | 0, _ => true
  | m + 1, p => okAt s p && okFrom s m (p + 1)
def digAns (s : ByteArray) : Int := if (s.size : Int) < 1 then 1 else if (s.size : Int) > 200 then 1 else if okFrom s s.size 0 = true then 0 else 7
theorem bt_nat (s : ByteArray) (p : Nat) (h : p < s.size) : bt s (p : Int) = ((s[p]'h).toNat : Int) := by
  unfold bt
  rw [dif_pos (show (p : Int).toNat < s.size by simpa using h)]
  simp
theorem okFrom_at {s : ByteArray} : ∀ {m p : Nat}, okFrom s m p = true → ∀ i, p ≤ i → i < p + m → okAt s i = true
  | 0, p, _, i, h1, h2 => by omega
  | m + 1, p, h, i, h1, h2 => by
    simp only [okFrom, Bool.and_eq_true] at h
    rcases Nat.eq_or_lt_of_le h1 with e | e
    · rw [← e]; exact h.1
    · exact okFrom_at h.2 i e (by omega)
theorem decode_ok (s : ByteArray) (p : Nat) (h : p < s.size) (hk : okAt s p = true) : Utf8.decode s p = ((bt s (p : Int)).toNat, 1) := by
  unfold okAt at hk
  rw [decide_eq_true_eq, bt_nat s p h] at hk
  rw [decode_ascii s p h (by omega), bt_nat s p h]
  simp
theorem decode_no (s : ByteArray) (p : Nat) (h : p < s.size) (hk : okAt s p = false) : ((Utf8.decode s p).1 : Int) < 48 ∨ ((Utf8.decode s p).1 : Int) > 57 := by
  unfold okAt at hk
  rw [decide_eq_false_iff_not, bt_nat s p h] at hk
  by_cases h8 : (s[p]'h).toNat < 128
  · rw [decode_ascii s p h h8]
    dsimp only
    omega
  · have := (decode_high s p h (by omega)).1
    omega
theorem check_digits.l0_ev (s : ByteArray) : ∀ m p : Nat, p + m = s.size → Ev (fun k => check_digits.l0 k s p) (if okFrom s m p = true then 0 else 7)
  | 0, p, h => by
    refine Ev.succ ?_
    simp only [check_digits.l0]
    exact Ev.neg (by omega) (Ev.ret (by simp [okFrom]))
  | m + 1, p, h => by
    refine Ev.succ ?_
    simp only [check_digits.l0]
    refine Ev.pos (by omega) ?_
    by_cases hk : okAt s p = true
    · have hd := decode_ok s p (by omega) hk
      have hb := hk
      unfold okAt at hb
      rw [decide_eq_true_eq] at hb
      rw [hd]
      dsimp only
      refine Ev.neg (by omega) (Ev.neg (by omega) ?_)
      have ih := check_digits.l0_ev s m (p + 1) (by omega)
      simpa [okFrom, hk] using ih
    · have hk' : okAt s p = false := Bool.eq_false_iff.mpr hk
      refine Ev.eq (show (7 : Int) = _ by simp [okFrom, hk']) ?_
      rcases decode_no s p (by omega) hk' with g | g
      · exact Ev.pos g (Ev.now _)
      · exact Ev.neg (by omega) (Ev.pos g (Ev.now _))
theorem empty_iff (s : ByteArray) : s.toList.isEmpty = true ↔ (s.size : Int) < 1 := by
  rw [ByteArray.toList_eq, List.isEmpty_iff_length_eq_zero]
  show s.size = 0 ↔ _
  omega
theorem check_digits.ev (s : ByteArray) : Ev (fun k => check_digits.f k s) (digAns s) := by
  unfold check_digits.f digAns
  by_cases h : (s.size : Int) < 1
  · exact Ev.eq (if_pos h).symm (Ev.pos ((empty_iff s).2 h) (Ev.now _))
  · refine Ev.eq (if_neg h).symm (Ev.neg (fun z => h ((empty_iff s).1 z)) (Ev.iteR (fun g => Ev.now _) (fun g => ?_)))
    exact check_digits.l0_ev s s.size 0 (by omega)
theorem vendmeterref_Digit.eq (a : Int) : vendmeterref_Digit.f a = some (decide (48 ≤ a ∧ a ≤ 57)) := by
  unfold vendmeterref_Digit.f
  by_cases h : 48 ≤ a
  · rw [if_pos h]; simp [h]
  · rw [if_neg h]; simp [h]
theorem vendmeterref_DigitsMay.l0_ev (s : ByteArray) (hs : (s.size : Int) ≤ 200) : ∀ m p : Nat, p + m = s.size → Ev (fun k => vendmeterref_DigitsMay.l0 k s (p : Int)) (if okFrom s m p = true then 0 else 7)
  | 0, p, h => by
    refine Ev.succ ?_
    simp only [vendmeterref_DigitsMay.l0]
    exact Ev.neg (by omega) (Ev.ret (by simp [okFrom]))
  | m + 1, p, h => by
    refine Ev.succ ?_
    simp only [vendmeterref_DigitsMay.l0, vendmeterref_Digit.eq, Option.bind_some]
    refine Ev.pos (by omega) (Ev.pos (by omega) ?_)
    rw [wr (a := (p : Int) + 1) ⟨by omega, by omega⟩]
    by_cases hk : okAt s p = true
    · refine Ev.pos hk ?_
      have ih := vendmeterref_DigitsMay.l0_ev s hs m (p + 1) (by omega)
      simpa [okFrom, hk] using ih
    · have hk' : okAt s p = false := Bool.eq_false_iff.mpr hk
      exact Ev.eq (show (7 : Int) = _ by simp [okFrom, hk']) (Ev.neg hk (Ev.now _))
theorem vendmeterref_DigitsMay.ev (s : ByteArray) : Ev (fun k => vendmeterref_DigitsMay.f k s) (digAns s) := by
  have jT : Ev (fun k => vendmeterref_DigitsMay.j0 k s true) 1 := Ev.step (f := fun _ => some 1) (fun k => rfl) (Ev.now _)
  unfold vendmeterref_DigitsMay.f digAns
  refine Ev.iteR (fun h => jT) (fun h => ?_)
  by_cases g : (s.size : Int) > 200
  · rw [decide_eq_true g]
    exact Ev.eq (if_pos g).symm jT
  · rw [decide_eq_false g]
    refine Ev.eq (if_neg g).symm (Ev.succ ?_)
    simp only [vendmeterref_DigitsMay.j0, Bool.false_eq_true, if_false]
    exact vendmeterref_DigitsMay.l0_ev s (by omega) s.size 0 (by omega)
theorem Ev.ofMono {α : Type} {f : Nat → Option α} (hm : ∀ k, LeO (f k) (f (k + 1))) {k0 : Nat} {r : α} (h : f k0 = some r) : Ev f r := by
  refine ⟨k0, fun k hk => ?_⟩
  induction hk with
  | refl => exact h
  | step _ ih => exact hm _ _ ih
def tv (d n : Int) : Int := (check_moved.f 9 d n).getD 0
def mv (a b : Int) : Int := (check_turn_then.f a b).getD 0
theorem tv_all : ∀ d : Fin 10, ∀ n : Fin 8, check_moved.f 9 (d.val : Int) (n.val : Int) = some (tv (d.val : Int) (n.val : Int)) ∧ vendmeterref_turned.f 9 (d.val : Int) (n.val : Int) = some (tv (d.val : Int) (n.val : Int)) ∧ 0 ≤ tv (d.val : Int) (n.val : Int) ∧ tv (d.val : Int) (n.val : Int) ≤ 9 := by decide +kernel
theorem mv_all : ∀ a b : Fin 10, check_turn_then.f (a.val : Int) (b.val : Int) = some (mv (a.val : Int) (b.val : Int)) ∧ vendmeterref_Moved.f 12 (a.val : Int) (b.val : Int) = some (mv (a.val : Int) (b.val : Int), 0) ∧ 0 ≤ mv (a.val : Int) (b.val : Int) ∧ mv (a.val : Int) (b.val : Int) ≤ 9 := by decide +kernel
theorem tv_at (d n : Int) (hd : 0 ≤ d ∧ d ≤ 9) (hn : 0 ≤ n ∧ n < 8) : check_moved.f 9 d n = some (tv d n) ∧ vendmeterref_turned.f 9 d n = some (tv d n) ∧ 0 ≤ tv d n ∧ tv d n ≤ 9 := by
  have h := tv_all ⟨d.toNat, by omega⟩ ⟨n.toNat, by omega⟩
  dsimp only at h
  rwa [show ((d.toNat : Nat) : Int) = d by omega, show ((n.toNat : Nat) : Int) = n by omega] at h
theorem mv_at (a b : Int) (ha : 0 ≤ a ∧ a ≤ 9) (hb : 0 ≤ b ∧ b ≤ 9) : check_turn_then.f a b = some (mv a b) ∧ vendmeterref_Moved.f 12 a b = some (mv a b, 0) ∧ 0 ≤ mv a b ∧ mv a b ≤ 9 := by
  have h := mv_all ⟨a.toNat, by omega⟩ ⟨b.toNat, by omega⟩
  dsimp only at h
  rwa [show ((a.toNat : Nat) : Int) = a by omega, show ((b.toNat : Nat) : Int) = b by omega] at h
theorem tmod8 (p : Int) (hp : 0 ≤ p) : Int.tmod p 8 = Int.tmod (p % 8) 8 := by
  rw [tm hp, tm (show 0 ≤ p % 8 by omega)]
  omega
theorem turned_l0 (p : Int) (hp : 0 ≤ p) (t : ByteArray) : ∀ k d i, vendmeterref_turned.l0 k d p t i = vendmeterref_turned.l0 k d (p % 8) t i
  | 0, _, _ => rfl
  | k + 1, d, i => by
    simp only [vendmeterref_turned.l0]
    rw [turned_l0 p hp t k, tmod8 p hp]
theorem moved_ev (d p : Int) (hd : 0 ≤ d ∧ d ≤ 9) (hp : 0 ≤ p) : Ev (fun k => check_moved.f k d p) (tv d (p % 8)) := by
  have e : ∀ k, check_moved.f k d p = check_moved.f k d (p % 8) := fun k => by unfold check_moved.f; rw [tmod8 p hp]
  simp only [e]
  exact Ev.ofMono (f := fun k => check_moved.f k d (p % 8)) (fun k => check_moved.mono _ _ k) (tv_at d (p % 8) hd (by omega)).1
theorem turned_ev (d p : Int) (hd : 0 ≤ d ∧ d ≤ 9) (hp : 0 ≤ p) : Ev (fun k => vendmeterref_turned.f k d p) (tv d (p % 8)) := by
  have e : ∀ k, vendmeterref_turned.f k d p = vendmeterref_turned.f k d (p % 8) := fun k => by unfold vendmeterref_turned.f; rw [turned_l0 p hp]
  simp only [e]
  exact Ev.ofMono (f := fun k => vendmeterref_turned.f k d (p % 8)) (fun k => vendmeterref_turned.mono _ _ k) (tv_at d (p % 8) hd (by omega)).2.1
theorem refMoved_ev (a b : Int) (ha : 0 ≤ a ∧ a ≤ 9) (hb : 0 ≤ b ∧ b ≤ 9) : Ev (fun k => vendmeterref_Moved.f k a b) (mv a b, 0) :=
  Ev.ofMono (f := fun k => vendmeterref_Moved.f k a b) (fun k => vendmeterref_Moved.mono _ _ k) (mv_at a b ha hb).2.1
/-- What j digits from the right fold to, the last one at the place fr. -/
def fold (s : ByteArray) (fr : Int) : Nat → Int
  | 0 => 0
  | j + 1 => mv (fold s fr j) (tv (bt s ((s.size : Int) - 1 - (j : Int)) - 48) ((fr + (j : Int)) % 8))
theorem ok_dig {s : ByteArray} (hok : okFrom s s.size 0 = true) {j : Nat} (hj : j < s.size) : 0 ≤ bt s ((s.size : Int) - 1 - (j : Int)) - 48 ∧ bt s ((s.size : Int) - 1 - (j : Int)) - 48 ≤ 9 := by
  have hk := okFrom_at hok (s.size - 1 - j) (by omega) (by omega)
  unfold okAt at hk
  rw [decide_eq_true_eq, show ((s.size - 1 - j : Nat) : Int) = (s.size : Int) - 1 - (j : Int) by omega] at hk
  omega
theorem fold_bd {s : ByteArray} (hok : okFrom s s.size 0 = true) (fr : Int) (hf : 0 ≤ fr) : ∀ j, j ≤ s.size → 0 ≤ fold s fr j ∧ fold s fr j ≤ 9
  | 0, _ => by simp [fold]
  | j + 1, h => (mv_at _ _ (fold_bd hok fr hf j (by omega)) (tv_at _ _ (ok_dig hok (by omega)) (by omega)).2.2).2.2
theorem check_all.ev {s : ByteArray} (hok : okFrom s s.size 0 = true) (hs : (s.size : Int) ≤ 300) (fr : Int) (hf : 0 ≤ fr ∧ fr ≤ 1) : Ev (fun k => check_all.f k s fr) (fold s fr s.size) := by
  unfold check_all.f
  have key := down (P := fun j => Ev (fun k => check_all.l0 k s fr (fold s fr j) (s.size : Int) (j : Int)) (fold s fr s.size)) (n := s.size) (by
    refine Ev.succ ?_
    simp only [check_all.l0]
    exact Ev.neg (by omega) (Ev.now _)) (by
    intro j hj ih
    have hd := ok_dig hok hj
    have hb := fold_bd hok fr hf.1 j (by omega)
    have ht := tv_at _ ((fr + (j : Int)) % 8) hd (by omega)
    refine Ev.succ ?_
    simp only [check_all.l0]
    rw [wr (a := (s.size : Int) - 1) ⟨by omega, by omega⟩, wr (a := (s.size : Int) - 1 - (j : Int)) ⟨by omega, by omega⟩, wr (a := fr + (j : Int)) ⟨by omega, by omega⟩, wr (a := (j : Int) + 1) ⟨by omega, by omega⟩]
    refine Ev.pos (by omega) (Ev.pos (by omega) (Ev.pos (by omega) ?_))
    rw [show (bt s ((s.size : Int) - 1 - (j : Int)) - 48) % 256 = bt s ((s.size : Int) - 1 - (j : Int)) - 48 by omega]
    refine Ev.bind (moved_ev _ _ hd (by omega)) ?_
    rw [(mv_at _ _ hb ht.2.2).1]
    exact Ev.letS ih)
  simpa [fold] using key
theorem vendmeterref_folded.ev {s : ByteArray} (hok : okFrom s s.size 0 = true) (hs : (s.size : Int) ≤ 300) (fr : Int) (hf : 0 ≤ fr ∧ fr ≤ 1) : Ev (fun k => vendmeterref_folded.f k s fr) (fold s fr s.size) := by
  unfold vendmeterref_folded.f
  have key := down (P := fun j => Ev (fun k => vendmeterref_folded.l0 k s (fr + (j : Int)) (fold s fr j) ((s.size : Int) - 1 - (j : Int))) (fold s fr s.size)) (n := s.size) (by
    refine Ev.succ ?_
    simp only [vendmeterref_folded.l0]
    exact Ev.neg (by omega) (Ev.now _)) (by
    intro j hj ih
    have hd := ok_dig hok hj
    have hb := fold_bd hok fr hf.1 j (by omega)
    have ht := tv_at _ ((fr + (j : Int)) % 8) hd (by omega)
    refine Ev.succ ?_
    simp only [vendmeterref_folded.l0]
    refine Ev.pos (by omega) (Ev.pos (by omega) (Ev.pos (by omega) ?_))
    rw [show (bt s ((s.size : Int) - 1 - (j : Int)) - 48) % 256 = bt s ((s.size : Int) - 1 - (j : Int)) - 48 by omega]
    refine Ev.bind (turned_ev _ _ hd (by omega)) (Ev.bind (refMoved_ev _ _ hb ht.2.2) ?_)
    dsimp only
    rw [wr (a := fr + (j : Int) + 1) ⟨by omega, by omega⟩, wr (a := (s.size : Int) - 1 - (j : Int) - 1) ⟨by omega, by omega⟩, show fr + (j : Int) + 1 = fr + ((j + 1 : Nat) : Int) by omega, show (s.size : Int) - 1 - (j : Int) - 1 = (s.size : Int) - 1 - ((j + 1 : Nat) : Int) by omega]
    exact ih)
  rw [wr (a := (s.size : Int) - 1) ⟨by omega, by omega⟩]
  simpa [fold] using key
theorem digAns_zero {s : ByteArray} (h : digAns s = 0) : 1 ≤ (s.size : Int) ∧ (s.size : Int) ≤ 200 ∧ okFrom s s.size 0 = true := by
  unfold digAns at h
  split at h
  · omega
  · split at h
    · omega
    · split at h
      · rename_i a b c; exact ⟨by omega, by omega, c⟩
      · omega

def bk (a : Int) : Int := (check_turn_back.f a).getD 0
theorem bk_all : ∀ d a : Fin 10, check_turn_back.f (a.val : Int) = some (bk (a.val : Int)) ∧ (0 ≤ bk (a.val : Int) ∧ bk (a.val : Int) ≤ 9) ∧ (mv (d.val : Int) (a.val : Int) = 0 ↔ (d.val : Int) = bk (a.val : Int)) := by decide +kernel
theorem as_all : ∀ a b c : Fin 10, mv (mv (a.val : Int) (b.val : Int)) (c.val : Int) = mv (a.val : Int) (mv (b.val : Int) (c.val : Int)) := by decide +kernel
theorem one_all : ∀ d : Fin 10, mv 0 (tv (d.val : Int) 0) = (d.val : Int) ∧ mv (d.val : Int) 0 = (d.val : Int) := by decide +kernel
theorem bk_at (d a : Int) (hd : 0 ≤ d ∧ d ≤ 9) (ha : 0 ≤ a ∧ a ≤ 9) : check_turn_back.f a = some (bk a) ∧ (0 ≤ bk a ∧ bk a ≤ 9) ∧ (mv d a = 0 ↔ d = bk a) := by
  have h := bk_all ⟨d.toNat, by omega⟩ ⟨a.toNat, by omega⟩
  dsimp only at h
  rwa [show ((a.toNat : Nat) : Int) = a by omega, show ((d.toNat : Nat) : Int) = d by omega] at h
theorem as_at (a b c : Int) (ha : 0 ≤ a ∧ a ≤ 9) (hb : 0 ≤ b ∧ b ≤ 9) (hc : 0 ≤ c ∧ c ≤ 9) : mv (mv a b) c = mv a (mv b c) := by
  have h := as_all ⟨a.toNat, by omega⟩ ⟨b.toNat, by omega⟩ ⟨c.toNat, by omega⟩
  dsimp only at h
  rwa [show ((a.toNat : Nat) : Int) = a by omega, show ((b.toNat : Nat) : Int) = b by omega, show ((c.toNat : Nat) : Int) = c by omega] at h
theorem one_at (d : Int) (hd : 0 ≤ d ∧ d ≤ 9) : mv 0 (tv d 0) = d ∧ mv d 0 = d := by
  have h := one_all ⟨d.toNat, by omega⟩
  dsimp only at h
  rwa [show ((d.toNat : Nat) : Int) = d by omega] at h
def dig (d : Int) : ByteArray := strOfNums ([(48 + d) % 256] : List Int)
theorem dig_all : ∀ d : Fin 10, (dig (d.val : Int)).size = 1 ∧ bt (dig (d.val : Int)) ((0 : Nat) : Int) = 48 + (d.val : Int) := by decide +kernel
theorem dig_at (d : Int) (hd : 0 ≤ d ∧ d ≤ 9) : (dig d).size = 1 ∧ bt (dig d) ((0 : Nat) : Int) = 48 + d := by
  have h := dig_all ⟨d.toNat, by omega⟩
  dsimp only at h
  rwa [show ((d.toNat : Nat) : Int) = d by omega] at h
theorem bt_left (s t : ByteArray) (i : Nat) (h : i < s.size) : bt (s ++ t) (i : Int) = bt s (i : Int) := by
  rw [bt_nat s i h, bt_nat (s ++ t) i (by rw [ByteArray.size_append]; omega), ByteArray.getElem_append_left h]
theorem bt_right (s t : ByteArray) (h : 0 < t.size) : bt (s ++ t) (s.size : Int) = bt t ((0 : Nat) : Int) := by
  rw [bt_nat t 0 h, bt_nat (s ++ t) s.size (by rw [ByteArray.size_append]; omega), ByteArray.getElem_append_right (Nat.le_refl _)]
  simp
theorem okFrom_of {s : ByteArray} : ∀ {m p : Nat}, (∀ i, p ≤ i → i < p + m → okAt s i = true) → okFrom s m p = true
  | 0, _, _ => rfl
  | m + 1, p, h => by
    simp only [okFrom, Bool.and_eq_true]
    exact ⟨h p (Nat.le_refl _) (by omega), okFrom_of (fun i h1 h2 => h i (by omega) (by omega))⟩
theorem ok_more {s : ByteArray} (hok : okFrom s s.size 0 = true) (d : Int) (hd : 0 ≤ d ∧ d ≤ 9) : okFrom (s ++ dig d) (s ++ dig d).size 0 = true := by
  obtain ⟨h1, h2⟩ := dig_at d hd
  refine okFrom_of (fun i _ hi => ?_)
  rw [ByteArray.size_append, h1] at hi
  rcases Nat.lt_or_ge i s.size with g | g
  · have := okFrom_at hok i (by omega) (by omega)
    unfold okAt at this ⊢
    rwa [bt_left s _ i g]
  · unfold okAt
    rw [show i = s.size by omega, bt_right s _ (by omega), h2, decide_eq_true_eq]
    omega
theorem fold_more {s : ByteArray} (hok : okFrom s s.size 0 = true) (d : Int) (hd : 0 ≤ d ∧ d ≤ 9) : ∀ j, j ≤ s.size → fold (s ++ dig d) 0 (j + 1) = mv d (fold s 1 j)
  | 0, _ => by
    obtain ⟨h1, h2⟩ := dig_at d hd
    simp only [fold]
    rw [ByteArray.size_append, h1, show ((s.size + 1 : Nat) : Int) - 1 - ((0 : Nat) : Int) = (s.size : Int) by omega, bt_right s _ (by omega), h2, show 48 + d - 48 = d by omega, (one_at d hd).2]
    exact (one_at d hd).1
  | j + 1, h => by
    obtain ⟨h1, h2⟩ := dig_at d hd
    have ih := fold_more hok d hd j (by omega)
    have hg := ok_dig hok (show j < s.size by omega)
    have hb := fold_bd hok 1 (by decide) j (by omega)
    have ht := tv_at _ ((1 + (j : Int)) % 8) hg (by omega)
    rw [show fold (s ++ dig d) 0 (j + 1 + 1) = mv (fold (s ++ dig d) 0 (j + 1)) (tv (bt (s ++ dig d) (((s ++ dig d).size : Int) - 1 - ((j + 1 : Nat) : Int)) - 48) ((0 + ((j + 1 : Nat) : Int)) % 8)) from rfl, ih, ByteArray.size_append, h1, show ((s.size + 1 : Nat) : Int) - 1 - ((j + 1 : Nat) : Int) = ((s.size - 1 - j : Nat) : Int) by omega, bt_left s _ _ (by omega), show ((s.size - 1 - j : Nat) : Int) = (s.size : Int) - 1 - (j : Int) by omega, show 0 + ((j + 1 : Nat) : Int) = 1 + (j : Int) by omega, as_at _ _ _ hd hb ht.2.2]
    rfl
theorem Dec_ev (d : Int) (hd : 0 ≤ d ∧ d ≤ 9) : Ev (fun k => vendmeterref_Dec.f k d) (dig d) := by
  refine Ev.succ ?_
  simp only [vendmeterref_Dec.f]
  refine Ev.pos (by omega) ?_
  rw [decide_eq_true (show d < 10 by omega)]
  refine Ev.succ ?_
  simp only [vendmeterref_Dec.j0, if_true]
  rw [wr (a := 48 + d) ⟨by omega, by omega⟩]
  exact Ev.now _
def digitAns (s : ByteArray) : Int × Int := if digAns s = 0 then (bk (fold s 1 s.size), 0) else (0, digAns s)
theorem check_Digit.ev (s : ByteArray) : Ev (fun k => check_Digit.f k s) (digitAns s) := by
  unfold check_Digit.f digitAns
  refine Ev.bind (check_digits.ev s) (Ev.iteR (fun h => ?_) (fun h => Ev.now _))
  obtain ⟨h1, h2, hok⟩ := digAns_zero h
  refine Ev.bind (check_all.ev hok (by omega) 1 (by decide)) ?_
  rw [(bk_at 0 _ (by decide) (fold_bd hok 1 (by decide) _ (Nat.le_refl _))).1]
  exact Ev.letS (Ev.now _)
theorem vendmeterref_CheckDigit.ev (s : ByteArray) : Ev (fun k => vendmeterref_CheckDigit.f k s) (digitAns s) := by
  unfold vendmeterref_CheckDigit.f digitAns
  refine Ev.bind (vendmeterref_DigitsMay.ev s) (Ev.iteR (fun h => ?_) (fun h => Ev.now _))
  obtain ⟨h1, h2, hok⟩ := digAns_zero h
  have hF := fold_bd hok 1 (by decide) _ (Nat.le_refl _)
  have hb := fun d hd => bk_at d (fold s 1 s.size) hd hF
  have hbd := (hb 0 (by decide)).2.1
  have hfo : ∀ d : Int, 0 ≤ d ∧ d ≤ 9 → Ev (fun k => vendmeterref_folded.f k (s ++ dig d) 0) (mv d (fold s 1 s.size)) := by
    intro d hd
    have hz : (s ++ dig d).size = s.size + 1 := by rw [ByteArray.size_append, (dig_at d hd).1]
    have := vendmeterref_folded.ev (ok_more hok d hd) (by rw [hz]; omega) 0 (by decide)
    rwa [hz, fold_more hok d hd s.size (Nat.le_refl _)] at this
  generalize fold s 1 s.size = F at *
  obtain ⟨b, hbn⟩ : ∃ b : Nat, bk F = (b : Int) := ⟨(bk F).toNat, by omega⟩
  rw [hbn] at hb hbd
  rw [hbn]
  have key := down (P := fun i => Ev (fun k => vendmeterref_CheckDigit.l0 k s (i : Int)) ((b : Int), 0)) (n := b) (by
    refine Ev.succ ?_
    simp only [vendmeterref_CheckDigit.l0]
    refine Ev.pos (by omega) (Ev.bind (Dec_ev _ (by omega)) (Ev.pos (by rw [(dig_at _ (by omega)).1]; omega) (Ev.bind (hfo _ (by omega)) (Ev.pos ((hb _ (by omega)).2.2.2 rfl) (Ev.now _)))))) (by
    intro i hi ih
    refine Ev.succ ?_
    simp only [vendmeterref_CheckDigit.l0]
    refine Ev.pos (by omega) (Ev.bind (Dec_ev _ (by omega)) (Ev.pos (by rw [(dig_at _ (by omega)).1]; omega) (Ev.bind (hfo _ (by omega)) (Ev.neg (fun z => ?_) ?_))))
    · have := (hb _ (by omega)).2.2.1 z
      omega
    · rw [wr (a := (i : Int) + 1) ⟨by omega, by omega⟩]
      exact ih)
  exact key
theorem CheckDigits : vendmeterlaw_CheckDigits.Pure := by
  intro s _
  refine Ev.rounds ?_
  unfold vendmeterlaw_CheckDigits.f
  exact Ev.bind (check_Digit.ev s) (Ev.bind (vendmeterref_CheckDigit.ev s) (Ev.pos rfl (Ev.ret (by simp))))

end Go.Proofs.Ytccokgnohmafjaa.Pure
