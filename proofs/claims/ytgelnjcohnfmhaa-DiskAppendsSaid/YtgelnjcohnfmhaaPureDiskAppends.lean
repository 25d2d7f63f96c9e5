/- vendmeterlaw.DiskAppends returns true at every two lists of words: disk.Append answers as the reference does, and both lists are as they were. No condition. -/
import Derived.Test.YtgelnjcohnfmhaaPDiskAppendsxL
import Derived.Test.YtgelnjcohnfmhaaXLib
set_option linter.unusedVariables false
set_option linter.unusedSimpArgs false
namespace Go.Proofs.Ytgelnjcohnfmhaa.Pure
open Go.RowKit Go.Proofs.Ytgelnjcohnfmhaa.PDiskAppends Go.Proofs.YtgelnjcohnfmhaaW.PrintWords Go.Proofs.YtgelnjcohnfmhaaW.PrintLast Go.Proofs.YtgelnjcohnfmhaaW.PrintMore Go.Proofs.YtgelnjcohnfmhaaW.XLib

theorem vendmeterref_In.eq (a b c : Int) : vendmeterref_In.f a b c = some (decide (b ≤ a ∧ a ≤ c)) := by
  unfold vendmeterref_In.f
  by_cases h : b ≤ a
  · rw [if_pos h]; simp [h]
  · rw [if_neg h]; simp [h]
theorem vendmeterlaw_sameWords.ev (l) (hl : l.length ≤ 1152921504606846976) : Ev (fun k => vendmeterlaw_sameWords.f k l l) true := by
  unfold vendmeterlaw_sameWords.f
  refine Ev.pos rfl (same_ev hl (fun k i hi => ?_) (fun k => ?_))
  · simp only [vendmeterlaw_sameWords.l0]; rw [if_pos (by omega), if_pos (by omega), if_pos (by omega)]; simp
  · simp only [vendmeterlaw_sameWords.l0]; rw [if_neg (by omega)]
theorem vendmeterlaw_sameWrites.ev (l) (hl : l.length ≤ 1152921504606846976) : Ev (fun k => vendmeterlaw_sameWrites.f k l l) true := by
  unfold vendmeterlaw_sameWrites.f
  refine Ev.pos rfl (same_ev hl (fun k i hi => ?_) (fun k => ?_))
  · simp only [vendmeterlaw_sameWrites.l0]; rw [if_pos (by omega), if_pos (by omega), if_pos (by omega)]; simp
  · simp only [vendmeterlaw_sameWrites.l0]; rw [if_neg (by omega)]
theorem vendmeterlaw_words.eq (l) (h : l.length * 4 ≤ 140737488351232) : vendmeterlaw_words.f l = some l := by
  unfold vendmeterlaw_words.f
  rw [if_pos (by simp only [List.length_nil]; omega)]; rfl
def lenAt (c : List Int) (a : Nat) : Int := if a < c.length then (if c.getD a 0 = 0 then 0 else if c.getD a 0 > 64 then -1 else if (a : Int) + c.getD a 0 ≥ (c.length : Int) then -1 else c.getD a 0) else 0
def recs (c : List Int) : Nat → Nat → List (List Int) → List (List Int) × Int × Int
  | 0, a, out => (out, (a : Int), 0)
  | d + 1, a, out => if lenAt c a > 0 then recs c d (a + (lenAt c a).toNat + 1) (out ++ [(c.drop (a + 1)).take (lenAt c a).toNat]) else if lenAt c a < 0 then ([], 0, 3) else (out, (a : Int), 0)
def replayOf (c : List Int) : List (List Int) × Int × Int := if 1 ≤ c.length ∧ c.length ≤ 2048 then recs c c.length 0 [] else ([], 0, 1)
theorem lenAt_pos (c : List Int) (a : Nat) (h : lenAt c a > 0) : a < c.length ∧ c.getD a 0 = lenAt c a ∧ lenAt c a ≤ 64 ∧ (a : Int) + lenAt c a < (c.length : Int) := by
  unfold lenAt at *
  split at h
  · split at h
    · omega
    · split at h
      · omega
      · split at h
        · omega
        · rw [if_pos (by assumption), if_neg (by assumption), if_neg (by assumption), if_neg (by assumption)]; omega
  · omega
theorem recs_bd (c : List Int) : ∀ (d a : Nat) (out : List (List Int)), a ≤ c.length → ∃ e : Nat, (recs c d a out).2.1 = (e : Int) ∧ e ≤ c.length
  | 0, a, out, h => ⟨a, rfl, h⟩
  | d + 1, a, out, h => by
    unfold recs
    by_cases h1 : lenAt c a > 0
    · rw [if_pos h1]
      have := lenAt_pos c a h1
      exact recs_bd c d _ _ (by omega)
    · rw [if_neg h1]
      by_cases h2 : lenAt c a < 0
      · rw [if_pos h2]; exact ⟨0, rfl, by omega⟩
      · rw [if_neg h2]; exact ⟨a, rfl, h⟩
theorem replay_bd (c : List Int) : ∃ e : Nat, (replayOf c).2.1 = (e : Int) ∧ e ≤ c.length := by
  unfold replayOf
  split
  · exact recs_bd c _ _ _ (by omega)
  · exact ⟨0, rfl, by omega⟩
theorem replay_ok (c : List Int) (h : (replayOf c).2.2 = 0) : 1 ≤ c.length ∧ c.length ≤ 2048 := by
  unfold replayOf at h
  split at h
  · assumption
  · simp at h
theorem walkl_ev (c : List Int) (hc : c.length ≤ 2048) (hwf : ∀ j : Nat, j < c.length → 0 ≤ c.getD j 0 ∧ c.getD j 0 ≤ 4294967295) : ∀ (d a : Nat) (out : List (List Int)), a ≤ c.length → c.length ≤ a + d → Ev (fun k => tape_walk.l0 k c (a : Int)) (recs c d a out).2
  | 0, a, out, h, h' => by
    refine Ev.step (f := fun _ => some ((a : Int), 0)) (fun k => ?_) (Ev.now _)
    simp only [tape_walk.l0]; rw [if_neg (by omega)]
  | d + 1, a, out, h, h' => by
    unfold recs
    by_cases h1 : lenAt c a > 0
    · rw [if_pos h1]
      have hp := lenAt_pos c a h1
      refine Ev.step (fun k => ?_) (walkl_ev c hc hwf d (a + (lenAt c a).toNat + 1) (out ++ [(c.drop (a + 1)).take (lenAt c a).toNat]) (by omega) (by omega))
      simp only [tape_walk.l0, rd_nat]
      rw [if_pos (by omega), if_neg (by omega), if_pos (by omega), if_neg (by omega), if_neg (by omega)]
      congr 1
      omega
    · rw [if_neg h1]
      by_cases hlt : a < c.length
      · have hw := hwf a hlt
        unfold lenAt at *
        rw [if_pos hlt] at *
        by_cases g0 : c.getD a 0 = 0
        · rw [if_pos g0]
          refine Ev.step (f := fun _ => some ((a : Int), 0)) (fun k => ?_) (Ev.ret (by simp))
          simp only [tape_walk.l0, rd_nat]; rw [if_pos (by omega), if_pos g0]
        · rw [if_neg g0] at *
          by_cases g1 : c.getD a 0 > 64
          · rw [if_pos g1] at *
            refine Ev.step (f := fun _ => some (0, 3)) (fun k => ?_) (Ev.ret (by simp))
            simp only [tape_walk.l0, rd_nat]; rw [if_pos (by omega), if_neg g0, if_pos (by omega), if_pos g1]
          · rw [if_neg g1] at *
            by_cases g2 : (a : Int) + c.getD a 0 ≥ (c.length : Int)
            · rw [if_pos g2] at *
              refine Ev.step (f := fun _ => some (0, 3)) (fun k => ?_) (Ev.ret (by simp))
              simp only [tape_walk.l0, rd_nat]; rw [if_pos (by omega), if_neg g0, if_pos (by omega), if_neg g1, if_pos (by omega)]
            · rw [if_neg g2] at *
              omega
      · have e : lenAt c a = 0 := by unfold lenAt; rw [if_neg hlt]
        rw [if_neg (by omega)]
        refine Ev.step (f := fun _ => some ((a : Int), 0)) (fun k => ?_) (Ev.now _)
        simp only [tape_walk.l0]; rw [if_neg (by omega)]
theorem walk_ev (c : List Int) (hwf : ∀ j : Nat, j < c.length → 0 ≤ c.getD j 0 ∧ c.getD j 0 ≤ 4294967295) : Ev (fun k => tape_walk.f k c) (replayOf c).2 := by
  unfold tape_walk.f replayOf
  by_cases h : 1 ≤ c.length ∧ c.length ≤ 2048
  · rw [if_pos h]; exact Ev.pos h (walkl_ev c h.2 hwf c.length 0 [] (by omega) (by omega))
  · rw [if_neg h]; exact Ev.neg h (Ev.now _)
theorem lengthAt_ev (c : List Int) (hc : c.length ≤ 2048) (hwf : ∀ j : Nat, j < c.length → 0 ≤ c.getD j 0 ∧ c.getD j 0 ≤ 4294967295) (a : Nat) (ha : a ≤ c.length) : Ev (fun k => vendmeterref_lengthAt.f k c (a : Int)) (lenAt c a) := by
  unfold vendmeterref_lengthAt.f lenAt
  by_cases hlt : a < c.length
  · rw [if_pos hlt]
    have hw := hwf a hlt
    refine Ev.neg (by omega) (Ev.pos (by omega) (Ev.pos (by omega) ?_))
    rw [rd_nat]
    by_cases g0 : c.getD a 0 = 0
    · rw [if_pos g0]
      refine Ev.step (f := fun _ => some 0) (fun k => ?_) (Ev.now _)
      simp only [vendmeterref_lengthAt.j0]; rw [if_pos (by rw [g0]; rfl)]
    · rw [if_neg g0]
      by_cases g1 : c.getD a 0 > 64
      · rw [if_pos g1]
        refine Ev.step (f := fun _ => some (-1)) (fun k => ?_) (Ev.now _)
        simp only [vendmeterref_lengthAt.j0, rd_nat]; rw [if_neg (by simpa using g0), if_pos (by omega), if_pos (by omega), if_pos g1]
      · rw [if_neg g1]
        have e1 : wrap64 (c.getD a 0) = c.getD a 0 := wr ⟨by omega, by omega⟩
        have e2 : wrap64 ((a : Int) + c.getD a 0) = (a : Int) + c.getD a 0 := wr ⟨by omega, by omega⟩
        by_cases g2 : (a : Int) + c.getD a 0 ≥ (c.length : Int)
        · rw [if_pos g2]
          refine Ev.step (f := fun _ => some (-1)) (fun k => ?_) (Ev.now _)
          simp only [vendmeterref_lengthAt.j0, rd_nat, e1, e2]; clear e1 e2; rw [if_neg (by simpa using g0), if_pos (by omega), if_pos (by omega), if_neg g1, if_pos g2]
        · rw [if_neg g2]
          refine Ev.step (f := fun _ => some (c.getD a 0)) (fun k => ?_) (Ev.now _)
          simp only [vendmeterref_lengthAt.j0, rd_nat, e1, e2]; clear e1 e2; rw [if_neg (by simpa using g0), if_pos (by omega), if_pos (by omega), if_neg g1, if_neg g2]
  · rw [if_neg hlt]
    refine Ev.pos (by omega) ?_
    refine Ev.step (f := fun _ => some 0) (fun k => ?_) (Ev.now _)
    simp [vendmeterref_lengthAt.j0]
theorem rec_fill (P : List Int) (n p : Nat) (hP : P.length = n) (hp : p < n) : (P.take p ++ List.replicate (n - p) (0 : Int)).set p (P.getD p 0) = P.take (p + 1) ++ List.replicate (n - (p + 1)) 0 := by
  have h1 : (P.take p).length = p := by rw [List.length_take]; omega
  obtain ⟨m, hm⟩ : ∃ m, n - p = m + 1 := ⟨n - p - 1, by omega⟩
  rw [take_getD P p 0 (by omega), List.set_append_right _ _ (by omega), h1, Nat.sub_self, hm, List.replicate_succ, List.set_cons_zero, List.append_assoc, show n - (p + 1) = m by omega]
  rfl
theorem rec_get (c : List Int) (a n p : Nat) (hp : p < n) : ((c.drop (a + 1)).take n).getD p 0 = c.getD (a + 1 + p) 0 := by
  rw [List.getD_eq_getElem?_getD, List.getD_eq_getElem?_getD, List.getElem?_take_of_lt hp, List.getElem?_drop]
theorem Replayedl_ev (c : List Int) (hc : c.length ≤ 2048) (hwf : ∀ j : Nat, j < c.length → 0 ≤ c.getD j 0 ∧ c.getD j 0 ≤ 4294967295) : ∀ (d a : Nat) (out : List (List Int)), a ≤ c.length → c.length ≤ a + d → out.length ≤ a → Ev (fun k => vendmeterref_Replayed.l0 k c out (a : Int) (lenAt c a)) (recs c d a out)
  | 0, a, out, h, h', ho => by
    have e : lenAt c a = 0 := by unfold lenAt; rw [if_neg (by omega)]
    refine Ev.step (f := fun _ => some (out, (a : Int), 0)) (fun k => ?_) (Ev.now _)
    simp only [vendmeterref_Replayed.l0]; rw [if_neg (by omega), if_neg (by omega)]
  | d + 1, a, out, h, h', ho => by
    unfold recs
    by_cases h1 : lenAt c a > 0
    · rw [if_pos h1]
      have hp := lenAt_pos c a h1
      obtain ⟨n, hn⟩ := Int.eq_ofNat_of_zero_le (show 0 ≤ lenAt c a by omega)
      rw [hn] at hp h1 ⊢
      simp only [Int.toNat_natCast]
      have hR : ((c.drop (a + 1)).take n).length = n := by rw [List.length_take, List.length_drop]; omega
      have ih := Replayedl_ev c hc hwf d (a + n + 1) (out ++ [(c.drop (a + 1)).take n]) (by omega) (by omega) (by simp; omega)
      refine Ev.step (f := fun k => vendmeterref_Replayed.l1 k c out (a : Int) (n : Int) (List.replicate n 0) 0) (fun k => ?_) ?_
      · simp only [vendmeterref_Replayed.l0, Int.toNat_natCast]; rw [if_pos (by omega), if_pos (by omega), if_pos (by omega)]
      · refine down (P := fun p => Ev (fun k => vendmeterref_Replayed.l1 k c out (a : Int) (n : Int) (((c.drop (a + 1)).take n).take p ++ List.replicate (n - p) 0) (p : Int)) (recs c d (a + n + 1) (out ++ [(c.drop (a + 1)).take n]))) (n := n) ?_ (fun p hpn hh => ?_)
        · have hla := lengthAt_ev c hc hwf (a + n + 1) (by omega)
          have e1 : wrap64 (wrap64 ((a : Int) + (n : Int)) + 1) = ((a + n + 1 : Nat) : Int) := by rw [wr (a := (a : Int) + (n : Int)) ⟨by omega, by omega⟩, wr ⟨by omega, by omega⟩]; omega
          refine Ev.step (f := fun k => (vendmeterref_lengthAt.f k c ((a + n + 1 : Nat) : Int)).bind fun t121 => vendmeterref_Replayed.l0 k c (out ++ [(c.drop (a + 1)).take n]) ((a + n + 1 : Nat) : Int) t121) (fun k => ?_) (Ev.bind hla ih)
          simp only [vendmeterref_Replayed.l1, e1]
          clear e1
          rw [if_neg (by omega), if_pos (by omega), Nat.sub_self, List.take_of_length_le (by omega)]
          simp
        · have hx : (((c.drop (a + 1)).take n).take p ++ List.replicate (n - p) (0 : Int)).length = n := by rw [List.length_append, List.length_take, List.length_replicate]; omega
          have e1 : wrap64 (wrap64 ((a : Int) + 1) + (p : Int)) = ((a + 1 + p : Nat) : Int) := by rw [wr (a := (a : Int) + 1) ⟨by omega, by omega⟩, wr ⟨by omega, by omega⟩]; omega
          refine Ev.step (fun k => ?_) hh
          simp only [vendmeterref_Replayed.l1, e1, rd_nat]
          clear e1
          rw [if_pos (by omega), if_pos (by omega), if_pos (by omega), if_pos (by omega), if_pos (by omega), wn hpn (by omega), Int.toNat_natCast, ← rec_get c a n p hpn, rec_fill _ _ _ hR hpn]
    · rw [if_neg h1]
      by_cases h2 : lenAt c a < 0
      · rw [if_pos h2]
        refine Ev.step (f := fun _ => some ([], 0, 3)) (fun k => ?_) (Ev.now _)
        simp only [vendmeterref_Replayed.l0]; rw [if_neg h1, if_pos h2]
      · rw [if_neg h2]
        refine Ev.step (f := fun _ => some (out, (a : Int), 0)) (fun k => ?_) (Ev.now _)
        simp only [vendmeterref_Replayed.l0]; rw [if_neg h1, if_neg h2]
theorem Replayed_ev (c : List Int) (hwf : ∀ j : Nat, j < c.length → 0 ≤ c.getD j 0 ∧ c.getD j 0 ≤ 4294967295) : Ev (fun k => vendmeterref_Replayed.f k c) (replayOf c) := by
  unfold vendmeterref_Replayed.f replayOf
  rw [vendmeterref_In.eq]
  refine Ev.letS ?_
  by_cases h : 1 ≤ c.length ∧ c.length ≤ 2048
  · rw [if_pos h]
    exact Ev.pos (by rw [decide_eq_true_eq]; omega) (Ev.bind (lengthAt_ev c h.2 hwf 0 (by omega)) (Replayedl_ev c h.2 hwf c.length 0 [] (by omega) (by omega) (by simp)))
  · rw [if_neg h]
    exact Ev.neg (by rw [decide_eq_true_eq]; omega) (Ev.now _)

def appAns (c rec : List Int) : List S112 × Int :=
  if 1 ≤ rec.length ∧ rec.length ≤ 64 then (if (replayOf c).2.2 = 0 then (if (replayOf c).2.1 + 1 + (rec.length : Int) > (c.length : Int) then ([], 16) else (if (replayOf c).2.1 + 1 + (rec.length : Int) < (c.length : Int) then (disk_Append.ws ((replayOf c).2.1 + 1) rec ++ [⟨(replayOf c).2.1 + 1 + (rec.length : Int), 0⟩] ++ [⟨(replayOf c).2.1, (rec.length : Int)⟩], 0) else (disk_Append.ws ((replayOf c).2.1 + 1) rec ++ [⟨(replayOf c).2.1, (rec.length : Int)⟩], 0))) else ([], (replayOf c).2.2)) else ([], 1)
theorem appAns_len (c rec : List Int) : (appAns c rec).1.length ≤ 100 := by
  unfold appAns
  split
  · split
    · split
      · simp
      · split <;> simp [disk_Append.ws_len] <;> omega
    · simp
  · simp
theorem Append_ev (c rec : List Int) (hwf : ∀ j : Nat, j < c.length → 0 ≤ c.getD j 0 ∧ c.getD j 0 ≤ 4294967295) : Ev (fun k => disk_Append.f k c rec) (appAns c rec) := by
  unfold disk_Append.f appAns
  refine Ev.iteR (fun h1 => ?_) (fun _ => Ev.now _)
  refine Ev.bind (walk_ev c hwf) ?_
  obtain ⟨e, he, hle⟩ := replay_bd c
  refine Ev.iteR (fun h2 => ?_) (fun _ => Ev.now _)
  have hc := replay_ok c h2
  refine Ev.pos ⟨⟨by omega, by omega⟩, hc.2⟩ ?_
  exact Ev.iteR (fun _ => Ev.now _) (fun _ => Ev.iteR (fun _ => Ev.now _) (fun _ => Ev.now _))
theorem Appended_ev (c rec : List Int) (hwf : ∀ j : Nat, j < c.length → 0 ≤ c.getD j 0 ∧ c.getD j 0 ≤ 4294967295) : Ev (fun k => vendmeterref_Appended.f k c rec) (appAns c rec) := by
  unfold vendmeterref_Appended.f appAns
  rw [vendmeterref_In.eq]
  refine Ev.letS ?_
  by_cases h1 : 1 ≤ rec.length ∧ rec.length ≤ 64
  · rw [if_pos h1]
    refine Ev.pos (by rw [decide_eq_true_eq]; omega) (Ev.bind (Replayed_ev c hwf) ?_)
    obtain ⟨a, ha, hle⟩ := replay_bd c
    by_cases h2 : (replayOf c).2.2 = 0
    · have hc := replay_ok c h2
      rw [if_pos h2]
      refine Ev.pos h2 ?_
      rw [ha]
      by_cases h3 : (a : Int) + 1 + (rec.length : Int) > (c.length : Int)
      · rw [if_pos h3]
        exact Ev.pos (by rw [wr ⟨by omega, by omega⟩]; omega) (Ev.now _)
      · rw [if_neg h3]
        refine Ev.neg (by rw [wr ⟨by omega, by omega⟩]; omega) ?_
        refine down (P := fun i => Ev (fun k => vendmeterref_Appended.l0 k c rec (rec.length : Int) (a : Int) ((disk_Append.ws ((a : Int) + 1) rec).take i) (i : Int)) _) (n := rec.length) ?_ (fun i hi h => ?_)
        · rw [List.take_of_length_le (by rw [disk_Append.ws_len]; exact Nat.le_refl _)]
          have hm : ((rec.length : Int)) % 4294967296 = (rec.length : Int) := by omega
          have e1 : wrap64 (wrap64 ((a : Int) + (rec.length : Int)) + 1) = (a : Int) + 1 + (rec.length : Int) := by rw [wr (a := (a : Int) + (rec.length : Int)) ⟨by omega, by omega⟩, wr ⟨by omega, by omega⟩]; omega
          have hl := disk_Append.ws_len ((a : Int) + 1) rec
          by_cases h4 : (a : Int) + 1 + (rec.length : Int) < (c.length : Int)
          · rw [if_pos h4]
            refine Ev.step (f := fun _ => some (disk_Append.ws ((a : Int) + 1) rec ++ [⟨(a : Int) + 1 + (rec.length : Int), 0⟩] ++ [⟨(a : Int), (rec.length : Int)⟩], 0)) (fun k => ?_) (Ev.now _)
            simp only [vendmeterref_Appended.l0, e1, hm]
            clear e1
            rw [if_neg (by omega), if_pos h4, if_pos (by omega), Option.bind_some, if_pos (by rw [List.length_append, hl]; simp; omega)]
          · rw [if_neg h4]
            refine Ev.step (f := fun _ => some (disk_Append.ws ((a : Int) + 1) rec ++ [⟨(a : Int), (rec.length : Int)⟩], 0)) (fun k => ?_) (Ev.now _)
            simp only [vendmeterref_Appended.l0, e1, hm]
            clear e1
            rw [if_neg (by omega), if_neg h4, if_pos (by omega)]
        · refine Ev.step (fun k => ?_) h
          have e1 : wrap64 (wrap64 ((a : Int) + (i : Int)) + 1) = (a : Int) + 1 + (i : Int) := by rw [wr (a := (a : Int) + (i : Int)) ⟨by omega, by omega⟩, wr ⟨by omega, by omega⟩]; omega
          simp only [vendmeterref_Appended.l0, e1]
          clear e1
          rw [if_pos (by omega), if_pos (by omega), if_pos (by omega), if_pos (by rw [List.length_take, disk_Append.ws_len]; omega), wn hi (by omega), disk_Append.ws_take _ _ _ hi]
    · rw [if_neg h2]
      exact Ev.neg h2 (Ev.now _)
  · rw [if_neg h1]
    exact Ev.neg (by rw [decide_eq_true_eq]; omega) (Ev.now _)
theorem DiskAppends : vendmeterlaw_DiskAppends.Pure := by
  intro c rec hc hr
  have h1 := hc.1
  have h2 := hr.1
  have hwf : ∀ j : Nat, j < c.length → 0 ≤ c.getD j 0 ∧ c.getD j 0 ≤ 4294967295 := fun j hj => wfu32 (hc.2 _ (getD_mem c j 0 hj))
  refine Ev.rounds ?_
  unfold vendmeterlaw_DiskAppends.f
  rw [vendmeterlaw_words.eq c hc.1, vendmeterlaw_words.eq rec hr.1]
  have hlen := appAns_len c rec
  exact Ev.letS (Ev.letS (Ev.bind (Append_ev c rec hwf) (Ev.bind (Appended_ev c rec hwf) (Ev.pos rfl (Ev.bind (vendmeterlaw_sameWrites.ev _ (by omega)) (Ev.pos rfl (Ev.bind (vendmeterlaw_sameWords.ev c (by omega)) (Ev.pos rfl (Ev.bind (vendmeterlaw_sameWords.ev rec (by omega)) (Ev.now _))))))))))

end Go.Proofs.Ytgelnjcohnfmhaa.Pure
