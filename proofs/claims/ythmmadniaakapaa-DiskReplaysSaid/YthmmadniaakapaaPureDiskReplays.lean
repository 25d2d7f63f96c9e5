/- vendmeterlaw.DiskReplays returns true at every list of words: disk.Replay answers as the reference does, and the list is as it was. No condition. -/
import Derived.Test.YthmmadniaakapaaPDiskReplaysxL
import Derived.Test.YthmmadniaakapaaXLib
set_option linter.unusedVariables false
set_option linter.unusedSimpArgs false
namespace Go.Proofs.Ythmmadniaakapaa.Pure
open Go.RowKit Go.Proofs.Ythmmadniaakapaa.PDiskReplays Go.Proofs.YthmmadniaakapaaW.PrintWords Go.Proofs.YthmmadniaakapaaW.PrintLast Go.Proofs.YthmmadniaakapaaW.PrintMore Go.Proofs.YthmmadniaakapaaW.XLib

theorem vendmeterref_In.eq (a b c : Int) : vendmeterref_In.f a b c = some (decide (b ≤ a ∧ a ≤ c)) := by
  unfold vendmeterref_In.f
  by_cases h : b ≤ a
  · rw [if_pos h]; simp [h]
  · rw [if_neg h]; simp [h]
theorem vendmeterlaw_sameWords.ev (l) (hl : l.length ≤ 1152921504606846976) : Ev (fun k => vendmeterlaw_sameWords.f k l l) true := by
  unfold vendmeterlaw_sameWords.f
  refine Ev.pos rfl (same_ev hl (fun k i hi => ?_) (fun k => ?_))
  · simp only [vendmeterlaw_sameWords.l0]; rw [if_pos (by omega), if_pos (by omega), if_pos (by omega)]; simp
  · simp only [vendmeterlaw_sameWords.l0]; rw [if_neg (by omega)]
theorem rd_rec (l : List (List Int)) (i : Nat) : rd_L1 l (i : Int) = l.getD i [] := Eq.trans rfl rfl
theorem vendmeterlaw_sameRecords.ev (l : List (List Int)) (hl : l.length ≤ 4096) (hr : ∀ r ∈ l, r.length ≤ 4096) : Ev (fun k => vendmeterlaw_sameRecords.f k l l) true := by
  unfold vendmeterlaw_sameRecords.f
  refine Ev.pos rfl ?_
  refine down (P := fun i => Ev (fun k => vendmeterlaw_sameRecords.l0 k l l (i : Int)) true) (n := l.length) ?_ (fun i hi h => ?_)
  · refine Ev.step (f := fun _ => some true) (fun k => ?_) (Ev.now _)
    simp only [vendmeterlaw_sameRecords.l0]; rw [if_neg (by omega)]
  · have hw := vendmeterlaw_sameWords.ev (l.getD i []) (by have := hr _ (getD_mem l i [] hi); omega)
    refine Ev.step (f := fun k => (vendmeterlaw_sameWords.f k (l.getD i []) (l.getD i [])).bind fun t => if t = true then vendmeterlaw_sameRecords.l0 k l l ((i + 1 : Nat) : Int) else some false) (fun k => ?_) (Ev.bind hw (Ev.pos rfl h))
    simp only [vendmeterlaw_sameRecords.l0, rd_rec]
    rw [if_pos (by omega), if_pos (by omega), if_pos (by omega), wn hi (by omega)]
theorem vendmeterlaw_words.eq (l) (h : l.length * 4 ≤ 140737488351232) : vendmeterlaw_words.f l = some l := by
  unfold vendmeterlaw_words.f
  rw [if_pos (by simp only [List.length_nil]; omega)]; rfl
def lenAt (c : List Int) (a : Nat) : Int := if a < c.length then (if c.getD a 0 = 0 then 0 else if c.getD a 0 > 64 then -1 else if (a : Int) + c.getD a 0 ≥ (c.length : Int) then -1 else c.getD a 0) else 0
def recs (c : List Int) : Nat → Nat → List (List Int) → List (List Int) × Int × Int
  | 0, a, out => (out, (a : Int), 0)
  | d + 1, a, out => if lenAt c a > 0 then recs c d (a + (lenAt c a).toNat + 1) (out ++ [(c.drop (a + 1)).take (lenAt c a).toNat]) else if lenAt c a < 0 then ([], 0, 3) else (out, (a : Int), 0)
def replayOf (c : List Int) : List (List Int) × Int × Int := if 1 ≤ c.length ∧ c.length ≤ 2048 then recs c c.length 0 [] else ([], 0, 1)
theorem lenAt_pos (c : List Int) (a : Nat) (h : lenAt c a > 0) : a < c.length ∧ c.getD a 0 = lenAt c a ∧ lenAt c a ≤ 64 ∧ (a : Int) + lenAt c a < (c.length : Int) := by
  unfold lenAt at *
  split at h
  · split at h
    · omega
    · split at h
      · omega
      · split at h
        · omega
        · rw [if_pos (by assumption), if_neg (by assumption), if_neg (by assumption), if_neg (by assumption)]; omega
  · omega
theorem recs_bd (c : List Int) : ∀ (d a : Nat) (out : List (List Int)), a ≤ c.length → ∃ e : Nat, (recs c d a out).2.1 = (e : Int) ∧ e ≤ c.length
  | 0, a, out, h => ⟨a, rfl, h⟩
  | d + 1, a, out, h => by
    unfold recs
    by_cases h1 : lenAt c a > 0
    · rw [if_pos h1]
      have := lenAt_pos c a h1
      exact recs_bd c d _ _ (by omega)
    · rw [if_neg h1]
      by_cases h2 : lenAt c a < 0
      · rw [if_pos h2]; exact ⟨0, rfl, by omega⟩
      · rw [if_neg h2]; exact ⟨a, rfl, h⟩
theorem replay_bd (c : List Int) : ∃ e : Nat, (replayOf c).2.1 = (e : Int) ∧ e ≤ c.length := by
  unfold replayOf
  split
  · exact recs_bd c _ _ _ (by omega)
  · exact ⟨0, rfl, by omega⟩
theorem replay_ok (c : List Int) (h : (replayOf c).2.2 = 0) : 1 ≤ c.length ∧ c.length ≤ 2048 := by
  unfold replayOf at h
  split at h
  · assumption
  · simp at h
theorem lengthAt_ev (c : List Int) (hc : c.length ≤ 2048) (hwf : ∀ j : Nat, j < c.length → 0 ≤ c.getD j 0 ∧ c.getD j 0 ≤ 4294967295) (a : Nat) (ha : a ≤ c.length) : Ev (fun k => vendmeterref_lengthAt.f k c (a : Int)) (lenAt c a) := by
  unfold vendmeterref_lengthAt.f lenAt
  by_cases hlt : a < c.length
  · rw [if_pos hlt]
    have hw := hwf a hlt
    refine Ev.neg (by omega) (Ev.pos (by omega) (Ev.pos (by omega) ?_))
    rw [rd_nat]
    by_cases g0 : c.getD a 0 = 0
    · rw [if_pos g0]
      refine Ev.step (f := fun _ => some 0) (fun k => ?_) (Ev.now _)
      simp only [vendmeterref_lengthAt.j0]; rw [if_pos (by rw [g0]; rfl)]
    · rw [if_neg g0]
      by_cases g1 : c.getD a 0 > 64
      · rw [if_pos g1]
        refine Ev.step (f := fun _ => some (-1)) (fun k => ?_) (Ev.now _)
        simp only [vendmeterref_lengthAt.j0, rd_nat]; rw [if_neg (by simpa using g0), if_pos (by omega), if_pos (by omega), if_pos g1]
      · rw [if_neg g1]
        have e1 : wrap64 (c.getD a 0) = c.getD a 0 := wr ⟨by omega, by omega⟩
        have e2 : wrap64 ((a : Int) + c.getD a 0) = (a : Int) + c.getD a 0 := wr ⟨by omega, by omega⟩
        by_cases g2 : (a : Int) + c.getD a 0 ≥ (c.length : Int)
        · rw [if_pos g2]
          refine Ev.step (f := fun _ => some (-1)) (fun k => ?_) (Ev.now _)
          simp only [vendmeterref_lengthAt.j0, rd_nat, e1, e2]; clear e1 e2; rw [if_neg (by simpa using g0), if_pos (by omega), if_pos (by omega), if_neg g1, if_pos g2]
        · rw [if_neg g2]
          refine Ev.step (f := fun _ => some (c.getD a 0)) (fun k => ?_) (Ev.now _)
          simp only [vendmeterref_lengthAt.j0, rd_nat, e1, e2]; clear e1 e2; rw [if_neg (by simpa using g0), if_pos (by omega), if_pos (by omega), if_neg g1, if_neg g2]
  · rw [if_neg hlt]
    refine Ev.pos (by omega) ?_
    refine Ev.step (f := fun _ => some 0) (fun k => ?_) (Ev.now _)
    simp [vendmeterref_lengthAt.j0]
theorem rec_fill (P : List Int) (n p : Nat) (hP : P.length = n) (hp : p < n) : (P.take p ++ List.replicate (n - p) (0 : Int)).set p (P.getD p 0) = P.take (p + 1) ++ List.replicate (n - (p + 1)) 0 := by
  have h1 : (P.take p).length = p := by rw [List.length_take]; omega
  obtain ⟨m, hm⟩ : ∃ m, n - p = m + 1 := ⟨n - p - 1, by omega⟩
  rw [take_getD P p 0 (by omega), List.set_append_right _ _ (by omega), h1, Nat.sub_self, hm, List.replicate_succ, List.set_cons_zero, List.append_assoc, show n - (p + 1) = m by omega]
  rfl
theorem rec_get (c : List Int) (a n p : Nat) (hp : p < n) : ((c.drop (a + 1)).take n).getD p 0 = c.getD (a + 1 + p) 0 := by
  rw [List.getD_eq_getElem?_getD, List.getD_eq_getElem?_getD, List.getElem?_take_of_lt hp, List.getElem?_drop]
theorem Replayedl_ev (c : List Int) (hc : c.length ≤ 2048) (hwf : ∀ j : Nat, j < c.length → 0 ≤ c.getD j 0 ∧ c.getD j 0 ≤ 4294967295) : ∀ (d a : Nat) (out : List (List Int)), a ≤ c.length → c.length ≤ a + d → out.length ≤ a → Ev (fun k => vendmeterref_Replayed.l0 k c out (a : Int) (lenAt c a)) (recs c d a out)
  | 0, a, out, h, h', ho => by
    have e : lenAt c a = 0 := by unfold lenAt; rw [if_neg (by omega)]
    refine Ev.step (f := fun _ => some (out, (a : Int), 0)) (fun k => ?_) (Ev.now _)
    simp only [vendmeterref_Replayed.l0]; rw [if_neg (by omega), if_neg (by omega)]
  | d + 1, a, out, h, h', ho => by
    unfold recs
    by_cases h1 : lenAt c a > 0
    · rw [if_pos h1]
      have hp := lenAt_pos c a h1
      obtain ⟨n, hn⟩ := Int.eq_ofNat_of_zero_le (show 0 ≤ lenAt c a by omega)
      rw [hn] at hp h1 ⊢
      simp only [Int.toNat_natCast]
      have hR : ((c.drop (a + 1)).take n).length = n := by rw [List.length_take, List.length_drop]; omega
      have ih := Replayedl_ev c hc hwf d (a + n + 1) (out ++ [(c.drop (a + 1)).take n]) (by omega) (by omega) (by simp; omega)
      refine Ev.step (f := fun k => vendmeterref_Replayed.l1 k c out (a : Int) (n : Int) (List.replicate n 0) 0) (fun k => ?_) ?_
      · simp only [vendmeterref_Replayed.l0, Int.toNat_natCast]; rw [if_pos (by omega), if_pos (by omega), if_pos (by omega)]
      · refine down (P := fun p => Ev (fun k => vendmeterref_Replayed.l1 k c out (a : Int) (n : Int) (((c.drop (a + 1)).take n).take p ++ List.replicate (n - p) 0) (p : Int)) (recs c d (a + n + 1) (out ++ [(c.drop (a + 1)).take n]))) (n := n) ?_ (fun p hpn hh => ?_)
        · have hla := lengthAt_ev c hc hwf (a + n + 1) (by omega)
          have e1 : wrap64 (wrap64 ((a : Int) + (n : Int)) + 1) = ((a + n + 1 : Nat) : Int) := by rw [wr (a := (a : Int) + (n : Int)) ⟨by omega, by omega⟩, wr ⟨by omega, by omega⟩]; omega
          refine Ev.step (f := fun k => (vendmeterref_lengthAt.f k c ((a + n + 1 : Nat) : Int)).bind fun t121 => vendmeterref_Replayed.l0 k c (out ++ [(c.drop (a + 1)).take n]) ((a + n + 1 : Nat) : Int) t121) (fun k => ?_) (Ev.bind hla ih)
          simp only [vendmeterref_Replayed.l1, e1]
          clear e1
          rw [if_neg (by omega), if_pos (by omega), Nat.sub_self, List.take_of_length_le (by omega)]
          simp
        · have hx : (((c.drop (a + 1)).take n).take p ++ List.replicate (n - p) (0 : Int)).length = n := by rw [List.length_append, List.length_take, List.length_replicate]; omega
          have e1 : wrap64 (wrap64 ((a : Int) + 1) + (p : Int)) = ((a + 1 + p : Nat) : Int) := by rw [wr (a := (a : Int) + 1) ⟨by omega, by omega⟩, wr ⟨by omega, by omega⟩]; omega
          refine Ev.step (fun k => ?_) hh
          simp only [vendmeterref_Replayed.l1, e1, rd_nat]
          clear e1
          rw [if_pos (by omega), if_pos (by omega), if_pos (by omega), if_pos (by omega), if_pos (by omega), wn hpn (by omega), Int.toNat_natCast, ← rec_get c a n p hpn, rec_fill _ _ _ hR hpn]
    · rw [if_neg h1]
      by_cases h2 : lenAt c a < 0
      · rw [if_pos h2]
        refine Ev.step (f := fun _ => some ([], 0, 3)) (fun k => ?_) (Ev.now _)
        simp only [vendmeterref_Replayed.l0]; rw [if_neg h1, if_pos h2]
      · rw [if_neg h2]
        refine Ev.step (f := fun _ => some (out, (a : Int), 0)) (fun k => ?_) (Ev.now _)
        simp only [vendmeterref_Replayed.l0]; rw [if_neg h1, if_neg h2]
theorem Replayed_ev (c : List Int) (hwf : ∀ j : Nat, j < c.length → 0 ≤ c.getD j 0 ∧ c.getD j 0 ≤ 4294967295) : Ev (fun k => vendmeterref_Replayed.f k c) (replayOf c) := by
  unfold vendmeterref_Replayed.f replayOf
  rw [vendmeterref_In.eq]
  refine Ev.letS ?_
  by_cases h : 1 ≤ c.length ∧ c.length ≤ 2048
  · rw [if_pos h]
    exact Ev.pos (by rw [decide_eq_true_eq]; omega) (Ev.bind (lengthAt_ev c h.2 hwf 0 (by omega)) (Replayedl_ev c h.2 hwf c.length 0 [] (by omega) (by omega) (by simp)))
  · rw [if_neg h]
    exact Ev.neg (by rw [decide_eq_true_eq]; omega) (Ev.now _)

def outR (p : List (List Int) × Int × Int) : Option (List (List Int) × Int × Int) := if p.2.2 = 0 then some p else some ([], 0, p.2.2)
theorem recs_small (c : List Int) : ∀ (d a : Nat) (out : List (List Int)), a ≤ c.length → out.length ≤ a → (∀ r ∈ out, r.length ≤ 64) → (recs c d a out).1.length ≤ c.length ∧ ∀ r ∈ (recs c d a out).1, r.length ≤ 64
  | 0, a, out, h, ho, hr => by unfold recs; exact ⟨by dsimp only; omega, hr⟩
  | d + 1, a, out, h, ho, hr => by
    unfold recs
    by_cases h1 : lenAt c a > 0
    · rw [if_pos h1]
      have hp := lenAt_pos c a h1
      refine recs_small c d _ _ (by omega) (by rw [List.length_append]; simp; omega) ?_
      intro r hm
      rcases List.mem_append.1 hm with h2 | h2
      · exact hr r h2
      · rw [List.mem_singleton.1 h2, List.length_take]; omega
    · rw [if_neg h1]
      by_cases h2 : lenAt c a < 0
      · rw [if_pos h2]; exact ⟨by simp, by simp⟩
      · rw [if_neg h2]; exact ⟨by dsimp only; omega, hr⟩
theorem walkR_ev (c : List Int) (hc : c.length ≤ 2048) (hwf : ∀ j : Nat, j < c.length → 0 ≤ c.getD j 0 ∧ c.getD j 0 ≤ 4294967295) : ∀ (d a : Nat) (out : List (List Int)), a ≤ c.length → c.length ≤ a + d → out.length ≤ a → Ev (fun k => (tape_walk.l0 k c (a : Int) out).bind outR) (recs c d a out)
  | 0, a, out, h, h', ho => by
    refine Ev.step (f := fun _ => some (out, (a : Int), 0)) (fun k => ?_) (Ev.now _)
    simp only [tape_walk.l0]; rw [if_neg (by omega)]; rfl
  | d + 1, a, out, h, h', ho => by
    unfold recs
    by_cases h1 : lenAt c a > 0
    · rw [if_pos h1]
      have hp := lenAt_pos c a h1
      refine Ev.step (fun k => ?_) (walkR_ev c hc hwf d (a + (lenAt c a).toNat + 1) (out ++ [(c.drop (a + 1)).take (lenAt c a).toNat]) (by omega) (by omega) (by rw [List.length_append]; simp; omega))
      simp only [tape_walk.l0, rd_nat]
      rw [if_pos (by omega), if_neg (by omega), if_pos (by omega), if_neg (by omega), if_neg (by omega), if_pos (by omega), hp.2.1]
      unfold tape_walk.cut
      rw [Int.toNat_natCast, show ((a + (lenAt c a).toNat + 1 : Nat) : Int) = (a : Int) + 1 + lenAt c a by omega]
    · rw [if_neg h1]
      by_cases hlt : a < c.length
      · have hw := hwf a hlt
        unfold lenAt at *
        rw [if_pos hlt] at *
        by_cases g0 : c.getD a 0 = 0
        · rw [if_pos g0]
          refine Ev.step (f := fun _ => some (out, (a : Int), 0)) (fun k => ?_) (Ev.ret (by simp))
          simp only [tape_walk.l0, rd_nat]; rw [if_pos (by omega), if_pos g0]; rfl
        · rw [if_neg g0] at *
          by_cases g1 : c.getD a 0 > 64
          · rw [if_pos g1] at *
            refine Ev.step (f := fun _ => some ([], 0, 3)) (fun k => ?_) (Ev.ret (by simp))
            simp only [tape_walk.l0, rd_nat]; rw [if_pos (by omega), if_neg g0, if_pos (by omega), if_pos g1]; rfl
          · rw [if_neg g1] at *
            by_cases g2 : (a : Int) + c.getD a 0 ≥ (c.length : Int)
            · rw [if_pos g2] at *
              refine Ev.step (f := fun _ => some ([], 0, 3)) (fun k => ?_) (Ev.ret (by simp))
              simp only [tape_walk.l0, rd_nat]; rw [if_pos (by omega), if_neg g0, if_pos (by omega), if_neg g1, if_pos (by omega)]; rfl
            · rw [if_neg g2] at *
              omega
      · have e : lenAt c a = 0 := by unfold lenAt; rw [if_neg hlt]
        rw [if_neg (by omega)]
        refine Ev.step (f := fun _ => some (out, (a : Int), 0)) (fun k => ?_) (Ev.now _)
        simp only [tape_walk.l0]; rw [if_neg (by omega)]; rfl
theorem Replay_ev (c : List Int) (hwf : ∀ j : Nat, j < c.length → 0 ≤ c.getD j 0 ∧ c.getD j 0 ≤ 4294967295) : Ev (fun k => disk_Replay.f k c) (replayOf c) := by
  unfold disk_Replay.f replayOf
  by_cases h : 1 ≤ c.length ∧ c.length ≤ 2048
  · rw [if_pos h]; exact Ev.pos h (walkR_ev c h.2 hwf c.length 0 [] (by omega) (by omega) (by simp))
  · rw [if_neg h]; exact Ev.neg h (Ev.now _)
theorem replay_small (c : List Int) : (replayOf c).1.length ≤ 4096 ∧ ∀ r ∈ (replayOf c).1, r.length ≤ 4096 := by
  unfold replayOf
  split
  · have := recs_small c c.length 0 [] (by omega) (by simp) (by simp)
    exact ⟨by omega, fun r hr => by have := this.2 r hr; omega⟩
  · exact ⟨by simp, by simp⟩
theorem DiskReplays : vendmeterlaw_DiskReplays.Pure := by
  intro c hc
  have h1 := hc.1
  have hwf : ∀ j : Nat, j < c.length → 0 ≤ c.getD j 0 ∧ c.getD j 0 ≤ 4294967295 := fun j hj => wfu32 (hc.2 _ (getD_mem c j 0 hj))
  refine Ev.rounds ?_
  unfold vendmeterlaw_DiskReplays.f
  rw [vendmeterlaw_words.eq c hc.1]
  have hs := replay_small c
  exact Ev.letS (Ev.bind (Replay_ev c hwf) (Ev.bind (Replayed_ev c hwf) (Ev.pos rfl (Ev.pos rfl (Ev.bind (vendmeterlaw_sameRecords.ev _ hs.1 hs.2) (Ev.pos rfl (Ev.bind (vendmeterlaw_sameWords.ev c (by omega)) (Ev.now _))))))))

end Go.Proofs.Ythmmadniaakapaa.Pure
