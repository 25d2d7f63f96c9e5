/- vendmeterlaw.CentsReads returns true at every text: cents.Read answers the amount that the reference reads, or the same fault. No condition. -/
import Derived.Test.YtoookcmablnjfaaPCentsReadsx2
import Derived.Test.YtoookcmablnjfaaXLib
set_option linter.unusedVariables false
set_option linter.unusedSimpArgs false
namespace Go.Proofs.Ytoookcmablnjfaa.Pure
open Go.RowKit Go.Proofs.Ytoookcmablnjfaa.PCentsReads Go.Proofs.YtoookcmablnjfaaW.PrintWords Go.Proofs.YtoookcmablnjfaaW.PrintLast Go.Proofs.YtoookcmablnjfaaW.PrintMore Go.Proofs.YtoookcmablnjfaaW.XLib


def lb (l : List UInt8) (j : Nat) : Int := ((l[j]?).map (fun b => (b.toNat : Int))).getD 0
theorem bt_lb (s : ByteArray) (j : Nat) : bt s (j : Int) = lb s.data.toList j := by
  unfold bt lb
  by_cases h : j < s.size
  · rw [dif_pos (by simpa using h)]
    have h2 : j < s.data.toList.length := by simpa using h
    rw [List.getElem?_eq_getElem h2]
    simp [ByteArray.getElem_eq_getElem_data]
  · have h2 : s.data.toList.length ≤ j := by simpa using h
    rw [dif_neg (by simpa using h), List.getElem?_eq_none h2]
    rfl
theorem lb_hit {l : List UInt8} {k : Nat} {c : UInt8} (h : l[k]? = some c) : lb l k = (c.toNat : Int) := by unfold lb; rw [h]; rfl
theorem lb46 {l : List UInt8} {k : Nat} (h : lb l k = 46) : l[k]? = some 46 := by
  unfold lb at h
  cases hk : l[k]? with
  | none => rw [hk] at h; simp at h
  | some b =>
    rw [hk] at h
    have h1 : (b.toNat : Int) = 46 := by simpa using h
    have h2 : b.toNat = 46 := by omega
    rw [show b = 46 from UInt8.toNat_inj.1 (by rw [h2]; rfl)]
theorem lb_drop (l : List UInt8) (o j : Nat) : lb (l.drop o) j = lb l (o + j) := by unfold lb; rw [List.getElem?_drop]
theorem lb_take {l : List UInt8} {n j : Nat} (h : j < n) : lb (l.take n) j = lb l j := by unfold lb; rw [List.getElem?_take, if_pos h]
theorem lb_left {a b : List UInt8} {j : Nat} (h : j < a.length) : lb (a ++ b) j = lb a j := by unfold lb; rw [List.getElem?_append_left h]
theorem lb_right {a b : List UInt8} {j : Nat} (h : a.length ≤ j) : lb (a ++ b) j = lb b (j - a.length) := by unfold lb; rw [List.getElem?_append_right h]
/-- What m places from the j-th on come to. -/
def run (b : Bool) (g : Nat → Int) : Nat → Nat → Int × Int
  | 0, j => crEnd b (crF g j)
  | m + 1, j => if 48 ≤ g j ∧ g j ≤ 57 then run b g m (j + 1) else (0, 3)
theorem run_ok {b : Bool} {g : Nat → Int} : ∀ {m j : Nat}, (∀ i, j ≤ i → i < j + m → 48 ≤ g i ∧ g i ≤ 57) → run b g m j = crEnd b (crF g (j + m))
  | 0, _, _ => rfl
  | m + 1, j, h => by
    rw [run, if_pos (h j (Nat.le_refl _) (by omega)), run_ok (fun i a c => h i (by omega) (by omega))]
    rw [show j + 1 + m = j + (m + 1) by omega]
theorem run_bad {b : Bool} {g : Nat → Int} : ∀ {m j : Nat} (i : Nat), j ≤ i → i < j + m → ¬ (48 ≤ g i ∧ g i ≤ 57) → run b g m j = (0, 3)
  | 0, _, i, h1, h2, _ => by omega
  | m + 1, j, i, h1, h2, h3 => by
    rw [run]
    split
    · rename_i h
      by_cases e : j = i
      · rw [e] at h; exact absurd h h3
      · exact run_bad i (by omega) (by omega) h3
    · rfl
theorem crF_congr {f g : Nat → Int} : ∀ {n : Nat}, (∀ i, i < n → f i = g i) → crF f n = crF g n
  | 0, _ => rfl
  | n + 1, h => by simp only [crF]; rw [crF_congr (fun i hi => h i (by omega)), h n (by omega)]
theorem run_congr {b : Bool} {f g : Nat → Int} : ∀ {m j : Nat}, (∀ i, i < j + m → f i = g i) → run b f m j = run b g m j
  | 0, j, h => by simp only [run]; rw [crF_congr (fun i hi => h i (by omega))]
  | m + 1, j, h => by simp only [run]; rw [h j (by omega), run_congr (fun i hi => h i (by omega))]
theorem num_run (b : Bool) (t : ByteArray) : crNum b t = run b (fun j => bt t (j : Int)) t.size 0 := by
  unfold crNum
  rcases allOk_split t with ⟨ha, hg⟩ | ⟨ha, m, hm, _, hbad⟩
  · rw [if_pos ha, run_ok (fun i _ hi => hg i (by omega)), Nat.zero_add]
  · rw [if_neg (by rw [ha]; decide), run_bad (g := fun j => bt t (j : Int)) m (Nat.zero_le _) (by omega) (show ¬ (48 ≤ bt t (m : Int) ∧ bt t (m : Int) ≤ 57) from hbad)]
/-- The j-th digit's byte: the point at the third place from the right is left out. -/
def gs (s : ByteArray) (o j : Nat) : Int := bt s ((o + j + (if j < s.size - 3 - o then 0 else 1) : Nat) : Int)
def refAns (s : ByteArray) (o : Nat) : Int × Int := if (s.size < o + 4) ∨ bt s ((s.size - 3 : Nat) : Int) ≠ 46 ∨ (bt s (o : Int) = 48 ∧ o + 4 < s.size) then (0, 3) else run (decide (o = 1)) (gs s o) (s.size - o - 1) 0
theorem digit_eq (c : Int) : vendmeterref_Digit.f c = some (decide (48 ≤ c ∧ c ≤ 57)) := by
  unfold vendmeterref_Digit.f
  by_cases h : c ≥ 48
  · rw [if_pos h]; congr 1; by_cases h2 : c ≤ 57 <;> simp [h, h2] <;> omega
  · rw [if_neg h]; congr 1; symm; exact decide_eq_false (fun g => h g.1)
theorem end_ev {o : Nat} (ho : o ≤ 1) {v : Int} (hv : 0 ≤ v ∧ v ≤ 1000000000001) : Ev (fun k => if (o : Int) = 1 then vendmeterref_ReadCents.j4 k o v (v == 0) else vendmeterref_ReadCents.j4 k o v false) (crEnd (decide (o = 1)) v) := by
  by_cases h : o = 1
  · subst h
    refine Ev.pos rfl (Ev.succ ?_)
    simp only [vendmeterref_ReadCents.j4, crEnd]
    by_cases h0 : v = 0
    · refine Ev.pos (by simp [h0]) ?_
      exact Ev.eq (by simp [h0]) (Ev.now _)
    · refine Ev.neg (by simp [h0]) ?_
      by_cases h1 : v > 1000000000000
      · exact Ev.eq (by simp [h0, h1]) (Ev.pos h1 (Ev.now _))
      · refine Ev.neg h1 (Ev.pos rfl (Ev.eq ?_ (Ev.now _)))
        rw [wr ⟨by omega, by omega⟩]
        simp [h0, h1]
  · refine Ev.neg (by omega) (Ev.succ ?_)
    simp only [vendmeterref_ReadCents.j4, crEnd]
    refine Ev.neg (by decide) ?_
    by_cases h1 : v > 1000000000000
    · exact Ev.eq (by simp [h, h1]) (Ev.pos h1 (Ev.now _))
    · exact Ev.neg h1 (Ev.neg (by omega) (Ev.eq (by simp [h, h1]) (Ev.now _)))
theorem step_min {v c : Int} (hv : 0 ≤ v ∧ v ≤ 1000000000001) (hc : 48 ≤ c ∧ c ≤ 57) : wrap64 (wrap64 (10 * v) + (c - 48) % 256) = v * 10 + (c - 48) := by
  rw [wr (a := 10 * v) ⟨by omega, by omega⟩, show (c - 48) % 256 = c - 48 by omega, wr ⟨by omega, by omega⟩]
  omega
theorem gs_lo {s : ByteArray} {o j : Nat} (h : j < s.size - 3 - o) : gs s o j = bt s ((o + j : Nat) : Int) := by unfold gs; rw [if_pos h, Nat.add_zero]
theorem gs_hi {s : ByteArray} {o j : Nat} (h : ¬ j < s.size - 3 - o) : gs s o j = bt s ((o + j + 1 : Nat) : Int) := by unfold gs; rw [if_neg h]
theorem loop_hi (s : ByteArray) (o : Nat) (ho : o ≤ 1) (hs : o + 4 ≤ s.size ∧ s.size ≤ 20) : ∀ m j : Nat, m + j = s.size - o - 1 → ¬ j < s.size - 3 - o → 0 ≤ crF (gs s o) j ∧ crF (gs s o) j ≤ 1000000000001 → Ev (fun k => vendmeterref_ReadCents.l0 k s o s.size (crF (gs s o) j) ((o + j + 1 : Nat) : Int)) (run (decide (o = 1)) (gs s o) m j)
  | 0, j, hm, hj, hv => by
    refine Ev.succ ?_
    simp only [vendmeterref_ReadCents.l0, run]
    exact Ev.neg (by omega) (end_ev ho hv)
  | m + 1, j, hm, hj, hv => by
    refine Ev.succ ?_
    simp only [vendmeterref_ReadCents.l0, run]
    have e3 : wrap64 ((s.size : Int) - 3) = (s.size : Int) - 3 := wr ⟨by omega, by omega⟩
    have e4 : wrap64 (((o + j + 1 : Nat) : Int) + 1) = ((o + (j + 1) + 1 : Nat) : Int) := by rw [wr ⟨by omega, by omega⟩]; omega
    refine Ev.pos (by omega) (Ev.neg (by rw [e3]; omega) (Ev.pos (by omega) (Ev.pos (by omega) ?_)))
    rw [← gs_hi hj, e4]
    by_cases hd : 48 ≤ gs s o j ∧ gs s o j ≤ 57
    · rw [if_pos hd, step_min hv hd, digit_eq, decide_eq_true hd]
      have ec : crF (gs s o) (j + 1) = min (crF (gs s o) j * 10 + (gs s o j - 48)) 1000000000001 := rfl
      have ih := loop_hi s o ho hs m (j + 1) (by omega) (by omega) (by rw [ec]; omega)
      refine Ev.letS (Ev.pos rfl ?_)
      by_cases hg : crF (gs s o) j * 10 + (gs s o j - 48) > 1000000000000
      · refine Ev.pos hg ?_
        rw [show crF (gs s o) (j + 1) = 1000000000001 by rw [ec]; omega] at ih
        exact ih
      · refine Ev.neg hg ?_
        rw [show crF (gs s o) (j + 1) = crF (gs s o) j * 10 + (gs s o j - 48) by rw [ec]; omega] at ih
        exact ih
    · rw [if_neg hd, digit_eq, decide_eq_false hd]
      exact Ev.letS (Ev.neg (by decide) (Ev.now _))
theorem loop_lo (s : ByteArray) (o : Nat) (ho : o ≤ 1) (hs : o + 4 ≤ s.size ∧ s.size ≤ 20) : ∀ m j : Nat, m + j = s.size - 3 - o → 0 ≤ crF (gs s o) j ∧ crF (gs s o) j ≤ 1000000000001 → Ev (fun k => vendmeterref_ReadCents.l0 k s o s.size (crF (gs s o) j) ((o + j : Nat) : Int)) (run (decide (o = 1)) (gs s o) (m + 2) j)
  | 0, j, hm, hv => by
    refine Ev.succ ?_
    have ih := loop_hi s o ho hs 2 j (by omega) (by omega) hv
    simp only [vendmeterref_ReadCents.l0]
    have e3 : wrap64 ((s.size : Int) - 3) = (s.size : Int) - 3 := wr ⟨by omega, by omega⟩
    have e4 : wrap64 (((o + j : Nat) : Int) + 1) = ((o + j + 1 : Nat) : Int) := by rw [wr ⟨by omega, by omega⟩]; omega
    refine Ev.pos (by omega) (Ev.pos (by rw [e3]; omega) ?_)
    rw [e4]
    exact ih
  | m + 1, j, hm, hv => by
    refine Ev.succ ?_
    rw [show m + 1 + 2 = (m + 2) + 1 by omega]
    simp only [vendmeterref_ReadCents.l0]
    rw [run]
    have hj : j < s.size - 3 - o := by omega
    have e3 : wrap64 ((s.size : Int) - 3) = (s.size : Int) - 3 := wr ⟨by omega, by omega⟩
    have e4 : wrap64 (((o + j : Nat) : Int) + 1) = ((o + (j + 1) : Nat) : Int) := by rw [wr ⟨by omega, by omega⟩]; omega
    refine Ev.pos (by omega) (Ev.neg (by rw [e3]; omega) (Ev.pos (by omega) (Ev.pos (by omega) ?_)))
    rw [← gs_lo hj, e4]
    by_cases hd : 48 ≤ gs s o j ∧ gs s o j ≤ 57
    · rw [if_pos hd, step_min hv hd, digit_eq, decide_eq_true hd]
      have ec : crF (gs s o) (j + 1) = min (crF (gs s o) j * 10 + (gs s o j - 48)) 1000000000001 := rfl
      have ih := loop_lo s o ho hs m (j + 1) (by omega) (by rw [ec]; omega)
      refine Ev.letS (Ev.pos rfl ?_)
      by_cases hg : crF (gs s o) j * 10 + (gs s o j - 48) > 1000000000000
      · refine Ev.pos hg ?_
        rw [show crF (gs s o) (j + 1) = 1000000000001 by rw [ec]; omega] at ih
        exact ih
      · refine Ev.neg hg ?_
        rw [show crF (gs s o) (j + 1) = crF (gs s o) j * 10 + (gs s o j - 48) by rw [ec]; omega] at ih
        exact ih
    · rw [if_neg hd, digit_eq, decide_eq_false hd]
      exact Ev.letS (Ev.neg (by decide) (Ev.now _))
theorem j1_ev (s : ByteArray) (o : Nat) (ho : o ≤ 1) (hs : s.size ≤ 20) : Ev (fun k => vendmeterref_ReadCents.j1 k s o) (refAns s o) := by
  refine Ev.succ ?_
  unfold refAns
  simp only [vendmeterref_ReadCents.j1]
  have e3 : wrap64 ((s.size : Int) - 3) = (s.size : Int) - 3 := wr ⟨by omega, by omega⟩
  have eo : wrap64 ((s.size : Int) - (o : Int)) = (s.size : Int) - (o : Int) := wr ⟨by omega, by omega⟩
  rw [e3, eo]
  have form : Ev (fun k => vendmeterref_ReadCents.j2 k s o s.size true) (0, 3) := by
    refine Ev.succ ?_
    simp only [vendmeterref_ReadCents.j2]
    exact Ev.pos (by first | rfl | trivial) (Ev.now _)
  have good : s.size ≥ o + 4 → Ev (fun k => vendmeterref_ReadCents.j2 k s o s.size false) (run (decide (o = 1)) (gs s o) (s.size - o - 1) 0) := by
    intro h4
    refine Ev.succ ?_
    simp only [vendmeterref_ReadCents.j2]
    refine Ev.neg (by decide) ?_
    have h := loop_lo s o ho ⟨h4, hs⟩ (s.size - 3 - o) 0 (by omega) (by simp [crF])
    rw [show s.size - 3 - o + 2 = s.size - o - 1 by omega] at h
    exact h
  by_cases h4 : s.size < o + 4
  · rw [if_pos (.inl h4)]
    exact Ev.pos (by omega) form
  · refine Ev.neg (by omega) (Ev.pos (by omega) (Ev.pos (by omega) ?_))
    rw [show (s.size : Int) - 3 = ((s.size - 3 : Nat) : Int) by omega]
    by_cases h46 : bt s ((s.size - 3 : Nat) : Int) = 46
    · refine Ev.pos h46 (Ev.pos (by omega) (Ev.pos (by omega) ?_))
      by_cases h48 : bt s (o : Int) = 48
      · refine Ev.pos h48 ?_
        by_cases h5 : o + 4 < s.size
        · rw [if_pos (.inr (.inr ⟨h48, h5⟩)), decide_eq_true (show (s.size : Int) - (o : Int) > 4 by omega)]
          exact form
        · rw [if_neg (by rintro (g | g | g); exact h4 g; exact g h46; exact h5 g.2), decide_eq_false (show ¬ (s.size : Int) - (o : Int) > 4 by omega)]
          exact good (by omega)
      · rw [if_neg (by rintro (g | g | g); exact h4 g; exact g h46; exact h48 g.1)]
        exact Ev.neg h48 (good (by omega))
    · rw [if_pos (.inr (.inl h46))]
      exact Ev.neg h46 form
def off (s : ByteArray) : Nat := if 0 < s.size ∧ bt s 0 = 45 then 1 else 0
theorem ref_ev (s : ByteArray) : Ev (fun k => vendmeterref_ReadCents.f k s) (if 20 < s.size then (0, 1) else refAns s (off s)) := by
  unfold vendmeterref_ReadCents.f
  by_cases h : 20 < s.size
  · rw [if_pos h]
    exact Ev.pos (by omega) (Ev.now _)
  · rw [if_neg h]
    have hj : ∀ b : Bool, (b = true ↔ (0 < s.size ∧ bt s 0 = 45)) → Ev (fun k => vendmeterref_ReadCents.j0 k s 0 b) (refAns s (off s)) := by
      intro b hb
      refine Ev.succ ?_
      simp only [vendmeterref_ReadCents.j0]
      unfold off
      by_cases hc : 0 < s.size ∧ bt s 0 = 45
      · rw [if_pos hc]
        exact Ev.pos (hb.2 hc) (j1_ev s 1 (by decide) (by omega))
      · rw [if_neg hc]
        exact Ev.neg (fun g => hc (hb.1 g)) (j1_ev s 0 (by decide) (by omega))
    refine Ev.neg (by omega) ?_
    by_cases h0 : 0 < s.size
    · refine Ev.pos (by omega) (Ev.pos (by omega) ?_)
      exact hj _ (by simp [h0])
    · refine Ev.neg (by omega) ?_
      exact hj _ (by simp [h0])
theorem body_list (s : ByteArray) : (crBody s).data.toList = s.data.toList.drop (off s) ∧ crBelow s = decide (off s = 1) ∧ off s ≤ s.size := by
  unfold crBody crBelow off
  have hb := bt_lb s 0
  have hz : s.size = s.data.toList.length := by simp
  obtain ⟨l, hl⟩ : ∃ l, s.data.toList = l := ⟨_, rfl⟩
  rw [hl] at hb hz ⊢
  rw [show (bt s 0) = lb l 0 from hb, hz]
  cases l with
  | nil => simp [Lib.trimPrefix, Lib.hasPrefix]
  | cons x r =>
    by_cases hx : x = 45
    · subst hx
      simp [Lib.trimPrefix, Lib.hasPrefix, lb]
    · have hx2 : ¬ x.toNat = 45 := fun e => hx (UInt8.toNat_inj.1 (by rw [e]; rfl))
      have hx3 : ¬ ((x.toNat : Int) = 45) := by omega
      have hx4 : ¬ (45 = x) := fun e => hx e.symm
      simp [Lib.trimPrefix, Lib.hasPrefix, lb, hx3, hx4, List.isPrefixOf]
theorem ans_ref (s : ByteArray) : crAns s = if 20 < s.size then (0, 1) else refAns s (off s) := by
  unfold crAns
  split
  · rfl
  · rename_i h20
    obtain ⟨hB, hL, ho⟩ := body_list s
    rw [hL]
    have ho1 : off s ≤ 1 := by unfold off; split <;> omega
    obtain ⟨o, hO⟩ : ∃ o, off s = o := ⟨_, rfl⟩
    rw [hO] at hB ho ho1 ⊢
    have hz : s.size = s.data.toList.length := by simp
    obtain ⟨b, hb⟩ : ∃ b, crBody s = b := ⟨_, rfl⟩
    rw [hb] at hB ⊢
    have hbz : b.size = s.size - o := by
      have : b.data.toList.length = b.size := by simp
      rw [← this, hB, List.length_drop, ← hz]
    have hbl : ∀ j : Nat, bt b (j : Int) = bt s ((o + j : Nat) : Int) := fun j => by rw [bt_lb, bt_lb, hB, lb_drop]
    have hix := Lib.indexByte_ge b.data.toList 46
    unfold cutOne refAns
    by_cases hi : 0 ≤ Lib.indexByte b.data.toList 46
    · obtain ⟨i, hI⟩ := Int.eq_ofNat_of_zero_le hi
      obtain ⟨f1, f2⟩ := Lib.indexByte_some hI
      have hil : i < b.size := by
        have := (List.getElem?_eq_some_iff.1 f1).1
        simpa using this
      have g1 : bt b (i : Int) = 46 := by rw [bt_lb, lb_hit f1]; rfl
      have g2 : ∀ k : Nat, k < i → bt b (k : Int) ≠ 46 := fun k hk e => f2 k hk (lb46 (by rw [← bt_lb]; exact e))
      rw [if_pos hi, hI]
      simp only [Int.toNat_natCast, ByteArray.size_extract, true_and]
      have wz : (min i b.size - 0) = i := by omega
      have lz : (min b.size b.size - (i + 1)) = b.size - (i + 1) := by omega
      rw [wz, lz]
      by_cases h2 : b.size - (i + 1) = 2
      · have hi3 : o + i = s.size - 3 := by omega
        have w0 : bt (b.extract 0 i) 0 = bt b 0 ∨ i = 0 := by
          by_cases h0 : i = 0
          · exact .inr h0
          · left
            have := bt_lb (b.extract 0 i) 0
            rw [show ((0 : Nat) : Int) = 0 from rfl] at this
            rw [this, ByteArray.data_extract, Array.toList_extract, List.extract_eq_take_drop, List.drop_zero, lb_take (by omega), ← bt_lb]
            rfl
        rw [← hi3, ← hbl, g1]
        by_cases h0 : 0 < i
        · have w1 : bt (b.extract 0 i) 0 = bt s (o : Int) := by
            rcases w0 with w0 | w0
            · rw [w0]; exact hbl 0
            · omega
          rw [w1]
          by_cases h5 : bt s (o : Int) = 48 ∧ o + 4 < s.size
          · rw [if_neg (by rintro ⟨_, _, g⟩; exact g ⟨by omega, h5.1⟩), if_pos (.inr (.inr h5))]
          · rw [if_pos ⟨h0, h2, fun g => h5 ⟨g.2, by omega⟩⟩, if_neg (by rintro (g | g | g); omega; exact g rfl; exact h5 g)]
            rw [num_run, ByteArray.size_append, ByteArray.size_extract, ByteArray.size_extract, wz, lz, show i + (b.size - (i + 1)) = s.size - o - 1 by omega]
            refine run_congr (fun j hj => ?_)
            rw [bt_lb, ByteArray.data_append, Array.toList_append, ByteArray.data_extract, ByteArray.data_extract, Array.toList_extract, Array.toList_extract, List.extract_eq_take_drop, List.extract_eq_take_drop, List.drop_zero]
            have hbzl : b.data.toList.length = b.size := by simp
            have tl : (List.take (i - 0) b.data.toList).length = i := by rw [List.length_take, hbzl]; omega
            by_cases hji : j < i
            · rw [lb_left (by rw [tl]; exact hji), lb_take (by omega), ← bt_lb, hbl, gs_lo (by omega)]
            · rw [lb_right (by rw [tl]; omega), tl, lb_take (by omega), lb_drop, ← bt_lb, hbl, gs_hi (by omega)]
              congr 2
              omega
        · rw [if_neg (fun g => h0 g.1), if_pos (.inl (by omega))]
      · rw [if_neg (fun g => h2 g.2.1)]
        split
        · rfl
        · rename_i hn
          have n1 : ¬ s.size < o + 4 := fun g => hn (.inl g)
          have n2 : bt s ((s.size - 3 : Nat) : Int) = 46 := by
            by_cases g : bt s ((s.size - 3 : Nat) : Int) = 46
            · exact g
            · exact absurd (.inr (.inl g)) hn
          have hle : i ≤ s.size - 3 - o := by
            by_cases g : i ≤ s.size - 3 - o
            · exact g
            · exfalso
              refine g2 (s.size - 3 - o) (by omega) ?_
              rw [hbl, show o + (s.size - 3 - o) = s.size - 3 by omega]
              exact n2
          rw [run_bad i (by omega) (by omega)]
          rw [gs_lo (by omega), ← hbl, g1]
          decide
    · rw [if_neg hi]
      simp only
      rw [if_neg (fun g => by cases g.1)]
      split
      · rfl
      · rename_i hn
        have n1 : ¬ s.size < o + 4 := fun g => hn (.inl g)
        have n2 : bt s ((s.size - 3 : Nat) : Int) = 46 := by
          by_cases g : bt s ((s.size - 3 : Nat) : Int) = 46
          · exact g
          · exact absurd (.inr (.inl g)) hn
        exfalso
        refine Lib.indexByte_none (l := b.data.toList) (c := 46) (by omega) (s.size - 3 - o) (lb46 (l := b.data.toList) ?_)
        rw [← bt_lb, hbl, show o + (s.size - 3 - o) = s.size - 3 by omega]
        exact n2
theorem CentsReads : vendmeterlaw_CentsReads.Pure := by
  intro s _
  refine Ev.rounds ?_
  unfold vendmeterlaw_CentsReads.f cents_Read.f
  rw [ans_ref]
  refine Ev.letS (Ev.bind (ref_ev s) (Ev.pos rfl (Ev.ret (by simp))))

end Go.Proofs.Ytoookcmablnjfaa.Pure
