/- vendmeterlaw.TariffBills returns true at every list of steps and numbers: tariff.Bill answers as the reference does, and the list is as it was. No condition. -/
import Derived.Test.YthmmadniaakapaaPTariffBillsxL
import Derived.Test.YthmmadniaakapaaXLib
set_option linter.unusedVariables false
set_option linter.unusedSimpArgs false
namespace Go.Proofs.Ythmmadniaakapaa.Pure
open Go.RowKit Go.Proofs.Ythmmadniaakapaa.PTariffBills Go.Proofs.YthmmadniaakapaaW.PrintWords Go.Proofs.YthmmadniaakapaaW.PrintLast Go.Proofs.YthmmadniaakapaaW.PrintMore Go.Proofs.YthmmadniaakapaaW.XLib

theorem vendmeterref_In.eq (a b c : Int) : vendmeterref_In.f a b c = some (decide (b ≤ a ∧ a ≤ c)) := by
  unfold vendmeterref_In.f
  by_cases h : b ≤ a
  · rw [if_pos h]; simp [h]
  · rw [if_neg h]; simp [h]
theorem rd_step (l : List S125) (i : Nat) : rd_T125 l (i : Int) = l.getD i z125 := Eq.trans rfl rfl
def tarFault (l : List S125) : Int := if (l.length : Int) < 1 then 1 else if (l.length : Int) > 8 then 1 else if l.any tariff_Check.bad = true then 2 else if tariff_Check.rising l = true then (if (rd_T125 l ((l.length : Int) - 1)).f0 = 10000000 then 0 else 3) else 3
theorem tariff_Check.eq (l : List S125) : tariff_Check.f l = some (tarFault l) := by
  unfold tariff_Check.f tarFault
  repeat' split
  all_goals rfl
theorem vendmeterref_TariffFault.ev (l : List S125) : Ev (fun k => vendmeterref_TariffFault.f k l) (tarFault l) := by
  unfold vendmeterref_TariffFault.f tarFault
  simp only [vendmeterref_In.eq, Option.bind_some]
  by_cases h1 : (l.length : Int) < 1
  · rw [if_pos h1]; exact Ev.neg (by rw [decide_eq_true_eq]; omega) (Ev.now _)
  rw [if_neg h1]
  by_cases h8 : (l.length : Int) > 8
  · rw [if_pos h8]; exact Ev.neg (by rw [decide_eq_true_eq]; omega) (Ev.now _)
  rw [if_neg h8]
  refine Ev.pos (decide_eq_true (by omega)) ?_
  by_cases hb : l.any tariff_Check.bad = true
  · rw [if_pos hb]
    have key : ∀ d i : Nat, i + d = l.length → (l.drop i).any tariff_Check.bad = true → Ev (fun k => vendmeterref_TariffFault.l0 k l (i : Int)) 2 := by
      intro d
      induction d with
      | zero => intro i hi h; rw [List.drop_of_length_le (by omega)] at h; simp at h
      | succ d ih =>
        intro i hi h
        rw [drop_getD l i z125 (by omega), List.any_cons] at h
        by_cases hs : tariff_Check.bad (l.getD i z125) = true
        · simp only [tariff_Check.bad, Bool.or_eq_true, decide_eq_true_eq] at hs
          refine Ev.step (f := fun _ => some 2) (fun k => ?_) (Ev.now _)
          simp only [vendmeterref_TariffFault.l0, rd_step, vendmeterref_In.eq, Option.bind_some]; rw [if_pos (by omega), if_pos (by omega)]
          by_cases h0 : 1 ≤ (l.getD i z125).f0 ∧ (l.getD i z125).f0 ≤ 10000000
          · rw [if_pos (decide_eq_true h0), if_neg (by rw [decide_eq_true_eq]; omega)]
          · rw [if_neg (by rw [decide_eq_true_eq]; exact h0)]
        · rw [Bool.eq_false_iff.mpr hs, Bool.false_or] at h
          simp only [tariff_Check.bad, Bool.or_eq_true, decide_eq_true_eq] at hs
          refine Ev.step (f := fun k => vendmeterref_TariffFault.l0 k l ((i + 1 : Nat) : Int)) (fun k => ?_) (ih (i + 1) (by omega) h)
          simp only [vendmeterref_TariffFault.l0, rd_step, vendmeterref_In.eq, Option.bind_some]; rw [if_pos (by omega), if_pos (by omega), wn (show i < l.length by omega) (by omega)]
          rw [if_pos (decide_eq_true (by omega)), if_pos (decide_eq_true (by omega))]
    exact key l.length 0 (by omega) hb
  rw [if_neg hb]
  have hb' := Bool.eq_false_iff.mpr hb
  have key0 : ∀ {r : Int}, Ev (fun k => vendmeterref_TariffFault.l1 k l 1) r → Ev (fun k => vendmeterref_TariffFault.l0 k l 0) r := by
    intro r hr
    refine down (P := fun i => Ev (fun k => vendmeterref_TariffFault.l0 k l (i : Int)) r) (n := l.length) ?_ ?_
    · refine Ev.step (fun k => ?_) hr
      simp only [vendmeterref_TariffFault.l0]; rw [if_neg (by omega)]
    · intro i hi h
      have hs := (List.any_eq_false.1 hb') _ (getD_mem l i z125 hi)
      simp only [tariff_Check.bad, Bool.or_eq_true, decide_eq_true_eq] at hs
      refine Ev.step (fun k => ?_) h
      simp only [vendmeterref_TariffFault.l0, rd_step, vendmeterref_In.eq, Option.bind_some]; rw [if_pos (by omega), if_pos (by omega), wn hi (by omega)]
      rw [if_pos (decide_eq_true (by omega)), if_pos (decide_eq_true (by omega))]
  apply key0
  have hlen : 1 ≤ l.length := by omega
  have step : ∀ (k i : Nat), 1 ≤ i → i < l.length → vendmeterref_TariffFault.l1 (k + 1) l (i : Int) = if (rd_T125 l (i : Int)).f0 ≤ (rd_T125 l ((i : Int) - 1)).f0 then some 3 else vendmeterref_TariffFault.l1 k l ((i + 1 : Nat) : Int) := by
    intro k i h0 hi
    simp only [vendmeterref_TariffFault.l1]
    rw [wr (a := (i : Int) - 1) ⟨by omega, by omega⟩, if_pos (by omega), if_pos (by omega), if_pos (by omega), if_pos (by omega), wn hi (by omega)]
  have last : ∀ k, vendmeterref_TariffFault.l1 (k + 1) l (l.length : Int) = if (rd_T125 l ((l.length : Int) - 1)).f0 = 10000000 then some 0 else some 3 := by
    intro k
    simp only [vendmeterref_TariffFault.l1]
    rw [wr (a := (l.length : Int) - 1) ⟨by omega, by omega⟩, if_neg (by omega), if_pos (by omega), if_pos (by omega)]
  by_cases hr : tariff_Check.rising l = true
  · rw [if_pos hr]
    have hri := (tariff_Check.rising_iff l).1 hr
    refine downFrom (P := fun i => Ev (fun k => vendmeterref_TariffFault.l1 k l (i : Int)) _) (m := 1) (n := l.length) hlen ?_ ?_
    · refine Ev.step last ?_
      exact Ev.iteR (fun _ => Ev.now _) (fun _ => Ev.now _)
    · intro i h0 hi h
      refine Ev.step (f := fun k => vendmeterref_TariffFault.l1 k l ((i + 1 : Nat) : Int)) (fun k => ?_) h
      rw [step k i h0 hi, if_neg]
      have := hri (i - 1) (by omega)
      rw [show (((i - 1 : Nat) : Nat) : Int) = (i : Int) - 1 by omega, show (i : Int) - 1 + 1 = (i : Int) by omega] at this
      omega
  · rw [if_neg hr]
    have hex : ∃ i : Nat, 1 ≤ i ∧ i < l.length ∧ (rd_T125 l (i : Int)).f0 ≤ (rd_T125 l ((i : Int) - 1)).f0 := by
      refine Classical.not_not.1 fun hn => hr ((tariff_Check.rising_iff l).2 fun i hi => ?_)
      refine Classical.not_not.1 fun h => hn ⟨i + 1, by omega, hi, ?_⟩
      rw [show ((i + 1 : Nat) : Int) - 1 = (i : Int) by omega, show ((i + 1 : Nat) : Int) = (i : Int) + 1 by omega]
      omega
    obtain ⟨m, hm0, hm1, hm⟩ := hex
    refine downFrom (P := fun i => Ev (fun k => vendmeterref_TariffFault.l1 k l (i : Int)) 3) (m := 1) (n := m) hm0 ?_ ?_
    · refine Ev.step (f := fun _ => some 3) (fun k => ?_) (Ev.now _)
      rw [step k m hm0 hm1, if_pos hm]
    · intro i h0 hi h
      by_cases hc : (rd_T125 l (i : Int)).f0 ≤ (rd_T125 l ((i : Int) - 1)).f0
      · refine Ev.step (f := fun _ => some 3) (fun k => ?_) (Ev.now _)
        rw [step k i h0 (by omega), if_pos hc]
      · refine Ev.step (f := fun k => vendmeterref_TariffFault.l1 k l ((i + 1 : Nat) : Int)) (fun k => ?_) h
        rw [step k i h0 (by omega), if_neg hc]
def askT (l : List S125) (a b : Int) : Int := if tarFault l = 0 then (if (0 ≤ a ∧ a ≤ 10000000) ∧ (0 ≤ b ∧ b ≤ 2097151) ∧ a + b ≤ 10000000 then 0 else 2) else tarFault l
theorem tariff_asked.eq (l : List S125) (a b : Int) (ha : -9223372036854775808 ≤ a ∧ a ≤ 9223372036854775807) (hb : -9223372036854775808 ≤ b ∧ b ≤ 9223372036854775807) : tariff_asked.f l a b = some (askT l a b) := by
  unfold tariff_asked.f askT
  rw [tariff_Check.eq, Option.bind_some]
  by_cases h : tarFault l = 0
  · rw [if_pos h, if_pos h]
    by_cases h1 : a < 0
    · rw [if_pos h1, if_neg (by omega)]
    · rw [if_neg h1]
      by_cases h2 : a > 10000000
      · rw [if_pos h2, if_neg (by omega)]
      · rw [if_neg h2]
        by_cases h3 : b < 0
        · rw [if_pos h3, if_neg (by omega)]
        · rw [if_neg h3]
          by_cases h4 : b > 2097151
          · rw [if_pos h4, if_neg (by omega)]
          · rw [if_neg h4, wr ⟨by omega, by omega⟩]
            by_cases h5 : a + b > 10000000
            · rw [if_pos h5, if_neg (by omega)]
            · rw [if_neg h5, if_pos (by omega)]
  · rw [if_neg h, if_neg h]
theorem vendmeterref_UnitsMay.ev (l : List S125) (a b : Int) : Ev (fun k => vendmeterref_UnitsMay.f k l a b) (askT l a b) := by
  unfold vendmeterref_UnitsMay.f askT
  refine Ev.bind (vendmeterref_TariffFault.ev l) (Ev.iteR (fun h => ?_) (fun h => Ev.now _))
  rw [vendmeterref_In.eq, vendmeterref_In.eq]
  refine Ev.letS ?_
  by_cases h1 : 0 ≤ a ∧ a ≤ 10000000
  · refine Ev.pos (by simpa using h1) (Ev.letS ?_)
    by_cases h2 : 0 ≤ b ∧ b ≤ 2097151
    · refine Ev.pos (by simpa using h2) ?_
      rw [wr ⟨by omega, by omega⟩]
      by_cases h3 : a + b > 10000000
      · exact Ev.pos h3 (Ev.ret (by rw [if_neg (by omega)]))
      · exact Ev.neg h3 (Ev.ret (by rw [if_pos (by omega)]))
    · exact Ev.neg (by simpa using h2) (Ev.ret (by rw [if_neg (by omega)]))
  · exact Ev.neg (by simpa using h1) (Ev.ret (by rw [if_neg (by omega)]))
theorem askT_zero {l : List S125} {a b : Int} (h : askT l a b = 0) : tarFault l = 0 ∧ (0 ≤ a ∧ a ≤ 10000000) ∧ (0 ≤ b ∧ b ≤ 2097151) ∧ a + b ≤ 10000000 := by
  unfold askT at h
  by_cases h0 : tarFault l = 0
  · rw [if_pos h0] at h
    by_cases h1 : (0 ≤ a ∧ a ≤ 10000000) ∧ (0 ≤ b ∧ b ≤ 2097151) ∧ a + b ≤ 10000000
    · exact ⟨h0, h1⟩
    · rw [if_neg h1] at h; omega
  · rw [if_neg h0] at h; exact absurd h h0
theorem tar_zero {l : List S125} (h : tarFault l = 0) : (1 ≤ l.length ∧ l.length ≤ 8) ∧ (∀ i : Nat, i < l.length → (1 ≤ (l.getD i z125).f0 ∧ (l.getD i z125).f0 ≤ 10000000) ∧ (1 ≤ (l.getD i z125).f1 ∧ (l.getD i z125).f1 ≤ 100000)) ∧ (∀ i : Nat, i + 1 < l.length → (l.getD i z125).f0 < (l.getD (i + 1) z125).f0) ∧ (l.getD (l.length - 1) z125).f0 = 10000000 := by
  unfold tarFault at h
  by_cases h1 : (l.length : Int) < 1
  · rw [if_pos h1] at h; omega
  rw [if_neg h1] at h
  by_cases h2 : (l.length : Int) > 8
  · rw [if_pos h2] at h; omega
  rw [if_neg h2] at h
  by_cases h3 : l.any tariff_Check.bad = true
  · rw [if_pos h3] at h; omega
  rw [if_neg h3] at h
  by_cases h4 : tariff_Check.rising l = true
  case neg => rw [if_neg h4] at h; omega
  rw [if_pos h4] at h
  by_cases h5 : (rd_T125 l ((l.length : Int) - 1)).f0 = 10000000
  case neg => rw [if_neg h5] at h; omega
  refine ⟨by omega, fun i hi => ?_, fun i hi => ?_, ?_⟩
  · have hm := getD_mem l i z125 hi
    have hb : tariff_Check.bad (l.getD i z125) = false := by
      cases hb : tariff_Check.bad (l.getD i z125) with
      | false => rfl
      | true => exact absurd (List.any_eq_true.2 ⟨_, hm, hb⟩) h3
    unfold tariff_Check.bad at hb
    simp only [Bool.or_eq_false_iff, decide_eq_false_iff_not] at hb
    omega
  · unfold tariff_Check.rising at h4
    have := List.all_eq_true.1 h4 i (List.mem_range.2 (by omega))
    rw [decide_eq_true_eq, show ((i : Int) + 1) = ((i + 1 : Nat) : Int) by omega, rd_step, rd_step] at this
    exact this
  · rw [show ((l.length : Int) - 1) = ((l.length - 1 : Nat) : Int) by omega, rd_step] at h5
    exact h5
def ovl (lo hi a b : Int) : Int := if mn hi b < mx lo a then 0 else mn hi b - mx lo a
theorem vendmeterref_overlap.ev (lo hi a b : Int) (h1 : 0 ≤ lo ∧ lo ≤ 10000000) (h2 : 0 ≤ hi ∧ hi ≤ 10000000) (h3 : 0 ≤ a ∧ a ≤ 10000000) (h4 : 0 ≤ b ∧ b ≤ 20000000) : Ev (fun k => vendmeterref_overlap.f k lo hi a b) (ovl lo hi a b) := by
  refine Ev.succ ⟨0, fun k _ => ?_⟩
  simp only [vendmeterref_overlap.f, vendmeterref_overlap.j0]
  rw [wr (a := b - a) ⟨by omega, by omega⟩, wr (a := hi - a) ⟨by omega, by omega⟩, wr (a := b - lo) ⟨by omega, by omega⟩, wr (a := hi - lo) ⟨by omega, by omega⟩]
  unfold ovl mn mx
  repeat' split
  all_goals first | rfl | omega | (congr 1; omega)
theorem Billed_step (l : List S125) (a b : Int) (out : List S150) (i : Nat) (lo : Int) (hi : i < l.length) (hl : l.length ≤ 8) (ha : 0 ≤ a ∧ a ≤ 10000000) (hb : 0 ≤ b ∧ a + b ≤ 10000000) (h0 : 0 ≤ lo ∧ lo ≤ 10000000) (hu : 0 ≤ (l.getD i z125).f0 ∧ (l.getD i z125).f0 ≤ 10000000) {r : List S150 × Int}
    (h : Ev (fun k => if ovl lo (l.getD i z125).f0 a (a + b) > 0 then (if out.length < 5864062014805 then (vendmeterref_Billed.l0 k l a b (out ++ [(⟨ovl lo (l.getD i z125).f0 a (a + b), (l.getD i z125).f1, wrap64 (ovl lo (l.getD i z125).f0 a (a + b) * (l.getD i z125).f1)⟩ : S150)]) (l.getD i z125).f0 ((i + 1 : Nat) : Int)) else none) else vendmeterref_Billed.l0 k l a b out (l.getD i z125).f0 ((i + 1 : Nat) : Int)) r) : Ev (fun k => vendmeterref_Billed.l0 k l a b out lo (i : Int)) r := by
  refine Ev.step (f := fun k => (vendmeterref_overlap.f k lo (l.getD i z125).f0 a (a + b)).bind fun n => if n > 0 then (if out.length < 5864062014805 then (vendmeterref_Billed.l0 k l a b (out ++ [(⟨n, (l.getD i z125).f1, wrap64 (n * (l.getD i z125).f1)⟩ : S150)]) (l.getD i z125).f0 ((i + 1 : Nat) : Int)) else none) else vendmeterref_Billed.l0 k l a b out (l.getD i z125).f0 ((i + 1 : Nat) : Int)) (fun k => ?_) ?_
  · simp only [vendmeterref_Billed.l0, rd_step]
    rw [if_pos (by omega), if_pos (by omega), wn hi (by omega), wr (a := a + b) ⟨by omega, by omega⟩]
  · exact Ev.bind (vendmeterref_overlap.ev _ _ _ _ h0 hu ha (by omega)) h
theorem Billed_rest (l : List S125) (a b : Int) (out : List S150) (ht : tarFault l = 0) (ha : 0 ≤ a ∧ a ≤ 10000000) (hb : 0 ≤ b ∧ a + b ≤ 10000000) : ∀ (d i : Nat) (lo : Int), i + d = l.length → (0 ≤ lo ∧ lo ≤ 10000000) → (i < l.length → lo < (l.getD i z125).f0) → a + b ≤ mx lo a → Ev (fun k => vendmeterref_Billed.l0 k l a b out lo (i : Int)) (out, 0)
  | 0, i, lo, hi, h0, hlo, hm => by
    refine Ev.step (f := fun _ => some (out, 0)) (fun k => ?_) (Ev.now _)
    simp only [vendmeterref_Billed.l0]; rw [if_neg (by omega)]
  | d + 1, i, lo, hi, h0, hlo, hm => by
    obtain ⟨t1, t2, t3, t4⟩ := tar_zero ht
    obtain ⟨u1, u2⟩ := t2 i (by omega)
    have hlo := hlo (by omega)
    have hov : ovl lo (l.getD i z125).f0 a (a + b) = 0 := by
      unfold ovl
      unfold mn mx at *
      repeat' split
      all_goals omega
    refine Billed_step l a b out i lo (by omega) t1.2 ha hb h0 (by omega) ?_
    rw [hov]
    refine Ev.neg (by decide) (Billed_rest l a b out ht ha hb d (i + 1) _ (by omega) (by omega) (fun h => t3 i h) ?_)
    unfold mx at *
    split <;> split at hm <;> omega
theorem bill_both (l : List S125) (a b : Int) (ht : tarFault l = 0) (ha : 0 ≤ a ∧ a ≤ 10000000) (hb : 0 ≤ b ∧ a + b ≤ 10000000) : ∀ (d i : Nat) (lo : Int) (out : List S150), i + d = l.length → (0 ≤ lo ∧ lo ≤ 10000000) → (i < l.length → lo < (l.getD i z125).f0) → out.length ≤ i →
    ∃ x r, tariff_pieces.iter tariff_Bill.body l d i (mx lo a) (mx (a + b - mx lo a) 0, out) = some (x, r) ∧ r.length ≤ 8 ∧ Ev (fun k => vendmeterref_Billed.l0 k l a b out lo (i : Int)) (r, 0)
  | 0, i, lo, out, hi, h0, hlo, hout => by
    refine ⟨_, _, rfl, by have := (tar_zero ht).1; omega, ?_⟩
    refine Ev.step (f := fun _ => some (out, 0)) (fun k => ?_) (Ev.now _)
    simp only [vendmeterref_Billed.l0]; rw [if_neg (by omega)]
  | d + 1, i, lo, out, hi, h0, hlo, hout => by
    obtain ⟨t1, t2, t3, t4⟩ := tar_zero ht
    obtain ⟨u1, u2⟩ := t2 i (by omega)
    have hlo := hlo (by omega)
    simp only [tariff_pieces.iter, rd_step]
    by_cases hc : (l.getD i z125).f0 ≤ mx lo a
    · rw [if_pos hc]
      have e1 : mx lo a = a := by unfold mx at *; split at hc <;> omega
      have e2 : mx (l.getD i z125).f0 a = a := by rw [e1] at hc; unfold mx; split <;> omega
      have hov : ovl lo (l.getD i z125).f0 a (a + b) = 0 := by
        rw [e1] at hc
        unfold ovl mn mx
        repeat' split
        all_goals omega
      obtain ⟨x, r, p, q, s⟩ := bill_both l a b ht ha hb d (i + 1) (l.getD i z125).f0 out (by omega) (by omega) (fun h => t3 i h) (by omega)
      rw [e2] at p
      rw [e1]
      refine ⟨x, r, p, q, Billed_step l a b out i lo (by omega) t1.2 ha hb h0 (by omega) ?_⟩
      rw [hov]
      exact Ev.neg (by decide) s
    · rw [if_neg hc]
      by_cases hz : mx (a + b - mx lo a) 0 = 0
      · refine ⟨mx (a + b - mx lo a) 0, out, ?_, by omega, Billed_rest l a b out ht ha hb (d + 1) i lo hi h0 (fun _ => hlo) ?_⟩
        · simp [tariff_Bill.body, hz]
        · unfold mx at hz ⊢; split at hz <;> split <;> omega
      · have hv : mx (a + b - mx lo a) 0 = a + b - mx lo a := by unfold mx at hz ⊢; split at hz <;> split <;> omega
        have hm0 : 0 ≤ mx lo a ∧ mx lo a ≤ 10000000 := by unfold mx; split <;> omega
        have hpos : 0 < a + b - mx lo a := by
          rw [hv] at hz
          rcases Int.lt_or_le (a + b - mx lo a) 0 with g | g
          · unfold mx at hv g; split at hv <;> omega
          · omega
        have e3 : mx (l.getD i z125).f0 a = (l.getD i z125).f0 := by unfold mx at hc ⊢; split at hc <;> split <;> omega
        obtain ⟨n, hn⟩ : ∃ n, mn ((l.getD i z125).f0 - mx lo a) (a + b - mx lo a) = n := ⟨_, rfl⟩
        have hn1 : 0 < n ∧ n ≤ (l.getD i z125).f0 - mx lo a ∧ n ≤ a + b - mx lo a ∧ (n = (l.getD i z125).f0 - mx lo a ∨ n = a + b - mx lo a) := by rw [← hn]; unfold mn; split <;> omega
        have hov : ovl lo (l.getD i z125).f0 a (a + b) = n := by
          rw [← hn]
          unfold ovl
          have : mn (l.getD i z125).f0 (a + b) - mx lo a = mn ((l.getD i z125).f0 - mx lo a) (a + b - mx lo a) := by unfold mn; split <;> split <;> omega
          rw [if_neg (by omega), this]
        obtain ⟨x, r, p, q, s⟩ := bill_both l a b ht ha hb d (i + 1) (l.getD i z125).f0 (out ++ [⟨n, (l.getD i z125).f1, wrap64 (n * (l.getD i z125).f1)⟩]) (by omega) (by omega) (fun h => t3 i h) (by rw [List.length_append]; simp; omega)
        rw [e3] at p
        have hun : wrap64 (a + b - mx lo a - n) = mx (a + b - (l.getD i z125).f0) 0 := by
          rw [wr ⟨by omega, by omega⟩]
          obtain ⟨_, _, _, h⟩ := hn1
          generalize mx lo a = c at *
          unfold mx; split <;> omega
        refine ⟨x, r, ?_, q, Billed_step l a b out i lo (by omega) t1.2 ha hb h0 (by omega) ?_⟩
        · rw [hv, wr ⟨by omega, by omega⟩]
          simp only [tariff_Bill.body]
          rw [if_neg (by omega), if_pos (by omega), Option.bind_some]
          simp only [if_true]
          rw [hn, hun]
          exact p
        · rw [hov]
          exact Ev.pos hn1.1 (Ev.pos (by omega) s)
def billAns (l : List S125) (a b : Int) (r : List S150 × Int) : Prop := tariff_Bill.f l a b = some r ∧ r.1.length ≤ 8 ∧ Ev (fun k => vendmeterref_Billed.f k l a b) r
theorem bill_same (l : List S125) (a b : Int) (ha : -9223372036854775808 ≤ a ∧ a ≤ 9223372036854775807) (hb : -9223372036854775808 ≤ b ∧ b ≤ 9223372036854775807) : ∃ r, billAns l a b r := by
  unfold billAns tariff_Bill.f vendmeterref_Billed.f
  rw [tariff_asked.eq l a b ha hb, Option.bind_some]
  by_cases h : askT l a b = 0
  · obtain ⟨h1, h2, h3, h4⟩ := askT_zero h
    obtain ⟨t1, t2, t3, t4⟩ := tar_zero h1
    obtain ⟨x, r, p, q, s⟩ := bill_both l a b h1 h2 (by omega) l.length 0 0 [] (by omega) (by omega) (fun h => by have := t2 0 h; omega) (by simp)
    have e1 : mx 0 a = a := by unfold mx; split <;> omega
    have e2 : mx (a + b - a) 0 = b := by unfold mx; split <;> omega
    rw [e1, e2] at p
    refine ⟨(r, 0), by rw [if_pos h, p]; rfl, q, Ev.bind (vendmeterref_UnitsMay.ev l a b) (Ev.pos h s)⟩
  · exact ⟨([], askT l a b), by rw [if_neg h], by simp, Ev.bind (vendmeterref_UnitsMay.ev l a b) (Ev.neg h (Ev.now _))⟩
theorem vendmeterlaw_sameSteps.ev (l) (hl : l.length ≤ 1152921504606846976) : Ev (fun k => vendmeterlaw_sameSteps.f k l l) true := by
  unfold vendmeterlaw_sameSteps.f
  refine Ev.pos rfl (same_ev hl (fun k i hi => ?_) (fun k => ?_))
  · simp only [vendmeterlaw_sameSteps.l0]; rw [if_pos (by omega), if_pos (by omega), if_pos (by omega)]; simp
  · simp only [vendmeterlaw_sameSteps.l0]; rw [if_neg (by omega)]
theorem vendmeterlaw_sameLines.ev (l) (hl : l.length ≤ 1152921504606846976) : Ev (fun k => vendmeterlaw_sameLines.f k l l) true := by
  unfold vendmeterlaw_sameLines.f
  refine Ev.pos rfl (same_ev hl (fun k i hi => ?_) (fun k => ?_))
  · simp only [vendmeterlaw_sameLines.l0]; rw [if_pos (by omega), if_pos (by omega), if_pos (by omega)]; simp
  · simp only [vendmeterlaw_sameLines.l0]; rw [if_neg (by omega)]
theorem vendmeterlaw_steps.eq (l) (h : l.length * 16 ≤ 140737488351232) : vendmeterlaw_steps.f l = some l := by
  unfold vendmeterlaw_steps.f
  rw [if_pos (by simp only [List.length_nil]; omega)]; rfl

theorem TariffBills : vendmeterlaw_TariffBills.Pure := by
  intro l a b h ha hb
  refine Ev.rounds ?_
  unfold vendmeterlaw_TariffBills.f
  rw [vendmeterlaw_steps.eq l h.1]
  have hl := h.1
  obtain ⟨r, p, q, s⟩ := bill_same l a b (wf64 ha) (wf64 hb)
  refine Ev.letS ?_
  rw [p]
  exact Ev.letS (Ev.bind s (Ev.pos rfl (Ev.bind (vendmeterlaw_sameLines.ev r.1 (by omega)) (Ev.pos rfl (Ev.bind (vendmeterlaw_sameSteps.ev l (by omega)) (Ev.now _))))))

end Go.Proofs.Ythmmadniaakapaa.Pure
