/- vendmeterlaw.TariffPrices returns true at every list of steps and numbers: tariff.Price answers as the reference does. No condition. -/
import Derived.Test.YtacgddnjlfkdmaaPTariffPricesxL
import Derived.Test.YtacgddnjlfkdmaaXLib
set_option linter.unusedVariables false
set_option linter.unusedSimpArgs false
namespace Go.Proofs.Ytacgddnjlfkdmaa.Pure
open Go.RowKit Go.Proofs.Ytacgddnjlfkdmaa.PTariffPrices Go.Proofs.YtacgddnjlfkdmaaW.PrintWords Go.Proofs.YtacgddnjlfkdmaaW.PrintLast Go.Proofs.YtacgddnjlfkdmaaW.PrintMore Go.Proofs.YtacgddnjlfkdmaaW.XLib

theorem vendmeterref_In.eq (a b c : Int) : vendmeterref_In.f a b c = some (decide (b ≤ a ∧ a ≤ c)) := by
  unfold vendmeterref_In.f
  by_cases h : b ≤ a
  · rw [if_pos h]; simp [h]
  · rw [if_neg h]; simp [h]
theorem rd_step (l : List S149) (i : Nat) : rd_T149 l (i : Int) = l.getD i z149 := Eq.trans rfl rfl
def tarFault (l : List S149) : Int := if (l.length : Int) < 1 then 1 else if (l.length : Int) > 8 then 1 else if l.any tariff_Check.bad = true then 2 else if tariff_Check.rising l = true then (if (rd_T149 l ((l.length : Int) - 1)).f0 = 10000000 then 0 else 3) else 3
theorem tariff_Check.eq (l : List S149) : tariff_Check.f l = some (tarFault l) := by
  unfold tariff_Check.f tarFault
  repeat' split
  all_goals rfl
theorem vendmeterref_TariffFault.ev (l : List S149) : Ev (fun k => vendmeterref_TariffFault.f k l) (tarFault l) := by
  unfold vendmeterref_TariffFault.f tarFault
  simp only [vendmeterref_In.eq, Option.bind_some]
  by_cases h1 : (l.length : Int) < 1
  · rw [if_pos h1]; exact Ev.neg (by rw [decide_eq_true_eq]; omega) (Ev.now _)
  rw [if_neg h1]
  by_cases h8 : (l.length : Int) > 8
  · rw [if_pos h8]; exact Ev.neg (by rw [decide_eq_true_eq]; omega) (Ev.now _)
  rw [if_neg h8]
  refine Ev.pos (decide_eq_true (by omega)) ?_
  by_cases hb : l.any tariff_Check.bad = true
  · rw [if_pos hb]
    have key : ∀ d i : Nat, i + d = l.length → (l.drop i).any tariff_Check.bad = true → Ev (fun k => vendmeterref_TariffFault.l0 k l (i : Int)) 2 := by
      intro d
      induction d with
      | zero => intro i hi h; rw [List.drop_of_length_le (by omega)] at h; simp at h
      | succ d ih =>
        intro i hi h
        rw [drop_getD l i z149 (by omega), List.any_cons] at h
        by_cases hs : tariff_Check.bad (l.getD i z149) = true
        · simp only [tariff_Check.bad, Bool.or_eq_true, decide_eq_true_eq] at hs
          refine Ev.step (f := fun _ => some 2) (fun k => ?_) (Ev.now _)
          simp only [vendmeterref_TariffFault.l0, rd_step, vendmeterref_In.eq, Option.bind_some]; rw [if_pos (by omega), if_pos (by omega)]
          by_cases h0 : 1 ≤ (l.getD i z149).f0 ∧ (l.getD i z149).f0 ≤ 10000000
          · rw [if_pos (decide_eq_true h0), if_neg (by rw [decide_eq_true_eq]; omega)]
          · rw [if_neg (by rw [decide_eq_true_eq]; exact h0)]
        · rw [Bool.eq_false_iff.mpr hs, Bool.false_or] at h
          simp only [tariff_Check.bad, Bool.or_eq_true, decide_eq_true_eq] at hs
          refine Ev.step (f := fun k => vendmeterref_TariffFault.l0 k l ((i + 1 : Nat) : Int)) (fun k => ?_) (ih (i + 1) (by omega) h)
          simp only [vendmeterref_TariffFault.l0, rd_step, vendmeterref_In.eq, Option.bind_some]; rw [if_pos (by omega), if_pos (by omega), wn (show i < l.length by omega) (by omega)]
          rw [if_pos (decide_eq_true (by omega)), if_pos (decide_eq_true (by omega))]
    exact key l.length 0 (by omega) hb
  rw [if_neg hb]
  have hb' := Bool.eq_false_iff.mpr hb
  have key0 : ∀ {r : Int}, Ev (fun k => vendmeterref_TariffFault.l1 k l 1) r → Ev (fun k => vendmeterref_TariffFault.l0 k l 0) r := by
    intro r hr
    refine down (P := fun i => Ev (fun k => vendmeterref_TariffFault.l0 k l (i : Int)) r) (n := l.length) ?_ ?_
    · refine Ev.step (fun k => ?_) hr
      simp only [vendmeterref_TariffFault.l0]; rw [if_neg (by omega)]
    · intro i hi h
      have hs := (List.any_eq_false.1 hb') _ (getD_mem l i z149 hi)
      simp only [tariff_Check.bad, Bool.or_eq_true, decide_eq_true_eq] at hs
      refine Ev.step (fun k => ?_) h
      simp only [vendmeterref_TariffFault.l0, rd_step, vendmeterref_In.eq, Option.bind_some]; rw [if_pos (by omega), if_pos (by omega), wn hi (by omega)]
      rw [if_pos (decide_eq_true (by omega)), if_pos (decide_eq_true (by omega))]
  apply key0
  have hlen : 1 ≤ l.length := by omega
  have step : ∀ (k i : Nat), 1 ≤ i → i < l.length → vendmeterref_TariffFault.l1 (k + 1) l (i : Int) = if (rd_T149 l (i : Int)).f0 ≤ (rd_T149 l ((i : Int) - 1)).f0 then some 3 else vendmeterref_TariffFault.l1 k l ((i + 1 : Nat) : Int) := by
    intro k i h0 hi
    simp only [vendmeterref_TariffFault.l1]
    rw [wr (a := (i : Int) - 1) ⟨by omega, by omega⟩, if_pos (by omega), if_pos (by omega), if_pos (by omega), if_pos (by omega), wn hi (by omega)]
  have last : ∀ k, vendmeterref_TariffFault.l1 (k + 1) l (l.length : Int) = if (rd_T149 l ((l.length : Int) - 1)).f0 = 10000000 then some 0 else some 3 := by
    intro k
    simp only [vendmeterref_TariffFault.l1]
    rw [wr (a := (l.length : Int) - 1) ⟨by omega, by omega⟩, if_neg (by omega), if_pos (by omega), if_pos (by omega)]
  by_cases hr : tariff_Check.rising l = true
  · rw [if_pos hr]
    have hri := (tariff_Check.rising_iff l).1 hr
    refine downFrom (P := fun i => Ev (fun k => vendmeterref_TariffFault.l1 k l (i : Int)) _) (m := 1) (n := l.length) hlen ?_ ?_
    · refine Ev.step last ?_
      exact Ev.iteR (fun _ => Ev.now _) (fun _ => Ev.now _)
    · intro i h0 hi h
      refine Ev.step (f := fun k => vendmeterref_TariffFault.l1 k l ((i + 1 : Nat) : Int)) (fun k => ?_) h
      rw [step k i h0 hi, if_neg]
      have := hri (i - 1) (by omega)
      rw [show (((i - 1 : Nat) : Nat) : Int) = (i : Int) - 1 by omega, show (i : Int) - 1 + 1 = (i : Int) by omega] at this
      omega
  · rw [if_neg hr]
    have hex : ∃ i : Nat, 1 ≤ i ∧ i < l.length ∧ (rd_T149 l (i : Int)).f0 ≤ (rd_T149 l ((i : Int) - 1)).f0 := by
      refine Classical.not_not.1 fun hn => hr ((tariff_Check.rising_iff l).2 fun i hi => ?_)
      refine Classical.not_not.1 fun h => hn ⟨i + 1, by omega, hi, ?_⟩
      rw [show ((i + 1 : Nat) : Int) - 1 = (i : Int) by omega, show ((i + 1 : Nat) : Int) = (i : Int) + 1 by omega]
      omega
    obtain ⟨m, hm0, hm1, hm⟩ := hex
    refine downFrom (P := fun i => Ev (fun k => vendmeterref_TariffFault.l1 k l (i : Int)) 3) (m := 1) (n := m) hm0 ?_ ?_
    · refine Ev.step (f := fun _ => some 3) (fun k => ?_) (Ev.now _)
      rw [step k m hm0 hm1, if_pos hm]
    · intro i h0 hi h
      by_cases hc : (rd_T149 l (i : Int)).f0 ≤ (rd_T149 l ((i : Int) - 1)).f0
      · refine Ev.step (f := fun _ => some 3) (fun k => ?_) (Ev.now _)
        rw [step k i h0 (by omega), if_pos hc]
      · refine Ev.step (f := fun k => vendmeterref_TariffFault.l1 k l ((i + 1 : Nat) : Int)) (fun k => ?_) h
        rw [step k i h0 (by omega), if_neg hc]
def askT (l : List S149) (a b : Int) : Int := if tarFault l = 0 then (if (0 ≤ a ∧ a ≤ 10000000) ∧ (0 ≤ b ∧ b ≤ 2097151) ∧ a + b ≤ 10000000 then 0 else 2) else tarFault l
theorem tariff_asked.eq (l : List S149) (a b : Int) (ha : -9223372036854775808 ≤ a ∧ a ≤ 9223372036854775807) (hb : -9223372036854775808 ≤ b ∧ b ≤ 9223372036854775807) : tariff_asked.f l a b = some (askT l a b) := by
  unfold tariff_asked.f askT
  rw [tariff_Check.eq, Option.bind_some]
  by_cases h : tarFault l = 0
  · rw [if_pos h, if_pos h]
    by_cases h1 : a < 0
    · rw [if_pos h1, if_neg (by omega)]
    · rw [if_neg h1]
      by_cases h2 : a > 10000000
      · rw [if_pos h2, if_neg (by omega)]
      · rw [if_neg h2]
        by_cases h3 : b < 0
        · rw [if_pos h3, if_neg (by omega)]
        · rw [if_neg h3]
          by_cases h4 : b > 2097151
          · rw [if_pos h4, if_neg (by omega)]
          · rw [if_neg h4, wr ⟨by omega, by omega⟩]
            by_cases h5 : a + b > 10000000
            · rw [if_pos h5, if_neg (by omega)]
            · rw [if_neg h5, if_pos (by omega)]
  · rw [if_neg h, if_neg h]
theorem vendmeterref_UnitsMay.ev (l : List S149) (a b : Int) : Ev (fun k => vendmeterref_UnitsMay.f k l a b) (askT l a b) := by
  unfold vendmeterref_UnitsMay.f askT
  refine Ev.bind (vendmeterref_TariffFault.ev l) (Ev.iteR (fun h => ?_) (fun h => Ev.now _))
  rw [vendmeterref_In.eq, vendmeterref_In.eq]
  refine Ev.letS ?_
  by_cases h1 : 0 ≤ a ∧ a ≤ 10000000
  · refine Ev.pos (by simpa using h1) (Ev.letS ?_)
    by_cases h2 : 0 ≤ b ∧ b ≤ 2097151
    · refine Ev.pos (by simpa using h2) ?_
      rw [wr ⟨by omega, by omega⟩]
      by_cases h3 : a + b > 10000000
      · exact Ev.pos h3 (Ev.ret (by rw [if_neg (by omega)]))
      · exact Ev.neg h3 (Ev.ret (by rw [if_pos (by omega)]))
    · exact Ev.neg (by simpa using h2) (Ev.ret (by rw [if_neg (by omega)]))
  · exact Ev.neg (by simpa using h1) (Ev.ret (by rw [if_neg (by omega)]))
theorem askT_zero {l : List S149} {a b : Int} (h : askT l a b = 0) : tarFault l = 0 ∧ (0 ≤ a ∧ a ≤ 10000000) ∧ (0 ≤ b ∧ b ≤ 2097151) ∧ a + b ≤ 10000000 := by
  unfold askT at h
  by_cases h0 : tarFault l = 0
  · rw [if_pos h0] at h
    by_cases h1 : (0 ≤ a ∧ a ≤ 10000000) ∧ (0 ≤ b ∧ b ≤ 2097151) ∧ a + b ≤ 10000000
    · exact ⟨h0, h1⟩
    · rw [if_neg h1] at h; omega
  · rw [if_neg h0] at h; exact absurd h h0
theorem tar_zero {l : List S149} (h : tarFault l = 0) : (1 ≤ l.length ∧ l.length ≤ 8) ∧ (∀ i : Nat, i < l.length → (1 ≤ (l.getD i z149).f0 ∧ (l.getD i z149).f0 ≤ 10000000) ∧ (1 ≤ (l.getD i z149).f1 ∧ (l.getD i z149).f1 ≤ 100000)) ∧ (∀ i : Nat, i + 1 < l.length → (l.getD i z149).f0 < (l.getD (i + 1) z149).f0) ∧ (l.getD (l.length - 1) z149).f0 = 10000000 := by
  unfold tarFault at h
  by_cases h1 : (l.length : Int) < 1
  · rw [if_pos h1] at h; omega
  rw [if_neg h1] at h
  by_cases h2 : (l.length : Int) > 8
  · rw [if_pos h2] at h; omega
  rw [if_neg h2] at h
  by_cases h3 : l.any tariff_Check.bad = true
  · rw [if_pos h3] at h; omega
  rw [if_neg h3] at h
  by_cases h4 : tariff_Check.rising l = true
  case neg => rw [if_neg h4] at h; omega
  rw [if_pos h4] at h
  by_cases h5 : (rd_T149 l ((l.length : Int) - 1)).f0 = 10000000
  case neg => rw [if_neg h5] at h; omega
  refine ⟨by omega, fun i hi => ?_, fun i hi => ?_, ?_⟩
  · have hm := getD_mem l i z149 hi
    have hb : tariff_Check.bad (l.getD i z149) = false := by
      cases hb : tariff_Check.bad (l.getD i z149) with
      | false => rfl
      | true => exact absurd (List.any_eq_true.2 ⟨_, hm, hb⟩) h3
    unfold tariff_Check.bad at hb
    simp only [Bool.or_eq_false_iff, decide_eq_false_iff_not] at hb
    omega
  · unfold tariff_Check.rising at h4
    have := List.all_eq_true.1 h4 i (List.mem_range.2 (by omega))
    rw [decide_eq_true_eq, show ((i : Int) + 1) = ((i + 1 : Nat) : Int) by omega, rd_step, rd_step] at this
    exact this
  · rw [show ((l.length : Int) - 1) = ((l.length - 1 : Nat) : Int) by omega, rd_step] at h5
    exact h5
def ovl (lo hi a b : Int) : Int := if mn hi b < mx lo a then 0 else mn hi b - mx lo a
theorem vendmeterref_overlap.ev (lo hi a b : Int) (h1 : 0 ≤ lo ∧ lo ≤ 10000000) (h2 : 0 ≤ hi ∧ hi ≤ 10000000) (h3 : 0 ≤ a ∧ a ≤ 10000000) (h4 : 0 ≤ b ∧ b ≤ 20000000) : Ev (fun k => vendmeterref_overlap.f k lo hi a b) (ovl lo hi a b) := by
  refine Ev.succ ⟨0, fun k _ => ?_⟩
  simp only [vendmeterref_overlap.f, vendmeterref_overlap.j0]
  rw [wr (a := b - a) ⟨by omega, by omega⟩, wr (a := hi - a) ⟨by omega, by omega⟩, wr (a := b - lo) ⟨by omega, by omega⟩, wr (a := hi - lo) ⟨by omega, by omega⟩]
  unfold ovl mn mx
  repeat' split
  all_goals first | rfl | omega | (congr 1; omega)
-- what units cost by a tariff, and the greedy bill
section
variable {α : Type} (up pr : α → Int)
def ov (lo hi a b : Int) : Int := if (if b < hi then b else hi) < (if a > lo then a else lo) then 0 else (if b < hi then b else hi) - (if a > lo then a else lo)
def costL : Int → List α → Int → Int → Int
  | _, [], _, _ => 0
  | lo, s :: t, a, b => ov lo (up s) a b * pr s + costL (up s) t a b
def Asc : Int → List α → Prop
  | _, [] => True
  | lo, s :: t => lo < up s ∧ 1 ≤ pr s ∧ Asc (up s) t
def greedy : List α → Int → Int → Int → Int × Int
  | [], _, _, _ => (0, 0)
  | s :: t, cur, m, cap => if up s ≤ cur then greedy t cur m cap else
      if mn (mn (up s - cur) (Int.tdiv m (pr s))) cap < up s - cur then (mn (mn (up s - cur) (Int.tdiv m (pr s))) cap, mn (mn (up s - cur) (Int.tdiv m (pr s))) cap * pr s) else
      (up s - cur + (greedy t (up s) (m - (up s - cur) * pr s) (cap - (up s - cur))).1, (up s - cur) * pr s + (greedy t (up s) (m - (up s - cur) * pr s) (cap - (up s - cur))).2)
theorem ov_nonneg (lo hi a b : Int) : 0 ≤ ov lo hi a b := by unfold ov; split <;> omega
theorem ov_mono (lo hi a b b' : Int) (h : b ≤ b') : ov lo hi a b ≤ ov lo hi a b' := by unfold ov; repeat' split; all_goals omega
theorem ov_zero (lo hi a b : Int) (h : b ≤ lo) : ov lo hi a b = 0 := by unfold ov; repeat' split; all_goals omega
theorem ov_zero' (lo hi a b : Int) (h : hi ≤ a) : ov lo hi a b = 0 := by unfold ov; repeat' split; all_goals omega
theorem ov_shift (lo hi a b c : Int) (h : a ≤ lo) (h' : c ≤ lo) : ov lo hi a b = ov lo hi c b := by unfold ov; repeat' split; all_goals omega
theorem ov_in (lo hi a x : Int) (h : lo ≤ a) (h0 : 0 ≤ x) (hx : a + x ≤ hi) : ov lo hi a (a + x) = x := by unfold ov; repeat' split; all_goals omega
theorem ov_full (lo hi a b : Int) (h : lo ≤ a) (h0 : a ≤ hi) (hb : hi ≤ b) : ov lo hi a b = hi - a := by unfold ov; repeat' split; all_goals omega
theorem costL_mono : ∀ (t : List α) (lo a b b' : Int), (∀ s ∈ t, 0 ≤ pr s) → b ≤ b' → costL up pr lo t a b ≤ costL up pr lo t a b'
  | [], _, _, _, _, _, _ => by simp [costL]
  | s :: t, lo, a, b, b', hp, h => by
    simp only [costL]
    have h1 := Int.mul_le_mul_of_nonneg_right (ov_mono lo (up s) a b b' h) (hp s (List.mem_cons_self ..))
    have h2 := costL_mono t (up s) a b b' (fun x hx => hp x (List.mem_cons_of_mem _ hx)) h
    omega
theorem costL_zero : ∀ (t : List α) (lo a b : Int), Asc up pr lo t → b ≤ lo → costL up pr lo t a b = 0
  | [], _, _, _, _, _ => by simp [costL]
  | s :: t, lo, a, b, ht, h => by
    simp only [costL]
    rw [ov_zero _ _ _ _ h, costL_zero t (up s) a b ht.2.2 (by have := ht.1; omega)]; simp
theorem costL_shift : ∀ (t : List α) (lo a b c : Int), Asc up pr lo t → a ≤ lo → c ≤ lo → costL up pr lo t a b = costL up pr lo t c b
  | [], _, _, _, _, _, _, _ => by simp [costL]
  | s :: t, lo, a, b, c, ht, h, h' => by
    simp only [costL]
    rw [ov_shift _ _ _ _ _ h h', costL_shift t (up s) a b c ht.2.2 (by have := ht.1; omega) (by have := ht.1; omega)]
theorem greedy_spec : ∀ (t : List α) (lo cur m cap : Int), Asc up pr lo t → lo ≤ cur → 0 ≤ m → 0 ≤ cap →
    0 ≤ (greedy up pr t cur m cap).1 ∧ (greedy up pr t cur m cap).1 ≤ cap ∧ (greedy up pr t cur m cap).2 = costL up pr lo t cur (cur + (greedy up pr t cur m cap).1) ∧ (greedy up pr t cur m cap).2 ≤ m ∧
    ((greedy up pr t cur m cap).1 = 0 ∨ ∃ s ∈ t, cur + (greedy up pr t cur m cap).1 ≤ up s) ∧
    ((greedy up pr t cur m cap).1 = cap ∨ m < costL up pr lo t cur (cur + (greedy up pr t cur m cap).1 + 1) ∨ ∀ s ∈ t, up s ≤ cur + (greedy up pr t cur m cap).1)
  | [], lo, cur, m, cap, _, _, hm, hc => by simp [greedy, costL]; omega
  | s :: t, lo, cur, m, cap, ht, hl, hm, hc => by
    obtain ⟨h1, h2, h3⟩ := ht
    by_cases hs : up s ≤ cur
    · have e : greedy up pr (s :: t) cur m cap = greedy up pr t cur m cap := by simp only [greedy]; rw [if_pos hs]
      have ec : ∀ b, costL up pr lo (s :: t) cur b = costL up pr (up s) t cur b := fun b => by simp only [costL]; rw [ov_zero' _ _ _ _ hs]; omega
      rw [e]
      obtain ⟨g1, g2, g3, g4, g5, g6⟩ := greedy_spec t (up s) cur m cap h3 hs hm hc
      refine ⟨g1, g2, by rw [ec]; exact g3, g4, ?_, ?_⟩
      · rcases g5 with g | ⟨x, hx, g⟩
        · exact .inl g
        · exact .inr ⟨x, List.mem_cons_of_mem _ hx, g⟩
      · rcases g6 with g | g | g
        · exact .inl g
        · exact .inr (.inl (by rw [ec]; exact g))
        · refine .inr (.inr fun x hx => ?_)
          rcases List.mem_cons.1 hx with rfl | hx
          · omega
          · exact g x hx
    · have hq0 : 0 ≤ Int.tdiv m (pr s) := Int.tdiv_nonneg hm (by omega)
      have hqm : Int.tdiv m (pr s) * pr s ≤ m := by rw [Int.tdiv_eq_ediv_of_nonneg hm]; exact Int.ediv_mul_le m (by omega)
      have hqs : m < (Int.tdiv m (pr s) + 1) * pr s := by rw [Int.tdiv_eq_ediv_of_nonneg hm]; exact Int.lt_ediv_add_one_mul_self m (by omega)
      obtain ⟨n, hn⟩ : ∃ n, n = mn (mn (up s - cur) (Int.tdiv m (pr s))) cap := ⟨_, rfl⟩
      have hn0 : 0 ≤ n := by subst hn; unfold mn; repeat' split; all_goals omega
      have hnc : n ≤ cap := by subst hn; unfold mn; repeat' split; all_goals omega
      have hnq : n ≤ Int.tdiv m (pr s) := by subst hn; unfold mn; repeat' split; all_goals omega
      have hnl : n ≤ up s - cur := by subst hn; unfold mn; repeat' split; all_goals omega
      have hne : n = cap ∨ n = Int.tdiv m (pr s) ∨ n = up s - cur := by subst hn; unfold mn; repeat' split; all_goals omega
      have hnm : n * pr s ≤ m := Int.le_trans (Int.mul_le_mul_of_nonneg_right hnq (by omega)) hqm
      by_cases hlt : n < up s - cur
      · have e : greedy up pr (s :: t) cur m cap = (n, n * pr s) := by simp only [greedy]; rw [if_neg hs, ← hn, if_pos hlt]
        rw [e]
        have ec : ∀ x, 0 ≤ x → x ≤ up s - cur → costL up pr lo (s :: t) cur (cur + x) = x * pr s := fun x hx0 hx => by
          simp only [costL]; rw [ov_in _ _ _ _ hl hx0 (by omega), costL_zero up pr t (up s) cur (cur + x) h3 (by omega)]; omega
        refine ⟨hn0, hnc, (ec n hn0 hnl).symm, hnm, .inr ⟨s, List.mem_cons_self .., by show cur + n ≤ _; omega⟩, ?_⟩
        rcases hne with h | h | h
        · exact .inl h
        · refine .inr (.inl ?_)
          show m < costL up pr lo (s :: t) cur (cur + n + 1)
          rw [show cur + n + 1 = cur + (n + 1) by omega, ec (n + 1) (by omega) (by omega), h]; exact hqs
        · omega
      · have hnl' : n = up s - cur := by omega
        have e : greedy up pr (s :: t) cur m cap = (up s - cur + (greedy up pr t (up s) (m - (up s - cur) * pr s) (cap - (up s - cur))).1, (up s - cur) * pr s + (greedy up pr t (up s) (m - (up s - cur) * pr s) (cap - (up s - cur))).2) := by
          simp only [greedy]; rw [if_neg hs, ← hn, if_neg hlt]
        rw [e]
        rw [hnl'] at hnm hnc hn0
        obtain ⟨g1, g2, g3, g4, g5, g6⟩ := greedy_spec t (up s) (up s) (m - (up s - cur) * pr s) (cap - (up s - cur)) h3 (by omega) (by omega) (by omega)
        have ec : ∀ x, 0 ≤ x → costL up pr lo (s :: t) cur (up s + x) = (up s - cur) * pr s + costL up pr (up s) t (up s) (up s + x) := fun x hx0 => by
          simp only [costL]; rw [ov_full _ _ _ _ hl (by omega) (by omega), costL_shift up pr t (up s) cur (up s + x) (up s) h3 (by omega) (by omega)]
        generalize (greedy up pr t (up s) (m - (up s - cur) * pr s) (cap - (up s - cur))) = G at *
        refine ⟨by show 0 ≤ up s - cur + G.1; omega, by show up s - cur + G.1 ≤ cap; omega, ?_, by show (up s - cur) * pr s + G.2 ≤ m; omega, ?_, ?_⟩
        · show (up s - cur) * pr s + G.2 = costL up pr lo (s :: t) cur (cur + (up s - cur + G.1))
          rw [show cur + (up s - cur + G.1) = up s + G.1 by omega, ec _ g1, ← g3]
        · rcases g5 with g | ⟨x, hx, g⟩
          · exact .inr ⟨s, List.mem_cons_self .., by show cur + (up s - cur + G.1) ≤ _; omega⟩
          · exact .inr ⟨x, List.mem_cons_of_mem _ hx, by show cur + (up s - cur + G.1) ≤ _; omega⟩
        · rcases g6 with g | g | g
          · exact .inl (by show up s - cur + G.1 = cap; omega)
          · refine .inr (.inl ?_)
            show m < costL up pr lo (s :: t) cur (cur + (up s - cur + G.1) + 1)
            rw [show cur + (up s - cur + G.1) + 1 = up s + (G.1 + 1) by omega, ec _ (by omega), show up s + (G.1 + 1) = up s + G.1 + 1 by omega]; omega
          · refine .inr (.inr fun x hx => ?_)
            show up x ≤ cur + (up s - cur + G.1)
            rcases List.mem_cons.1 hx with rfl | hx
            · omega
            · have := g x hx; omega
end
def upS (s : S149) : Int := s.f0
def prS (s : S149) : Int := s.f1
theorem ov_ovl (lo hi a b : Int) : ov lo hi a b = ovl lo hi a b := rfl
theorem ovl_bd (lo hi a b : Int) (h0 : 0 ≤ lo) (h1 : 0 ≤ hi ∧ hi ≤ 10000000) : 0 ≤ ovl lo hi a b ∧ ovl lo hi a b ≤ 10000000 := by
  unfold ovl mn mx
  repeat' split
  all_goals omega
theorem asc_drop {l : List S149} (ht : tarFault l = 0) : ∀ (d i : Nat) (lo : Int), i + d = l.length → (i < l.length → lo < (l.getD i z149).f0) → Asc upS prS lo (l.drop i)
  | 0, i, lo, hi, h => by rw [List.drop_of_length_le (by omega)]; trivial
  | d + 1, i, lo, hi, h => by
    obtain ⟨t1, t2, t3, t4⟩ := tar_zero ht
    rw [drop_getD l i z149 (by omega)]
    exact ⟨h (by omega), (t2 i (by omega)).2.1, asc_drop ht d (i + 1) _ (by omega) (fun q => t3 i q)⟩
theorem asc_all {l : List S149} (ht : tarFault l = 0) : Asc upS prS 0 l := by
  have := asc_drop ht l.length 0 0 (by omega) (fun h => by have := (tar_zero ht).2.1 0 h; omega)
  rwa [List.drop_zero] at this
theorem cost_l0 (l : List S149) (a b : Int) (ht : tarFault l = 0) (ha : 0 ≤ a ∧ a ≤ 10000000) (hb : 0 ≤ b ∧ b ≤ 20000000) : ∀ (d i : Nat) (lo acc : Int), i + d = l.length → (0 ≤ lo ∧ lo ≤ 10000000) → (0 ≤ acc ∧ acc ≤ i * 1000000000000) → Ev (fun k => vendmeterref_cost.l0 k l a b acc lo (i : Int)) (acc + costL upS prS lo (l.drop i) a b)
  | 0, i, lo, acc, hi, h0, h1 => by
    rw [List.drop_of_length_le (by omega)]
    refine Ev.step (f := fun _ => some acc) (fun k => ?_) (Ev.ret (by simp [costL]))
    simp only [vendmeterref_cost.l0]; rw [if_neg (by omega)]
  | d + 1, i, lo, acc, hi, h0, h1 => by
    obtain ⟨t1, t2, t3, t4⟩ := tar_zero ht
    obtain ⟨u1, u2⟩ := t2 i (by omega)
    have ho := ovl_bd lo (l.getD i z149).f0 a b h0.1 (by omega)
    have hp : 0 ≤ ovl lo (l.getD i z149).f0 a b * (l.getD i z149).f1 := Int.mul_nonneg ho.1 (by omega)
    have hq : ovl lo (l.getD i z149).f0 a b * (l.getD i z149).f1 ≤ 10000000 * 100000 := Int.mul_le_mul ho.2 u2.2 (by omega) (by decide)
    have hc : acc + costL upS prS lo (l.drop i) a b = (acc + ovl lo (l.getD i z149).f0 a b * (l.getD i z149).f1) + costL upS prS (l.getD i z149).f0 (l.drop (i + 1)) a b := by
      rw [drop_getD l i z149 (by omega)]
      simp only [costL, ov_ovl, upS, prS]
      omega
    rw [hc]
    refine Ev.step (f := fun k => (vendmeterref_overlap.f k lo (l.getD i z149).f0 a b).bind fun n => vendmeterref_cost.l0 k l a b (wrap64 (acc + wrap64 (n * (l.getD i z149).f1))) (l.getD i z149).f0 ((i + 1 : Nat) : Int)) (fun k => ?_) ?_
    · simp only [vendmeterref_cost.l0, rd_step]
      rw [if_pos (by omega), if_pos (by omega), wn (show i < l.length by omega) (by omega)]
    · refine Ev.bind (vendmeterref_overlap.ev _ _ _ _ h0 (by omega) ha hb) ?_
      generalize ovl lo (l.getD i z149).f0 a b * (l.getD i z149).f1 = p at *
      rw [wr (a := p) ⟨by omega, by omega⟩, wr (a := acc + p) ⟨by omega, by omega⟩]
      exact cost_l0 l a b ht ha hb d (i + 1) _ _ (by omega) (by omega) (by omega)
theorem vendmeterref_cost.ev (l : List S149) (a b : Int) (ht : tarFault l = 0) (ha : 0 ≤ a ∧ a ≤ 10000000) (hb : 0 ≤ b ∧ b ≤ 20000000) : Ev (fun k => vendmeterref_cost.f k l a b) (costL upS prS 0 l a b) := by
  have := cost_l0 l a b ht ha hb l.length 0 0 0 (by omega) (by omega) (by omega)
  rw [List.drop_zero, Int.zero_add] at this
  exact this
def sumF (r : List S84) : Int := (r.map (·.f2)).sum
theorem cost_rest : ∀ (t : List S149) (lo a e : Int), Asc upS prS lo t → e ≤ mx lo a → costL upS prS lo t a e = 0
  | [], _, _, _, _, _ => by simp [costL]
  | s :: t, lo, a, e, h, hm => by
    simp only [costL, ov_ovl]
    have h1 : lo < upS s := h.1
    have hov : ovl lo (upS s) a e = 0 := by
      unfold ovl
      unfold mn mx at *
      repeat' split
      all_goals (try split at hm)
      all_goals omega
    rw [hov, cost_rest t (upS s) a e h.2.2 (by unfold mx at *; split <;> split at hm <;> omega)]
    simp
theorem bill_cost (l : List S149) (a b : Int) (ht : tarFault l = 0) (ha : 0 ≤ a ∧ a ≤ 10000000) (hb : 0 ≤ b ∧ a + b ≤ 10000000) : ∀ (d i : Nat) (lo : Int) (out : List S84), i + d = l.length → (0 ≤ lo ∧ lo ≤ 10000000) → (i < l.length → lo < (l.getD i z149).f0) → out.length ≤ i → (∀ y ∈ out, 0 ≤ y.f2 ∧ y.f2 ≤ 1000000000000) →
    ∃ x r, tariff_pieces.iter tariff_Bill.body l d i (mx lo a) (mx (a + b - mx lo a) 0, out) = some (x, r) ∧ r.length ≤ 8 ∧ (∀ y ∈ r, 0 ≤ y.f2 ∧ y.f2 ≤ 1000000000000) ∧ sumF r = sumF out + costL upS prS lo (l.drop i) a (a + b)
  | 0, i, lo, out, hi, h0, hlo, hout, hy => by
    refine ⟨_, _, rfl, by have := (tar_zero ht).1; omega, hy, ?_⟩
    rw [List.drop_of_length_le (by omega)]
    simp [costL]
  | d + 1, i, lo, out, hi, h0, hlo, hout, hy => by
    obtain ⟨t1, t2, t3, t4⟩ := tar_zero ht
    obtain ⟨u1, u2⟩ := t2 i (by omega)
    have hlo := hlo (by omega)
    have hasc := asc_drop ht (d + 1) i lo hi (fun _ => hlo)
    simp only [tariff_pieces.iter, rd_step]
    by_cases hc : (l.getD i z149).f0 ≤ mx lo a
    · rw [if_pos hc]
      have e1 : mx lo a = a := by unfold mx at *; split at hc <;> omega
      have e2 : mx (l.getD i z149).f0 a = a := by rw [e1] at hc; unfold mx; split <;> omega
      have hov : ovl lo (l.getD i z149).f0 a (a + b) = 0 := by
        rw [e1] at hc
        unfold ovl mn mx
        repeat' split
        all_goals omega
      obtain ⟨x, r, p, q, s, v⟩ := bill_cost l a b ht ha hb d (i + 1) (l.getD i z149).f0 out (by omega) (by omega) (fun h => t3 i h) (by omega) hy
      rw [e2] at p
      rw [e1]
      refine ⟨x, r, p, q, s, ?_⟩
      rw [v, drop_getD l i z149 (by omega)]
      simp only [costL, ov_ovl, upS, prS, hov]
      omega
    · rw [if_neg hc]
      by_cases hz : mx (a + b - mx lo a) 0 = 0
      · refine ⟨mx (a + b - mx lo a) 0, out, ?_, by omega, hy, ?_⟩
        · simp [tariff_Bill.body, hz]
        · rw [cost_rest _ lo a (a + b) hasc (by unfold mx at hz ⊢; split at hz <;> split <;> omega)]
          omega
      · have hv : mx (a + b - mx lo a) 0 = a + b - mx lo a := by unfold mx at hz ⊢; split at hz <;> split <;> omega
        have hm0 : 0 ≤ mx lo a ∧ mx lo a ≤ 10000000 := by unfold mx; split <;> omega
        have hpos : 0 < a + b - mx lo a := by
          rw [hv] at hz
          rcases Int.lt_or_le (a + b - mx lo a) 0 with g | g
          · unfold mx at hv g; split at hv <;> omega
          · omega
        have e3 : mx (l.getD i z149).f0 a = (l.getD i z149).f0 := by unfold mx at hc ⊢; split at hc <;> split <;> omega
        obtain ⟨n, hn⟩ : ∃ n, mn ((l.getD i z149).f0 - mx lo a) (a + b - mx lo a) = n := ⟨_, rfl⟩
        have hn1 : 0 < n ∧ n ≤ (l.getD i z149).f0 - mx lo a ∧ n ≤ a + b - mx lo a ∧ (n = (l.getD i z149).f0 - mx lo a ∨ n = a + b - mx lo a) := by rw [← hn]; unfold mn; split <;> omega
        have hov : ovl lo (l.getD i z149).f0 a (a + b) = n := by
          rw [← hn]
          unfold ovl
          have : mn (l.getD i z149).f0 (a + b) - mx lo a = mn ((l.getD i z149).f0 - mx lo a) (a + b - mx lo a) := by unfold mn; split <;> split <;> omega
          rw [if_neg (by omega), this]
        have hp0 : 0 ≤ n * (l.getD i z149).f1 := Int.mul_nonneg (by omega) (by omega)
        have hp1 : n * (l.getD i z149).f1 ≤ 10000000 * 100000 := Int.mul_le_mul (by omega) u2.2 (by omega) (by decide)
        have hw : wrap64 (n * (l.getD i z149).f1) = n * (l.getD i z149).f1 := wr ⟨by omega, by omega⟩
        obtain ⟨x, r, p, q, s, v⟩ := bill_cost l a b ht ha hb d (i + 1) (l.getD i z149).f0 (out ++ [⟨n, (l.getD i z149).f1, wrap64 (n * (l.getD i z149).f1)⟩]) (by omega) (by omega) (fun h => t3 i h) (by rw [List.length_append]; simp; omega) (fun y hy' => by
          rcases List.mem_append.1 hy' with g | g
          · exact hy y g
          · rw [List.mem_singleton.1 g]
            simp only [hw]
            exact ⟨hp0, by omega⟩)
        rw [e3] at p
        have hun : wrap64 (a + b - mx lo a - n) = mx (a + b - (l.getD i z149).f0) 0 := by
          rw [wr ⟨by omega, by omega⟩]
          obtain ⟨_, _, _, h⟩ := hn1
          generalize mx lo a = c at *
          unfold mx; split <;> omega
        refine ⟨x, r, ?_, q, s, ?_⟩
        · rw [hv, wr ⟨by omega, by omega⟩]
          simp only [tariff_Bill.body]
          rw [if_neg (by omega), if_pos (by omega), Option.bind_some]
          simp only [if_true]
          rw [hn, hun]
          exact p
        · rw [v, drop_getD l i z149 (by omega)]
          simp only [costL, ov_ovl, upS, prS, hov, sumF, List.map_append, List.sum_append, List.map_cons, List.map_nil, List.sum_cons, List.sum_nil, hw]
          omega
theorem rd_line (l : List S84) (i : Nat) : rd_T84 l (i : Int) = l.getD i z84 := Eq.trans rfl rfl
theorem price_l0 (e : Int) (r : List S84) (hr : r.length ≤ 8) (hy : ∀ y ∈ r, 0 ≤ y.f2 ∧ y.f2 ≤ 1000000000000) : ∀ (d i : Nat) (acc : Int), i + d = r.length → (0 ≤ acc ∧ acc ≤ i * 1000000000000) → Ev (fun k => tariff_Price.l0 k e acc r (r.length : Int) (i : Int)) (acc + sumF (r.drop i), e)
  | 0, i, acc, hi, h1 => by
    rw [List.drop_of_length_le (by omega)]
    refine Ev.step (f := fun _ => some (acc, e)) (fun k => ?_) (Ev.ret (by simp [sumF]))
    simp only [tariff_Price.l0]; rw [if_neg (by omega)]
  | d + 1, i, acc, hi, h1 => by
    have hg := hy _ (getD_mem r i z84 (by omega))
    have ih := price_l0 e r hr hy d (i + 1) (acc + (r.getD i z84).f2) (by omega) (by omega)
    refine Ev.step (f := fun k => tariff_Price.l0 k e (acc + (r.getD i z84).f2) r (r.length : Int) ((i + 1 : Nat) : Int)) (fun k => ?_) (Ev.eq ?_ ih)
    · simp only [tariff_Price.l0, rd_line]
      rw [if_pos (by omega), if_pos (by omega), if_pos (by omega), wn (show i < r.length by omega) (by omega), wr (a := acc + _) ⟨by omega, by omega⟩]
    · rw [drop_getD r i z84 (by omega)]
      simp only [sumF, List.map_cons, List.sum_cons]
      congr 1
      omega
theorem price_same (l : List S149) (a b : Int) (ha : -9223372036854775808 ≤ a ∧ a ≤ 9223372036854775807) (hb : -9223372036854775808 ≤ b ∧ b ≤ 9223372036854775807) : ∃ r, Ev (fun k => tariff_Price.f k l a b) r ∧ Ev (fun k => vendmeterref_Priced.f k l a b) r := by
  unfold tariff_Price.f vendmeterref_Priced.f tariff_Bill.f
  rw [tariff_asked.eq l a b ha hb, Option.bind_some]
  by_cases h : askT l a b = 0
  · obtain ⟨h1, h2, h3, h4⟩ := askT_zero h
    obtain ⟨t1, t2, t3, t4⟩ := tar_zero h1
    obtain ⟨x, r, p, q, s, v⟩ := bill_cost l a b h1 h2 (by omega) l.length 0 0 [] (by omega) (by omega) (fun h => by have := t2 0 h; omega) (by simp) (by simp)
    have e1 : mx 0 a = a := by unfold mx; split <;> omega
    have e2 : mx (a + b - a) 0 = b := by unfold mx; split <;> omega
    rw [e1, e2] at p
    rw [List.drop_zero] at v
    have hl0 := price_l0 0 r q s r.length 0 0 (by omega) (by omega)
    rw [List.drop_zero, v] at hl0
    simp only [sumF, List.map_nil, List.sum_nil, Int.zero_add] at hl0
    refine ⟨(costL upS prS 0 l a (a + b), 0), ?_, Ev.bind (vendmeterref_UnitsMay.ev l a b) (Ev.pos h ?_)⟩
    · rw [if_pos h, p]
      exact hl0
    · rw [wr (a := a + b) ⟨by omega, by omega⟩]
      exact Ev.bind (vendmeterref_cost.ev l a (a + b) h1 h2 (by omega)) (Ev.now _)
  · refine ⟨(0, askT l a b), ?_, Ev.bind (vendmeterref_UnitsMay.ev l a b) (Ev.neg h (Ev.now _))⟩
    rw [if_neg h]
    exact Ev.eq (by simp [sumF]) (price_l0 (askT l a b) [] (by simp) (by simp) 0 0 0 rfl (by omega))
theorem vendmeterlaw_steps.eq (l) (h : l.length * 16 ≤ 140737488351232) : vendmeterlaw_steps.f l = some l := by
  unfold vendmeterlaw_steps.f
  rw [if_pos (by simp only [List.length_nil]; omega)]; rfl

theorem TariffPrices : vendmeterlaw_TariffPrices.Pure := by
  intro l a b h ha hb
  refine Ev.rounds ?_
  unfold vendmeterlaw_TariffPrices.f
  rw [vendmeterlaw_steps.eq l h.1]
  obtain ⟨r, p, q⟩ := price_same l a b (wf64 ha) (wf64 hb)
  exact Ev.letS (Ev.bind p (Ev.bind q (Ev.pos rfl (Ev.ret (by simp)))))

end Go.Proofs.Ytacgddnjlfkdmaa.Pure
