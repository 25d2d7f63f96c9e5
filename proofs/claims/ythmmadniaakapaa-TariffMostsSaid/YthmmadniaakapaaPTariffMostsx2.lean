-- written by this session's program wip/xp/xprint.py (it drives the kit's print and adds to it)
import Derived.Test.YthmmadniaakapaaPTariffMostsx0
import Derived.Test.YthmmadniaakapaaPTariffMostsx1
namespace Go.Proofs.Ythmmadniaakapaa.PTariffMosts
open Go.RowKit Go.Proofs.YthmmadniaakapaaW.PrintWords Go.Proofs.YthmmadniaakapaaW.PrintLast Go.Proofs.YthmmadniaakapaaW.PrintMore
attribute [local go_sem] max2_int min2_int max_two min_two max_three min_three max_four min_four   -- for this text's walks alone
set_option linter.unusedVariables false
set_option linter.unusedSimpArgs false

attribute [local go_sem high] eqA125
/-! ### vendmeterlaw_steps: function 45 -/
def vendmeterlaw_steps.f (l0 : List (S125)) : Option ((List (S125))) := if ([] : List (S125)).length + l0.length < 8796093022208 then (some (([] : List (S125)) ++ l0)) else (none)
set_option maxHeartbeats 8000000 in
set_option maxRecDepth 100000 in
theorem vendmeterlaw_steps.calls (A0 : Option Addr) (c0 : Nat) (l0 : List (S125)) (r : List (S125)) (w : World) (hr0 : Kd.C k125 w A0 l0.length l0) (hc0 : l0.length ≤ c0) (h : vendmeterlaw_steps.f l0 = some r) :
    Calls Try.prog 45 #[.slice A0 l0.length c0] w fun e w' => ∃ v0_ : Value, e = .returned (v0_) ∧ Kd.R k125 125 w' w.heap.size (fun _ => True) v0_ r ∧ Below w.heap.size w w' := by
  have HR0 := Aside0.mk hr0
  have HC0 := Aside0.mk hc0
  clear hr0 hc0
  have HB := Aside0.mk (Below.refl w.heap.size w)
  have H : (if ([] : List (S125)).length + l0.length < 8796093022208 then (some (([] : List (S125)) ++ l0)) else (none)) = some r := h
  clear h
  by_cases c2 : ([] : List (S125)).length + l0.length < 8796093022208
  · rw [if_pos c2] at H
    have LMc2 := Aside0.mk c2
    clear c2
    obtain ⟨y101, hy101⟩ : ∃ y_ : List (S125), y_ = (([] : List (S125)) ++ l0) := ⟨_, rfl⟩
    replace H : (some y101) = some r := by first | (rw [hy101]; with_reducible exact H) | (have H2_ := (Option.bind_some _ _).symm.trans H; rw [hy101]; with_reducible exact H2_) | (have H2_ := (Option.bind_some _ _).symm.trans H; with_reducible exact H2_) | with_reducible exact H | (rw [hy101]; exact H) | exact H
    have Ny101 := Aside0.mk hy101
    clear hy101
    obtain rfl := Option.some.inj H
    go_enter Try.func45, Try.ntmps45
    go_wp2_with (first | ((with_reducible refine gate_builtin (b := .append) (xs := #[.const (.slice none 0 0), .tmp 3]) rfl ?_); at_builtin; refine Kd.R_append_rows k125 (w0 := w) w.heap.size rfl (.const (.slice none 0 0)) (.tmp 3) 51 125 (.agg #[(.int .i64 0), (.int .i64 0)]) 16 rfl Try.underlying51 info125 rfl (by decide) (by omega) (.slice none 0 0) ([] : List (S125)) l0 _ _ _ (fun _ => True) (fun _ => False) rfl rfl ?aO ?aR (fun _ _ h => h) (fun _ h => h.elim) ?aF ?aB ?aS ?aL ?_; (case aR => repeat (first | exact HR0.out | (with_reducible refine Kd.C_alloc ?_ _) | (with_reducible refine Kd.C_drewN ?_ _) | (with_reducible refine Kd.C_drew ?_))); (case aB => exact (by repeat (first | (with_reducible first | exact HB.out | apply below_alloc | apply pw_below_drewN | apply below_drew1) | exact HB.out))); (case aF => exact (fun _ _ => trivial)); (case aO => exact ((Kd.R_nil _ _ _ _ (fun _ => True)))); (case aS => exact (below_size (by repeat (first | (with_reducible first | exact HB.out | apply below_alloc | apply pw_below_drewN | apply below_drew1) | exact HB.out)))); (case aL => have := LMc2.out; omega); intro v102 w3 ho hb hg hat; rw [← Ny101.out] at ho; have n0_ := Aside0.mk (hb); have n1_ := Aside0.mk (ho); clear HB; have HB := n0_; have HO103 := n1_; clear n0_ n1_; clear ho hb hg hat))
    go_ret
    exact ⟨_, by first | rfl | (simp [errW_none, errW_some] <;> rfl) | (simp [*, errW_none, errW_some] <;> rfl), by (with_reducible repeat (first | apply Kd.R_alloc | apply Kd.R_drewN | apply Kd.R_drew)); exact HO103.out, by repeat (first | (with_reducible first | exact HB.out | apply below_alloc | apply pw_below_drewN | apply below_drew1) | exact HB.out)⟩
  · rw [if_neg c2] at H
    exact absurd H (by simp)

/-! ### vendmeterlaw_sameSteps: function 49 -/
def vendmeterlaw_sameSteps.l0 : Nat → List (S125) → List (S125) → Int → Option (Bool)
  | 0, _, _, _ => none
  | k + 1, x0, x1, x5 => if x5 < (x0.length : Int) then (if 0 ≤ x5 then (if x5 < (x1.length : Int) then (if (!(((rd_T125 x0 x5).f0) == ((rd_T125 x1 x5).f0)) || (!(((rd_T125 x0 x5).f1) == ((rd_T125 x1 x5).f1)))) = true then (some false) else (vendmeterlaw_sameSteps.l0 k x0 x1 (wrap64 (x5 + 1)))) else (none)) else (none)) else (some true)
def vendmeterlaw_sameSteps.f (k : Nat) (l0 : List (S125)) (l1 : List (S125)) : Option (Bool) := if (l0.length : Int) = (l1.length : Int) then (vendmeterlaw_sameSteps.l0 k l0 l1 0) else (some false)
theorem vendmeterlaw_sameSteps.mono_l : ∀ k, (∀ y0 y1 y2, LeO (vendmeterlaw_sameSteps.l0 k y0 y1 y2) (vendmeterlaw_sameSteps.l0 (k + 1) y0 y1 y2))
  | 0 => fun _ _ _ r h => by simp [vendmeterlaw_sameSteps.l0] at h
  | k + 1 => by
    have ih0 := vendmeterlaw_sameSteps.mono_l k
    · intro y0 y1 y2
      unfold vendmeterlaw_sameSteps.l0
      repeat' first
      | (with_reducible exact ih0 _ _ _)
      | (with_reducible exact LeO.refl _)
      | (with_reducible exact LeO.none _)
      | (with_reducible refine LeO.ite ?_ ?_)
      | (with_reducible refine LeO.bind ?_ (fun _ => ?_))
      | exact ih0 _ _ _
      | exact LeO.none _
      | refine LeO.ite ?_ ?_
      | refine LeO.bind ?_ (fun _ => ?_)
theorem vendmeterlaw_sameSteps.mono : ∀ a0 a1 k, LeO (vendmeterlaw_sameSteps.f k a0 a1) (vendmeterlaw_sameSteps.f (k + 1) a0 a1) := by
  intro a0 a1 k
  have ih0 := vendmeterlaw_sameSteps.mono_l k
  unfold vendmeterlaw_sameSteps.f
  repeat' first
      | (with_reducible exact ih0 _ _ _)
      | (with_reducible exact LeO.refl _)
      | (with_reducible exact LeO.none _)
      | (with_reducible refine LeO.ite ?_ ?_)
      | (with_reducible refine LeO.bind ?_ (fun _ => ?_))
      | exact ih0 _ _ _
      | exact LeO.none _
      | refine LeO.ite ?_ ?_
      | refine LeO.bind ?_ (fun _ => ?_)
set_option maxHeartbeats 8000000 in
set_option maxRecDepth 100000 in
theorem vendmeterlaw_sameSteps.calls (k : Nat) (A0 : Option Addr) (c0 : Nat) (l0 : List (S125)) (A1 : Option Addr) (c1 : Nat) (l1 : List (S125)) (r : Bool) (w : World) (hr0 : Kd.C k125 w A0 l0.length l0) (hc0 : l0.length ≤ c0) (hr1 : Kd.C k125 w A1 l1.length l1) (hc1 : l1.length ≤ c1) (h : vendmeterlaw_sameSteps.f k l0 l1 = some r) :
    Calls Try.prog 49 #[.slice A0 l0.length c0, .slice A1 l1.length c1] w fun e w' => e = .returned (.bool r) ∧ Drawn0 w w' := by
  have hu125 := Try.underlying125
  have HR0 := Aside0.mk hr0
  have HC0 := Aside0.mk hc0
  clear hr0 hc0
  have HR1 := Aside0.mk hr1
  have HC1 := Aside0.mk hc1
  clear hr1 hc1
  have H : (if (l0.length : Int) = (l1.length : Int) then (vendmeterlaw_sameSteps.l0 k l0 l1 0) else (some false)) = some r := h
  clear h
  by_cases c3 : (l0.length : Int) = (l1.length : Int)
  · rw [if_pos c3] at H
    have c3b0 : ((l0.length : Int) == (l1.length : Int)) = true := beq_iff_eq.mpr c3
    have c3b1 : ((l0.length : Int) != (l1.length : Int)) = false := bne_eq_false_iff_eq.mpr c3
    have c3b2 : (l0.length == l1.length) = true := by first | simpa using c3 | (simp at c3 ⊢; omega)
    clear c3
    have H' := Aside0.mk H
    clear H
    go_enter Try.func49, Try.ntmps49
    go_wp2
    repeat (go_quiet (fail); try go_wp2)
    go_loopg [5] k (fun kq v5 w' => ∃ (x5_1 : Int), v5 = .int .i64 x5_1 ∧ Aside0 (vendmeterlaw_sameSteps.l0 kq l0 l1 x5_1 = some r) ∧ Aside0 (kq ≤ k) ∧ Drawn0 w w')
    case atStart => exact ⟨(0), (by first | rfl | (simp; done) | (simp [*]; done)), H', ⟨Nat.le_refl _⟩, by repeat (first | exact Drawn0.refl _ | apply Drawn0.step)⟩
    case round =>
      clear H'
      try clear c1
      try clear p2
      try clear c3
      try clear c3b0
      try clear c3b1
      try clear c3b2
      obtain ⟨x5_1, rfl, HA, HK1, ⟨m1, rfl⟩⟩ := hrel
      cases gk with
      | zero => exact absurd HA.out (by simp [vendmeterlaw_sameSteps.l0])
      | succ k1 =>
        have H := HA.out
        clear HA
        simp only [vendmeterlaw_sameSteps.l0] at H
        by_cases c4 : x5_1 < (l0.length : Int)
        · rw [if_pos c4] at H
          have c4b0 : decide (x5_1 < (l0.length : Int)) = true := decide_eq_true c4
          clear c4
          by_cases c5 : 0 ≤ x5_1
          · rw [if_pos c5] at H
            have c5b0 : decide (0 ≤ x5_1) = true := decide_eq_true c5
            clear c5
            by_cases c6 : x5_1 < (l1.length : Int)
            · rw [if_pos c6] at H
              have c6b0 : decide (x5_1 < (l1.length : Int)) = true := decide_eq_true c6
              clear c6
              by_cases c7 : (!(((rd_T125 l0 x5_1).f0) == ((rd_T125 l1 x5_1).f0)) || (!(((rd_T125 l0 x5_1).f1) == ((rd_T125 l1 x5_1).f1)))) = true
              · rw [if_pos c7] at H
                have c7b0 : (!(((rd_T125 l0 x5_1).f0) == ((rd_T125 l1 x5_1).f0)) || (!(((rd_T125 l0 x5_1).f1) == ((rd_T125 l1 x5_1).f1)))) = true := c7
                clear c7
                obtain rfl := Option.some.inj H
                have p104 : 0 ≤ (x5_1 : Int) := of_decide_eq_true (by first | (with_reducible assumption) | assumption)
                have q104 : x5_1 < (l0.length : Int) := of_decide_eq_true (by first | (with_reducible assumption) | assumption)
                obtain ⟨ad104, e104, hx104_0, hx104_1⟩ := at_T125 HR0.out x5_1 p104 q104
                cases e104
                replace p104 := eq_true p104
                replace q104 := eq_true q104
                have p105 : 0 ≤ (x5_1 : Int) := of_decide_eq_true (by first | (with_reducible assumption) | assumption)
                have q105 : x5_1 < (l1.length : Int) := of_decide_eq_true (by first | (with_reducible assumption) | assumption)
                obtain ⟨ad105, e105, hx105_0, hx105_1⟩ := at_T125 HR1.out x5_1 p105 q105
                cases e105
                replace p105 := eq_true p105
                replace q105 := eq_true q105
                go_wp2
                repeat (go_quiet (fail); try go_wp2)
                go_ret
                exact ⟨by first | rfl | (simp; done) | (simp [*]; done), by repeat (first | exact Drawn0.refl _ | apply Drawn0.step)⟩
              · rw [if_neg c7] at H
                have c7b0 : (!(((rd_T125 l0 x5_1).f0) == ((rd_T125 l1 x5_1).f0)) || (!(((rd_T125 l0 x5_1).f1) == ((rd_T125 l1 x5_1).f1)))) = false := by simpa using c7
                clear c7
                have H' := Aside0.mk H
                clear H
                have p104 : 0 ≤ (x5_1 : Int) := of_decide_eq_true (by first | (with_reducible assumption) | assumption)
                have q104 : x5_1 < (l0.length : Int) := of_decide_eq_true (by first | (with_reducible assumption) | assumption)
                obtain ⟨ad104, e104, hx104_0, hx104_1⟩ := at_T125 HR0.out x5_1 p104 q104
                cases e104
                replace p104 := eq_true p104
                replace q104 := eq_true q104
                have p105 : 0 ≤ (x5_1 : Int) := of_decide_eq_true (by first | (with_reducible assumption) | assumption)
                have q105 : x5_1 < (l1.length : Int) := of_decide_eq_true (by first | (with_reducible assumption) | assumption)
                obtain ⟨ad105, e105, hx105_0, hx105_1⟩ := at_T125 HR1.out x5_1 p105 q105
                cases e105
                replace p105 := eq_true p105
                replace q105 := eq_true q105
                go_wp2
                repeat (go_quiet (fail); try go_wp2)
                go_roundg k1
                case measure => have := HK1.out; omega
                case rel => exact ⟨(wrap64 (x5_1 + 1)), (by first | rfl | (simp; done) | (simp [*]; done)), H', ⟨by have := HK1.out; omega⟩, by repeat (first | exact Drawn0.refl _ | apply Drawn0.step)⟩
            · rw [if_neg c6] at H
              exact absurd H (by simp)
          · rw [if_neg c5] at H
            exact absurd H (by simp)
        · rw [if_neg c4] at H
          have c4b0 : decide (x5_1 < (l0.length : Int)) = false := decide_eq_false c4
          clear c4
          obtain rfl := Option.some.inj H
          go_wp2
          repeat (go_quiet (fail); try go_wp2)
          go_ret
          exact ⟨by first | rfl | (simp; done) | (simp [*]; done), by repeat (first | exact Drawn0.refl _ | apply Drawn0.step)⟩
  · rw [if_neg c3] at H
    have c3b0 : ((l0.length : Int) == (l1.length : Int)) = false := beq_eq_false_iff_ne.mpr c3
    have c3b1 : ((l0.length : Int) != (l1.length : Int)) = true := bne_iff_ne.mpr c3
    have c3b2 : (l0.length == l1.length) = false := by first | simpa using c3 | (simp at c3 ⊢; omega)
    obtain rfl := Option.some.inj H
    go_enter Try.func49, Try.ntmps49
    go_wp2
    repeat (go_quiet (fail); try go_wp2)
    go_ret
    exact ⟨by first | rfl | (simp; done) | (simp [*]; done), by repeat (first | exact Drawn0.refl _ | apply Drawn0.step)⟩

-- NOT PRINTED: function 146 (reflectlite_ValueOf)

-- NOT PRINTED: function 147 (reflectlite_Value_Len)

-- NOT PRINTED: function 122 (sort_SliceIsSorted)

/-! ### tariff_Check -/
def tariff_Check.bad (s : S125) : Bool := decide (s.f0 < 1) || decide (10000000 < s.f0) || decide (s.f1 < 1) || decide (100000 < s.f1)
def tariff_Check.rising (l : List S125) : Bool := (List.range (l.length - 1)).all fun i => decide ((rd_T125 l ((i : Nat) : Int)).f0 < (rd_T125 l (((i : Nat) : Int) + 1)).f0)
theorem tariff_Check.less (g : Nat) (A0 : Option Addr) (c0 : Nat) (l0 : List S125) (i j : Int) (w : World) (hb : w.cell? ⟨g, 0, none⟩ = some (.slice A0 l0.length c0)) (hr0 : Kd.C k125 w A0 l0.length l0) (hl : l0.length ≤ 8) (hi0 : 0 ≤ i) (hi1 : i < (l0.length : Int)) (hj0 : 0 ≤ j) (hj1 : j < (l0.length : Int)) :
    Calls Try.prog 123 #[.int .i64 i, .int .i64 j, .pointer (some ⟨g, 0, none⟩)] w fun e w' => e = .returned (.bool (decide ((rd_T125 l0 i).f0 ≤ (rd_T125 l0 j).f0))) ∧ ∃ n, w' = w.drewN n := by
  obtain ⟨ad, rfl, h1, _⟩ := at_T125 hr0 i hi0 hi1
  obtain ⟨ad2, e2, h2, _⟩ := at_T125 hr0 j hj0 hj1
  cases e2
  clear hr0
  have hu := Try.underlying51
  have hs : ∀ (x : Int), 0 ≤ x → x.toNat * 2 + 0 = x.toNat * 2 := fun _ _ => rfl
  go_enter Try.func123, Try.ntmps123
  go_wp2
  go_quiet (fail)
  go_wp2
  go_ret
  exact ⟨rfl, _, rfl⟩
theorem info_t51 : ((Try.prog.info? 51).map (·.desc)) = some (.slice 125) := by kernel_rfl
theorem packed_t51 : Try.prog.packed 51 = false := by kernel_rfl
theorem tariff_Check.rising_iff (l : List S125) : tariff_Check.rising l = true ↔ ∀ i : Nat, i + 1 < l.length → (rd_T125 l (i : Int)).f0 < (rd_T125 l ((i : Int) + 1)).f0 := by
  simp only [tariff_Check.rising, List.all_eq_true, List.mem_range, decide_eq_true_eq]
  exact ⟨fun h i hi => h i (by omega), fun h i hi => h i (by omega)⟩
set_option maxHeartbeats 2000000 in
set_option maxRecDepth 100000 in
theorem tariff_Check.sorted (g : Nat) (A0 : Option Addr) (c0 : Nat) (l0 : List S125) (w : World) (hb : w.cell? ⟨g, 0, none⟩ = some (.slice A0 l0.length c0)) (hr0 : Kd.C k125 w A0 l0.length l0) (hl : l0.length ≤ 8) (hl1 : 1 ≤ l0.length) :
    Calls Try.prog 122 #[.iface 51 (.slice A0 l0.length c0), .func (.func 123) #[] #[.pointer (some ⟨g, 0, none⟩)]] w fun e w' => e = .returned (.bool (tariff_Check.rising l0)) ∧ Below w.heap.size w w' := by
  obtain ⟨i46, hi46, hd46⟩ : ∃ i, Try.prog.info? 51 = some i ∧ i.desc = .slice 125 := by
    have := info_t51
    cases h : Try.prog.info? 51 with
    | none => rw [h] at this; cases this
    | some i => rw [h] at this; exact ⟨i, rfl, Option.some.inj this⟩
  have hv := Lib.run_valueOf_slice (P := Try.prog) 51 125 i46 hi46 hd46 A0 l0.length c0 w
  have hln := fun a w ha => Lib.run_valueLen_slice (P := Try.prog) 51 125 i46 hi46 hd46 packed_t51 a A0 l0.length c0 w ha
  simp only [typeHandle] at hv hln
  generalize Try.prog.globals.size = G at hv hln
  have HR0 := Aside0.mk hr0
  have HB0 := Aside0.mk hb
  have HI := Aside0.mk hi46
  clear hr0 hb hi46 hd46
  go_enter Try.func122, Try.ntmps122
  go_wp2
  rw [run_callFunc_extern Try.func146 (by kernel_rfl) (by kernel_rfl) (by kernel_rfl) (e := fun args => Extern.ReflectliteValue.unpack (args.getD 0 (.tuple #[]))) (by kernel_rfl),
    show Sem.run Try.prog ((fun args : Array Value => Extern.ReflectliteValue.unpack (args.getD 0 (.tuple #[]))) #[.iface 51 (.slice A0 l0.length c0)]) w = _ from hv]
  simp only [Result.andThen]
  rw [Oper.upon_value]
  clear hv
  go_wp2
  rw [run_callFunc_extern Try.func147 (by kernel_rfl) (by kernel_rfl) (by kernel_rfl) (e := Extern.ReflectliteValue.method (Extern.ReflectliteValue.valueError "reflectlite.Value.Len" 0) Extern.ReflectliteValue.len) (by kernel_rfl),
    hln _ _ (by simp)]
  simp only [Result.andThen]
  rw [Oper.upon_value]
  clear hln
  have HBW : Aside0 (Below w.heap.size w ((w.alloc (.cells #[.slice A0 l0.length c0] 51)).alloc (.cells #[.pointer (some ⟨G, 51, none⟩), .pointer (some ⟨w.heap.size, 0, none⟩), .int .u64 151] 199))) := ⟨below_alloc (below_alloc (Below.refl _ _) _) _⟩
  obtain ⟨l1, hl1e⟩ : ∃ l1 : Int, l1 = (l0.length : Int) := ⟨_, rfl⟩
  go_wp2
  go_loopg [7] l0.length (fun kq v7 w' => ∃ i : Int, v7 = .int .i64 i ∧ 0 ≤ i ∧ i < (l0.length : Int) ∧ i < (kq : Int) ∧ Aside0 (∀ m : Nat, i ≤ (m : Int) → m + 1 < l0.length → (rd_T125 l0 (m : Int)).f0 < (rd_T125 l0 ((m : Int) + 1)).f0) ∧ Aside0 (Below w.heap.size w w'))
  case atStart => exact ⟨_, rfl, by omega, by omega, by omega, ⟨fun m h1 h2 => by omega⟩, ⟨HBW.out⟩⟩
  case round =>
    clear HBW
    obtain ⟨i, rfl, h0, h1, h2, HA, HBW⟩ := hrel
    have hbr : Aside0 (wr.cell? ⟨g, 0, none⟩ = some (.slice A0 l0.length c0)) := ⟨pw_cell_below HBW.out HB0.out⟩
    have hrr : Aside0 (Kd.C k125 wr A0 l0.length l0) := ⟨Kd.C_below HR0.out HBW.out⟩
    by_cases hi : 0 < i
    · have hib : decide (i > 0) = true := decide_eq_true hi
      by_cases hlt : (rd_T125 l0 i).f0 ≤ (rd_T125 l0 (i - 1)).f0
      · have hlb := decide_eq_true hlt
        have HLT := Aside0.mk hlt
        clear hlt
        go_wp2_with (go_at_call 123; refine (tariff_Check.less g A0 c0 l0 i (i - 1) _ hbr.out hrr.out hl h0 h1 (by omega) (by omega)).mono ?_; rintro e w' ⟨rfl, n, rfl⟩)
        go_ret
        refine ⟨?_, ?_⟩
        · have : tariff_Check.rising l0 = false := by
            rw [Bool.eq_false_iff]
            intro h
            have h3 := (tariff_Check.rising_iff l0).1 h (i - 1).toNat (by omega)
            rw [show (((i - 1).toNat : Nat) : Int) = i - 1 by omega, show i - 1 + 1 = i by omega] at h3
            have := HLT.out
            omega
          exact congrArg (fun b_ => Ending.returned (.bool b_)) this.symm
        · repeat (first | exact HBW.out | apply below_drew1 | apply pw_below_drewN)
      · have hlb := decide_eq_false hlt
        have HLT := Aside0.mk hlt
        clear hlt
        go_wp2_with (go_at_call 123; refine (tariff_Check.less g A0 c0 l0 i (i - 1) _ hbr.out hrr.out hl h0 h1 (by omega) (by omega)).mono ?_; rintro e w' ⟨rfl, n, rfl⟩)
        go_roundg (gk - 1)
        case measure => omega
        case rel =>
          refine ⟨i - 1, rfl, by omega, by omega, by omega, ⟨fun m h3 h4 => ?_⟩, ⟨by repeat (first | exact HBW.out | apply below_drew1 | apply pw_below_drewN)⟩⟩
          by_cases hm : i ≤ (m : Int)
          · exact HA.out m hm h4
          · rw [show (m : Int) = i - 1 by omega, show i - 1 + 1 = i by omega]
            have := HLT.out
            omega
    · have hib : decide (i > 0) = false := decide_eq_false (by omega)
      go_wp2
      go_ret
      refine ⟨?_, by repeat (first | exact HBW.out | apply below_drew1 | apply pw_below_drewN)⟩
      have : tariff_Check.rising l0 = true := (tariff_Check.rising_iff l0).2 fun m hm => HA.out m (by omega) hm
      exact congrArg (fun b_ => Ending.returned (.bool b_)) this.symm
def tariff_Check.f (l0 : List S125) : Option Int := if (l0.length : Int) < 1 then some 1 else if (l0.length : Int) > 8 then some 1 else if l0.any tariff_Check.bad = true then some 2 else if tariff_Check.rising l0 = true then (if (rd_T125 l0 ((l0.length : Int) - 1)).f0 = 10000000 then some 0 else some 3) else some 3
theorem tariff_Check.bad_at {l0 : List S125} {i : Int} (h0 : 0 ≤ i) (h1 : i < (l0.length : Int)) (h : ¬ ((rd_T125 l0 i).f0 < 1 ∨ (rd_T125 l0 i).f0 > 10000000 ∨ (rd_T125 l0 i).f1 < 1 ∨ (rd_T125 l0 i).f1 > 100000) → False) : l0.any tariff_Check.bad = true := by
  rw [List.any_eq_true]
  refine ⟨rd_T125 l0 i, ?_, ?_⟩
  · unfold rd_T125; rw [List.getD_eq_getElem?_getD, List.getElem?_eq_getElem (show i.toNat < l0.length by omega)]; exact List.getElem_mem _
  · have h' := Classical.not_not.1 h
    simp only [tariff_Check.bad, Bool.or_eq_true, decide_eq_true_eq]
    rcases h' with a | a | a | a <;> simp [a]
theorem tariff_Check.good_of {l0 : List S125} (h : ∀ i : Nat, i < l0.length → ¬ ((rd_T125 l0 (i : Int)).f0 < 1 ∨ (rd_T125 l0 (i : Int)).f0 > 10000000 ∨ (rd_T125 l0 (i : Int)).f1 < 1 ∨ (rd_T125 l0 (i : Int)).f1 > 100000)) : l0.any tariff_Check.bad = false := by
  rw [List.any_eq_false]
  intro x hx
  obtain ⟨i, hi, rfl⟩ := List.mem_iff_getElem.1 hx
  have := h i hi
  have e : rd_T125 l0 (i : Int) = l0[i] := by unfold rd_T125; rw [List.getD_eq_getElem?_getD, Int.toNat_natCast, List.getElem?_eq_getElem hi]; rfl
  rw [e] at this
  simp only [tariff_Check.bad, Bool.or_eq_true, decide_eq_true_eq]
  omega
set_option maxHeartbeats 2000000 in
set_option maxRecDepth 100000 in
theorem tariff_Check.calls (A0 : Option Addr) (c0 : Nat) (l0 : List S125) (r : Int) (w : World) (hr0 : Kd.C k125 w A0 l0.length l0) (hc0 : l0.length ≤ c0) (h : tariff_Check.f l0 = some r) :
    Calls Try.prog 72 #[.slice A0 l0.length c0] w fun e w' => e = .returned (.int .i64 r) ∧ Below w.heap.size w w' := by
  have HR0 := Aside0.mk hr0
  have HC0 := Aside0.mk hc0
  clear hr0 hc0
  have H := Aside0.mk (show _ = _ from h)
  clear h
  unfold tariff_Check.f at H
  by_cases c1 : (l0.length : Int) < 1
  · rw [if_pos c1] at H
    obtain rfl := Option.some.inj H.out
    have d1 := decide_eq_true c1
    clear H
    go_enter Try.func72, Try.ntmps72
    go_wp2
    go_ret
    exact ⟨rfl, by repeat (first | exact Below.refl _ _ | apply below_alloc | apply below_drew1 | apply pw_below_drewN)⟩
  rw [if_neg c1] at H
  have d1 := decide_eq_false c1
  by_cases c2 : (l0.length : Int) > 8
  · rw [if_pos c2] at H
    obtain rfl := Option.some.inj H.out
    have d2 := decide_eq_true c2
    clear H
    go_enter Try.func72, Try.ntmps72
    go_wp2
    go_ret
    exact ⟨rfl, by repeat (first | exact Below.refl _ _ | apply below_alloc | apply below_drew1 | apply pw_below_drewN)⟩
  rw [if_neg c2] at H
  have d2 := decide_eq_false c2
  go_enter Try.func72, Try.ntmps72
  go_wp2
  go_loopg [2, 16] l0.length (fun kq v2 v16 w' => ∃ i : Int, v16 = .int .i64 i ∧ v2 = .int .i64 0 ∧ 0 ≤ i ∧ (kq : Int) = (l0.length : Int) - i ∧ i ≤ (l0.length : Int) ∧ Aside0 (∀ m : Nat, (m : Int) < i → ¬ ((rd_T125 l0 (m : Int)).f0 < 1 ∨ (rd_T125 l0 (m : Int)).f0 > 10000000 ∨ (rd_T125 l0 (m : Int)).f1 < 1 ∨ (rd_T125 l0 (m : Int)).f1 > 100000)) ∧ Aside0 (w'.heap[w.heap.size]? = some (.cells #[.slice A0 l0.length c0] 51 (0, 0))) ∧ Aside0 (Below w.heap.size w w'))
  case atStart => exact ⟨0, rfl, rfl, by omega, by omega, by omega, ⟨fun m h1 => by omega⟩, ⟨blk_new w _⟩, ⟨below_alloc (Below.refl _ _) _⟩⟩
  case round =>
    obtain ⟨i, rfl, rfl, h0, hk, h1, HA, HB, HBW⟩ := hrel
    have HRr : Aside0 (Kd.C k125 wr A0 l0.length l0) := ⟨Kd.C_below HR0.out HBW.out⟩
    have hbx : wr.cell? ⟨w.heap.size, 0, none⟩ = some (.slice A0 l0.length c0) := (blk_cell HB.out 0).trans rfl
    have hfx := blk_frozen HB.out 0
    have hsz : Aside0 (w.heap.size < wr.heap.size) := ⟨blk_lt HB.out⟩
    by_cases hi : i < (l0.length : Int)
    · have hib : decide (i < (l0.length : Int)) = true := decide_eq_true hi
      obtain ⟨ad, rfl, x1, x2⟩ := at_T125 HRr.out i h0 hi
      obtain ⟨u, hu⟩ : ∃ u : S125, u = rd_T125 l0 i := ⟨_, rfl⟩
      rw [← hu] at x1 x2
      have HU := Aside0.mk hu
      clear hu
      by_cases hbad : u.f0 < 1 ∨ u.f0 > 10000000 ∨ u.f1 < 1 ∨ u.f1 > 100000
      · have hB : l0.any tariff_Check.bad = true := tariff_Check.bad_at h0 hi (fun h => h (by rw [← HU.out]; exact hbad))
        rw [if_pos hB] at H
        obtain rfl := Option.some.inj H.out
        clear H hB
        by_cases e1 : u.f0 < 1
        · have f1 := decide_eq_true e1
          clear e1 hbad
          go_wp2
          go_ret
          exact ⟨rfl, by repeat (first | exact HBW.out | apply below_alloc | apply below_drew1 | apply pw_below_drewN)⟩
        have f1 := decide_eq_false e1
        by_cases e2 : u.f0 > 10000000
        · have f2 := decide_eq_true e2
          clear e1 e2 hbad
          go_wp2
          go_ret
          exact ⟨rfl, by repeat (first | exact HBW.out | apply below_alloc | apply below_drew1 | apply pw_below_drewN)⟩
        have f2 := decide_eq_false e2
        by_cases e3 : u.f1 < 1
        · have f3 := decide_eq_true e3
          clear e1 e2 e3 hbad
          go_wp2
          go_ret
          exact ⟨rfl, by repeat (first | exact HBW.out | apply below_alloc | apply below_drew1 | apply pw_below_drewN)⟩
        have f3 := decide_eq_false e3
        have f4 : decide (u.f1 > 100000) = true := decide_eq_true (by omega)
        clear e1 e2 e3 hbad
        go_wp2
        go_ret
        exact ⟨rfl, by repeat (first | exact HBW.out | apply below_alloc | apply below_drew1 | apply pw_below_drewN)⟩
      · have f1 : decide (u.f0 < 1) = false := decide_eq_false (by omega)
        have f2 : decide (u.f0 > 10000000) = false := decide_eq_false (by omega)
        have f3 : decide (u.f1 < 1) = false := decide_eq_false (by omega)
        have f4 : decide (u.f1 > 100000) = false := decide_eq_false (by omega)
        have HG := Aside0.mk hbad
        clear hbad
        go_wp2
        go_roundg (gk - 1)
        case measure => omega
        case rel =>
          refine ⟨i + 1, by first | rfl | go_num, rfl, by omega, by omega, by omega, ⟨fun m hm => ?_⟩, ⟨blk_alloc HB.out _⟩, ⟨below_alloc HBW.out _⟩⟩
          by_cases hmi : (m : Int) < i
          · exact HA.out m hmi
          · rw [show (m : Int) = i by omega, ← HU.out]; exact HG.out
    · have hib : decide (i < (l0.length : Int)) = false := decide_eq_false hi
      have hgood := tariff_Check.good_of (l0 := l0) (fun m hm => HA.out m (by omega))
      rw [if_neg (show ¬ (l0.any tariff_Check.bad = true) by rw [hgood]; decide)] at H
      clear HA hgood
      obtain ⟨ad, rfl, x1, _⟩ := at_T125 HRr.out ((l0.length : Int) - 1) (by omega) (by omega)
      rw [show ((l0.length : Int) - 1).toNat = l0.length - 1 by omega] at x1
      by_cases hr : tariff_Check.rising l0 = true
      · rw [if_pos hr] at H
        obtain ⟨u, hu⟩ : ∃ u : Int, u = (rd_T125 l0 ((l0.length : Int) - 1)).f0 := ⟨_, rfl⟩
        rw [← hu] at x1 H
        have HS := fun W (hb : W.cell? ⟨w.heap.size, 0, none⟩ = some (.slice (some ad) l0.length c0)) (hk : Kd.C k125 W (some ad) l0.length l0) => tariff_Check.sorted w.heap.size (some ad) c0 l0 W hb hk (by omega) (by omega)
        rw [hr] at HS
        have HS2 := Aside0.mk HS
        clear HS hr hu
        by_cases hu2 : u = 10000000
        · subst hu2
          rw [if_pos rfl] at H
          obtain rfl := Option.some.inj H.out
          clear H
          go_wp2_with (go_at_call 122; refine (HS2.out wr hbx HRr.out).mono ?_; rintro e w1 ⟨rfl, hb1⟩; have hbx1 := pw_cell_below hb1 hbx; have x11 := pw_cell_below hb1 x1; have HB1 := Aside0.mk (below_then HBW.out HBW.out.size hb1); clear hb1)
          go_ret
          exact ⟨rfl, by repeat (first | exact HB1.out | exact HBW.out | apply below_alloc | apply below_drew1 | apply pw_below_drewN)⟩
        · rw [if_neg hu2] at H
          obtain rfl := Option.some.inj H.out
          have hu3 : (u == 10000000) = false := by simpa using hu2
          have hu4 : (u != 10000000) = true := by simpa using hu2
          clear H hu2
          go_wp2_with (go_at_call 122; refine (HS2.out wr hbx HRr.out).mono ?_; rintro e w1 ⟨rfl, hb1⟩; have hbx1 := pw_cell_below hb1 hbx; have x11 := pw_cell_below hb1 x1; have HB1 := Aside0.mk (below_then HBW.out HBW.out.size hb1); clear hb1)
          go_ret
          exact ⟨rfl, by repeat (first | exact HB1.out | exact HBW.out | apply below_alloc | apply below_drew1 | apply pw_below_drewN)⟩
      · rw [if_neg hr] at H
        obtain rfl := Option.some.inj H.out
        have hr' := Bool.eq_false_iff.mpr hr
        have HS := fun W (hb : W.cell? ⟨w.heap.size, 0, none⟩ = some (.slice (some ad) l0.length c0)) (hk : Kd.C k125 W (some ad) l0.length l0) => tariff_Check.sorted w.heap.size (some ad) c0 l0 W hb hk (by omega) (by omega)
        rw [hr'] at HS
        have HS2 := Aside0.mk HS
        clear HS hr hr' H
        go_wp2_with (go_at_call 122; refine (HS2.out wr hbx HRr.out).mono ?_; rintro e w1 ⟨rfl, hb1⟩; have hbx1 := pw_cell_below hb1 hbx; have x11 := pw_cell_below hb1 x1; have HB1 := Aside0.mk (below_then HBW.out HBW.out.size hb1); clear hb1)
        go_ret
        exact ⟨rfl, by repeat (first | exact HB1.out | exact HBW.out | apply below_alloc | apply below_drew1 | apply pw_below_drewN)⟩

/-! ### tariff_asked: function 93 -/
def tariff_asked.f (l0 : List (S125)) (a1 : Int) (a2 : Int) : Option (Int) := (tariff_Check.f l0).bind fun t106 => (if t106 = 0 then (if a1 < 0 then (some 2) else (if a1 > 10000000 then (some 2) else (if a2 < 0 then (some 2) else (if a2 > 2097151 then (some 2) else (if (wrap64 (a1 + a2)) > 10000000 then (some 2) else (some 0)))))) else (some t106))
set_option maxHeartbeats 8000000 in
set_option maxRecDepth 100000 in
theorem tariff_asked.calls (A0 : Option Addr) (c0 : Nat) (l0 : List (S125)) (a1 : Int) (a2 : Int) (r : Int) (w : World) (hr0 : Kd.C k125 w A0 l0.length l0) (hc0 : l0.length ≤ c0) (h : tariff_asked.f l0 a1 a2 = some r) :
    Calls Try.prog 93 #[.slice A0 l0.length c0, .int .i64 a1, .int .i64 a2] w fun e w' => e = .returned (.int .i64 r) ∧ Below w.heap.size w w' := by
  have HR0 := Aside0.mk hr0
  have HC0 := Aside0.mk hc0
  clear hr0 hc0
  have HB := Aside0.mk (Below.refl w.heap.size w)
  have H : ((tariff_Check.f l0).bind fun t106 => (if t106 = 0 then (if a1 < 0 then (some 2) else (if a1 > 10000000 then (some 2) else (if a2 < 0 then (some 2) else (if a2 > 2097151 then (some 2) else (if (wrap64 (a1 + a2)) > 10000000 then (some 2) else (some 0)))))) else (some t106))) = some r := h
  clear h
  replace H := Option.bind_eq_some_iff.mp H
  obtain ⟨t106, A40, H⟩ := H
  replace H : (if t106 = 0 then (if a1 < 0 then (some 2) else (if a1 > 10000000 then (some 2) else (if a2 < 0 then (some 2) else (if a2 > 2097151 then (some 2) else (if (wrap64 (a1 + a2)) > 10000000 then (some 2) else (some 0)))))) else (some t106)) = some r := H
  have A4 := Aside0.mk A40
  clear A40
  by_cases c5 : t106 = 0
  · rw [if_pos c5] at H
    have c5b0 : (t106 == 0) = true := beq_iff_eq.mpr c5
    have c5b1 : (t106 != 0) = false := bne_eq_false_iff_eq.mpr c5
    clear c5
    by_cases c6 : a1 < 0
    · rw [if_pos c6] at H
      have c6b0 : decide (a1 < 0) = true := decide_eq_true c6
      clear c6
      obtain rfl := Option.some.inj H
      go_enter Try.func93, Try.ntmps93
      go_wp2_with (first | ((with_reducible refine gate_callee (f := 72) rfl ?_); refine goesL_ (some 9) rfl rfl Try.func72 (by kernel_rfl) rfl #[.slice A0 l0.length c0] rfl (by (try simp only [List.map_toArray, List.map_cons, List.map_nil]); first | done | rfl | (simp only [List.length_drop, List.length_take]; rfl)) ?_; (with_reducible refine (tariff_Check.calls _ _ l0 t106 _ ?side1 ?side2 A4.out).mono ?_); (case side1 => repeat (first | exact HR0.out | (with_reducible refine Kd.C_alloc ?_ _) | (with_reducible refine Kd.C_drewN ?_ _) | (with_reducible refine Kd.C_drew ?_))); (case side2 => exact HC0.out); rintro e w7 ⟨rfl, hb⟩; refine ⟨_, rfl, ?_⟩; have n0_ := Aside0.mk (below_step (by repeat (first | (with_reducible first | exact HB.out | apply below_alloc | apply pw_below_drewN | apply below_drew1) | exact HB.out)) hb); clear HB; have HB := n0_; clear n0_; (try clear hb); (try clear hb2); (try clear hk); (try clear hi)))
      go_ret
      exact ⟨by first | rfl | (simp [errW_none, errW_some] <;> rfl) | (simp [*, errW_none, errW_some] <;> rfl), by repeat (first | (with_reducible first | exact HB.out | apply below_alloc | apply pw_below_drewN | apply below_drew1) | exact HB.out)⟩
    · rw [if_neg c6] at H
      have c6b0 : decide (a1 < 0) = false := decide_eq_false c6
      clear c6
      by_cases c8 : a1 > 10000000
      · rw [if_pos c8] at H
        have c8b0 : decide (10000000 < a1) = true := decide_eq_true c8
        clear c8
        obtain rfl := Option.some.inj H
        go_enter Try.func93, Try.ntmps93
        go_wp2_with (first | ((with_reducible refine gate_callee (f := 72) rfl ?_); refine goesL_ (some 9) rfl rfl Try.func72 (by kernel_rfl) rfl #[.slice A0 l0.length c0] rfl (by (try simp only [List.map_toArray, List.map_cons, List.map_nil]); first | done | rfl | (simp only [List.length_drop, List.length_take]; rfl)) ?_; (with_reducible refine (tariff_Check.calls _ _ l0 t106 _ ?side1 ?side2 A4.out).mono ?_); (case side1 => repeat (first | exact HR0.out | (with_reducible refine Kd.C_alloc ?_ _) | (with_reducible refine Kd.C_drewN ?_ _) | (with_reducible refine Kd.C_drew ?_))); (case side2 => exact HC0.out); rintro e w9 ⟨rfl, hb⟩; refine ⟨_, rfl, ?_⟩; have n0_ := Aside0.mk (below_step (by repeat (first | (with_reducible first | exact HB.out | apply below_alloc | apply pw_below_drewN | apply below_drew1) | exact HB.out)) hb); clear HB; have HB := n0_; clear n0_; (try clear hb); (try clear hb2); (try clear hk); (try clear hi)))
        go_ret
        exact ⟨by first | rfl | (simp [errW_none, errW_some] <;> rfl) | (simp [*, errW_none, errW_some] <;> rfl), by repeat (first | (with_reducible first | exact HB.out | apply below_alloc | apply pw_below_drewN | apply below_drew1) | exact HB.out)⟩
      · rw [if_neg c8] at H
        have c8b0 : decide (10000000 < a1) = false := decide_eq_false c8
        clear c8
        by_cases c10 : a2 < 0
        · rw [if_pos c10] at H
          have c10b0 : decide (a2 < 0) = true := decide_eq_true c10
          clear c10
          obtain rfl := Option.some.inj H
          go_enter Try.func93, Try.ntmps93
          go_wp2_with (first | ((with_reducible refine gate_callee (f := 72) rfl ?_); refine goesL_ (some 9) rfl rfl Try.func72 (by kernel_rfl) rfl #[.slice A0 l0.length c0] rfl (by (try simp only [List.map_toArray, List.map_cons, List.map_nil]); first | done | rfl | (simp only [List.length_drop, List.length_take]; rfl)) ?_; (with_reducible refine (tariff_Check.calls _ _ l0 t106 _ ?side1 ?side2 A4.out).mono ?_); (case side1 => repeat (first | exact HR0.out | (with_reducible refine Kd.C_alloc ?_ _) | (with_reducible refine Kd.C_drewN ?_ _) | (with_reducible refine Kd.C_drew ?_))); (case side2 => exact HC0.out); rintro e w11 ⟨rfl, hb⟩; refine ⟨_, rfl, ?_⟩; have n0_ := Aside0.mk (below_step (by repeat (first | (with_reducible first | exact HB.out | apply below_alloc | apply pw_below_drewN | apply below_drew1) | exact HB.out)) hb); clear HB; have HB := n0_; clear n0_; (try clear hb); (try clear hb2); (try clear hk); (try clear hi)))
          go_ret
          exact ⟨by first | rfl | (simp [errW_none, errW_some] <;> rfl) | (simp [*, errW_none, errW_some] <;> rfl), by repeat (first | (with_reducible first | exact HB.out | apply below_alloc | apply pw_below_drewN | apply below_drew1) | exact HB.out)⟩
        · rw [if_neg c10] at H
          have c10b0 : decide (a2 < 0) = false := decide_eq_false c10
          clear c10
          by_cases c12 : a2 > 2097151
          · rw [if_pos c12] at H
            have c12b0 : decide (2097151 < a2) = true := decide_eq_true c12
            clear c12
            obtain rfl := Option.some.inj H
            go_enter Try.func93, Try.ntmps93
            go_wp2_with (first | ((with_reducible refine gate_callee (f := 72) rfl ?_); refine goesL_ (some 9) rfl rfl Try.func72 (by kernel_rfl) rfl #[.slice A0 l0.length c0] rfl (by (try simp only [List.map_toArray, List.map_cons, List.map_nil]); first | done | rfl | (simp only [List.length_drop, List.length_take]; rfl)) ?_; (with_reducible refine (tariff_Check.calls _ _ l0 t106 _ ?side1 ?side2 A4.out).mono ?_); (case side1 => repeat (first | exact HR0.out | (with_reducible refine Kd.C_alloc ?_ _) | (with_reducible refine Kd.C_drewN ?_ _) | (with_reducible refine Kd.C_drew ?_))); (case side2 => exact HC0.out); rintro e w13 ⟨rfl, hb⟩; refine ⟨_, rfl, ?_⟩; have n0_ := Aside0.mk (below_step (by repeat (first | (with_reducible first | exact HB.out | apply below_alloc | apply pw_below_drewN | apply below_drew1) | exact HB.out)) hb); clear HB; have HB := n0_; clear n0_; (try clear hb); (try clear hb2); (try clear hk); (try clear hi)))
            go_ret
            exact ⟨by first | rfl | (simp [errW_none, errW_some] <;> rfl) | (simp [*, errW_none, errW_some] <;> rfl), by repeat (first | (with_reducible first | exact HB.out | apply below_alloc | apply pw_below_drewN | apply below_drew1) | exact HB.out)⟩
          · rw [if_neg c12] at H
            have c12b0 : decide (2097151 < a2) = false := decide_eq_false c12
            clear c12
            by_cases c14 : (wrap64 (a1 + a2)) > 10000000
            · rw [if_pos c14] at H
              have c14b0 : decide (10000000 < (wrap64 (a1 + a2))) = true := decide_eq_true c14
              clear c14
              obtain rfl := Option.some.inj H
              go_enter Try.func93, Try.ntmps93
              go_wp2_with (first | ((with_reducible refine gate_callee (f := 72) rfl ?_); refine goesL_ (some 9) rfl rfl Try.func72 (by kernel_rfl) rfl #[.slice A0 l0.length c0] rfl (by (try simp only [List.map_toArray, List.map_cons, List.map_nil]); first | done | rfl | (simp only [List.length_drop, List.length_take]; rfl)) ?_; (with_reducible refine (tariff_Check.calls _ _ l0 t106 _ ?side1 ?side2 A4.out).mono ?_); (case side1 => repeat (first | exact HR0.out | (with_reducible refine Kd.C_alloc ?_ _) | (with_reducible refine Kd.C_drewN ?_ _) | (with_reducible refine Kd.C_drew ?_))); (case side2 => exact HC0.out); rintro e w15 ⟨rfl, hb⟩; refine ⟨_, rfl, ?_⟩; have n0_ := Aside0.mk (below_step (by repeat (first | (with_reducible first | exact HB.out | apply below_alloc | apply pw_below_drewN | apply below_drew1) | exact HB.out)) hb); clear HB; have HB := n0_; clear n0_; (try clear hb); (try clear hb2); (try clear hk); (try clear hi)))
              go_ret
              exact ⟨by first | rfl | (simp [errW_none, errW_some] <;> rfl) | (simp [*, errW_none, errW_some] <;> rfl), by repeat (first | (with_reducible first | exact HB.out | apply below_alloc | apply pw_below_drewN | apply below_drew1) | exact HB.out)⟩
            · rw [if_neg c14] at H
              have c14b0 : decide (10000000 < (wrap64 (a1 + a2))) = false := decide_eq_false c14
              clear c14
              obtain rfl := Option.some.inj H
              go_enter Try.func93, Try.ntmps93
              go_wp2_with (first | ((with_reducible refine gate_callee (f := 72) rfl ?_); refine goesL_ (some 9) rfl rfl Try.func72 (by kernel_rfl) rfl #[.slice A0 l0.length c0] rfl (by (try simp only [List.map_toArray, List.map_cons, List.map_nil]); first | done | rfl | (simp only [List.length_drop, List.length_take]; rfl)) ?_; (with_reducible refine (tariff_Check.calls _ _ l0 t106 _ ?side1 ?side2 A4.out).mono ?_); (case side1 => repeat (first | exact HR0.out | (with_reducible refine Kd.C_alloc ?_ _) | (with_reducible refine Kd.C_drewN ?_ _) | (with_reducible refine Kd.C_drew ?_))); (case side2 => exact HC0.out); rintro e w16 ⟨rfl, hb⟩; refine ⟨_, rfl, ?_⟩; have n0_ := Aside0.mk (below_step (by repeat (first | (with_reducible first | exact HB.out | apply below_alloc | apply pw_below_drewN | apply below_drew1) | exact HB.out)) hb); clear HB; have HB := n0_; clear n0_; (try clear hb); (try clear hb2); (try clear hk); (try clear hi)))
              go_ret
              exact ⟨by first | rfl | (simp [errW_none, errW_some] <;> rfl) | (simp [*, errW_none, errW_some] <;> rfl), by repeat (first | (with_reducible first | exact HB.out | apply below_alloc | apply pw_below_drewN | apply below_drew1) | exact HB.out)⟩
  · rw [if_neg c5] at H
    have c5b0 : (t106 == 0) = false := beq_eq_false_iff_ne.mpr c5
    have c5b1 : (t106 != 0) = true := bne_iff_ne.mpr c5
    obtain rfl := Option.some.inj H
    go_enter Try.func93, Try.ntmps93
    go_wp2_with (first | ((with_reducible refine gate_callee (f := 72) rfl ?_); refine goesL_ (some 9) rfl rfl Try.func72 (by kernel_rfl) rfl #[.slice A0 l0.length c0] rfl (by (try simp only [List.map_toArray, List.map_cons, List.map_nil]); first | done | rfl | (simp only [List.length_drop, List.length_take]; rfl)) ?_; (with_reducible refine (tariff_Check.calls _ _ l0 t106 _ ?side1 ?side2 A4.out).mono ?_); (case side1 => repeat (first | exact HR0.out | (with_reducible refine Kd.C_alloc ?_ _) | (with_reducible refine Kd.C_drewN ?_ _) | (with_reducible refine Kd.C_drew ?_))); (case side2 => exact HC0.out); rintro e w17 ⟨rfl, hb⟩; refine ⟨_, rfl, ?_⟩; have n0_ := Aside0.mk (below_step (by repeat (first | (with_reducible first | exact HB.out | apply below_alloc | apply pw_below_drewN | apply below_drew1) | exact HB.out)) hb); clear HB; have HB := n0_; clear n0_; (try clear hb); (try clear hb2); (try clear hk); (try clear hi)))
    go_ret
    exact ⟨by first | rfl | (simp [errW_none, errW_some] <;> rfl) | (simp [*, errW_none, errW_some] <;> rfl), by repeat (first | (with_reducible first | exact HB.out | apply below_alloc | apply pw_below_drewN | apply below_drew1) | exact HB.out)⟩

-- NOT PRINTED: function 94 (tariff_pieces)

end Go.Proofs.Ythmmadniaakapaa.PTariffMosts
