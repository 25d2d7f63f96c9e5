-- written by this session's program wip/xp/xprint.py (it drives the kit's print and adds to it)
import Derived.Test.YthjmmbcdkpjheaaPTariffChecksx0
import Derived.Test.YthjmmbcdkpjheaaPTariffChecksx1
namespace Go.Proofs.Ythjmmbcdkpjheaa.PTariffChecks
open Go.RowKit Go.Proofs.YthjmmbcdkpjheaaW.PrintWords Go.Proofs.YthjmmbcdkpjheaaW.PrintLast Go.Proofs.YthjmmbcdkpjheaaW.PrintMore
attribute [local go_sem] max2_int min2_int max_two min_two max_three min_three max_four min_four   -- for this text's walks alone
set_option linter.unusedVariables false
set_option linter.unusedSimpArgs false

attribute [local go_sem high] eqA81
/-! ### vendmeterlaw_steps: function 32 -/
def vendmeterlaw_steps.f (l0 : List (S81)) : Option ((List (S81))) := if ([] : List (S81)).length + l0.length < 8796093022208 then (some (([] : List (S81)) ++ l0)) else (none)
set_option maxHeartbeats 8000000 in
set_option maxRecDepth 100000 in
theorem vendmeterlaw_steps.calls (A0 : Option Addr) (c0 : Nat) (l0 : List (S81)) (r : List (S81)) (w : World) (hr0 : Kd.C k81 w A0 l0.length l0) (hc0 : l0.length ≤ c0) (h : vendmeterlaw_steps.f l0 = some r) :
    Calls Try.prog 32 #[.slice A0 l0.length c0] w fun e w' => ∃ v0_ : Value, e = .returned (v0_) ∧ Kd.R k81 81 w' w.heap.size (fun _ => True) v0_ r ∧ Below w.heap.size w w' := by
  have HR0 := Aside0.mk hr0
  have HC0 := Aside0.mk hc0
  clear hr0 hc0
  have HB := Aside0.mk (Below.refl w.heap.size w)
  have H : (if ([] : List (S81)).length + l0.length < 8796093022208 then (some (([] : List (S81)) ++ l0)) else (none)) = some r := h
  clear h
  by_cases c2 : ([] : List (S81)).length + l0.length < 8796093022208
  · rw [if_pos c2] at H
    have LMc2 := Aside0.mk c2
    clear c2
    obtain ⟨y101, hy101⟩ : ∃ y_ : List (S81), y_ = (([] : List (S81)) ++ l0) := ⟨_, rfl⟩
    replace H : (some y101) = some r := by first | (rw [hy101]; with_reducible exact H) | (have H2_ := (Option.bind_some _ _).symm.trans H; rw [hy101]; with_reducible exact H2_) | (have H2_ := (Option.bind_some _ _).symm.trans H; with_reducible exact H2_) | with_reducible exact H | (rw [hy101]; exact H) | exact H
    have Ny101 := Aside0.mk hy101
    clear hy101
    obtain rfl := Option.some.inj H
    go_enter Try.func32, Try.ntmps32
    go_wp2_with (first | ((with_reducible refine gate_builtin (b := .append) (xs := #[.const (.slice none 0 0), .tmp 3]) rfl ?_); at_builtin; refine Kd.R_append_rows k81 (w0 := w) w.heap.size rfl (.const (.slice none 0 0)) (.tmp 3) 46 81 (.agg #[(.int .i64 0), (.int .i64 0)]) 16 rfl Try.underlying46 info81 rfl (by decide) (by omega) (.slice none 0 0) ([] : List (S81)) l0 _ _ _ (fun _ => True) (fun _ => False) rfl rfl ?aO ?aR (fun _ _ h => h) (fun _ h => h.elim) ?aF ?aB ?aS ?aL ?_; (case aR => repeat (first | exact HR0.out | (with_reducible refine Kd.C_alloc ?_ _) | (with_reducible refine Kd.C_drewN ?_ _) | (with_reducible refine Kd.C_drew ?_))); (case aB => exact (by repeat (first | (with_reducible first | exact HB.out | apply below_alloc | apply pw_below_drewN | apply below_drew1) | exact HB.out))); (case aF => exact (fun _ _ => trivial)); (case aO => exact ((Kd.R_nil _ _ _ _ (fun _ => True)))); (case aS => exact (below_size (by repeat (first | (with_reducible first | exact HB.out | apply below_alloc | apply pw_below_drewN | apply below_drew1) | exact HB.out)))); (case aL => have := LMc2.out; omega); intro v102 w3 ho hb hg hat; rw [← Ny101.out] at ho; have n0_ := Aside0.mk (hb); have n1_ := Aside0.mk (ho); clear HB; have HB := n0_; have HO103 := n1_; clear n0_ n1_; clear ho hb hg hat))
    go_ret
    exact ⟨_, by first | rfl | (simp [errW_none, errW_some] <;> rfl) | (simp [*, errW_none, errW_some] <;> rfl), by (with_reducible repeat (first | apply Kd.R_alloc | apply Kd.R_drewN | apply Kd.R_drew)); exact HO103.out, by repeat (first | (with_reducible first | exact HB.out | apply below_alloc | apply pw_below_drewN | apply below_drew1) | exact HB.out)⟩
  · rw [if_neg c2] at H
    exact absurd H (by simp)

-- NOT PRINTED: function 69 (reflectlite_ValueOf)

-- NOT PRINTED: function 70 (reflectlite_Value_Len)

-- NOT PRINTED: function 58 (sort_SliceIsSorted)

attribute [local go_sem high] eqA81
/-! ### tariff_Check -/
def tariff_Check.bad (s : S81) : Bool := decide (s.f0 < 1) || decide (10000000 < s.f0) || decide (s.f1 < 1) || decide (100000 < s.f1)
def tariff_Check.rising (l : List S81) : Bool := (List.range (l.length - 1)).all fun i => decide ((rd_T81 l ((i : Nat) : Int)).f0 < (rd_T81 l (((i : Nat) : Int) + 1)).f0)
theorem tariff_Check.less (g : Nat) (A0 : Option Addr) (c0 : Nat) (l0 : List S81) (i j : Int) (w : World) (hb : w.cell? ⟨g, 0, none⟩ = some (.slice A0 l0.length c0)) (hr0 : Kd.C k81 w A0 l0.length l0) (hl : l0.length ≤ 8) (hi0 : 0 ≤ i) (hi1 : i < (l0.length : Int)) (hj0 : 0 ≤ j) (hj1 : j < (l0.length : Int)) :
    Calls Try.prog 59 #[.int .i64 i, .int .i64 j, .pointer (some ⟨g, 0, none⟩)] w fun e w' => e = .returned (.bool (decide ((rd_T81 l0 i).f0 ≤ (rd_T81 l0 j).f0))) ∧ ∃ n, w' = w.drewN n := by
  obtain ⟨ad, rfl, h1, _⟩ := at_T81 hr0 i hi0 hi1
  obtain ⟨ad2, e2, h2, _⟩ := at_T81 hr0 j hj0 hj1
  cases e2
  clear hr0
  have hu := Try.underlying46
  have hs : ∀ (x : Int), 0 ≤ x → x.toNat * 2 + 0 = x.toNat * 2 := fun _ _ => rfl
  go_enter Try.func59, Try.ntmps59
  go_wp2
  go_quiet (fail)
  go_wp2
  go_ret
  exact ⟨rfl, _, rfl⟩
theorem info_t46 : ((Try.prog.info? 46).map (·.desc)) = some (.slice 81) := by kernel_rfl
theorem packed_t46 : Try.prog.packed 46 = false := by kernel_rfl
theorem tariff_Check.rising_iff (l : List S81) : tariff_Check.rising l = true ↔ ∀ i : Nat, i + 1 < l.length → (rd_T81 l (i : Int)).f0 < (rd_T81 l ((i : Int) + 1)).f0 := by
  simp only [tariff_Check.rising, List.all_eq_true, List.mem_range, decide_eq_true_eq]
  exact ⟨fun h i hi => h i (by omega), fun h i hi => h i (by omega)⟩
set_option maxHeartbeats 2000000 in
set_option maxRecDepth 100000 in
theorem tariff_Check.sorted (g : Nat) (A0 : Option Addr) (c0 : Nat) (l0 : List S81) (w : World) (hb : w.cell? ⟨g, 0, none⟩ = some (.slice A0 l0.length c0)) (hr0 : Kd.C k81 w A0 l0.length l0) (hl : l0.length ≤ 8) (hl1 : 1 ≤ l0.length) :
    Calls Try.prog 58 #[.iface 46 (.slice A0 l0.length c0), .func (.func 59) #[] #[.pointer (some ⟨g, 0, none⟩)]] w fun e w' => e = .returned (.bool (tariff_Check.rising l0)) ∧ Below w.heap.size w w' := by
  obtain ⟨i46, hi46, hd46⟩ : ∃ i, Try.prog.info? 46 = some i ∧ i.desc = .slice 81 := by
    have := info_t46
    cases h : Try.prog.info? 46 with
    | none => rw [h] at this; cases this
    | some i => rw [h] at this; exact ⟨i, rfl, Option.some.inj this⟩
  have hv := Lib.run_valueOf_slice (P := Try.prog) 46 81 i46 hi46 hd46 A0 l0.length c0 w
  have hln := fun a w ha => Lib.run_valueLen_slice (P := Try.prog) 46 81 i46 hi46 hd46 packed_t46 a A0 l0.length c0 w ha
  simp only [typeHandle] at hv hln
  generalize Try.prog.globals.size = G at hv hln
  have HR0 := Aside0.mk hr0
  have HB0 := Aside0.mk hb
  have HI := Aside0.mk hi46
  clear hr0 hb hi46 hd46
  go_enter Try.func58, Try.ntmps58
  go_wp2
  rw [run_callFunc_extern Try.func69 (by kernel_rfl) (by kernel_rfl) (by kernel_rfl) (e := fun args => Extern.ReflectliteValue.unpack (args.getD 0 (.tuple #[]))) (by kernel_rfl),
    show Sem.run Try.prog ((fun args : Array Value => Extern.ReflectliteValue.unpack (args.getD 0 (.tuple #[]))) #[.iface 46 (.slice A0 l0.length c0)]) w = _ from hv]
  simp only [Result.andThen]
  rw [Oper.upon_value]
  clear hv
  go_wp2
  rw [run_callFunc_extern Try.func70 (by kernel_rfl) (by kernel_rfl) (by kernel_rfl) (e := Extern.ReflectliteValue.method (Extern.ReflectliteValue.valueError "reflectlite.Value.Len" 0) Extern.ReflectliteValue.len) (by kernel_rfl),
    hln _ _ (by simp)]
  simp only [Result.andThen]
  rw [Oper.upon_value]
  clear hln
  have HBW : Aside0 (Below w.heap.size w ((w.alloc (.cells #[.slice A0 l0.length c0] 46)).alloc (.cells #[.pointer (some ⟨G, 46, none⟩), .pointer (some ⟨w.heap.size, 0, none⟩), .int .u64 151] 96))) := ⟨below_alloc (below_alloc (Below.refl _ _) _) _⟩
  obtain ⟨l1, hl1e⟩ : ∃ l1 : Int, l1 = (l0.length : Int) := ⟨_, rfl⟩
  go_wp2
  go_loopg [7] l0.length (fun kq v7 w' => ∃ i : Int, v7 = .int .i64 i ∧ 0 ≤ i ∧ i < (l0.length : Int) ∧ i < (kq : Int) ∧ Aside0 (∀ m : Nat, i ≤ (m : Int) → m + 1 < l0.length → (rd_T81 l0 (m : Int)).f0 < (rd_T81 l0 ((m : Int) + 1)).f0) ∧ Aside0 (Below w.heap.size w w'))
  case atStart => exact ⟨_, rfl, by omega, by omega, by omega, ⟨fun m h1 h2 => by omega⟩, ⟨HBW.out⟩⟩
  case round =>
    clear HBW
    obtain ⟨i, rfl, h0, h1, h2, HA, HBW⟩ := hrel
    have hbr : Aside0 (wr.cell? ⟨g, 0, none⟩ = some (.slice A0 l0.length c0)) := ⟨pw_cell_below HBW.out HB0.out⟩
    have hrr : Aside0 (Kd.C k81 wr A0 l0.length l0) := ⟨Kd.C_below HR0.out HBW.out⟩
    by_cases hi : 0 < i
    · have hib : decide (i > 0) = true := decide_eq_true hi
      by_cases hlt : (rd_T81 l0 i).f0 ≤ (rd_T81 l0 (i - 1)).f0
      · have hlb := decide_eq_true hlt
        have HLT := Aside0.mk hlt
        clear hlt
        go_wp2_with (go_at_call 59; refine (tariff_Check.less g A0 c0 l0 i (i - 1) _ hbr.out hrr.out hl h0 h1 (by omega) (by omega)).mono ?_; rintro e w' ⟨rfl, n, rfl⟩)
        go_ret
        refine ⟨?_, ?_⟩
        · have : tariff_Check.rising l0 = false := by
            rw [Bool.eq_false_iff]
            intro h
            have h3 := (tariff_Check.rising_iff l0).1 h (i - 1).toNat (by omega)
            rw [show (((i - 1).toNat : Nat) : Int) = i - 1 by omega, show i - 1 + 1 = i by omega] at h3
            have := HLT.out
            omega
          exact congrArg (fun b_ => Ending.returned (.bool b_)) this.symm
        · repeat (first | exact HBW.out | apply below_drew1 | apply pw_below_drewN)
      · have hlb := decide_eq_false hlt
        have HLT := Aside0.mk hlt
        clear hlt
        go_wp2_with (go_at_call 59; refine (tariff_Check.less g A0 c0 l0 i (i - 1) _ hbr.out hrr.out hl h0 h1 (by omega) (by omega)).mono ?_; rintro e w' ⟨rfl, n, rfl⟩)
        go_roundg (gk - 1)
        case measure => omega
        case rel =>
          refine ⟨i - 1, rfl, by omega, by omega, by omega, ⟨fun m h3 h4 => ?_⟩, ⟨by repeat (first | exact HBW.out | apply below_drew1 | apply pw_below_drewN)⟩⟩
          by_cases hm : i ≤ (m : Int)
          · exact HA.out m hm h4
          · rw [show (m : Int) = i - 1 by omega, show i - 1 + 1 = i by omega]
            have := HLT.out
            omega
    · have hib : decide (i > 0) = false := decide_eq_false (by omega)
      go_wp2
      go_ret
      refine ⟨?_, by repeat (first | exact HBW.out | apply below_drew1 | apply pw_below_drewN)⟩
      have : tariff_Check.rising l0 = true := (tariff_Check.rising_iff l0).2 fun m hm => HA.out m (by omega) hm
      exact congrArg (fun b_ => Ending.returned (.bool b_)) this.symm
def tariff_Check.f (l0 : List S81) : Option Int := if (l0.length : Int) < 1 then some 1 else if (l0.length : Int) > 8 then some 1 else if l0.any tariff_Check.bad = true then some 2 else if tariff_Check.rising l0 = true then (if (rd_T81 l0 ((l0.length : Int) - 1)).f0 = 10000000 then some 0 else some 3) else some 3
theorem tariff_Check.bad_at {l0 : List S81} {i : Int} (h0 : 0 ≤ i) (h1 : i < (l0.length : Int)) (h : ¬ ((rd_T81 l0 i).f0 < 1 ∨ (rd_T81 l0 i).f0 > 10000000 ∨ (rd_T81 l0 i).f1 < 1 ∨ (rd_T81 l0 i).f1 > 100000) → False) : l0.any tariff_Check.bad = true := by
  rw [List.any_eq_true]
  refine ⟨rd_T81 l0 i, ?_, ?_⟩
  · unfold rd_T81; rw [List.getD_eq_getElem?_getD, List.getElem?_eq_getElem (show i.toNat < l0.length by omega)]; exact List.getElem_mem _
  · have h' := Classical.not_not.1 h
    simp only [tariff_Check.bad, Bool.or_eq_true, decide_eq_true_eq]
    rcases h' with a | a | a | a <;> simp [a]
theorem tariff_Check.good_of {l0 : List S81} (h : ∀ i : Nat, i < l0.length → ¬ ((rd_T81 l0 (i : Int)).f0 < 1 ∨ (rd_T81 l0 (i : Int)).f0 > 10000000 ∨ (rd_T81 l0 (i : Int)).f1 < 1 ∨ (rd_T81 l0 (i : Int)).f1 > 100000)) : l0.any tariff_Check.bad = false := by
  rw [List.any_eq_false]
  intro x hx
  obtain ⟨i, hi, rfl⟩ := List.mem_iff_getElem.1 hx
  have := h i hi
  have e : rd_T81 l0 (i : Int) = l0[i] := by unfold rd_T81; rw [List.getD_eq_getElem?_getD, Int.toNat_natCast, List.getElem?_eq_getElem hi]; rfl
  rw [e] at this
  simp only [tariff_Check.bad, Bool.or_eq_true, decide_eq_true_eq]
  omega
set_option maxHeartbeats 2000000 in
set_option maxRecDepth 100000 in
theorem tariff_Check.calls (A0 : Option Addr) (c0 : Nat) (l0 : List S81) (r : Int) (w : World) (hr0 : Kd.C k81 w A0 l0.length l0) (hc0 : l0.length ≤ c0) (h : tariff_Check.f l0 = some r) :
    Calls Try.prog 33 #[.slice A0 l0.length c0] w fun e w' => e = .returned (.int .i64 r) ∧ Below w.heap.size w w' := by
  have HR0 := Aside0.mk hr0
  have HC0 := Aside0.mk hc0
  clear hr0 hc0
  have H := Aside0.mk (show _ = _ from h)
  clear h
  unfold tariff_Check.f at H
  by_cases c1 : (l0.length : Int) < 1
  · rw [if_pos c1] at H
    obtain rfl := Option.some.inj H.out
    have d1 := decide_eq_true c1
    clear H
    go_enter Try.func33, Try.ntmps33
    go_wp2
    go_ret
    exact ⟨rfl, by repeat (first | exact Below.refl _ _ | apply below_alloc | apply below_drew1 | apply pw_below_drewN)⟩
  rw [if_neg c1] at H
  have d1 := decide_eq_false c1
  by_cases c2 : (l0.length : Int) > 8
  · rw [if_pos c2] at H
    obtain rfl := Option.some.inj H.out
    have d2 := decide_eq_true c2
    clear H
    go_enter Try.func33, Try.ntmps33
    go_wp2
    go_ret
    exact ⟨rfl, by repeat (first | exact Below.refl _ _ | apply below_alloc | apply below_drew1 | apply pw_below_drewN)⟩
  rw [if_neg c2] at H
  have d2 := decide_eq_false c2
  go_enter Try.func33, Try.ntmps33
  go_wp2
  go_loopg [2, 16] l0.length (fun kq v2 v16 w' => ∃ i : Int, v16 = .int .i64 i ∧ v2 = .int .i64 0 ∧ 0 ≤ i ∧ (kq : Int) = (l0.length : Int) - i ∧ i ≤ (l0.length : Int) ∧ Aside0 (∀ m : Nat, (m : Int) < i → ¬ ((rd_T81 l0 (m : Int)).f0 < 1 ∨ (rd_T81 l0 (m : Int)).f0 > 10000000 ∨ (rd_T81 l0 (m : Int)).f1 < 1 ∨ (rd_T81 l0 (m : Int)).f1 > 100000)) ∧ Aside0 (w'.heap[w.heap.size]? = some (.cells #[.slice A0 l0.length c0] 46 (0, 0))) ∧ Aside0 (Below w.heap.size w w'))
  case atStart => exact ⟨0, rfl, rfl, by omega, by omega, by omega, ⟨fun m h1 => by omega⟩, ⟨blk_new w _⟩, ⟨below_alloc (Below.refl _ _) _⟩⟩
  case round =>
    obtain ⟨i, rfl, rfl, h0, hk, h1, HA, HB, HBW⟩ := hrel
    have HRr : Aside0 (Kd.C k81 wr A0 l0.length l0) := ⟨Kd.C_below HR0.out HBW.out⟩
    have hbx : wr.cell? ⟨w.heap.size, 0, none⟩ = some (.slice A0 l0.length c0) := (blk_cell HB.out 0).trans rfl
    have hfx := blk_frozen HB.out 0
    have hsz : Aside0 (w.heap.size < wr.heap.size) := ⟨blk_lt HB.out⟩
    by_cases hi : i < (l0.length : Int)
    · have hib : decide (i < (l0.length : Int)) = true := decide_eq_true hi
      obtain ⟨ad, rfl, x1, x2⟩ := at_T81 HRr.out i h0 hi
      obtain ⟨u, hu⟩ : ∃ u : S81, u = rd_T81 l0 i := ⟨_, rfl⟩
      rw [← hu] at x1 x2
      have HU := Aside0.mk hu
      clear hu
      by_cases hbad : u.f0 < 1 ∨ u.f0 > 10000000 ∨ u.f1 < 1 ∨ u.f1 > 100000
      · have hB : l0.any tariff_Check.bad = true := tariff_Check.bad_at h0 hi (fun h => h (by rw [← HU.out]; exact hbad))
        rw [if_pos hB] at H
        obtain rfl := Option.some.inj H.out
        clear H hB
        by_cases e1 : u.f0 < 1
        · have f1 := decide_eq_true e1
          clear e1 hbad
          go_wp2
          go_ret
          exact ⟨rfl, by repeat (first | exact HBW.out | apply below_alloc | apply below_drew1 | apply pw_below_drewN)⟩
        have f1 := decide_eq_false e1
        by_cases e2 : u.f0 > 10000000
        · have f2 := decide_eq_true e2
          clear e1 e2 hbad
          go_wp2
          go_ret
          exact ⟨rfl, by repeat (first | exact HBW.out | apply below_alloc | apply below_drew1 | apply pw_below_drewN)⟩
        have f2 := decide_eq_false e2
        by_cases e3 : u.f1 < 1
        · have f3 := decide_eq_true e3
          clear e1 e2 e3 hbad
          go_wp2
          go_ret
          exact ⟨rfl, by repeat (first | exact HBW.out | apply below_alloc | apply below_drew1 | apply pw_below_drewN)⟩
        have f3 := decide_eq_false e3
        have f4 : decide (u.f1 > 100000) = true := decide_eq_true (by omega)
        clear e1 e2 e3 hbad
        go_wp2
        go_ret
        exact ⟨rfl, by repeat (first | exact HBW.out | apply below_alloc | apply below_drew1 | apply pw_below_drewN)⟩
      · have f1 : decide (u.f0 < 1) = false := decide_eq_false (by omega)
        have f2 : decide (u.f0 > 10000000) = false := decide_eq_false (by omega)
        have f3 : decide (u.f1 < 1) = false := decide_eq_false (by omega)
        have f4 : decide (u.f1 > 100000) = false := decide_eq_false (by omega)
        have HG := Aside0.mk hbad
        clear hbad
        go_wp2
        go_roundg (gk - 1)
        case measure => omega
        case rel =>
          refine ⟨i + 1, by first | rfl | go_num, rfl, by omega, by omega, by omega, ⟨fun m hm => ?_⟩, ⟨blk_alloc HB.out _⟩, ⟨below_alloc HBW.out _⟩⟩
          by_cases hmi : (m : Int) < i
          · exact HA.out m hmi
          · rw [show (m : Int) = i by omega, ← HU.out]; exact HG.out
    · have hib : decide (i < (l0.length : Int)) = false := decide_eq_false hi
      have hgood := tariff_Check.good_of (l0 := l0) (fun m hm => HA.out m (by omega))
      rw [if_neg (show ¬ (l0.any tariff_Check.bad = true) by rw [hgood]; decide)] at H
      clear HA hgood
      obtain ⟨ad, rfl, x1, _⟩ := at_T81 HRr.out ((l0.length : Int) - 1) (by omega) (by omega)
      rw [show ((l0.length : Int) - 1).toNat = l0.length - 1 by omega] at x1
      by_cases hr : tariff_Check.rising l0 = true
      · rw [if_pos hr] at H
        obtain ⟨u, hu⟩ : ∃ u : Int, u = (rd_T81 l0 ((l0.length : Int) - 1)).f0 := ⟨_, rfl⟩
        rw [← hu] at x1 H
        have HS := fun W (hb : W.cell? ⟨w.heap.size, 0, none⟩ = some (.slice (some ad) l0.length c0)) (hk : Kd.C k81 W (some ad) l0.length l0) => tariff_Check.sorted w.heap.size (some ad) c0 l0 W hb hk (by omega) (by omega)
        rw [hr] at HS
        have HS2 := Aside0.mk HS
        clear HS hr hu
        by_cases hu2 : u = 10000000
        · subst hu2
          rw [if_pos rfl] at H
          obtain rfl := Option.some.inj H.out
          clear H
          go_wp2_with (go_at_call 58; refine (HS2.out wr hbx HRr.out).mono ?_; rintro e w1 ⟨rfl, hb1⟩; have hbx1 := pw_cell_below hb1 hbx; have x11 := pw_cell_below hb1 x1; have HB1 := Aside0.mk (below_then HBW.out HBW.out.size hb1); clear hb1)
          go_ret
          exact ⟨rfl, by repeat (first | exact HB1.out | exact HBW.out | apply below_alloc | apply below_drew1 | apply pw_below_drewN)⟩
        · rw [if_neg hu2] at H
          obtain rfl := Option.some.inj H.out
          have hu3 : (u == 10000000) = false := by simpa using hu2
          have hu4 : (u != 10000000) = true := by simpa using hu2
          clear H hu2
          go_wp2_with (go_at_call 58; refine (HS2.out wr hbx HRr.out).mono ?_; rintro e w1 ⟨rfl, hb1⟩; have hbx1 := pw_cell_below hb1 hbx; have x11 := pw_cell_below hb1 x1; have HB1 := Aside0.mk (below_then HBW.out HBW.out.size hb1); clear hb1)
          go_ret
          exact ⟨rfl, by repeat (first | exact HB1.out | exact HBW.out | apply below_alloc | apply below_drew1 | apply pw_below_drewN)⟩
      · rw [if_neg hr] at H
        obtain rfl := Option.some.inj H.out
        have hr' := Bool.eq_false_iff.mpr hr
        have HS := fun W (hb : W.cell? ⟨w.heap.size, 0, none⟩ = some (.slice (some ad) l0.length c0)) (hk : Kd.C k81 W (some ad) l0.length l0) => tariff_Check.sorted w.heap.size (some ad) c0 l0 W hb hk (by omega) (by omega)
        rw [hr'] at HS
        have HS2 := Aside0.mk HS
        clear HS hr hr' H
        go_wp2_with (go_at_call 58; refine (HS2.out wr hbx HRr.out).mono ?_; rintro e w1 ⟨rfl, hb1⟩; have hbx1 := pw_cell_below hb1 hbx; have x11 := pw_cell_below hb1 x1; have HB1 := Aside0.mk (below_then HBW.out HBW.out.size hb1); clear hb1)
        go_ret
        exact ⟨rfl, by repeat (first | exact HB1.out | exact HBW.out | apply below_alloc | apply below_drew1 | apply pw_below_drewN)⟩

/-! ### vendmeterref_In: function 44 -/
def vendmeterref_In.f (a0 : Int) (a1 : Int) (a2 : Int) : Option (Bool) := if a0 ≥ a1 then (some (decide (a0 ≤ a2))) else (some false)
set_option maxHeartbeats 8000000 in
set_option maxRecDepth 100000 in
theorem vendmeterref_In.calls (a0 : Int) (a1 : Int) (a2 : Int) (r : Bool) (w : World) (h : vendmeterref_In.f a0 a1 a2 = some r) :
    Calls Try.prog 44 #[.int .i64 a0, .int .i64 a1, .int .i64 a2] w fun e w' => e = .returned (.bool r) ∧ Drawn0 w w' := by
  have H : (if a0 ≥ a1 then (some (decide (a0 ≤ a2))) else (some false)) = some r := h
  clear h
  by_cases c4 : a0 ≥ a1
  · rw [if_pos c4] at H
    have c4b0 : decide (a1 ≤ a0) = true := decide_eq_true c4
    clear c4
    obtain rfl := Option.some.inj H
    go_enter Try.func44, Try.ntmps44
    go_wp2
    go_ret
    exact ⟨by first | rfl | (simp; done) | (simp [*]; done), by repeat (first | exact Drawn0.refl _ | apply Drawn0.step)⟩
  · rw [if_neg c4] at H
    have c4b0 : decide (a1 ≤ a0) = false := decide_eq_false c4
    clear c4
    obtain rfl := Option.some.inj H
    go_enter Try.func44, Try.ntmps44
    go_wp2
    go_ret
    exact ⟨by first | rfl | (simp; done) | (simp [*]; done), by repeat (first | exact Drawn0.refl _ | apply Drawn0.step)⟩

/-! ### vendmeterref_TariffFault: function 34 -/
mutual
def vendmeterref_TariffFault.l0 : Nat → List (S81) → Int → Option (Int)
  | 0, _, _ => none
  | k + 1, x0, x3 => if x3 < (x0.length : Int) then (if 0 ≤ x3 then ((vendmeterref_In.f ((rd_T81 x0 x3).f0) 1 10000000).bind fun t106 => (if t106 = true then ((vendmeterref_In.f ((rd_T81 x0 x3).f1) 1 100000).bind fun t108 => (if t108 = true then (vendmeterref_TariffFault.l0 k x0 (wrap64 (x3 + 1))) else (some 2))) else (some 2))) else (none)) else (vendmeterref_TariffFault.l1 k x0 1)
def vendmeterref_TariffFault.l1 : Nat → List (S81) → Int → Option (Int)
  | 0, _, _ => none
  | k + 1, x0, x4 => if x4 < (x0.length : Int) then (if 0 ≤ x4 then (if 0 ≤ (wrap64 (x4 - 1)) then (if (wrap64 (x4 - 1)) < (x0.length : Int) then (if ((rd_T81 x0 x4).f0) ≤ ((rd_T81 x0 (wrap64 (x4 - 1))).f0) then (some 3) else (vendmeterref_TariffFault.l1 k x0 (wrap64 (x4 + 1)))) else (none)) else (none)) else (none)) else (if 0 ≤ (wrap64 ((x0.length : Int) - 1)) then (if (wrap64 ((x0.length : Int) - 1)) < (x0.length : Int) then (if ((rd_T81 x0 (wrap64 ((x0.length : Int) - 1))).f0) = 10000000 then (some 0) else (some 3)) else (none)) else (none))
end
def vendmeterref_TariffFault.f (k : Nat) (l0 : List (S81)) : Option (Int) := (vendmeterref_In.f (l0.length : Int) 1 8).bind fun t104 => (if t104 = true then (vendmeterref_TariffFault.l0 k l0 0) else (some 1))
theorem vendmeterref_TariffFault.mono_l : ∀ k, (∀ y0 y1, LeO (vendmeterref_TariffFault.l0 k y0 y1) (vendmeterref_TariffFault.l0 (k + 1) y0 y1)) ∧ (∀ y0 y1, LeO (vendmeterref_TariffFault.l1 k y0 y1) (vendmeterref_TariffFault.l1 (k + 1) y0 y1))
  | 0 => ⟨fun _ _ r h => by simp [vendmeterref_TariffFault.l0] at h, fun _ _ r h => by simp [vendmeterref_TariffFault.l1] at h⟩
  | k + 1 => by
    obtain ⟨ih0, ih1⟩ := vendmeterref_TariffFault.mono_l k
    refine ⟨?_, ?_⟩
    · intro y0 y1
      unfold vendmeterref_TariffFault.l0
      repeat' first
      | (with_reducible exact ih0 _ _)
      | (with_reducible exact ih1 _ _)
      | (with_reducible exact LeO.refl _)
      | (with_reducible exact LeO.none _)
      | (with_reducible refine LeO.ite ?_ ?_)
      | (with_reducible refine LeO.bind ?_ (fun _ => ?_))
      | exact ih0 _ _
      | exact ih1 _ _
      | exact LeO.none _
      | refine LeO.ite ?_ ?_
      | refine LeO.bind ?_ (fun _ => ?_)
    · intro y0 y1
      unfold vendmeterref_TariffFault.l1
      repeat' first
      | (with_reducible exact ih0 _ _)
      | (with_reducible exact ih1 _ _)
      | (with_reducible exact LeO.refl _)
      | (with_reducible exact LeO.none _)
      | (with_reducible refine LeO.ite ?_ ?_)
      | (with_reducible refine LeO.bind ?_ (fun _ => ?_))
      | exact ih0 _ _
      | exact ih1 _ _
      | exact LeO.none _
      | refine LeO.ite ?_ ?_
      | refine LeO.bind ?_ (fun _ => ?_)
theorem vendmeterref_TariffFault.mono : ∀ a0 k, LeO (vendmeterref_TariffFault.f k a0) (vendmeterref_TariffFault.f (k + 1) a0) := by
  intro a0 k
  obtain ⟨ih0, ih1⟩ := vendmeterref_TariffFault.mono_l k
  unfold vendmeterref_TariffFault.f
  repeat' first
      | (with_reducible exact ih0 _ _)
      | (with_reducible exact ih1 _ _)
      | (with_reducible exact LeO.refl _)
      | (with_reducible exact LeO.none _)
      | (with_reducible refine LeO.ite ?_ ?_)
      | (with_reducible refine LeO.bind ?_ (fun _ => ?_))
      | exact ih0 _ _
      | exact ih1 _ _
      | exact LeO.none _
      | refine LeO.ite ?_ ?_
      | refine LeO.bind ?_ (fun _ => ?_)
set_option maxHeartbeats 8000000 in
set_option maxRecDepth 100000 in
theorem vendmeterref_TariffFault.calls (k : Nat) (A0 : Option Addr) (c0 : Nat) (l0 : List (S81)) (r : Int) (w : World) (hr0 : Kd.C k81 w A0 l0.length l0) (hc0 : l0.length ≤ c0) (h : vendmeterref_TariffFault.f k l0 = some r) :
    Calls Try.prog 34 #[.slice A0 l0.length c0] w fun e w' => e = .returned (.int .i64 r) ∧ Drawn0 w w' := by
  have HR0 := Aside0.mk hr0
  have HC0 := Aside0.mk hc0
  clear hr0 hc0
  have H : ((vendmeterref_In.f (l0.length : Int) 1 8).bind fun t104 => (if t104 = true then (vendmeterref_TariffFault.l0 k l0 0) else (some 1))) = some r := h
  clear h
  replace H := Option.bind_eq_some_iff.mp H
  obtain ⟨t104, A20, H⟩ := H
  replace H : (if t104 = true then (vendmeterref_TariffFault.l0 k l0 0) else (some 1)) = some r := H
  have A2 := Aside0.mk A20
  clear A20
  by_cases c3 : t104 = true
  · subst c3
    have H1 : (vendmeterref_TariffFault.l0 k l0 0) = some r := by rw [if_pos rfl] at H; exact H
    clear H
    have H := H1
    clear H1
    have H' := Aside0.mk H
    clear H
    go_enter Try.func34, Try.ntmps34
    go_wp2_with (first | (go_at_call 44; (with_reducible refine (vendmeterref_In.calls (l0.length : Int) 1 8 true _ A2.out).mono ?_); rintro e w' ⟨rfl, ⟨nd, rfl⟩⟩; (try first | exact ⟨rfl, _, World.drewN_drewN _ _ _⟩ | exact ⟨rfl, _, Eq.trans (World.drewN_drewN _ _ _) (congrArg (World.drewN _) (Nat.add_assoc _ _ _))⟩)))
    repeat (go_quiet (first | (go_at_call 44; (with_reducible refine (vendmeterref_In.calls (l0.length : Int) 1 8 true _ A2.out).mono ?_); rintro e w' ⟨rfl, ⟨nd, rfl⟩⟩; (try first | exact ⟨rfl, _, World.drewN_drewN _ _ _⟩ | exact ⟨rfl, _, Eq.trans (World.drewN_drewN _ _ _) (congrArg (World.drewN _) (Nat.add_assoc _ _ _))⟩))); try go_wp2_with (first | (go_at_call 44; (with_reducible refine (vendmeterref_In.calls (l0.length : Int) 1 8 true _ A2.out).mono ?_); rintro e w' ⟨rfl, ⟨nd, rfl⟩⟩; (try first | exact ⟨rfl, _, World.drewN_drewN _ _ _⟩ | exact ⟨rfl, _, Eq.trans (World.drewN_drewN _ _ _) (congrArg (World.drewN _) (Nat.add_assoc _ _ _))⟩))))
    go_loopg [3] k (fun kq v3 w' => ∃ (x3_1 : Int), v3 = .int .i64 x3_1 ∧ Aside0 (vendmeterref_TariffFault.l0 kq l0 x3_1 = some r) ∧ Aside0 (kq ≤ k) ∧ Drawn0 w w')
    case atStart => exact ⟨(0), (by first | rfl | (simp; done) | (simp [*]; done)), H', ⟨Nat.le_refl _⟩, by repeat (first | exact Drawn0.refl _ | apply Drawn0.step)⟩
    case round =>
      clear H'
      try clear p2
      try clear c3
      obtain ⟨x3_1, rfl, HA, HK1, ⟨m1, rfl⟩⟩ := hrel
      cases gk with
      | zero => exact absurd HA.out (by simp [vendmeterref_TariffFault.l0])
      | succ k1 =>
        have H := HA.out
        clear HA
        simp only [vendmeterref_TariffFault.l0] at H
        by_cases c4 : x3_1 < (l0.length : Int)
        · rw [if_pos c4] at H
          have c4b0 : decide (x3_1 < (l0.length : Int)) = true := decide_eq_true c4
          clear c4
          by_cases c5 : 0 ≤ x3_1
          · rw [if_pos c5] at H
            have c5b0 : decide (0 ≤ x3_1) = true := decide_eq_true c5
            clear c5
            replace H := Option.bind_eq_some_iff.mp H
            obtain ⟨t106, A60, H⟩ := H
            replace H : (if t106 = true then ((vendmeterref_In.f ((rd_T81 l0 x3_1).f1) 1 100000).bind fun t108 => (if t108 = true then (vendmeterref_TariffFault.l0 k1 l0 (wrap64 (x3_1 + 1))) else (some 2))) else (some 2)) = some r := H
            have A6 := Aside0.mk A60
            clear A60
            by_cases c7 : t106 = true
            · subst c7
              have H1 : ((vendmeterref_In.f ((rd_T81 l0 x3_1).f1) 1 100000).bind fun t108 => (if t108 = true then (vendmeterref_TariffFault.l0 k1 l0 (wrap64 (x3_1 + 1))) else (some 2))) = some r := by rw [if_pos rfl] at H; exact H
              clear H
              have H := H1
              clear H1
              replace H := Option.bind_eq_some_iff.mp H
              obtain ⟨t108, A80, H⟩ := H
              replace H : (if t108 = true then (vendmeterref_TariffFault.l0 k1 l0 (wrap64 (x3_1 + 1))) else (some 2)) = some r := H
              have A8 := Aside0.mk A80
              clear A80
              by_cases c9 : t108 = true
              · subst c9
                have H1 : (vendmeterref_TariffFault.l0 k1 l0 (wrap64 (x3_1 + 1))) = some r := by rw [if_pos rfl] at H; exact H
                clear H
                have H := H1
                clear H1
                have H' := Aside0.mk H
                clear H
                have p105 : 0 ≤ (x3_1 : Int) := of_decide_eq_true (by first | (with_reducible assumption) | assumption)
                have q105 : x3_1 < (l0.length : Int) := of_decide_eq_true (by first | (with_reducible assumption) | assumption)
                obtain ⟨ad105, e105, hx105_0, hx105_1⟩ := at_T81 HR0.out x3_1 p105 q105
                cases e105
                replace p105 := eq_true p105
                replace q105 := eq_true q105
                go_wp2_with (first | (go_at_call 44; (with_reducible refine (vendmeterref_In.calls ((rd_T81 l0 x3_1).f0) 1 10000000 true _ A6.out).mono ?_); rintro e w' ⟨rfl, ⟨nd, rfl⟩⟩; (try first | exact ⟨rfl, _, World.drewN_drewN _ _ _⟩ | exact ⟨rfl, _, Eq.trans (World.drewN_drewN _ _ _) (congrArg (World.drewN _) (Nat.add_assoc _ _ _))⟩); have p107 : 0 ≤ (x3_1 : Int) := of_decide_eq_true (by first | (with_reducible assumption) | assumption); have q107 : x3_1 < (l0.length : Int) := of_decide_eq_true (by first | (with_reducible assumption) | assumption); obtain ⟨ad107, e107, hx107_0, hx107_1⟩ := at_T81 HR0.out x3_1 p107 q107; obtain rfl : ad105 = ad107 := (by injection e107); replace p107 := eq_true p107; replace q107 := eq_true q107) | (go_at_call 44; (with_reducible refine (vendmeterref_In.calls ((rd_T81 l0 x3_1).f1) 1 100000 true _ A8.out).mono ?_); rintro e w' ⟨rfl, ⟨nd, rfl⟩⟩; (try first | exact ⟨rfl, _, World.drewN_drewN _ _ _⟩ | exact ⟨rfl, _, Eq.trans (World.drewN_drewN _ _ _) (congrArg (World.drewN _) (Nat.add_assoc _ _ _))⟩)))
                repeat (go_quiet (first | (go_at_call 44; (with_reducible refine (vendmeterref_In.calls ((rd_T81 l0 x3_1).f0) 1 10000000 true _ A6.out).mono ?_); rintro e w' ⟨rfl, ⟨nd, rfl⟩⟩; (try first | exact ⟨rfl, _, World.drewN_drewN _ _ _⟩ | exact ⟨rfl, _, Eq.trans (World.drewN_drewN _ _ _) (congrArg (World.drewN _) (Nat.add_assoc _ _ _))⟩); have p107 : 0 ≤ (x3_1 : Int) := of_decide_eq_true (by first | (with_reducible assumption) | assumption); have q107 : x3_1 < (l0.length : Int) := of_decide_eq_true (by first | (with_reducible assumption) | assumption); obtain ⟨ad107, e107, hx107_0, hx107_1⟩ := at_T81 HR0.out x3_1 p107 q107; obtain rfl : ad105 = ad107 := (by injection e107); replace p107 := eq_true p107; replace q107 := eq_true q107) | (go_at_call 44; (with_reducible refine (vendmeterref_In.calls ((rd_T81 l0 x3_1).f1) 1 100000 true _ A8.out).mono ?_); rintro e w' ⟨rfl, ⟨nd, rfl⟩⟩; (try first | exact ⟨rfl, _, World.drewN_drewN _ _ _⟩ | exact ⟨rfl, _, Eq.trans (World.drewN_drewN _ _ _) (congrArg (World.drewN _) (Nat.add_assoc _ _ _))⟩))); try go_wp2_with (first | (go_at_call 44; (with_reducible refine (vendmeterref_In.calls ((rd_T81 l0 x3_1).f0) 1 10000000 true _ A6.out).mono ?_); rintro e w' ⟨rfl, ⟨nd, rfl⟩⟩; (try first | exact ⟨rfl, _, World.drewN_drewN _ _ _⟩ | exact ⟨rfl, _, Eq.trans (World.drewN_drewN _ _ _) (congrArg (World.drewN _) (Nat.add_assoc _ _ _))⟩); have p107 : 0 ≤ (x3_1 : Int) := of_decide_eq_true (by first | (with_reducible assumption) | assumption); have q107 : x3_1 < (l0.length : Int) := of_decide_eq_true (by first | (with_reducible assumption) | assumption); obtain ⟨ad107, e107, hx107_0, hx107_1⟩ := at_T81 HR0.out x3_1 p107 q107; obtain rfl : ad105 = ad107 := (by injection e107); replace p107 := eq_true p107; replace q107 := eq_true q107) | (go_at_call 44; (with_reducible refine (vendmeterref_In.calls ((rd_T81 l0 x3_1).f1) 1 100000 true _ A8.out).mono ?_); rintro e w' ⟨rfl, ⟨nd, rfl⟩⟩; (try first | exact ⟨rfl, _, World.drewN_drewN _ _ _⟩ | exact ⟨rfl, _, Eq.trans (World.drewN_drewN _ _ _) (congrArg (World.drewN _) (Nat.add_assoc _ _ _))⟩))))
                go_roundg k1
                case measure => have := HK1.out; omega
                case rel => exact ⟨(wrap64 (x3_1 + 1)), (by first | rfl | (simp; done) | (simp [*]; done)), H', ⟨by have := HK1.out; omega⟩, by repeat (first | exact Drawn0.refl _ | apply Drawn0.step)⟩
              · replace c9 := Bool.eq_false_iff.mpr c9
                subst c9
                have H1 : (some 2) = some r := by rw [if_neg (show ¬ (false = true) by decide)] at H; exact H
                clear H
                have H := H1
                clear H1
                obtain rfl := Option.some.inj H
                have p105 : 0 ≤ (x3_1 : Int) := of_decide_eq_true (by first | (with_reducible assumption) | assumption)
                have q105 : x3_1 < (l0.length : Int) := of_decide_eq_true (by first | (with_reducible assumption) | assumption)
                obtain ⟨ad105, e105, hx105_0, hx105_1⟩ := at_T81 HR0.out x3_1 p105 q105
                cases e105
                replace p105 := eq_true p105
                replace q105 := eq_true q105
                go_wp2_with (first | (go_at_call 44; (with_reducible refine (vendmeterref_In.calls ((rd_T81 l0 x3_1).f0) 1 10000000 true _ A6.out).mono ?_); rintro e w' ⟨rfl, ⟨nd, rfl⟩⟩; (try first | exact ⟨rfl, _, World.drewN_drewN _ _ _⟩ | exact ⟨rfl, _, Eq.trans (World.drewN_drewN _ _ _) (congrArg (World.drewN _) (Nat.add_assoc _ _ _))⟩); have p107 : 0 ≤ (x3_1 : Int) := of_decide_eq_true (by first | (with_reducible assumption) | assumption); have q107 : x3_1 < (l0.length : Int) := of_decide_eq_true (by first | (with_reducible assumption) | assumption); obtain ⟨ad107, e107, hx107_0, hx107_1⟩ := at_T81 HR0.out x3_1 p107 q107; obtain rfl : ad105 = ad107 := (by injection e107); replace p107 := eq_true p107; replace q107 := eq_true q107) | (go_at_call 44; (with_reducible refine (vendmeterref_In.calls ((rd_T81 l0 x3_1).f1) 1 100000 false _ A8.out).mono ?_); rintro e w' ⟨rfl, ⟨nd, rfl⟩⟩; (try first | exact ⟨rfl, _, World.drewN_drewN _ _ _⟩ | exact ⟨rfl, _, Eq.trans (World.drewN_drewN _ _ _) (congrArg (World.drewN _) (Nat.add_assoc _ _ _))⟩)))
                repeat (go_quiet (first | (go_at_call 44; (with_reducible refine (vendmeterref_In.calls ((rd_T81 l0 x3_1).f0) 1 10000000 true _ A6.out).mono ?_); rintro e w' ⟨rfl, ⟨nd, rfl⟩⟩; (try first | exact ⟨rfl, _, World.drewN_drewN _ _ _⟩ | exact ⟨rfl, _, Eq.trans (World.drewN_drewN _ _ _) (congrArg (World.drewN _) (Nat.add_assoc _ _ _))⟩); have p107 : 0 ≤ (x3_1 : Int) := of_decide_eq_true (by first | (with_reducible assumption) | assumption); have q107 : x3_1 < (l0.length : Int) := of_decide_eq_true (by first | (with_reducible assumption) | assumption); obtain ⟨ad107, e107, hx107_0, hx107_1⟩ := at_T81 HR0.out x3_1 p107 q107; obtain rfl : ad105 = ad107 := (by injection e107); replace p107 := eq_true p107; replace q107 := eq_true q107) | (go_at_call 44; (with_reducible refine (vendmeterref_In.calls ((rd_T81 l0 x3_1).f1) 1 100000 false _ A8.out).mono ?_); rintro e w' ⟨rfl, ⟨nd, rfl⟩⟩; (try first | exact ⟨rfl, _, World.drewN_drewN _ _ _⟩ | exact ⟨rfl, _, Eq.trans (World.drewN_drewN _ _ _) (congrArg (World.drewN _) (Nat.add_assoc _ _ _))⟩))); try go_wp2_with (first | (go_at_call 44; (with_reducible refine (vendmeterref_In.calls ((rd_T81 l0 x3_1).f0) 1 10000000 true _ A6.out).mono ?_); rintro e w' ⟨rfl, ⟨nd, rfl⟩⟩; (try first | exact ⟨rfl, _, World.drewN_drewN _ _ _⟩ | exact ⟨rfl, _, Eq.trans (World.drewN_drewN _ _ _) (congrArg (World.drewN _) (Nat.add_assoc _ _ _))⟩); have p107 : 0 ≤ (x3_1 : Int) := of_decide_eq_true (by first | (with_reducible assumption) | assumption); have q107 : x3_1 < (l0.length : Int) := of_decide_eq_true (by first | (with_reducible assumption) | assumption); obtain ⟨ad107, e107, hx107_0, hx107_1⟩ := at_T81 HR0.out x3_1 p107 q107; obtain rfl : ad105 = ad107 := (by injection e107); replace p107 := eq_true p107; replace q107 := eq_true q107) | (go_at_call 44; (with_reducible refine (vendmeterref_In.calls ((rd_T81 l0 x3_1).f1) 1 100000 false _ A8.out).mono ?_); rintro e w' ⟨rfl, ⟨nd, rfl⟩⟩; (try first | exact ⟨rfl, _, World.drewN_drewN _ _ _⟩ | exact ⟨rfl, _, Eq.trans (World.drewN_drewN _ _ _) (congrArg (World.drewN _) (Nat.add_assoc _ _ _))⟩))))
                go_ret
                exact ⟨by first | rfl | (simp; done) | (simp [*]; done), by repeat (first | exact Drawn0.refl _ | apply Drawn0.step)⟩
            · replace c7 := Bool.eq_false_iff.mpr c7
              subst c7
              have H1 : (some 2) = some r := by rw [if_neg (show ¬ (false = true) by decide)] at H; exact H
              clear H
              have H := H1
              clear H1
              obtain rfl := Option.some.inj H
              have p105 : 0 ≤ (x3_1 : Int) := of_decide_eq_true (by first | (with_reducible assumption) | assumption)
              have q105 : x3_1 < (l0.length : Int) := of_decide_eq_true (by first | (with_reducible assumption) | assumption)
              obtain ⟨ad105, e105, hx105_0, hx105_1⟩ := at_T81 HR0.out x3_1 p105 q105
              cases e105
              replace p105 := eq_true p105
              replace q105 := eq_true q105
              go_wp2_with (first | (go_at_call 44; (with_reducible refine (vendmeterref_In.calls ((rd_T81 l0 x3_1).f0) 1 10000000 false _ A6.out).mono ?_); rintro e w' ⟨rfl, ⟨nd, rfl⟩⟩; (try first | exact ⟨rfl, _, World.drewN_drewN _ _ _⟩ | exact ⟨rfl, _, Eq.trans (World.drewN_drewN _ _ _) (congrArg (World.drewN _) (Nat.add_assoc _ _ _))⟩)))
              repeat (go_quiet (first | (go_at_call 44; (with_reducible refine (vendmeterref_In.calls ((rd_T81 l0 x3_1).f0) 1 10000000 false _ A6.out).mono ?_); rintro e w' ⟨rfl, ⟨nd, rfl⟩⟩; (try first | exact ⟨rfl, _, World.drewN_drewN _ _ _⟩ | exact ⟨rfl, _, Eq.trans (World.drewN_drewN _ _ _) (congrArg (World.drewN _) (Nat.add_assoc _ _ _))⟩))); try go_wp2_with (first | (go_at_call 44; (with_reducible refine (vendmeterref_In.calls ((rd_T81 l0 x3_1).f0) 1 10000000 false _ A6.out).mono ?_); rintro e w' ⟨rfl, ⟨nd, rfl⟩⟩; (try first | exact ⟨rfl, _, World.drewN_drewN _ _ _⟩ | exact ⟨rfl, _, Eq.trans (World.drewN_drewN _ _ _) (congrArg (World.drewN _) (Nat.add_assoc _ _ _))⟩))))
              go_ret
              exact ⟨by first | rfl | (simp; done) | (simp [*]; done), by repeat (first | exact Drawn0.refl _ | apply Drawn0.step)⟩
          · rw [if_neg c5] at H
            exact absurd H (by simp)
        · rw [if_neg c4] at H
          have c4b0 : decide (x3_1 < (l0.length : Int)) = false := decide_eq_false c4
          clear c4
          have H' := Aside0.mk H
          clear H
          go_wp2
          repeat (go_quiet (fail); try go_wp2)
          go_loopg [4] k1 (fun kq v4 w' => ∃ (x4_2 : Int), v4 = .int .i64 x4_2 ∧ Aside0 (vendmeterref_TariffFault.l1 kq l0 x4_2 = some r) ∧ Aside0 (kq ≤ k1) ∧ Drawn0 w w')
          case atStart => exact ⟨(1), (by first | rfl | (simp; done) | (simp [*]; done)), H', ⟨Nat.le_refl _⟩, by repeat (first | exact Drawn0.refl _ | apply Drawn0.step)⟩
          case round =>
            clear H'
            try clear p1
            try clear q1
            try clear hx1
            try clear p2
            try clear c3
            try clear c4
            try clear c4b0
            try clear c5
            try clear c5b0
            try clear p6
            try clear c7
            try clear c9
            try clear hx105_0
            try clear hx105_1
            try clear hx107_0
            try clear hx107_1
            try clear p105
            try clear p107
            try clear p2
            try clear q105
            try clear q107
            obtain ⟨x4_2, rfl, HA, HK2, ⟨m2, rfl⟩⟩ := hrel
            cases gk with
            | zero => exact absurd HA.out (by simp [vendmeterref_TariffFault.l1])
            | succ k2 =>
              have H := HA.out
              clear HA
              simp only [vendmeterref_TariffFault.l1] at H
              by_cases c10 : x4_2 < (l0.length : Int)
              · rw [if_pos c10] at H
                have c10b0 : decide (x4_2 < (l0.length : Int)) = true := decide_eq_true c10
                clear c10
                by_cases c11 : 0 ≤ x4_2
                · rw [if_pos c11] at H
                  have c11b0 : decide (0 ≤ x4_2) = true := decide_eq_true c11
                  clear c11
                  obtain ⟨ji12, hji12⟩ : ∃ j_ : Int, (wrap64 (x4_2 - 1)) = j_ := ⟨_, rfl⟩
                  replace H : (if 0 ≤ (ji12) then (if (ji12) < (l0.length : Int) then (if ((rd_T81 l0 x4_2).f0) ≤ ((rd_T81 l0 (ji12)).f0) then (some 3) else (vendmeterref_TariffFault.l1 k2 l0 (wrap64 (x4_2 + 1)))) else (none)) else (none)) = some r := by first | (rw [hji12] at H; exact H) | (simp only [hji12] at H ⊢; exact H)
                  have hji12w : (IntKind.i64.wrap (x4_2 - 1)) = ji12 := (i64_w _).trans hji12
                  by_cases c13 : 0 ≤ (ji12)
                  · rw [if_pos c13] at H
                    have c13b0 : decide (0 ≤ (ji12)) = true := decide_eq_true c13
                    clear c13
                    by_cases c14 : (ji12) < (l0.length : Int)
                    · rw [if_pos c14] at H
                      have c14b0 : decide ((ji12) < (l0.length : Int)) = true := decide_eq_true c14
                      clear c14
                      by_cases c15 : ((rd_T81 l0 x4_2).f0) ≤ ((rd_T81 l0 (ji12)).f0)
                      · rw [if_pos c15] at H
                        have c15b0 : decide (((rd_T81 l0 x4_2).f0) ≤ ((rd_T81 l0 (ji12)).f0)) = true := decide_eq_true c15
                        clear c15
                        obtain rfl := Option.some.inj H
                        have p109 : 0 ≤ (x4_2 : Int) := of_decide_eq_true (by first | (with_reducible assumption) | assumption)
                        have q109 : x4_2 < (l0.length : Int) := of_decide_eq_true (by first | (with_reducible assumption) | assumption)
                        obtain ⟨ad109, e109, hx109_0, hx109_1⟩ := at_T81 HR0.out x4_2 p109 q109
                        cases e109
                        replace p109 := eq_true p109
                        replace q109 := eq_true q109
                        have p110 : 0 ≤ ((ji12) : Int) := of_decide_eq_true (by first | (with_reducible assumption) | assumption)
                        have q110 : (ji12) < (l0.length : Int) := of_decide_eq_true (by first | (with_reducible assumption) | assumption)
                        obtain ⟨ad110, e110, hx110_0, hx110_1⟩ := at_T81 HR0.out (ji12) p110 q110
                        obtain rfl : ad109 = ad110 := (by injection e110)
                        replace p110 := eq_true p110
                        replace q110 := eq_true q110
                        go_wp2
                        repeat (go_quiet (fail); try go_wp2)
                        go_ret
                        exact ⟨by first | rfl | (simp; done) | (simp only [← hji12] <;> (first | rfl | simp)) | (simp [*]; done), by repeat (first | exact Drawn0.refl _ | apply Drawn0.step)⟩
                      · rw [if_neg c15] at H
                        have c15b0 : decide (((rd_T81 l0 x4_2).f0) ≤ ((rd_T81 l0 (ji12)).f0)) = false := decide_eq_false c15
                        clear c15
                        have H' := Aside0.mk H
                        clear H
                        have p109 : 0 ≤ (x4_2 : Int) := of_decide_eq_true (by first | (with_reducible assumption) | assumption)
                        have q109 : x4_2 < (l0.length : Int) := of_decide_eq_true (by first | (with_reducible assumption) | assumption)
                        obtain ⟨ad109, e109, hx109_0, hx109_1⟩ := at_T81 HR0.out x4_2 p109 q109
                        cases e109
                        replace p109 := eq_true p109
                        replace q109 := eq_true q109
                        have p110 : 0 ≤ ((ji12) : Int) := of_decide_eq_true (by first | (with_reducible assumption) | assumption)
                        have q110 : (ji12) < (l0.length : Int) := of_decide_eq_true (by first | (with_reducible assumption) | assumption)
                        obtain ⟨ad110, e110, hx110_0, hx110_1⟩ := at_T81 HR0.out (ji12) p110 q110
                        obtain rfl : ad109 = ad110 := (by injection e110)
                        replace p110 := eq_true p110
                        replace q110 := eq_true q110
                        go_wp2
                        repeat (go_quiet (fail); try go_wp2)
                        go_roundg k2
                        case measure => have := HK1.out; have := HK2.out; omega
                        case rel => exact ⟨(wrap64 (x4_2 + 1)), (by first | rfl | (simp; done) | (simp [*]; done)), H', ⟨by have := HK1.out; have := HK2.out; omega⟩, by repeat (first | exact Drawn0.refl _ | apply Drawn0.step)⟩
                    · rw [if_neg c14] at H
                      exact absurd H (by simp)
                  · rw [if_neg c13] at H
                    exact absurd H (by simp)
                · rw [if_neg c11] at H
                  exact absurd H (by simp)
              · rw [if_neg c10] at H
                have c10b0 : decide (x4_2 < (l0.length : Int)) = false := decide_eq_false c10
                clear c10
                obtain ⟨ji16, hji16⟩ : ∃ j_ : Int, (wrap64 ((l0.length : Int) - 1)) = j_ := ⟨_, rfl⟩
                replace H : (if 0 ≤ (ji16) then (if (ji16) < (l0.length : Int) then (if ((rd_T81 l0 (ji16)).f0) = 10000000 then (some 0) else (some 3)) else (none)) else (none)) = some r := by first | (rw [hji16] at H; exact H) | (simp only [hji16] at H ⊢; exact H)
                have hji16w : (IntKind.i64.wrap ((l0.length : Int) - 1)) = ji16 := (i64_w _).trans hji16
                by_cases c17 : 0 ≤ (ji16)
                · rw [if_pos c17] at H
                  have c17b0 : decide (0 ≤ (ji16)) = true := decide_eq_true c17
                  clear c17
                  by_cases c18 : (ji16) < (l0.length : Int)
                  · rw [if_pos c18] at H
                    have c18b0 : decide ((ji16) < (l0.length : Int)) = true := decide_eq_true c18
                    clear c18
                    by_cases c19 : ((rd_T81 l0 (ji16)).f0) = 10000000
                    · rw [if_pos c19] at H
                      have c19b0 : (((rd_T81 l0 (ji16)).f0) == 10000000) = true := beq_iff_eq.mpr c19
                      have c19b1 : (((rd_T81 l0 (ji16)).f0) != 10000000) = false := bne_eq_false_iff_eq.mpr c19
                      clear c19
                      obtain rfl := Option.some.inj H
                      have p111 : 0 ≤ ((ji16) : Int) := of_decide_eq_true (by first | (with_reducible assumption) | assumption)
                      have q111 : (ji16) < (l0.length : Int) := of_decide_eq_true (by first | (with_reducible assumption) | assumption)
                      obtain ⟨ad111, e111, hx111_0, hx111_1⟩ := at_T81 HR0.out (ji16) p111 q111
                      cases e111
                      replace p111 := eq_true p111
                      replace q111 := eq_true q111
                      go_wp2
                      repeat (go_quiet (fail); try go_wp2)
                      go_ret
                      exact ⟨by first | rfl | (simp; done) | (simp only [← hji16] <;> (first | rfl | simp)) | (simp [*]; done), by repeat (first | exact Drawn0.refl _ | apply Drawn0.step)⟩
                    · rw [if_neg c19] at H
                      have c19b0 : (((rd_T81 l0 (ji16)).f0) == 10000000) = false := beq_eq_false_iff_ne.mpr c19
                      have c19b1 : (((rd_T81 l0 (ji16)).f0) != 10000000) = true := bne_iff_ne.mpr c19
                      obtain rfl := Option.some.inj H
                      have p111 : 0 ≤ ((ji16) : Int) := of_decide_eq_true (by first | (with_reducible assumption) | assumption)
                      have q111 : (ji16) < (l0.length : Int) := of_decide_eq_true (by first | (with_reducible assumption) | assumption)
                      obtain ⟨ad111, e111, hx111_0, hx111_1⟩ := at_T81 HR0.out (ji16) p111 q111
                      cases e111
                      replace p111 := eq_true p111
                      replace q111 := eq_true q111
                      go_wp2
                      repeat (go_quiet (fail); try go_wp2)
                      go_ret
                      exact ⟨by first | rfl | (simp; done) | (simp only [← hji16] <;> (first | rfl | simp)) | (simp [*]; done), by repeat (first | exact Drawn0.refl _ | apply Drawn0.step)⟩
                  · rw [if_neg c18] at H
                    exact absurd H (by simp)
                · rw [if_neg c17] at H
                  exact absurd H (by simp)
  · replace c3 := Bool.eq_false_iff.mpr c3
    subst c3
    have H1 : (some 1) = some r := by rw [if_neg (show ¬ (false = true) by decide)] at H; exact H
    clear H
    have H := H1
    clear H1
    obtain rfl := Option.some.inj H
    go_enter Try.func34, Try.ntmps34
    go_wp2_with (first | (go_at_call 44; (with_reducible refine (vendmeterref_In.calls (l0.length : Int) 1 8 false _ A2.out).mono ?_); rintro e w' ⟨rfl, ⟨nd, rfl⟩⟩; (try first | exact ⟨rfl, _, World.drewN_drewN _ _ _⟩ | exact ⟨rfl, _, Eq.trans (World.drewN_drewN _ _ _) (congrArg (World.drewN _) (Nat.add_assoc _ _ _))⟩)))
    repeat (go_quiet (first | (go_at_call 44; (with_reducible refine (vendmeterref_In.calls (l0.length : Int) 1 8 false _ A2.out).mono ?_); rintro e w' ⟨rfl, ⟨nd, rfl⟩⟩; (try first | exact ⟨rfl, _, World.drewN_drewN _ _ _⟩ | exact ⟨rfl, _, Eq.trans (World.drewN_drewN _ _ _) (congrArg (World.drewN _) (Nat.add_assoc _ _ _))⟩))); try go_wp2_with (first | (go_at_call 44; (with_reducible refine (vendmeterref_In.calls (l0.length : Int) 1 8 false _ A2.out).mono ?_); rintro e w' ⟨rfl, ⟨nd, rfl⟩⟩; (try first | exact ⟨rfl, _, World.drewN_drewN _ _ _⟩ | exact ⟨rfl, _, Eq.trans (World.drewN_drewN _ _ _) (congrArg (World.drewN _) (Nat.add_assoc _ _ _))⟩))))
    go_ret
    exact ⟨by first | rfl | (simp; done) | (simp [*]; done), by repeat (first | exact Drawn0.refl _ | apply Drawn0.step)⟩

/-! ### vendmeterlaw_sameSteps: function 35 -/
def vendmeterlaw_sameSteps.l0 : Nat → List (S81) → List (S81) → Int → Option (Bool)
  | 0, _, _, _ => none
  | k + 1, x0, x1, x5 => if x5 < (x0.length : Int) then (if 0 ≤ x5 then (if x5 < (x1.length : Int) then (if (!(((rd_T81 x0 x5).f0) == ((rd_T81 x1 x5).f0)) || (!(((rd_T81 x0 x5).f1) == ((rd_T81 x1 x5).f1)))) = true then (some false) else (vendmeterlaw_sameSteps.l0 k x0 x1 (wrap64 (x5 + 1)))) else (none)) else (none)) else (some true)
def vendmeterlaw_sameSteps.f (k : Nat) (l0 : List (S81)) (l1 : List (S81)) : Option (Bool) := if (l0.length : Int) = (l1.length : Int) then (vendmeterlaw_sameSteps.l0 k l0 l1 0) else (some false)
theorem vendmeterlaw_sameSteps.mono_l : ∀ k, (∀ y0 y1 y2, LeO (vendmeterlaw_sameSteps.l0 k y0 y1 y2) (vendmeterlaw_sameSteps.l0 (k + 1) y0 y1 y2))
  | 0 => fun _ _ _ r h => by simp [vendmeterlaw_sameSteps.l0] at h
  | k + 1 => by
    have ih0 := vendmeterlaw_sameSteps.mono_l k
    · intro y0 y1 y2
      unfold vendmeterlaw_sameSteps.l0
      repeat' first
      | (with_reducible exact ih0 _ _ _)
      | (with_reducible exact LeO.refl _)
      | (with_reducible exact LeO.none _)
      | (with_reducible refine LeO.ite ?_ ?_)
      | (with_reducible refine LeO.bind ?_ (fun _ => ?_))
      | exact ih0 _ _ _
      | exact LeO.none _
      | refine LeO.ite ?_ ?_
      | refine LeO.bind ?_ (fun _ => ?_)
theorem vendmeterlaw_sameSteps.mono : ∀ a0 a1 k, LeO (vendmeterlaw_sameSteps.f k a0 a1) (vendmeterlaw_sameSteps.f (k + 1) a0 a1) := by
  intro a0 a1 k
  have ih0 := vendmeterlaw_sameSteps.mono_l k
  unfold vendmeterlaw_sameSteps.f
  repeat' first
      | (with_reducible exact ih0 _ _ _)
      | (with_reducible exact LeO.refl _)
      | (with_reducible exact LeO.none _)
      | (with_reducible refine LeO.ite ?_ ?_)
      | (with_reducible refine LeO.bind ?_ (fun _ => ?_))
      | exact ih0 _ _ _
      | exact LeO.none _
      | refine LeO.ite ?_ ?_
      | refine LeO.bind ?_ (fun _ => ?_)
set_option maxHeartbeats 8000000 in
set_option maxRecDepth 100000 in
theorem vendmeterlaw_sameSteps.calls (k : Nat) (A0 : Option Addr) (c0 : Nat) (l0 : List (S81)) (A1 : Option Addr) (c1 : Nat) (l1 : List (S81)) (r : Bool) (w : World) (hr0 : Kd.C k81 w A0 l0.length l0) (hc0 : l0.length ≤ c0) (hr1 : Kd.C k81 w A1 l1.length l1) (hc1 : l1.length ≤ c1) (h : vendmeterlaw_sameSteps.f k l0 l1 = some r) :
    Calls Try.prog 35 #[.slice A0 l0.length c0, .slice A1 l1.length c1] w fun e w' => e = .returned (.bool r) ∧ Drawn0 w w' := by
  have hu81 := Try.underlying81
  have HR0 := Aside0.mk hr0
  have HC0 := Aside0.mk hc0
  clear hr0 hc0
  have HR1 := Aside0.mk hr1
  have HC1 := Aside0.mk hc1
  clear hr1 hc1
  have H : (if (l0.length : Int) = (l1.length : Int) then (vendmeterlaw_sameSteps.l0 k l0 l1 0) else (some false)) = some r := h
  clear h
  by_cases c3 : (l0.length : Int) = (l1.length : Int)
  · rw [if_pos c3] at H
    have c3b0 : ((l0.length : Int) == (l1.length : Int)) = true := beq_iff_eq.mpr c3
    have c3b1 : ((l0.length : Int) != (l1.length : Int)) = false := bne_eq_false_iff_eq.mpr c3
    have c3b2 : (l0.length == l1.length) = true := by first | simpa using c3 | (simp at c3 ⊢; omega)
    clear c3
    have H' := Aside0.mk H
    clear H
    go_enter Try.func35, Try.ntmps35
    go_wp2
    repeat (go_quiet (fail); try go_wp2)
    go_loopg [5] k (fun kq v5 w' => ∃ (x5_1 : Int), v5 = .int .i64 x5_1 ∧ Aside0 (vendmeterlaw_sameSteps.l0 kq l0 l1 x5_1 = some r) ∧ Aside0 (kq ≤ k) ∧ Drawn0 w w')
    case atStart => exact ⟨(0), (by first | rfl | (simp; done) | (simp [*]; done)), H', ⟨Nat.le_refl _⟩, by repeat (first | exact Drawn0.refl _ | apply Drawn0.step)⟩
    case round =>
      clear H'
      try clear c1
      try clear p2
      try clear c3
      try clear c3b0
      try clear c3b1
      try clear c3b2
      obtain ⟨x5_1, rfl, HA, HK1, ⟨m1, rfl⟩⟩ := hrel
      cases gk with
      | zero => exact absurd HA.out (by simp [vendmeterlaw_sameSteps.l0])
      | succ k1 =>
        have H := HA.out
        clear HA
        simp only [vendmeterlaw_sameSteps.l0] at H
        by_cases c4 : x5_1 < (l0.length : Int)
        · rw [if_pos c4] at H
          have c4b0 : decide (x5_1 < (l0.length : Int)) = true := decide_eq_true c4
          clear c4
          by_cases c5 : 0 ≤ x5_1
          · rw [if_pos c5] at H
            have c5b0 : decide (0 ≤ x5_1) = true := decide_eq_true c5
            clear c5
            by_cases c6 : x5_1 < (l1.length : Int)
            · rw [if_pos c6] at H
              have c6b0 : decide (x5_1 < (l1.length : Int)) = true := decide_eq_true c6
              clear c6
              by_cases c7 : (!(((rd_T81 l0 x5_1).f0) == ((rd_T81 l1 x5_1).f0)) || (!(((rd_T81 l0 x5_1).f1) == ((rd_T81 l1 x5_1).f1)))) = true
              · rw [if_pos c7] at H
                have c7b0 : (!(((rd_T81 l0 x5_1).f0) == ((rd_T81 l1 x5_1).f0)) || (!(((rd_T81 l0 x5_1).f1) == ((rd_T81 l1 x5_1).f1)))) = true := c7
                clear c7
                obtain rfl := Option.some.inj H
                have p112 : 0 ≤ (x5_1 : Int) := of_decide_eq_true (by first | (with_reducible assumption) | assumption)
                have q112 : x5_1 < (l0.length : Int) := of_decide_eq_true (by first | (with_reducible assumption) | assumption)
                obtain ⟨ad112, e112, hx112_0, hx112_1⟩ := at_T81 HR0.out x5_1 p112 q112
                cases e112
                replace p112 := eq_true p112
                replace q112 := eq_true q112
                have p113 : 0 ≤ (x5_1 : Int) := of_decide_eq_true (by first | (with_reducible assumption) | assumption)
                have q113 : x5_1 < (l1.length : Int) := of_decide_eq_true (by first | (with_reducible assumption) | assumption)
                obtain ⟨ad113, e113, hx113_0, hx113_1⟩ := at_T81 HR1.out x5_1 p113 q113
                cases e113
                replace p113 := eq_true p113
                replace q113 := eq_true q113
                go_wp2
                repeat (go_quiet (fail); try go_wp2)
                go_ret
                exact ⟨by first | rfl | (simp; done) | (simp [*]; done), by repeat (first | exact Drawn0.refl _ | apply Drawn0.step)⟩
              · rw [if_neg c7] at H
                have c7b0 : (!(((rd_T81 l0 x5_1).f0) == ((rd_T81 l1 x5_1).f0)) || (!(((rd_T81 l0 x5_1).f1) == ((rd_T81 l1 x5_1).f1)))) = false := by simpa using c7
                clear c7
                have H' := Aside0.mk H
                clear H
                have p112 : 0 ≤ (x5_1 : Int) := of_decide_eq_true (by first | (with_reducible assumption) | assumption)
                have q112 : x5_1 < (l0.length : Int) := of_decide_eq_true (by first | (with_reducible assumption) | assumption)
                obtain ⟨ad112, e112, hx112_0, hx112_1⟩ := at_T81 HR0.out x5_1 p112 q112
                cases e112
                replace p112 := eq_true p112
                replace q112 := eq_true q112
                have p113 : 0 ≤ (x5_1 : Int) := of_decide_eq_true (by first | (with_reducible assumption) | assumption)
                have q113 : x5_1 < (l1.length : Int) := of_decide_eq_true (by first | (with_reducible assumption) | assumption)
                obtain ⟨ad113, e113, hx113_0, hx113_1⟩ := at_T81 HR1.out x5_1 p113 q113
                cases e113
                replace p113 := eq_true p113
                replace q113 := eq_true q113
                go_wp2
                repeat (go_quiet (fail); try go_wp2)
                go_roundg k1
                case measure => have := HK1.out; omega
                case rel => exact ⟨(wrap64 (x5_1 + 1)), (by first | rfl | (simp; done) | (simp [*]; done)), H', ⟨by have := HK1.out; omega⟩, by repeat (first | exact Drawn0.refl _ | apply Drawn0.step)⟩
            · rw [if_neg c6] at H
              exact absurd H (by simp)
          · rw [if_neg c5] at H
            exact absurd H (by simp)
        · rw [if_neg c4] at H
          have c4b0 : decide (x5_1 < (l0.length : Int)) = false := decide_eq_false c4
          clear c4
          obtain rfl := Option.some.inj H
          go_wp2
          repeat (go_quiet (fail); try go_wp2)
          go_ret
          exact ⟨by first | rfl | (simp; done) | (simp [*]; done), by repeat (first | exact Drawn0.refl _ | apply Drawn0.step)⟩
  · rw [if_neg c3] at H
    have c3b0 : ((l0.length : Int) == (l1.length : Int)) = false := beq_eq_false_iff_ne.mpr c3
    have c3b1 : ((l0.length : Int) != (l1.length : Int)) = true := bne_iff_ne.mpr c3
    have c3b2 : (l0.length == l1.length) = false := by first | simpa using c3 | (simp at c3 ⊢; omega)
    obtain rfl := Option.some.inj H
    go_enter Try.func35, Try.ntmps35
    go_wp2
    repeat (go_quiet (fail); try go_wp2)
    go_ret
    exact ⟨by first | rfl | (simp; done) | (simp [*]; done), by repeat (first | exact Drawn0.refl _ | apply Drawn0.step)⟩

/-! ### vendmeterlaw_TariffChecks: function 10 -/
def vendmeterlaw_TariffChecks.f (k : Nat) (l0 : List (S81)) : Option (Bool) := (vendmeterlaw_steps.f l0).bind fun t114 => ((tariff_Check.f t114).bind fun t117 => ((vendmeterref_TariffFault.f k l0).bind fun t118 => (if t117 = t118 then ((vendmeterlaw_sameSteps.f k t114 l0).bind fun t119 => (some t119)) else (some false))))
theorem vendmeterlaw_TariffChecks.mono : ∀ a0 k, LeO (vendmeterlaw_TariffChecks.f k a0) (vendmeterlaw_TariffChecks.f (k + 1) a0) := by
  intro a0 k
  unfold vendmeterlaw_TariffChecks.f
  repeat' first
      | (with_reducible exact vendmeterlaw_sameSteps.mono _ _ _)
      | (with_reducible exact vendmeterref_TariffFault.mono _ _)
      | (with_reducible exact LeO.refl _)
      | (with_reducible exact LeO.none _)
      | (with_reducible refine LeO.ite ?_ ?_)
      | (with_reducible refine LeO.bind ?_ (fun _ => ?_))
      | exact vendmeterlaw_sameSteps.mono _ _ _
      | exact vendmeterref_TariffFault.mono _ _
      | exact LeO.none _
      | refine LeO.ite ?_ ?_
      | refine LeO.bind ?_ (fun _ => ?_)
set_option maxHeartbeats 8000000 in
set_option maxRecDepth 100000 in
theorem vendmeterlaw_TariffChecks.calls (k : Nat) (A0 : Option Addr) (c0 : Nat) (l0 : List (S81)) (r : Bool) (w : World) (hr0 : Kd.C k81 w A0 l0.length l0) (hc0 : l0.length ≤ c0) (h : vendmeterlaw_TariffChecks.f k l0 = some r) :
    Calls Try.prog 10 #[.slice A0 l0.length c0] w fun e w' => e = .returned (.bool r) ∧ Below w.heap.size w w' := by
  have HR0 := Aside0.mk hr0
  have HC0 := Aside0.mk hc0
  clear hr0 hc0
  have HB := Aside0.mk (Below.refl w.heap.size w)
  have H : ((vendmeterlaw_steps.f l0).bind fun t114 => ((tariff_Check.f t114).bind fun t117 => ((vendmeterref_TariffFault.f k l0).bind fun t118 => (if t117 = t118 then ((vendmeterlaw_sameSteps.f k t114 l0).bind fun t119 => (some t119)) else (some false))))) = some r := h
  clear h
  replace H := Option.bind_eq_some_iff.mp H
  obtain ⟨t114, A20, H⟩ := H
  replace H : ((tariff_Check.f t114).bind fun t117 => ((vendmeterref_TariffFault.f k l0).bind fun t118 => (if t117 = t118 then ((vendmeterlaw_sameSteps.f k t114 l0).bind fun t119 => (some t119)) else (some false)))) = some r := H
  have A2 := Aside0.mk A20
  clear A20
  replace H := Option.bind_eq_some_iff.mp H
  obtain ⟨t117, A30, H⟩ := H
  replace H : ((vendmeterref_TariffFault.f k l0).bind fun t118 => (if t117 = t118 then ((vendmeterlaw_sameSteps.f k t114 l0).bind fun t119 => (some t119)) else (some false))) = some r := H
  have A3 := Aside0.mk A30
  clear A30
  replace H := Option.bind_eq_some_iff.mp H
  obtain ⟨t118, A40, H⟩ := H
  replace H : (if t117 = t118 then ((vendmeterlaw_sameSteps.f k t114 l0).bind fun t119 => (some t119)) else (some false)) = some r := H
  have A4 := Aside0.mk A40
  clear A40
  by_cases c5 : t117 = t118
  · rw [if_pos c5] at H
    have c5b0 : (t117 == t118) = true := beq_iff_eq.mpr c5
    have c5b1 : (t117 != t118) = false := bne_eq_false_iff_eq.mpr c5
    clear c5
    replace H := Option.bind_eq_some_iff.mp H
    obtain ⟨t119, A60, H⟩ := H
    replace H : (some t119) = some r := H
    have A6 := Aside0.mk A60
    clear A60
    obtain rfl := Option.some.inj H
    go_enter Try.func10, Try.ntmps10
    go_wp2_with (first | ((with_reducible refine gate_callee (f := 32) rfl ?_); refine goesL_ (some 7) rfl rfl Try.func32 (by kernel_rfl) rfl #[.slice A0 l0.length c0] rfl (by (try simp only [List.map_toArray, List.map_cons, List.map_nil]); first | done | rfl | (simp only [List.length_drop, List.length_take]; rfl)) ?_; (with_reducible refine (vendmeterlaw_steps.calls _ _ l0 t114 _ ?side1 ?side2 A2.out).mono ?_); (case side1 => repeat (first | exact HR0.out | (with_reducible refine Kd.C_alloc ?_ _) | (with_reducible refine Kd.C_drewN ?_ _) | (with_reducible refine Kd.C_drew ?_))); (case side2 => exact HC0.out); rintro e w7 ⟨v115, rfl, ho0, hb⟩; refine ⟨_, rfl, ?_⟩; have n0_ := Aside0.mk (Kd.R_lower ho0 (below_size (by repeat (first | (with_reducible first | exact HB.out | apply below_alloc | apply pw_below_drewN | apply below_drew1) | exact HB.out)))); have n1_ := Aside0.mk (below_step (by repeat (first | (with_reducible first | exact HB.out | apply below_alloc | apply pw_below_drewN | apply below_drew1) | exact HB.out)) hb); clear HB; have HO116 := n0_; have HB := n1_; clear n0_ n1_; (try clear hb); (try clear hb2); (try clear hk); (try clear hi); (try clear ho0); obtain ⟨Ao8, co8, eo8⟩ := Kd.R_slice HO116.out; subst eo8) | ((with_reducible refine gate_callee (f := 33) rfl ?_); refine goesL_ (some 9) rfl rfl Try.func33 (by kernel_rfl) rfl #[.slice Ao8 t114.length co8] rfl (by (try simp only [List.map_toArray, List.map_cons, List.map_nil]); first | done | rfl | (simp only [List.length_drop, List.length_take]; rfl)) ?_; (with_reducible refine (tariff_Check.calls _ _ t114 t117 _ ?side1 ?side2 A3.out).mono ?_); (case side1 => repeat (first | exact (Kd.R_reads' HO116.out).2.2 | (with_reducible refine Kd.C_alloc ?_ _) | (with_reducible refine Kd.C_drewN ?_ _) | (with_reducible refine Kd.C_drew ?_))); (case side2 => exact (Kd.R_reads' HO116.out).2.1); rintro e w9 ⟨rfl, hb⟩; refine ⟨_, rfl, ?_⟩; have n0_ := Aside0.mk (Kd.R_below (by (with_reducible repeat (first | apply Kd.R_alloc | apply Kd.R_drewN | apply Kd.R_drew)); exact HO116.out) hb); have n1_ := Aside0.mk (below_step (by repeat (first | (with_reducible first | exact HB.out | apply below_alloc | apply pw_below_drewN | apply below_drew1) | exact HB.out)) hb); clear HO116; clear HB; have HO116 := n0_; have HB := n1_; clear n0_ n1_; (try clear hb); (try clear hb2); (try clear hk); (try clear hi)) | ((with_reducible refine gate_callee (f := 34) rfl ?_); refine goesL_ (some 11) rfl rfl Try.func34 (by kernel_rfl) rfl #[.slice A0 l0.length c0] rfl (by (try simp only [List.map_toArray, List.map_cons, List.map_nil]); first | done | rfl | (simp only [List.length_drop, List.length_take]; rfl)) ?_; (with_reducible refine (vendmeterref_TariffFault.calls k _ _ l0 t118 _ ?side1 ?side2 A4.out).mono ?_); (case side1 => repeat (first | exact (Kd.C_below HR0.out HB.out) | (with_reducible refine Kd.C_alloc ?_ _) | (with_reducible refine Kd.C_drewN ?_ _) | (with_reducible refine Kd.C_drew ?_))); (case side2 => exact HC0.out); rintro e w' ⟨rfl, ⟨nd, rfl⟩⟩; refine ⟨_, rfl, ?_⟩) | (go_at_call 35; (with_reducible refine (vendmeterlaw_sameSteps.calls k _ _ t114 _ _ l0 t119 _ ?side1 ?side2 ?side3 ?side4 A6.out).mono ?_); (case side1 => repeat (first | exact (Kd.R_reads' HO116.out).2.2 | (with_reducible refine Kd.C_alloc ?_ _) | (with_reducible refine Kd.C_drewN ?_ _) | (with_reducible refine Kd.C_drew ?_))); (case side2 => exact (Kd.R_reads' HO116.out).2.1); (case side3 => repeat (first | exact (Kd.C_below HR0.out (by repeat (first | (with_reducible first | exact HB.out | apply below_alloc | apply pw_below_drewN | apply below_drew1) | exact HB.out))) | (with_reducible refine Kd.C_alloc ?_ _) | (with_reducible refine Kd.C_drewN ?_ _) | (with_reducible refine Kd.C_drew ?_))); (case side4 => exact HC0.out); rintro e w' ⟨rfl, ⟨nd, rfl⟩⟩))
    go_ret
    exact ⟨by first | rfl | (simp [errW_none, errW_some] <;> rfl) | (simp [*, errW_none, errW_some] <;> rfl), by repeat (first | (with_reducible first | exact HB.out | apply below_alloc | apply pw_below_drewN | apply below_drew1) | exact HB.out)⟩
  · rw [if_neg c5] at H
    have c5b0 : (t117 == t118) = false := beq_eq_false_iff_ne.mpr c5
    have c5b1 : (t117 != t118) = true := bne_iff_ne.mpr c5
    obtain rfl := Option.some.inj H
    go_enter Try.func10, Try.ntmps10
    go_wp2_with (first | ((with_reducible refine gate_callee (f := 32) rfl ?_); refine goesL_ (some 7) rfl rfl Try.func32 (by kernel_rfl) rfl #[.slice A0 l0.length c0] rfl (by (try simp only [List.map_toArray, List.map_cons, List.map_nil]); first | done | rfl | (simp only [List.length_drop, List.length_take]; rfl)) ?_; (with_reducible refine (vendmeterlaw_steps.calls _ _ l0 t114 _ ?side1 ?side2 A2.out).mono ?_); (case side1 => repeat (first | exact HR0.out | (with_reducible refine Kd.C_alloc ?_ _) | (with_reducible refine Kd.C_drewN ?_ _) | (with_reducible refine Kd.C_drew ?_))); (case side2 => exact HC0.out); rintro e w10 ⟨v115, rfl, ho0, hb⟩; refine ⟨_, rfl, ?_⟩; have n0_ := Aside0.mk (Kd.R_lower ho0 (below_size (by repeat (first | (with_reducible first | exact HB.out | apply below_alloc | apply pw_below_drewN | apply below_drew1) | exact HB.out)))); have n1_ := Aside0.mk (below_step (by repeat (first | (with_reducible first | exact HB.out | apply below_alloc | apply pw_below_drewN | apply below_drew1) | exact HB.out)) hb); clear HB; have HO116 := n0_; have HB := n1_; clear n0_ n1_; (try clear hb); (try clear hb2); (try clear hk); (try clear hi); (try clear ho0); obtain ⟨Ao11, co11, eo11⟩ := Kd.R_slice HO116.out; subst eo11) | ((with_reducible refine gate_callee (f := 33) rfl ?_); refine goesL_ (some 9) rfl rfl Try.func33 (by kernel_rfl) rfl #[.slice Ao11 t114.length co11] rfl (by (try simp only [List.map_toArray, List.map_cons, List.map_nil]); first | done | rfl | (simp only [List.length_drop, List.length_take]; rfl)) ?_; (with_reducible refine (tariff_Check.calls _ _ t114 t117 _ ?side1 ?side2 A3.out).mono ?_); (case side1 => repeat (first | exact (Kd.R_reads' HO116.out).2.2 | (with_reducible refine Kd.C_alloc ?_ _) | (with_reducible refine Kd.C_drewN ?_ _) | (with_reducible refine Kd.C_drew ?_))); (case side2 => exact (Kd.R_reads' HO116.out).2.1); rintro e w12 ⟨rfl, hb⟩; refine ⟨_, rfl, ?_⟩; have n0_ := Aside0.mk (Kd.R_below (by (with_reducible repeat (first | apply Kd.R_alloc | apply Kd.R_drewN | apply Kd.R_drew)); exact HO116.out) hb); have n1_ := Aside0.mk (below_step (by repeat (first | (with_reducible first | exact HB.out | apply below_alloc | apply pw_below_drewN | apply below_drew1) | exact HB.out)) hb); clear HO116; clear HB; have HO116 := n0_; have HB := n1_; clear n0_ n1_; (try clear hb); (try clear hb2); (try clear hk); (try clear hi)) | ((with_reducible refine gate_callee (f := 34) rfl ?_); refine goesL_ (some 11) rfl rfl Try.func34 (by kernel_rfl) rfl #[.slice A0 l0.length c0] rfl (by (try simp only [List.map_toArray, List.map_cons, List.map_nil]); first | done | rfl | (simp only [List.length_drop, List.length_take]; rfl)) ?_; (with_reducible refine (vendmeterref_TariffFault.calls k _ _ l0 t118 _ ?side1 ?side2 A4.out).mono ?_); (case side1 => repeat (first | exact (Kd.C_below HR0.out HB.out) | (with_reducible refine Kd.C_alloc ?_ _) | (with_reducible refine Kd.C_drewN ?_ _) | (with_reducible refine Kd.C_drew ?_))); (case side2 => exact HC0.out); rintro e w' ⟨rfl, ⟨nd, rfl⟩⟩; refine ⟨_, rfl, ?_⟩))
    go_ret
    exact ⟨by first | rfl | (simp [errW_none, errW_some] <;> rfl) | (simp [*, errW_none, errW_some] <;> rfl), by repeat (first | (with_reducible first | exact HB.out | apply below_alloc | apply pw_below_drewN | apply below_drew1) | exact HB.out)⟩

end Go.Proofs.Ythjmmbcdkpjheaa.PTariffChecks
