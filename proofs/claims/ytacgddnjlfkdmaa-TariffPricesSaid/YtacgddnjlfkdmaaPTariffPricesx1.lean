-- written by this session's program wip/xp/xprint.py (it drives the kit's print and adds to it)
import Derived.Test.YtacgddnjlfkdmaaPTariffPricesx0
namespace Go.Proofs.Ytacgddnjlfkdmaa.PTariffPrices
open Go.RowKit Go.Proofs.YtacgddnjlfkdmaaW.PrintWords Go.Proofs.YtacgddnjlfkdmaaW.PrintLast Go.Proofs.YtacgddnjlfkdmaaW.PrintMore
attribute [local go_sem] max2_int min2_int max_two min_two max_three min_three max_four min_four   -- for this text's walks alone
set_option linter.unusedVariables false
set_option linter.unusedSimpArgs false

-- NOT PRINTED: function 150 (reflectlite_ValueOf)

-- NOT PRINTED: function 151 (reflectlite_Value_Len)

-- NOT PRINTED: function 146 (sort_SliceIsSorted)

/-! ### tariff_Check -/
def tariff_Check.bad (s : S149) : Bool := decide (s.f0 < 1) || decide (10000000 < s.f0) || decide (s.f1 < 1) || decide (100000 < s.f1)
def tariff_Check.rising (l : List S149) : Bool := (List.range (l.length - 1)).all fun i => decide ((rd_T149 l ((i : Nat) : Int)).f0 < (rd_T149 l (((i : Nat) : Int) + 1)).f0)
theorem tariff_Check.less (g : Nat) (A0 : Option Addr) (c0 : Nat) (l0 : List S149) (i j : Int) (w : World) (hb : w.cell? ⟨g, 0, none⟩ = some (.slice A0 l0.length c0)) (hr0 : Kd.C k149 w A0 l0.length l0) (hl : l0.length ≤ 8) (hi0 : 0 ≤ i) (hi1 : i < (l0.length : Int)) (hj0 : 0 ≤ j) (hj1 : j < (l0.length : Int)) :
    Calls Try.prog 147 #[.int .i64 i, .int .i64 j, .pointer (some ⟨g, 0, none⟩)] w fun e w' => e = .returned (.bool (decide ((rd_T149 l0 i).f0 ≤ (rd_T149 l0 j).f0))) ∧ ∃ n, w' = w.drewN n := by
  obtain ⟨ad, rfl, h1, _⟩ := at_T149 hr0 i hi0 hi1
  obtain ⟨ad2, e2, h2, _⟩ := at_T149 hr0 j hj0 hj1
  cases e2
  clear hr0
  have hu := Try.underlying22
  have hs : ∀ (x : Int), 0 ≤ x → x.toNat * 2 + 0 = x.toNat * 2 := fun _ _ => rfl
  go_enter Try.func147, Try.ntmps147
  go_wp2
  go_quiet (fail)
  go_wp2
  go_ret
  exact ⟨rfl, _, rfl⟩
theorem info_t22 : ((Try.prog.info? 22).map (·.desc)) = some (.slice 149) := by kernel_rfl
theorem packed_t22 : Try.prog.packed 22 = false := by kernel_rfl
theorem tariff_Check.rising_iff (l : List S149) : tariff_Check.rising l = true ↔ ∀ i : Nat, i + 1 < l.length → (rd_T149 l (i : Int)).f0 < (rd_T149 l ((i : Int) + 1)).f0 := by
  simp only [tariff_Check.rising, List.all_eq_true, List.mem_range, decide_eq_true_eq]
  exact ⟨fun h i hi => h i (by omega), fun h i hi => h i (by omega)⟩
set_option maxHeartbeats 2000000 in
set_option maxRecDepth 100000 in
theorem tariff_Check.sorted (g : Nat) (A0 : Option Addr) (c0 : Nat) (l0 : List S149) (w : World) (hb : w.cell? ⟨g, 0, none⟩ = some (.slice A0 l0.length c0)) (hr0 : Kd.C k149 w A0 l0.length l0) (hl : l0.length ≤ 8) (hl1 : 1 ≤ l0.length) :
    Calls Try.prog 146 #[.iface 22 (.slice A0 l0.length c0), .func (.func 147) #[] #[.pointer (some ⟨g, 0, none⟩)]] w fun e w' => e = .returned (.bool (tariff_Check.rising l0)) ∧ Below w.heap.size w w' := by
  obtain ⟨i46, hi46, hd46⟩ : ∃ i, Try.prog.info? 22 = some i ∧ i.desc = .slice 149 := by
    have := info_t22
    cases h : Try.prog.info? 22 with
    | none => rw [h] at this; cases this
    | some i => rw [h] at this; exact ⟨i, rfl, Option.some.inj this⟩
  have hv := Lib.run_valueOf_slice (P := Try.prog) 22 149 i46 hi46 hd46 A0 l0.length c0 w
  have hln := fun a w ha => Lib.run_valueLen_slice (P := Try.prog) 22 149 i46 hi46 hd46 packed_t22 a A0 l0.length c0 w ha
  simp only [typeHandle] at hv hln
  generalize Try.prog.globals.size = G at hv hln
  have HR0 := Aside0.mk hr0
  have HB0 := Aside0.mk hb
  have HI := Aside0.mk hi46
  clear hr0 hb hi46 hd46
  go_enter Try.func146, Try.ntmps146
  go_wp2
  rw [run_callFunc_extern Try.func150 (by kernel_rfl) (by kernel_rfl) (by kernel_rfl) (e := fun args => Extern.ReflectliteValue.unpack (args.getD 0 (.tuple #[]))) (by kernel_rfl),
    show Sem.run Try.prog ((fun args : Array Value => Extern.ReflectliteValue.unpack (args.getD 0 (.tuple #[]))) #[.iface 22 (.slice A0 l0.length c0)]) w = _ from hv]
  simp only [Result.andThen]
  rw [Oper.upon_value]
  clear hv
  go_wp2
  rw [run_callFunc_extern Try.func151 (by kernel_rfl) (by kernel_rfl) (by kernel_rfl) (e := Extern.ReflectliteValue.method (Extern.ReflectliteValue.valueError "reflectlite.Value.Len" 0) Extern.ReflectliteValue.len) (by kernel_rfl),
    hln _ _ (by simp)]
  simp only [Result.andThen]
  rw [Oper.upon_value]
  clear hln
  have HBW : Aside0 (Below w.heap.size w ((w.alloc (.cells #[.slice A0 l0.length c0] 22)).alloc (.cells #[.pointer (some ⟨G, 22, none⟩), .pointer (some ⟨w.heap.size, 0, none⟩), .int .u64 151] 187))) := ⟨below_alloc (below_alloc (Below.refl _ _) _) _⟩
  obtain ⟨l1, hl1e⟩ : ∃ l1 : Int, l1 = (l0.length : Int) := ⟨_, rfl⟩
  go_wp2
  go_loopg [7] l0.length (fun kq v7 w' => ∃ i : Int, v7 = .int .i64 i ∧ 0 ≤ i ∧ i < (l0.length : Int) ∧ i < (kq : Int) ∧ Aside0 (∀ m : Nat, i ≤ (m : Int) → m + 1 < l0.length → (rd_T149 l0 (m : Int)).f0 < (rd_T149 l0 ((m : Int) + 1)).f0) ∧ Aside0 (Below w.heap.size w w'))
  case atStart => exact ⟨_, rfl, by omega, by omega, by omega, ⟨fun m h1 h2 => by omega⟩, ⟨HBW.out⟩⟩
  case round =>
    clear HBW
    obtain ⟨i, rfl, h0, h1, h2, HA, HBW⟩ := hrel
    have hbr : Aside0 (wr.cell? ⟨g, 0, none⟩ = some (.slice A0 l0.length c0)) := ⟨pw_cell_below HBW.out HB0.out⟩
    have hrr : Aside0 (Kd.C k149 wr A0 l0.length l0) := ⟨Kd.C_below HR0.out HBW.out⟩
    by_cases hi : 0 < i
    · have hib : decide (i > 0) = true := decide_eq_true hi
      by_cases hlt : (rd_T149 l0 i).f0 ≤ (rd_T149 l0 (i - 1)).f0
      · have hlb := decide_eq_true hlt
        have HLT := Aside0.mk hlt
        clear hlt
        go_wp2_with (go_at_call 147; refine (tariff_Check.less g A0 c0 l0 i (i - 1) _ hbr.out hrr.out hl h0 h1 (by omega) (by omega)).mono ?_; rintro e w' ⟨rfl, n, rfl⟩)
        go_ret
        refine ⟨?_, ?_⟩
        · have : tariff_Check.rising l0 = false := by
            rw [Bool.eq_false_iff]
            intro h
            have h3 := (tariff_Check.rising_iff l0).1 h (i - 1).toNat (by omega)
            rw [show (((i - 1).toNat : Nat) : Int) = i - 1 by omega, show i - 1 + 1 = i by omega] at h3
            have := HLT.out
            omega
          exact congrArg (fun b_ => Ending.returned (.bool b_)) this.symm
        · repeat (first | exact HBW.out | apply below_drew1 | apply pw_below_drewN)
      · have hlb := decide_eq_false hlt
        have HLT := Aside0.mk hlt
        clear hlt
        go_wp2_with (go_at_call 147; refine (tariff_Check.less g A0 c0 l0 i (i - 1) _ hbr.out hrr.out hl h0 h1 (by omega) (by omega)).mono ?_; rintro e w' ⟨rfl, n, rfl⟩)
        go_roundg (gk - 1)
        case measure => omega
        case rel =>
          refine ⟨i - 1, rfl, by omega, by omega, by omega, ⟨fun m h3 h4 => ?_⟩, ⟨by repeat (first | exact HBW.out | apply below_drew1 | apply pw_below_drewN)⟩⟩
          by_cases hm : i ≤ (m : Int)
          · exact HA.out m hm h4
          · rw [show (m : Int) = i - 1 by omega, show i - 1 + 1 = i by omega]
            have := HLT.out
            omega
    · have hib : decide (i > 0) = false := decide_eq_false (by omega)
      go_wp2
      go_ret
      refine ⟨?_, by repeat (first | exact HBW.out | apply below_drew1 | apply pw_below_drewN)⟩
      have : tariff_Check.rising l0 = true := (tariff_Check.rising_iff l0).2 fun m hm => HA.out m (by omega) hm
      exact congrArg (fun b_ => Ending.returned (.bool b_)) this.symm
def tariff_Check.f (l0 : List S149) : Option Int := if (l0.length : Int) < 1 then some 1 else if (l0.length : Int) > 8 then some 1 else if l0.any tariff_Check.bad = true then some 2 else if tariff_Check.rising l0 = true then (if (rd_T149 l0 ((l0.length : Int) - 1)).f0 = 10000000 then some 0 else some 3) else some 3
theorem tariff_Check.bad_at {l0 : List S149} {i : Int} (h0 : 0 ≤ i) (h1 : i < (l0.length : Int)) (h : ¬ ((rd_T149 l0 i).f0 < 1 ∨ (rd_T149 l0 i).f0 > 10000000 ∨ (rd_T149 l0 i).f1 < 1 ∨ (rd_T149 l0 i).f1 > 100000) → False) : l0.any tariff_Check.bad = true := by
  rw [List.any_eq_true]
  refine ⟨rd_T149 l0 i, ?_, ?_⟩
  · unfold rd_T149; rw [List.getD_eq_getElem?_getD, List.getElem?_eq_getElem (show i.toNat < l0.length by omega)]; exact List.getElem_mem _
  · have h' := Classical.not_not.1 h
    simp only [tariff_Check.bad, Bool.or_eq_true, decide_eq_true_eq]
    rcases h' with a | a | a | a <;> simp [a]
theorem tariff_Check.good_of {l0 : List S149} (h : ∀ i : Nat, i < l0.length → ¬ ((rd_T149 l0 (i : Int)).f0 < 1 ∨ (rd_T149 l0 (i : Int)).f0 > 10000000 ∨ (rd_T149 l0 (i : Int)).f1 < 1 ∨ (rd_T149 l0 (i : Int)).f1 > 100000)) : l0.any tariff_Check.bad = false := by
  rw [List.any_eq_false]
  intro x hx
  obtain ⟨i, hi, rfl⟩ := List.mem_iff_getElem.1 hx
  have := h i hi
  have e : rd_T149 l0 (i : Int) = l0[i] := by unfold rd_T149; rw [List.getD_eq_getElem?_getD, Int.toNat_natCast, List.getElem?_eq_getElem hi]; rfl
  rw [e] at this
  simp only [tariff_Check.bad, Bool.or_eq_true, decide_eq_true_eq]
  omega
set_option maxHeartbeats 2000000 in
set_option maxRecDepth 100000 in
theorem tariff_Check.calls (A0 : Option Addr) (c0 : Nat) (l0 : List S149) (r : Int) (w : World) (hr0 : Kd.C k149 w A0 l0.length l0) (hc0 : l0.length ≤ c0) (h : tariff_Check.f l0 = some r) :
    Calls Try.prog 134 #[.slice A0 l0.length c0] w fun e w' => e = .returned (.int .i64 r) ∧ Below w.heap.size w w' := by
  have HR0 := Aside0.mk hr0
  have HC0 := Aside0.mk hc0
  clear hr0 hc0
  have H := Aside0.mk (show _ = _ from h)
  clear h
  unfold tariff_Check.f at H
  by_cases c1 : (l0.length : Int) < 1
  · rw [if_pos c1] at H
    obtain rfl := Option.some.inj H.out
    have d1 := decide_eq_true c1
    clear H
    go_enter Try.func134, Try.ntmps134
    go_wp2
    go_ret
    exact ⟨rfl, by repeat (first | exact Below.refl _ _ | apply below_alloc | apply below_drew1 | apply pw_below_drewN)⟩
  rw [if_neg c1] at H
  have d1 := decide_eq_false c1
  by_cases c2 : (l0.length : Int) > 8
  · rw [if_pos c2] at H
    obtain rfl := Option.some.inj H.out
    have d2 := decide_eq_true c2
    clear H
    go_enter Try.func134, Try.ntmps134
    go_wp2
    go_ret
    exact ⟨rfl, by repeat (first | exact Below.refl _ _ | apply below_alloc | apply below_drew1 | apply pw_below_drewN)⟩
  rw [if_neg c2] at H
  have d2 := decide_eq_false c2
  go_enter Try.func134, Try.ntmps134
  go_wp2
  go_loopg [2, 16] l0.length (fun kq v2 v16 w' => ∃ i : Int, v16 = .int .i64 i ∧ v2 = .int .i64 0 ∧ 0 ≤ i ∧ (kq : Int) = (l0.length : Int) - i ∧ i ≤ (l0.length : Int) ∧ Aside0 (∀ m : Nat, (m : Int) < i → ¬ ((rd_T149 l0 (m : Int)).f0 < 1 ∨ (rd_T149 l0 (m : Int)).f0 > 10000000 ∨ (rd_T149 l0 (m : Int)).f1 < 1 ∨ (rd_T149 l0 (m : Int)).f1 > 100000)) ∧ Aside0 (w'.heap[w.heap.size]? = some (.cells #[.slice A0 l0.length c0] 22 (0, 0))) ∧ Aside0 (Below w.heap.size w w'))
  case atStart => exact ⟨0, rfl, rfl, by omega, by omega, by omega, ⟨fun m h1 => by omega⟩, ⟨blk_new w _⟩, ⟨below_alloc (Below.refl _ _) _⟩⟩
  case round =>
    obtain ⟨i, rfl, rfl, h0, hk, h1, HA, HB, HBW⟩ := hrel
    have HRr : Aside0 (Kd.C k149 wr A0 l0.length l0) := ⟨Kd.C_below HR0.out HBW.out⟩
    have hbx : wr.cell? ⟨w.heap.size, 0, none⟩ = some (.slice A0 l0.length c0) := (blk_cell HB.out 0).trans rfl
    have hfx := blk_frozen HB.out 0
    have hsz : Aside0 (w.heap.size < wr.heap.size) := ⟨blk_lt HB.out⟩
    by_cases hi : i < (l0.length : Int)
    · have hib : decide (i < (l0.length : Int)) = true := decide_eq_true hi
      obtain ⟨ad, rfl, x1, x2⟩ := at_T149 HRr.out i h0 hi
      obtain ⟨u, hu⟩ : ∃ u : S149, u = rd_T149 l0 i := ⟨_, rfl⟩
      rw [← hu] at x1 x2
      have HU := Aside0.mk hu
      clear hu
      by_cases hbad : u.f0 < 1 ∨ u.f0 > 10000000 ∨ u.f1 < 1 ∨ u.f1 > 100000
      · have hB : l0.any tariff_Check.bad = true := tariff_Check.bad_at h0 hi (fun h => h (by rw [← HU.out]; exact hbad))
        rw [if_pos hB] at H
        obtain rfl := Option.some.inj H.out
        clear H hB
        by_cases e1 : u.f0 < 1
        · have f1 := decide_eq_true e1
          clear e1 hbad
          go_wp2
          go_ret
          exact ⟨rfl, by repeat (first | exact HBW.out | apply below_alloc | apply below_drew1 | apply pw_below_drewN)⟩
        have f1 := decide_eq_false e1
        by_cases e2 : u.f0 > 10000000
        · have f2 := decide_eq_true e2
          clear e1 e2 hbad
          go_wp2
          go_ret
          exact ⟨rfl, by repeat (first | exact HBW.out | apply below_alloc | apply below_drew1 | apply pw_below_drewN)⟩
        have f2 := decide_eq_false e2
        by_cases e3 : u.f1 < 1
        · have f3 := decide_eq_true e3
          clear e1 e2 e3 hbad
          go_wp2
          go_ret
          exact ⟨rfl, by repeat (first | exact HBW.out | apply below_alloc | apply below_drew1 | apply pw_below_drewN)⟩
        have f3 := decide_eq_false e3
        have f4 : decide (u.f1 > 100000) = true := decide_eq_true (by omega)
        clear e1 e2 e3 hbad
        go_wp2
        go_ret
        exact ⟨rfl, by repeat (first | exact HBW.out | apply below_alloc | apply below_drew1 | apply pw_below_drewN)⟩
      · have f1 : decide (u.f0 < 1) = false := decide_eq_false (by omega)
        have f2 : decide (u.f0 > 10000000) = false := decide_eq_false (by omega)
        have f3 : decide (u.f1 < 1) = false := decide_eq_false (by omega)
        have f4 : decide (u.f1 > 100000) = false := decide_eq_false (by omega)
        have HG := Aside0.mk hbad
        clear hbad
        go_wp2
        go_roundg (gk - 1)
        case measure => omega
        case rel =>
          refine ⟨i + 1, by first | rfl | go_num, rfl, by omega, by omega, by omega, ⟨fun m hm => ?_⟩, ⟨blk_alloc HB.out _⟩, ⟨below_alloc HBW.out _⟩⟩
          by_cases hmi : (m : Int) < i
          · exact HA.out m hmi
          · rw [show (m : Int) = i by omega, ← HU.out]; exact HG.out
    · have hib : decide (i < (l0.length : Int)) = false := decide_eq_false hi
      have hgood := tariff_Check.good_of (l0 := l0) (fun m hm => HA.out m (by omega))
      rw [if_neg (show ¬ (l0.any tariff_Check.bad = true) by rw [hgood]; decide)] at H
      clear HA hgood
      obtain ⟨ad, rfl, x1, _⟩ := at_T149 HRr.out ((l0.length : Int) - 1) (by omega) (by omega)
      rw [show ((l0.length : Int) - 1).toNat = l0.length - 1 by omega] at x1
      by_cases hr : tariff_Check.rising l0 = true
      · rw [if_pos hr] at H
        obtain ⟨u, hu⟩ : ∃ u : Int, u = (rd_T149 l0 ((l0.length : Int) - 1)).f0 := ⟨_, rfl⟩
        rw [← hu] at x1 H
        have HS := fun W (hb : W.cell? ⟨w.heap.size, 0, none⟩ = some (.slice (some ad) l0.length c0)) (hk : Kd.C k149 W (some ad) l0.length l0) => tariff_Check.sorted w.heap.size (some ad) c0 l0 W hb hk (by omega) (by omega)
        rw [hr] at HS
        have HS2 := Aside0.mk HS
        clear HS hr hu
        by_cases hu2 : u = 10000000
        · subst hu2
          rw [if_pos rfl] at H
          obtain rfl := Option.some.inj H.out
          clear H
          go_wp2_with (go_at_call 146; refine (HS2.out wr hbx HRr.out).mono ?_; rintro e w1 ⟨rfl, hb1⟩; have hbx1 := pw_cell_below hb1 hbx; have x11 := pw_cell_below hb1 x1; have HB1 := Aside0.mk (below_then HBW.out HBW.out.size hb1); clear hb1)
          go_ret
          exact ⟨rfl, by repeat (first | exact HB1.out | exact HBW.out | apply below_alloc | apply below_drew1 | apply pw_below_drewN)⟩
        · rw [if_neg hu2] at H
          obtain rfl := Option.some.inj H.out
          have hu3 : (u == 10000000) = false := by simpa using hu2
          have hu4 : (u != 10000000) = true := by simpa using hu2
          clear H hu2
          go_wp2_with (go_at_call 146; refine (HS2.out wr hbx HRr.out).mono ?_; rintro e w1 ⟨rfl, hb1⟩; have hbx1 := pw_cell_below hb1 hbx; have x11 := pw_cell_below hb1 x1; have HB1 := Aside0.mk (below_then HBW.out HBW.out.size hb1); clear hb1)
          go_ret
          exact ⟨rfl, by repeat (first | exact HB1.out | exact HBW.out | apply below_alloc | apply below_drew1 | apply pw_below_drewN)⟩
      · rw [if_neg hr] at H
        obtain rfl := Option.some.inj H.out
        have hr' := Bool.eq_false_iff.mpr hr
        have HS := fun W (hb : W.cell? ⟨w.heap.size, 0, none⟩ = some (.slice (some ad) l0.length c0)) (hk : Kd.C k149 W (some ad) l0.length l0) => tariff_Check.sorted w.heap.size (some ad) c0 l0 W hb hk (by omega) (by omega)
        rw [hr'] at HS
        have HS2 := Aside0.mk HS
        clear HS hr hr' H
        go_wp2_with (go_at_call 146; refine (HS2.out wr hbx HRr.out).mono ?_; rintro e w1 ⟨rfl, hb1⟩; have hbx1 := pw_cell_below hb1 hbx; have x11 := pw_cell_below hb1 x1; have HB1 := Aside0.mk (below_then HBW.out HBW.out.size hb1); clear hb1)
        go_ret
        exact ⟨rfl, by repeat (first | exact HB1.out | exact HBW.out | apply below_alloc | apply below_drew1 | apply pw_below_drewN)⟩

/-! ### tariff_asked: function 101 -/
def tariff_asked.f (l0 : List (S149)) (a1 : Int) (a2 : Int) : Option (Int) := (tariff_Check.f l0).bind fun t101 => (if t101 = 0 then (if a1 < 0 then (some 2) else (if a1 > 10000000 then (some 2) else (if a2 < 0 then (some 2) else (if a2 > 2097151 then (some 2) else (if (wrap64 (a1 + a2)) > 10000000 then (some 2) else (some 0)))))) else (some t101))
set_option maxHeartbeats 8000000 in
set_option maxRecDepth 100000 in
theorem tariff_asked.calls (A0 : Option Addr) (c0 : Nat) (l0 : List (S149)) (a1 : Int) (a2 : Int) (r : Int) (w : World) (hr0 : Kd.C k149 w A0 l0.length l0) (hc0 : l0.length ≤ c0) (h : tariff_asked.f l0 a1 a2 = some r) :
    Calls Try.prog 101 #[.slice A0 l0.length c0, .int .i64 a1, .int .i64 a2] w fun e w' => e = .returned (.int .i64 r) ∧ Below w.heap.size w w' := by
  have HR0 := Aside0.mk hr0
  have HC0 := Aside0.mk hc0
  clear hr0 hc0
  have HB := Aside0.mk (Below.refl w.heap.size w)
  have H : ((tariff_Check.f l0).bind fun t101 => (if t101 = 0 then (if a1 < 0 then (some 2) else (if a1 > 10000000 then (some 2) else (if a2 < 0 then (some 2) else (if a2 > 2097151 then (some 2) else (if (wrap64 (a1 + a2)) > 10000000 then (some 2) else (some 0)))))) else (some t101))) = some r := h
  clear h
  replace H := Option.bind_eq_some_iff.mp H
  obtain ⟨t101, A40, H⟩ := H
  replace H : (if t101 = 0 then (if a1 < 0 then (some 2) else (if a1 > 10000000 then (some 2) else (if a2 < 0 then (some 2) else (if a2 > 2097151 then (some 2) else (if (wrap64 (a1 + a2)) > 10000000 then (some 2) else (some 0)))))) else (some t101)) = some r := H
  have A4 := Aside0.mk A40
  clear A40
  by_cases c5 : t101 = 0
  · rw [if_pos c5] at H
    have c5b0 : (t101 == 0) = true := beq_iff_eq.mpr c5
    have c5b1 : (t101 != 0) = false := bne_eq_false_iff_eq.mpr c5
    clear c5
    by_cases c6 : a1 < 0
    · rw [if_pos c6] at H
      have c6b0 : decide (a1 < 0) = true := decide_eq_true c6
      clear c6
      obtain rfl := Option.some.inj H
      go_enter Try.func101, Try.ntmps101
      go_wp2_with (first | ((with_reducible refine gate_callee (f := 134) rfl ?_); refine goesL_ (some 9) rfl rfl Try.func134 (by kernel_rfl) rfl #[.slice A0 l0.length c0] rfl (by (try simp only [List.map_toArray, List.map_cons, List.map_nil]); first | done | rfl | (simp only [List.length_drop, List.length_take]; rfl)) ?_; (with_reducible refine (tariff_Check.calls _ _ l0 t101 _ ?side1 ?side2 A4.out).mono ?_); (case side1 => repeat (first | exact HR0.out | (with_reducible refine Kd.C_alloc ?_ _) | (with_reducible refine Kd.C_drewN ?_ _) | (with_reducible refine Kd.C_drew ?_))); (case side2 => exact HC0.out); rintro e w7 ⟨rfl, hb⟩; refine ⟨_, rfl, ?_⟩; have n0_ := Aside0.mk (below_step (by repeat (first | (with_reducible first | exact HB.out | apply below_alloc | apply pw_below_drewN | apply below_drew1) | exact HB.out)) hb); clear HB; have HB := n0_; clear n0_; (try clear hb); (try clear hb2); (try clear hk); (try clear hi)))
      go_ret
      exact ⟨by first | rfl | (simp [errW_none, errW_some] <;> rfl) | (simp [*, errW_none, errW_some] <;> rfl), by repeat (first | (with_reducible first | exact HB.out | apply below_alloc | apply pw_below_drewN | apply below_drew1) | exact HB.out)⟩
    · rw [if_neg c6] at H
      have c6b0 : decide (a1 < 0) = false := decide_eq_false c6
      clear c6
      by_cases c8 : a1 > 10000000
      · rw [if_pos c8] at H
        have c8b0 : decide (10000000 < a1) = true := decide_eq_true c8
        clear c8
        obtain rfl := Option.some.inj H
        go_enter Try.func101, Try.ntmps101
        go_wp2_with (first | ((with_reducible refine gate_callee (f := 134) rfl ?_); refine goesL_ (some 9) rfl rfl Try.func134 (by kernel_rfl) rfl #[.slice A0 l0.length c0] rfl (by (try simp only [List.map_toArray, List.map_cons, List.map_nil]); first | done | rfl | (simp only [List.length_drop, List.length_take]; rfl)) ?_; (with_reducible refine (tariff_Check.calls _ _ l0 t101 _ ?side1 ?side2 A4.out).mono ?_); (case side1 => repeat (first | exact HR0.out | (with_reducible refine Kd.C_alloc ?_ _) | (with_reducible refine Kd.C_drewN ?_ _) | (with_reducible refine Kd.C_drew ?_))); (case side2 => exact HC0.out); rintro e w9 ⟨rfl, hb⟩; refine ⟨_, rfl, ?_⟩; have n0_ := Aside0.mk (below_step (by repeat (first | (with_reducible first | exact HB.out | apply below_alloc | apply pw_below_drewN | apply below_drew1) | exact HB.out)) hb); clear HB; have HB := n0_; clear n0_; (try clear hb); (try clear hb2); (try clear hk); (try clear hi)))
        go_ret
        exact ⟨by first | rfl | (simp [errW_none, errW_some] <;> rfl) | (simp [*, errW_none, errW_some] <;> rfl), by repeat (first | (with_reducible first | exact HB.out | apply below_alloc | apply pw_below_drewN | apply below_drew1) | exact HB.out)⟩
      · rw [if_neg c8] at H
        have c8b0 : decide (10000000 < a1) = false := decide_eq_false c8
        clear c8
        by_cases c10 : a2 < 0
        · rw [if_pos c10] at H
          have c10b0 : decide (a2 < 0) = true := decide_eq_true c10
          clear c10
          obtain rfl := Option.some.inj H
          go_enter Try.func101, Try.ntmps101
          go_wp2_with (first | ((with_reducible refine gate_callee (f := 134) rfl ?_); refine goesL_ (some 9) rfl rfl Try.func134 (by kernel_rfl) rfl #[.slice A0 l0.length c0] rfl (by (try simp only [List.map_toArray, List.map_cons, List.map_nil]); first | done | rfl | (simp only [List.length_drop, List.length_take]; rfl)) ?_; (with_reducible refine (tariff_Check.calls _ _ l0 t101 _ ?side1 ?side2 A4.out).mono ?_); (case side1 => repeat (first | exact HR0.out | (with_reducible refine Kd.C_alloc ?_ _) | (with_reducible refine Kd.C_drewN ?_ _) | (with_reducible refine Kd.C_drew ?_))); (case side2 => exact HC0.out); rintro e w11 ⟨rfl, hb⟩; refine ⟨_, rfl, ?_⟩; have n0_ := Aside0.mk (below_step (by repeat (first | (with_reducible first | exact HB.out | apply below_alloc | apply pw_below_drewN | apply below_drew1) | exact HB.out)) hb); clear HB; have HB := n0_; clear n0_; (try clear hb); (try clear hb2); (try clear hk); (try clear hi)))
          go_ret
          exact ⟨by first | rfl | (simp [errW_none, errW_some] <;> rfl) | (simp [*, errW_none, errW_some] <;> rfl), by repeat (first | (with_reducible first | exact HB.out | apply below_alloc | apply pw_below_drewN | apply below_drew1) | exact HB.out)⟩
        · rw [if_neg c10] at H
          have c10b0 : decide (a2 < 0) = false := decide_eq_false c10
          clear c10
          by_cases c12 : a2 > 2097151
          · rw [if_pos c12] at H
            have c12b0 : decide (2097151 < a2) = true := decide_eq_true c12
            clear c12
            obtain rfl := Option.some.inj H
            go_enter Try.func101, Try.ntmps101
            go_wp2_with (first | ((with_reducible refine gate_callee (f := 134) rfl ?_); refine goesL_ (some 9) rfl rfl Try.func134 (by kernel_rfl) rfl #[.slice A0 l0.length c0] rfl (by (try simp only [List.map_toArray, List.map_cons, List.map_nil]); first | done | rfl | (simp only [List.length_drop, List.length_take]; rfl)) ?_; (with_reducible refine (tariff_Check.calls _ _ l0 t101 _ ?side1 ?side2 A4.out).mono ?_); (case side1 => repeat (first | exact HR0.out | (with_reducible refine Kd.C_alloc ?_ _) | (with_reducible refine Kd.C_drewN ?_ _) | (with_reducible refine Kd.C_drew ?_))); (case side2 => exact HC0.out); rintro e w13 ⟨rfl, hb⟩; refine ⟨_, rfl, ?_⟩; have n0_ := Aside0.mk (below_step (by repeat (first | (with_reducible first | exact HB.out | apply below_alloc | apply pw_below_drewN | apply below_drew1) | exact HB.out)) hb); clear HB; have HB := n0_; clear n0_; (try clear hb); (try clear hb2); (try clear hk); (try clear hi)))
            go_ret
            exact ⟨by first | rfl | (simp [errW_none, errW_some] <;> rfl) | (simp [*, errW_none, errW_some] <;> rfl), by repeat (first | (with_reducible first | exact HB.out | apply below_alloc | apply pw_below_drewN | apply below_drew1) | exact HB.out)⟩
          · rw [if_neg c12] at H
            have c12b0 : decide (2097151 < a2) = false := decide_eq_false c12
            clear c12
            by_cases c14 : (wrap64 (a1 + a2)) > 10000000
            · rw [if_pos c14] at H
              have c14b0 : decide (10000000 < (wrap64 (a1 + a2))) = true := decide_eq_true c14
              clear c14
              obtain rfl := Option.some.inj H
              go_enter Try.func101, Try.ntmps101
              go_wp2_with (first | ((with_reducible refine gate_callee (f := 134) rfl ?_); refine goesL_ (some 9) rfl rfl Try.func134 (by kernel_rfl) rfl #[.slice A0 l0.length c0] rfl (by (try simp only [List.map_toArray, List.map_cons, List.map_nil]); first | done | rfl | (simp only [List.length_drop, List.length_take]; rfl)) ?_; (with_reducible refine (tariff_Check.calls _ _ l0 t101 _ ?side1 ?side2 A4.out).mono ?_); (case side1 => repeat (first | exact HR0.out | (with_reducible refine Kd.C_alloc ?_ _) | (with_reducible refine Kd.C_drewN ?_ _) | (with_reducible refine Kd.C_drew ?_))); (case side2 => exact HC0.out); rintro e w15 ⟨rfl, hb⟩; refine ⟨_, rfl, ?_⟩; have n0_ := Aside0.mk (below_step (by repeat (first | (with_reducible first | exact HB.out | apply below_alloc | apply pw_below_drewN | apply below_drew1) | exact HB.out)) hb); clear HB; have HB := n0_; clear n0_; (try clear hb); (try clear hb2); (try clear hk); (try clear hi)))
              go_ret
              exact ⟨by first | rfl | (simp [errW_none, errW_some] <;> rfl) | (simp [*, errW_none, errW_some] <;> rfl), by repeat (first | (with_reducible first | exact HB.out | apply below_alloc | apply pw_below_drewN | apply below_drew1) | exact HB.out)⟩
            · rw [if_neg c14] at H
              have c14b0 : decide (10000000 < (wrap64 (a1 + a2))) = false := decide_eq_false c14
              clear c14
              obtain rfl := Option.some.inj H
              go_enter Try.func101, Try.ntmps101
              go_wp2_with (first | ((with_reducible refine gate_callee (f := 134) rfl ?_); refine goesL_ (some 9) rfl rfl Try.func134 (by kernel_rfl) rfl #[.slice A0 l0.length c0] rfl (by (try simp only [List.map_toArray, List.map_cons, List.map_nil]); first | done | rfl | (simp only [List.length_drop, List.length_take]; rfl)) ?_; (with_reducible refine (tariff_Check.calls _ _ l0 t101 _ ?side1 ?side2 A4.out).mono ?_); (case side1 => repeat (first | exact HR0.out | (with_reducible refine Kd.C_alloc ?_ _) | (with_reducible refine Kd.C_drewN ?_ _) | (with_reducible refine Kd.C_drew ?_))); (case side2 => exact HC0.out); rintro e w16 ⟨rfl, hb⟩; refine ⟨_, rfl, ?_⟩; have n0_ := Aside0.mk (below_step (by repeat (first | (with_reducible first | exact HB.out | apply below_alloc | apply pw_below_drewN | apply below_drew1) | exact HB.out)) hb); clear HB; have HB := n0_; clear n0_; (try clear hb); (try clear hb2); (try clear hk); (try clear hi)))
              go_ret
              exact ⟨by first | rfl | (simp [errW_none, errW_some] <;> rfl) | (simp [*, errW_none, errW_some] <;> rfl), by repeat (first | (with_reducible first | exact HB.out | apply below_alloc | apply pw_below_drewN | apply below_drew1) | exact HB.out)⟩
  · rw [if_neg c5] at H
    have c5b0 : (t101 == 0) = false := beq_eq_false_iff_ne.mpr c5
    have c5b1 : (t101 != 0) = true := bne_iff_ne.mpr c5
    obtain rfl := Option.some.inj H
    go_enter Try.func101, Try.ntmps101
    go_wp2_with (first | ((with_reducible refine gate_callee (f := 134) rfl ?_); refine goesL_ (some 9) rfl rfl Try.func134 (by kernel_rfl) rfl #[.slice A0 l0.length c0] rfl (by (try simp only [List.map_toArray, List.map_cons, List.map_nil]); first | done | rfl | (simp only [List.length_drop, List.length_take]; rfl)) ?_; (with_reducible refine (tariff_Check.calls _ _ l0 t101 _ ?side1 ?side2 A4.out).mono ?_); (case side1 => repeat (first | exact HR0.out | (with_reducible refine Kd.C_alloc ?_ _) | (with_reducible refine Kd.C_drewN ?_ _) | (with_reducible refine Kd.C_drew ?_))); (case side2 => exact HC0.out); rintro e w17 ⟨rfl, hb⟩; refine ⟨_, rfl, ?_⟩; have n0_ := Aside0.mk (below_step (by repeat (first | (with_reducible first | exact HB.out | apply below_alloc | apply pw_below_drewN | apply below_drew1) | exact HB.out)) hb); clear HB; have HB := n0_; clear n0_; (try clear hb); (try clear hb2); (try clear hk); (try clear hi)))
    go_ret
    exact ⟨by first | rfl | (simp [errW_none, errW_some] <;> rfl) | (simp [*, errW_none, errW_some] <;> rfl), by repeat (first | (with_reducible first | exact HB.out | apply below_alloc | apply pw_below_drewN | apply below_drew1) | exact HB.out)⟩

-- NOT PRINTED: function 102 (tariff_pieces)

/-! ### tariff_pieces -/
/-- What the iterator itself does to the world: block f (its captured variable, or a new one) alone. -/
structure tariff_pieces.Turn (f : Nat) (W W' : World) : Prop where
  os : W'.os = W.os
  tape : W'.tape = W.tape
  output : W'.output = W.output
  size : W.heap.size ≤ W'.heap.size
  block : ∀ k, k < W.heap.size → k ≠ f → W'.heap[k]? = W.heap[k]?
theorem tariff_pieces.Turn.refl (f : Nat) (W : World) : tariff_pieces.Turn f W W := ⟨rfl, rfl, rfl, Nat.le_refl _, fun _ _ _ => rfl⟩
theorem tariff_pieces.Turn.trans {f : Nat} {a b c : World} (h : tariff_pieces.Turn f a b) (k : tariff_pieces.Turn f b c) : tariff_pieces.Turn f a c :=
  ⟨k.os.trans h.os, k.tape.trans h.tape, k.output.trans h.output, Nat.le_trans h.size k.size, fun i hi hf => (k.block i (Nat.lt_of_lt_of_le hi h.size) hf).trans (h.block i hi hf)⟩
theorem tariff_pieces.Turn.below {f : Nat} {a b : World} (h : Below a.heap.size a b) : tariff_pieces.Turn f a b := ⟨h.os, h.tape, h.output, h.size, fun k hk _ => h.block k hk⟩
theorem tariff_pieces.Turn.set (f j : Nat) (W : World) (u : Value) : tariff_pieces.Turn f W (W.setCell ⟨f, j, none⟩ u) := ⟨rfl, rfl, rfl, by simp [World.setCell], fun k _ hf => Below.heap_setCell W ⟨f, j, none⟩ u k hf⟩
def tariff_pieces.iter {σ : Type} (body : σ → Int → Int → Option (Bool × σ)) (t : List S149) : Nat → Nat → Int → σ → Option σ
  | 0, _, _, s => some s
  | d + 1, i, fr, s => if (rd_T149 t (i : Int)).f0 ≤ fr then tariff_pieces.iter body t d (i + 1) fr s else
    (body s (wrap64 ((rd_T149 t (i : Int)).f0 - fr)) (rd_T149 t (i : Int)).f1).bind fun b => if b.1 = true then tariff_pieces.iter body t d (i + 1) (rd_T149 t (i : Int)).f0 b.2 else some b.2
attribute [local go_sem] Oper.semAt_some
set_option maxHeartbeats 4000000 in
set_option maxRecDepth 100000 in
theorem tariff_pieces.walk {σ : Type} (n : Nat) (hn : 1 ≤ n) (body : σ → Int → Int → Option (Bool × σ)) (t : List S149) (r s0 : σ) (J Jx : σ → World → Prop) (l tb fb : Nat) (A : Option Addr) (c : Nat) (fr0 : Int) (hlen : t.length ≤ 1152921504606846976) (W : World)
    (hJ : ∀ s W W', J s W → tariff_pieces.Turn fb W W' → J s W')
    (hJ0 : ∀ s W, J s W → Kd.C k149 W A t.length t ∧ W.heap[tb]? = some (.cells #[.slice A t.length c] 22 (0, 0)))
    (hY : ∀ s x y b W, J s W → body s x y = some b → YieldAt Fence.wide (n - 1) Try.prog l #[.int .i64 x, .int .i64 y] W fun e W' => e = .returned (.bool b.1) ∧ ((b.1 = true ∧ J b.2 W' ∧ W'.heap[fb]? = W.heap[fb]? ∧ (∀ (k : Nat) (cs : Array Value), W.heap[k]? = some (Obj.cells cs 149 (0, 0)) → W'.heap[k]? = W.heap[k]?)) ∨ (b.1 = false ∧ Jx b.2 W')))
    (h0 : J s0 W) (hF : W.heap[fb]? = some (.cells #[.int .i64 fr0] 3 (0, 0))) (hr : tariff_pieces.iter body t t.length 0 fr0 s0 = some r) :
    CallsIn Fence.wide n Try.prog 135 #[.func (.yield l) #[] #[], .pointer (some ⟨tb, 0, none⟩), .pointer (some ⟨fb, 0, none⟩)] W fun e W' => (∃ v, e = .returned v) ∧ (J r W' ∨ Jx r W') := by
  have hu125 := Try.underlying149
  refine callsIn_of_wp Try.func135 rfl trivial ?_ rfl
  simp only [Try.ntmps135, List.size_toArray, List.length_cons, List.length_nil, Nat.reduceAdd, Nat.reduceSub, Array.replicate_succ, Array.replicate_zero, List.push_toArray, List.append_toArray, List.nil_append, List.cons_append]
  have HT := (hJ0 _ _ h0).2
  have ct : W.cell? ⟨tb, 0, none⟩ = some (.slice A t.length c) := (blk_cell HT 0).trans rfl
  have HT := Aside0.mk HT
  gi_wp2
  gi_loopw [8] (fun p wr => ∃ (i d : Nat) (fr : Int) (s : σ), p = .int .i64 (i : Int) ∧ i + d = t.length ∧ J s wr ∧ wr.heap[fb]? = some (.cells #[.int .i64 fr] 3 (0, 0)) ∧ tariff_pieces.iter body t d i fr s = some r)
    (fun p wr => t.length - (intOf p).toNat)
  case atStart =>
    exact ⟨0, t.length, fr0, s0, rfl, by omega, h0, hF, hr⟩
  case round =>
    obtain ⟨i, d, fr, s, rfl, hi, hj, hf, hrun⟩ := hrel
    cases d with
    | zero =>
      simp only [tariff_pieces.iter] at hrun
      obtain rfl := Option.some.inj hrun
      have HJ := Aside0.mk hj
      have hlt : ¬ ((i : Int) < (t.length : Int)) := by omega
      clear hf hj h0 hr hF hJ hJ0 hY
      gi_wp2
      go_end0
      exact ⟨⟨_, rfl⟩, Or.inl HJ.out⟩
    | succ d =>
      have hlt : (i : Int) < (t.length : Int) := by omega
      obtain ⟨hC, htb⟩ := hJ0 s wr hj
      obtain ⟨ad, rfl, e1, e2⟩ := at_T149 hC (i : Int) (by omega) hlt
      have ef : wr.cell? ⟨fb, 0, none⟩ = some (.int .i64 fr) := (blk_cell hf 0).trans rfl
      have ef2 : ∀ o, (wr.alloc o).cell? ⟨fb, 0, none⟩ = some (.int .i64 fr) := fun o => (blk_cell (blk_alloc hf o) 0).trans rfl
      simp only [Int.toNat_natCast] at e1 e2
      simp only [tariff_pieces.iter] at hrun
      have HJ2 := hJ s wr (wr.alloc (.cells #[.int .i64 (rd_T149 t (i : Int)).f0, .int .i64 (rd_T149 t (i : Int)).f1] 149)) hj (tariff_pieces.Turn.below ((Below.refl _ wr).alloc (Nat.le_refl _) _))
      have HF := Aside0.mk (blk_alloc hf (.cells #[.int .i64 (rd_T149 t (i : Int)).f0, .int .i64 (rd_T149 t (i : Int)).f1] 149))
      have HN := World.alloc_heap_new wr (.cells #[.int .i64 (rd_T149 t (i : Int)).f0, .int .i64 (rd_T149 t (i : Int)).f1] 149)
      have hfl := blk_lt hf
      have HL := Aside0.mk hfl
      by_cases hle : (rd_T149 t (i : Int)).f0 ≤ fr
      · rw [if_pos hle] at hrun
        have HR := Aside0.mk hrun
        have HJ := Aside0.mk HJ2
        clear hC hf hj h0 hr hF htb hrun hY hJ hJ0 HJ2 HN hfl
        gi_wp2
        go_roundw
        case rel => exact ⟨i + 1, d, fr, s, by first | rfl | (simp; done) | (rw [IntWalk.wrap64_in _ ⟨by omega, by omega⟩]; rfl), by omega, HJ.out, HF.out, HR.out⟩
        case measure => simp [intOf, IntWalk.wrap64_in _ (show -9223372036854775808 ≤ (i : Int) + 1 ∧ (i : Int) + 1 ≤ 9223372036854775807 by omega)]; omega
      · rw [if_neg hle] at hrun
        obtain ⟨⟨b, s'⟩, hb, hrun⟩ := Option.bind_eq_some_iff.mp hrun
        obtain ⟨fn, tmps, assign, bdy, hy, hR⟩ := hY s _ _ _ _ HJ2 hb
        have HR := Aside0.mk hrun
        have HJJ := Aside0.mk hJ
        have HN := Aside0.mk HN
        clear hC hf hj h0 hr hF htb hrun hY hJ hJ0 HJ2 hfl
        gi_wp2
        refine hR.mono ?_
        clear hR hy
        rintro e W' ⟨rfl, (⟨hb1, hj', hf', hk'⟩ | ⟨hb1, hx'⟩)⟩
        · subst hb1
          have k1 := (hk' _ _ HN.out).trans HN.out
          have k2 := hf'.trans HF.out
          have q1 : W'.cell? ⟨wr.heap.size, 0, none⟩ = some (.int .i64 (rd_T149 t (i : Int)).f0) := (blk_cell k1 0).trans rfl
          have q2 : W'.cell? ⟨wr.heap.size, 1, none⟩ = some (.int .i64 (rd_T149 t (i : Int)).f1) := (blk_cell k1 1).trans rfl
          have q3 : W'.cell? ⟨fb, 0, none⟩ = some (.int .i64 fr) := (blk_cell k2 0).trans rfl
          have q4 : W'.frozen? ⟨fb, 0, none⟩ = false := blk_frozen k2 0
          have HJ' := Aside0.mk (HJJ.out s' W' (W'.setCell ⟨fb, 0, none⟩ (.int .i64 (rd_T149 t (i : Int)).f0)) hj' (tariff_pieces.Turn.set fb 0 W' _))
          have HF' := Aside0.mk (blk_set k2 0 (.int .i64 (rd_T149 t (i : Int)).f0))
          clear hj' hf' hk' k1 k2
          gi_wp2
          go_roundw
          case rel => exact ⟨i + 1, d, (rd_T149 t (i : Int)).f0, s', by first | rfl | (simp; done) | (rw [IntWalk.wrap64_in _ ⟨by omega, by omega⟩]; rfl), by omega, HJ'.out, HF'.out.trans (by simp), HR.out⟩
          case measure => simp [intOf, IntWalk.wrap64_in _ (show -9223372036854775808 ≤ (i : Int) + 1 ∧ (i : Int) + 1 ≤ 9223372036854775807 by omega)]; omega
        · subst hb1
          have HX := Aside0.mk hx'
          have e := Option.some.inj HR.out
          clear hx'
          gi_wp2
          refine bodyPost_ret (results_none rfl _ _ _) rfl ?_
          exact ⟨⟨_, rfl⟩, Or.inr (e ▸ HX.out)⟩
def tariff_pieces.post {σ : Type} (fb : Nat) (I : σ → World → Prop) (b : Bool × σ) (W : World) : Exit → Act → World → Prop
  | .normal, _, W' => b.1 = true ∧ I b.2 W' ∧ KeepsOthers W W' ∧ W'.heap[fb]? = W.heap[fb]? ∧ ∀ (k : Nat) (cs : Array Value), W.heap[k]? = some (Obj.cells cs 149 (0, 0)) → W'.heap[k]? = W.heap[k]?
  | .exit id, _, W' => id = 0 ∧ b.1 = false ∧ I b.2 W' ∧ KeepsOthers W W'
  | _, _, _ => False
theorem tariff_pieces.turned (W : World) (f : Nat) (o : Obj) : tariff_pieces.Turn f W (W.putObj f o) :=
  ⟨rfl, rfl, rfl, by simp, fun k _ hf => World.putObj_heap_other hf⟩
set_option maxHeartbeats 4000000 in
set_option maxRecDepth 100000 in
theorem tariff_pieces.range {σ : Type} (body : σ → Int → Int → Option (Bool × σ)) (t : List S149) (r s0 : σ) (I : σ → World → Prop) (tb fb : Nat) (A : Option Addr) (c : Nat) (fr0 : Int) (hlen : t.length ≤ 1152921504606846976) {g : Operand} {ps : Array Tmp} {assign code : Code} {Q : Exit → Act → World → Prop} {a : Act} {w : World} (a1 : Int → Int → Act)
    (hg : a.eval g = .func (.func 135) #[] #[.pointer (some ⟨tb, 0, none⟩), .pointer (some ⟨fb, 0, none⟩)]) (hps : ps.size = 2)
    (hI0 : ∀ s W, I s W → Kd.C k149 W A t.length t ∧ W.heap[tb]? = some (.cells #[.slice A t.length c] 22 (0, 0)))
    (hIT : ∀ s f W W', (f = fb ∨ f = w.heap.size ∨ f = w.heap.size + 1) → I s W → tariff_pieces.Turn f W W' → I s W')
    (h0 : I s0 w) (hF : w.heap[fb]? = some (.cells #[.int .i64 fr0] 3 (0, 0))) (hr : tariff_pieces.iter body t t.length 0 fr0 s0 = some r)
    (hassign : ∀ (l : Nat) (x y : Int) (W : World) (K : Act → World → Prop), K (a1 x y) W → assign.wpIn (Fence.wide.inRound l) 1 Try.prog (Exit.then K (fun _ _ _ => False)) { tmps := (ps.zip #[.int .i64 x, .int .i64 y]).foldl (fun t (p, v) => t.setIfInBounds p v) a.tmps, defers := [] } W)
    (hbody : ∀ (l : Nat) (s : σ) (x y : Int) (b : Bool × σ) (W : World), I s W → body s x y = some b → w.heap.size + 2 ≤ W.heap.size → code.wpIn (Fence.wide.inRound l) 1 Try.prog (tariff_pieces.post fb I b W) (a1 x y) W)
    (hend : ∀ W, I r W → W.heap[w.heap.size]? = some (.deferred (some [])) → w.heap.size + 2 ≤ W.heap.size → Q .normal { a with defers := { target := .collected w.heap.size, args := #[] } :: a.defers } W)
    (hstop : ∀ W, I r W → W.heap[w.heap.size]? = some (.deferred (some [])) → w.heap.size + 2 ≤ W.heap.size → (Code.exit 0).wpIn Fence.wide 3 Try.prog Q { a with defers := { target := .collected w.heap.size, args := #[] } :: a.defers } W) :
    (Code.rangeFunc g ps assign code).wpIn Fence.wide 3 Try.prog Q a w := by
  refine wpIn_rangeFunc ?_
  intro fn _
  obtain ⟨rec, hrec⟩ : ∃ rec : LoopState → Option Code → Loop, rec = fun st pe => { state := st, pending := pe, fn, tmps := a.tmps, params := ps, assign, body := code, defers := w.heap.size } := ⟨_, rfl⟩
  obtain ⟨W1, hW1⟩ : ∃ W1, (w.alloc (.deferred (some []))).alloc (.loop (rec .ready none)) = W1 := ⟨_, rfl⟩
  have hsz : W1.heap.size = w.heap.size + 2 := by rw [← hW1]; simp
  have hL1 : W1.heap[w.heap.size + 1]? = some (.loop (rec .ready none)) := by
    rw [← hW1]; have := World.alloc_heap_new (w.alloc (.deferred (some []))) (.loop (rec .ready none)); rwa [World.size_alloc] at this
  have hD1 : W1.heap[w.heap.size]? = some (.deferred (some [])) := by
    rw [← hW1]; exact (Below.heap_alloc _ _ _ (by simp)).trans (World.alloc_heap_new w _)
  have hB1 : Below w.heap.size w W1 := by
    rw [← hW1]; exact ((Below.refl _ w).alloc (Nat.le_refl _) _).alloc (by simp) _
  have hfb : fb < w.heap.size := blk_lt hF
  have hI1 : I s0 W1 := hIT s0 fb w W1 (Or.inl rfl) h0 (tariff_pieces.Turn.below hB1)
  refine ⟨w.heap.size + 1, [{ target := .collected w.heap.size, args := #[] }], W1, { target := .fn (.func 135) #[.pointer (some ⟨tb, 0, none⟩), .pointer (some ⟨fb, 0, none⟩)], args := #[.func (.yield (w.heap.size + 1)) #[] #[]] }, W1, 135,
    #[.func (.yield (w.heap.size + 1)) #[] #[], .pointer (some ⟨tb, 0, none⟩), .pointer (some ⟨fb, 0, none⟩)], W1, ?_, ?_, fun _ _ => trivial, ?_, fun _ => by decide, ?_⟩
  · rw [← hW1, hrec]; exact run_enterLoop_outer _ _ _ _ _
  · simp only [resolve, hg]
    simp [go_sem]
  · simp [invoke, go_sem, enters_of Try.func135 (by kernel_rfl) rfl]
  · refine (tariff_pieces.walk 2 (by decide) body t r s0
      (fun s W => I s W ∧ W.heap[w.heap.size + 1]? = some (.loop (rec .ready none)) ∧ W.heap[w.heap.size]? = some (.deferred (some [])))
      (fun s W => I s W ∧ W.heap[w.heap.size + 1]? = some (.loop (rec .done (some (.exit 0)))) ∧ W.heap[w.heap.size]? = some (.deferred (some [])))
      (w.heap.size + 1) tb fb A c fr0 hlen W1 ?_ (fun s W h => hI0 s W h.1) ?_ ⟨hI1, hL1, hD1⟩ ((hB1.block fb hfb).trans hF) hr).mono ?_
    · rintro s X Y ⟨h1, h2, h3⟩ ht
      exact ⟨hIT s fb X Y (Or.inl rfl) h1 ht, (ht.block _ (blk_lt h2) (by omega)).trans h2, (ht.block _ (blk_lt h3) (by omega)).trans h3⟩
    · rintro s x y b W ⟨h1, h2, h3⟩ hb
      have hlt := blk_lt h2
      have hy := run_yield (P := Try.prog) (args := #[.int .i64 x, .int .i64 y]) h2 (by rw [hrec]; simp [hps])
      rw [hrec] at hy
      refine ⟨fn, _, assign, code, hy, roundIn_of_wpIn trivial (hassign _ x y W _ ⟨_, run_beginRound h2 (by rw [hrec]), ?_⟩)⟩
      obtain ⟨W2, hW2⟩ : ∃ W2, W.putObj (w.heap.size + 1) (.loop { rec .ready none with state := .busy }) = W2 := ⟨_, rfl⟩
      have h4 : W2.heap[w.heap.size + 1]? = some (.loop { rec .ready none with state := .busy }) := by rw [← hW2]; exact World.putObj_heap_same hlt
      have h5 : ∀ k, k ≠ w.heap.size + 1 → W2.heap[k]? = W.heap[k]? := by intro k hk; rw [← hW2]; exact World.putObj_heap_other hk
      have h6 : I s W2 := by rw [← hW2]; exact hIT s _ W _ (Or.inr (Or.inr rfl)) h1 (tariff_pieces.turned W _ _)
      rw [hW2]
      refine wpIn_mono (hbody _ s x y b W2 h6 hb (by rw [← hW2]; simp; omega)) ?_
      have fin : ∀ (jump : Option Code) (W3 : World), KeepsOthers W2 W3 →
          (Instr.endRound (w.heap.size + 1) jump).run Try.prog W3 = .ok (.bool jump.isNone) (W3.putObj (w.heap.size + 1) (.loop (rec (if jump.isNone then .ready else .done) jump))) ∧ w.heap.size + 1 < W3.heap.size ∧ W3.heap[w.heap.size]? = some (.deferred (some [])) := by
        intro jump W3 hk3
        have hl3 := hk3.same _ _ h4 rfl
        have := run_endRound (P := Try.prog) jump hl3
        rw [hrec] at this ⊢
        exact ⟨this, blk_lt hl3, (hk3.same _ _ ((h5 _ (by omega)).trans h3) rfl)⟩
      rintro e a3 W3 hp
      cases e with
      | normal =>
        obtain ⟨p1, p2, p3, p4, p5⟩ := hp
        obtain ⟨q1, q2, q3⟩ := fin none W3 p3
        refine ⟨_, _, q1, by rw [p1]; rfl, Or.inl ⟨p1, ⟨hIT _ _ _ _ (Or.inr (Or.inr rfl)) p2 (tariff_pieces.turned W3 _ _), World.putObj_heap_same q2, (World.putObj_heap_other (by omega)).trans q3⟩, ?_, ?_⟩⟩
        · exact (World.putObj_heap_other (by omega)).trans (p4.trans (h5 _ (by omega)))
        · intro k cs hk
          have hne : k ≠ w.heap.size + 1 := by rintro rfl; rw [h2] at hk; cases hk
          exact (World.putObj_heap_other hne).trans ((p5 k cs ((h5 k hne).trans hk)).trans (h5 k hne))
      | exit id =>
        obtain ⟨rfl, p1, p2, p3⟩ := hp
        obtain ⟨q1, q2, q3⟩ := fin (some (.exit 0)) W3 p3
        exact ⟨_, _, q1, by rw [p1]; rfl, Or.inr ⟨p1, hIT _ _ _ _ (Or.inr (Or.inr rfl)) p2 (tariff_pieces.turned W3 _ _), World.putObj_heap_same q2, (World.putObj_heap_other (by omega)).trans q3⟩⟩
      | ret => exact hp.elim
      | goto t => exact hp.elim
      | panic ch => exact hp.elim
      | outgrown => exact hp.elim
    · rintro e W2 ⟨⟨v, rfl⟩, (⟨h1, h2, h3⟩ | ⟨h1, h2, h3⟩)⟩
      · have hl := blk_lt h2
        exact ⟨none, _, by have := run_endLoop (P := Try.prog) h2 (by rw [hrec]; simp); rw [hrec] at this; exact this, hend _ (hIT _ _ _ _ (Or.inr (Or.inr rfl)) h1 (tariff_pieces.turned W2 _ _)) ((World.putObj_heap_other (by omega)).trans h3) (by simp; omega)⟩
      · have hl := blk_lt h2
        exact ⟨some (.exit 0), _, by have := run_endLoop (P := Try.prog) h2 (by rw [hrec]; simp); rw [hrec] at this; exact this, hstop _ (hIT _ _ _ _ (Or.inr (Or.inr rfl)) h1 (tariff_pieces.turned W2 _ _)) ((World.putObj_heap_other (by omega)).trans h3) (by simp; omega)⟩
theorem tariff_pieces.R_append_in {F : Fence} {n : Nat} {P : Program} {ops : Array Oper} {rest : List Oper} {o : Oper} {a : Act} {Q : Exit → Act → World → Prop} {α : Type} (d : Kd α) {w0 W : World} (base : Nat) (hgd : o.guard = none) (s x : Operand) (t e : TypeId) (z : Value) (bytes : Nat)
    (ho : o.op = .call { callee := .builtin .append, args := #[s, x], argTypes := #[t, t] })
    (ht : P.underlying t = some (.slice e)) (hinfo : (P.info? e).map (fun i => (i.zero, i.size, i.bytes)) = some (some z, d.sz, bytes)) (hz : z.cells.size = d.sz) (hs0 : 0 < d.sz) (hb0 : 0 < bytes)
    (v : Value) (xs : List α) (p : α) (cs : List Value) (ok : Nat → Prop) (hs : a.eval s = v) (hx : a.eval x = .slice (some ⟨W.heap.size, 0, none⟩) 1 1) (hp : d.M W base (fun _ => False) p cs) (hfresh : ∀ k, W.heap.size ≤ k → ok k)
    (HO : d.R e W base ok v xs) (HB : Below base w0 W) (hbase : base ≤ W.heap.size) (hl : (xs.length + 1) * bytes ≤ 140737488355328)
    (h : ∀ v1 w1, d.R e w1 base ok v1 (xs ++ [p]) → Below base w0 w1 → W.grownBy w1 v.ownBlock → wpListIn F n P ops Q rest (a.put o.dst v1) w1) :
    wpListIn F n P ops Q (o :: rest) a (W.alloc (.cells cs.toArray e)) := by
  obtain ⟨h0, inner, hown, hr⟩ := HO
  obtain ⟨i0, hi, hzz⟩ := Option.map_eq_some_iff.1 hinfo
  simp only [Prod.mk.injEq] at hzz
  obtain ⟨hz0, hz1, hz2⟩ := hzz
  have hys := d.K_len (d.K_of_M hp)
  have hlen : xs.length + 1 ≤ 140737488355328 := Nat.le_trans (Nat.le_mul_of_pos_right _ hb0) hl
  refine wpListIn_append_own_at _ hgd s x t ho base e i0 z d.sz bytes ht hi hz0 hz1 hz2 hz hs0 v xs.length inner hs (hown.alloc _) ⟨W.heap.size, 0, none⟩ 1 1 cs hx (by rw [hys]; simp) (by simpa using World.news_of_block (cs := cs.toArray) (t := e) (fr := (0, 0)) (heap_alloc_new W (.cells cs.toArray e))) (d.K_one (d.K_of_M hp)) (by simp only [maxLen]; omega) hl (by simp; omega) ?_
  intro v1 w1 hown1 hg _ hat
  have hg1 := World.grownBy.trans (World.grownBy_alloc W _ _) hg
  refine h v1 w1 (Kd.R_appended h0 hr hp (fun _ hk => hk.elim) hfresh hown1 hg1 ?_) ((HB.alloc hbase _).grown hg (by simp; omega) (own_base hown)) hg1
  rcases hat with hat | hat
  · exact .inl hat
  · exact .inr ⟨_, hat, by simp⟩
theorem tariff_pieces.made (t : Nat) (A : Option Addr) (c : Nat) (fr : Int) (w : World) :
    Calls Try.prog 102 #[.slice A t c, .int .i64 fr] w fun e w' => e = .returned (.func (.func 135) #[] #[.pointer (some ⟨w.heap.size, 0, none⟩), .pointer (some ⟨w.heap.size + 1, 0, none⟩)]) ∧ w' = (w.alloc (.cells #[.slice A t c] 22)).alloc (.cells #[.int .i64 fr] 3) := by
  go_enter Try.func102, Try.ntmps102
  go_wp2
  go_ret
  exact ⟨rfl, rfl⟩
section
variable {F : Fence} {n : Nat} {P : Program} {ops : Array Oper} {md : Region.Mode} {C : World → Prop}
def tariff_pieces.noDefer (o : Oper) : Bool := match o.op with | .defer _ => false | _ => true
theorem tariff_pieces.noDefer_spec {o : Oper} (h : tariff_pieces.noDefer o = true) : ∀ c, o.op ≠ .defer c := by
  intro c e
  unfold tariff_pieces.noDefer at h
  rw [e] at h
  cases h
/-- An operation that reads, in a round of a range over a function: as outside. -/
theorem tariff_pieces.rq_oper {o : Oper} {a : Act} {K : Act → Prop} {K' : Act → World → Prop} {Q' : Exit → Act → World → Prop} {w : World} (hd : ∀ c, o.op ≠ .defer c) (hw : C w) (h : ∀ a w', C w' → K a → K' a w')
    (ha : o.askedIn F P a C) (hh : o.quietIn F n P a C K) : o.wpIn F n P a w K' Q' := by
  obtain ⟨v, hv, hk⟩ := hh
  have hat := hv w hw
  unfold Oper.quietAtIn at hat
  unfold Oper.wpIn
  refine ⟨ha w hw, ?_⟩
  rw [Oper.semAt_plain F _ _ hd]
  generalize (execOp a.eval o).run P w = res at *
  match res with
  | .ok (.value u) w' => obtain ⟨rfl, rfl⟩ := hat; exact h _ _ hw hk
  | .ok .skip w' => obtain ⟨rfl, rfl⟩ := hat; exact h _ _ hw hk
  | .ok (.enter f args) w' =>
    obtain ⟨rfl, hn, hc⟩ := hat
    refine ⟨hn, hc.mono ?_⟩
    rintro e w'' ⟨rfl, hw''⟩
    exact h _ _ hw'' hk
  | .ok (.defer d) w' => exact absurd hat (by simp [Oper.quietUponIn])
  | .ok (.row r args) w' => exact absurd hat (by simp [Oper.quietUponIn])
  | .ok (.round l f t s b) w' => exact absurd hat (by simp [Oper.quietUponIn])
  | .halt x w' => exact absurd hat (by simp [Oper.quietUponIn])
theorem tariff_pieces.rq_op {i : Nat} {a : Act} {K : Act → Prop} {K' : Act → World → Prop} {Q' : Exit → Act → World → Prop} {w : World} (hD : ∀ o ∈ ops.toList, tariff_pieces.noDefer o = true) (hC : C w) (h : ∀ a w', C w' → K a → K' a w')
    (hh : qOpIn F n P ops C i K a) : wpOpIn F n P ops Q' i K' a w := by
  unfold qOpIn at hh
  unfold wpOpIn
  cases ho : ops[i]? with
  | none => simp only [ho] at hh; exact h _ _ hC hh
  | some o =>
    simp only [ho] at hh
    obtain ⟨ha, hh⟩ := hh
    have hm : o ∈ ops.toList := by have := Array.mem_of_getElem? ho; exact Array.mem_toList_iff.2 this
    by_cases hw : Region.wanted o (yielded ops a.tmps) = true
    · simp only [hw, if_true] at hh ⊢
      exact tariff_pieces.rq_oper (tariff_pieces.noDefer_spec (hD o hm)) hC h ha hh
    · simp only [hw] at hh ⊢
      exact ⟨ha w hC, h _ _ hC hh⟩
theorem tariff_pieces.rq_any {Q : Act → Prop} {Q' : Exit → Act → World → Prop} (hD : ∀ o ∈ ops.toList, tariff_pieces.noDefer o = true) (hQ : ∀ a w, C w → Q a → Q' .normal a w) : ∀ (fuel : Nat) (listed : Array Bool) (a : Act) (w : World), C w →
    wpAnyQIn F n P md ops C Q fuel listed a → wpAnyIn F n P md ops Q' fuel listed a w
  | 0, _, _, _, hw, h => ⟨h.1, hQ _ _ hw h.2⟩
  | fuel + 1, _, _, _, hw, h => ⟨fun e => hQ _ _ hw (h.1 e), fun i hi => tariff_pieces.rq_op hD hw (fun a' w' hw' => tariff_pieces.rq_any hD hQ fuel _ a' w' hw') (h.2 i hi)⟩
theorem tariff_pieces.rq_region {id : Nat} {Q : Exit → Act → World → Prop} {a : Act} {w : World} {l : List Oper} (hd : l.all tariff_pieces.noDefer = true) (hm : P.follows .mixedOrders = true) (hB : Region.lexB .any l.toArray = true)
    (h : wpQuietIn F n P l.toArray (fun w' => ∃ n, w' = w.drewN n) (fun a' => ∀ w', (∃ n, w' = w.drewN n) → Q .normal a' w') l a) : (Code.region id l.toArray true).wpIn F n P Q a w := by
  simp only [Region.lexB, Bool.and_eq_true] at hB
  refine wpIn_region_any hm (tariff_pieces.rq_any (C := fun w' => ∃ n, w' = w.drewN n) (Q := fun a' => ∀ w', (∃ n, w' = w.drewN n) → Q .normal a' w') (fun o ho => List.all_eq_true.1 hd o (by simpa using ho)) (fun _ w' hw' h => h w' hw') _ _ _ _ ⟨1, rfl⟩ ?_)
  have := wpAnyQIn_lex (F := F) (n := n) (C := fun w' => ∃ n, w' = w.drewN n) (md := .any) hB.1 l 0 (Array.replicate l.toArray.size false) a (by simp) (by simpa using hB.2) h
  simpa using this
end

/-! ### tariff_Bill -/
attribute [local go_sem] Oper.semAt_some
theorem tariff_Bill.info : (Try.prog.info? 84).map (fun i => (i.zero, i.size, i.bytes)) = some (some (.agg #[(.int .i64 0), (.int .i64 0), (.int .i64 0)]), 3, 24) := by kernel_rfl
def tariff_Bill.body (s : Int × List S84) (x y : Int) : Option (Bool × (Int × List S84)) := if s.1 = 0 then some (false, s) else if s.2.length ≤ 8 then some (true, (wrap64 (s.1 - mn x s.1), s.2 ++ [⟨mn x s.1, y, wrap64 (mn x s.1 * y)⟩])) else none
def tariff_Bill.I (w : World) (O L : Nat) (A0 : Option Addr) (c0 n : Nat) (s : Int × List S84) (W : World) : Prop := ∃ v, W.heap[w.heap.size]? = some (.cells #[.int .i64 s.1] 3 (0, 0)) ∧ W.heap[O]? = some (.cells #[v] 80 (0, 0)) ∧ Kd.R k84 84 W w.heap.size (fun k => L + 2 ≤ k) v s.2 ∧ W.heap[O + 1]? = some (.cells #[.slice A0 n c0] 22 (0, 0)) ∧ Below w.heap.size w W
def tariff_Bill.f (l0 : List S149) (a1 a2 : Int) : Option (List S84 × Int) := (tariff_asked.f l0 a1 a2).bind fun e => if e = 0 then (tariff_pieces.iter tariff_Bill.body l0 l0.length 0 a1 (a2, [])).bind fun s => some (s.2, 0) else some ([], e)
set_option maxHeartbeats 4000000 in
set_option maxRecDepth 100000 in
theorem tariff_Bill.calls (A0 : Option Addr) (c0 : Nat) (l0 : List S149) (a1 a2 : Int) (r1 : List S84) (r2 : Int) (w : World) (hr0 : Kd.C k149 w A0 l0.length l0) (hc0 : l0.length ≤ c0) (h : tariff_Bill.f l0 a1 a2 = some (r1, r2)) :
    Calls Try.prog 48 #[.slice A0 l0.length c0, .int .i64 a1, .int .i64 a2] w fun e w' => ∃ v0_ : Value, e = .returned (.tuple #[v0_, .int .i64 r2]) ∧ Kd.R k84 84 w' w.heap.size (fun _ => True) v0_ r1 ∧ Below w.heap.size w w' := by
  have hu150 := Try.underlying84
  have HR0 := Aside0.mk hr0
  have HC0 := Aside0.mk hc0
  unfold tariff_Bill.f at h
  replace h := Option.bind_eq_some_iff.mp h
  obtain ⟨q, hq, h⟩ := h
  have HQ := Aside0.mk hq
  clear hr0 hc0 hq
  refine (callsIn_wide (n := 3)).1 (callsIn_of_wp_marks Try.func48 rfl trivial (wpIn_wide.2 ?_) rfl)
  simp only [Try.ntmps48, List.size_toArray, List.length_cons, List.length_nil, Nat.reduceAdd, Nat.reduceSub, Array.replicate_succ, Array.replicate_zero, List.push_toArray, List.append_toArray, List.nil_append, List.cons_append]
  by_cases c1 : q = 0
  case neg =>
    rw [if_neg c1] at h
    replace h := Prod.mk.inj (Option.some.inj h)
    obtain ⟨rfl, rfl⟩ := h
    have t1 : (q != 0) = true := bne_iff_ne.mpr c1
    go_wp2_with (go_at_call 101; refine (tariff_asked.calls A0 c0 l0 a1 a2 q _ (Kd.C_below HR0.1 ((Below.refl _ w).alloc (Nat.le_refl _) _)) HC0.1 HQ.1).mono ?_; rintro e w1 ⟨rfl, hb1⟩; have HB1 := Aside0.mk (((Below.refl w.heap.size w).alloc (Nat.le_refl _) (.cells #[.int .i64 a2] 3)).trans (hb1.mono (by simp))); clear hb1)
    exact ⟨.tuple #[.slice none 0 0, .int .i64 q], by simp [results, Try.f48, go_sem], _, rfl, Kd.R_nil _ _ _ _ _, HB1.1⟩
  subst c1
  rw [if_pos rfl] at h
  replace h := Option.bind_eq_some_iff.mp h
  obtain ⟨s, hs, h⟩ := h
  replace h := Prod.mk.inj (Option.some.inj h)
  obtain ⟨rfl, rfl⟩ := h
  have HS := Aside0.mk hs
  clear hs
  have BU0 := Aside0.mk (World.alloc_heap_new w (.cells #[.int .i64 a2] 3))
  go_wp2_with (first | (go_at_call 101; refine (tariff_asked.calls A0 c0 l0 a1 a2 0 _ (Kd.C_below HR0.1 ((Below.refl _ w).alloc (Nat.le_refl _) _)) HC0.1 HQ.1).mono ?_; rintro e w1 ⟨rfl, hb1⟩; have HB1 := Aside0.mk (((Below.refl w.heap.size w).alloc (Nat.le_refl _) (.cells #[.int .i64 a2] 3)).trans (hb1.mono (by simp))); have BU := Aside0.mk ((hb1.block _ (blk_lt BU0.1)).trans BU0.1); clear hb1 BU0) | (go_at_call 102; refine (tariff_pieces.made _ _ _ _ _).mono ?_; rintro e w2 ⟨rfl, rfl⟩))
  have hlen : l0.length ≤ 1152921504606846976 := by
    have hq := HQ.1
    unfold tariff_asked.f tariff_Check.f at hq
    rcases Nat.lt_or_ge 8 l0.length with hc | hc
    · rw [if_neg (by omega), if_pos (by omega)] at hq
      simp at hq
    · omega
  have HLEN := Aside0.mk hlen
  clear hlen
  have GU := BU.1
  have hu := blk_lt GU
  have G0 : (((w1.alloc (.cells #[.slice none 0 0] 80)).alloc (.cells #[.slice A0 l0.length c0] 22)).alloc (.cells #[.int .i64 a1] 3)).heap.size = w1.heap.size + 3 := by simp
  have GB := ((HB1.1.alloc HB1.1.size (.cells #[.slice none 0 0] 80)).alloc (Nat.le_trans HB1.1.size (by simp)) (.cells #[.slice A0 l0.length c0] 22)).alloc (Nat.le_trans HB1.1.size (by simp; omega)) (.cells #[.int .i64 a1] 3)
  have GU2 := blk_alloc (blk_alloc (blk_alloc GU (.cells #[.slice none 0 0] 80)) (.cells #[.slice A0 l0.length c0] 22)) (.cells #[.int .i64 a1] 3)
  have GO := blk_alloc (blk_alloc (World.alloc_heap_new w1 (.cells #[.slice none 0 0] 80)) (.cells #[.slice A0 l0.length c0] 22)) (.cells #[.int .i64 a1] 3)
  have GT := blk_alloc (World.alloc_heap_new (w1.alloc (.cells #[.slice none 0 0] 80)) (.cells #[.slice A0 l0.length c0] 22)) (.cells #[.int .i64 a1] 3)
  have GF := World.alloc_heap_new ((w1.alloc (.cells #[.slice none 0 0] 80)).alloc (.cells #[.slice A0 l0.length c0] 22)) (.cells #[.int .i64 a1] 3)
  rw [World.size_alloc] at GT
  rw [World.size_alloc, World.size_alloc] at GF
  obtain ⟨W0, hW0⟩ : ∃ W0, ((w1.alloc (.cells #[.slice none 0 0] 80)).alloc (.cells #[.slice A0 l0.length c0] 22)).alloc (.cells #[.int .i64 a1] 3) = W0 := ⟨_, rfl⟩
  rw [hW0] at G0 GB GU2 GO GT GF ⊢
  refine wpIn_wide.1 (tariff_pieces.range tariff_Bill.body l0 s (a2, []) (tariff_Bill.I w w1.heap.size W0.heap.size A0 c0 l0.length)
    (w1.heap.size + 1) (w1.heap.size + 1 + 1) A0 c0 a1 HLEN.1 (fun x y => { tmps := #[.slice A0 l0.length c0, .int .i64 a1, .int .i64 a2, undef, undef, .pointer (some ⟨w.heap.size, 0, none⟩), .slice none 0 0, .int .i64 0, .int .i64 0, .pointer (some ⟨w1.heap.size, 0, none⟩), .int .i64 x, .int .i64 y, undef, .slice A0 l0.length c0, .int .i64 a1, .int .i64 a2, .int .i64 0, .int .i64 0, .bool false, undef, .slice A0 l0.length c0, .int .i64 a1, .func (.func 135) #[] #[.pointer (some ⟨w1.heap.size + 1, 0, none⟩), .pointer (some ⟨w1.heap.size + 1 + 1, 0, none⟩)], .int .i64 x, .int .i64 y, undef, undef, undef, undef, undef, undef, undef, undef, undef, undef, undef, undef, undef, undef, undef, undef, undef, undef], defers := [] }) rfl rfl ?tb ?turn ?start GF HS.1 ?assign ?body ?done ?stop)
  case tb =>
    rintro s W ⟨v, h1, h2, h3, h4, h5⟩
    exact ⟨Kd.C_below HR0.1 h5, h4⟩
  case turn =>
    rintro s f X Y hf ⟨v, h1, h2, h3, h4, h5⟩ ht
    have hs := HB1.1.size
    have hne : ∀ k, k ≤ w1.heap.size + 1 → k ≠ f := by omega
    refine ⟨v, (ht.block _ (blk_lt h1) (hne _ (by omega))).trans h1, (ht.block _ (blk_lt h2) (hne _ (by omega))).trans h2, Kd.R_step h3 (fun k hk hlt => ht.block k hlt (by omega)), (ht.block _ (blk_lt h4) (hne _ (by omega))).trans h4, ht.os.trans h5.os, ht.tape.trans h5.tape, ht.output.trans h5.output, Nat.le_trans h5.size ht.size, fun k hk => (ht.block k (Nat.lt_of_lt_of_le hk h5.size) (hne _ (by omega))).trans (h5.block k hk)⟩
  case start => exact ⟨_, GU2, GO, Kd.R_nil _ _ _ _ _, GT, GB⟩
  case assign =>
    intro l x y W K hK
    gi_wp2
    exact hK
  case body =>
    rintro l ⟨un, out⟩ x y b W ⟨v, h1, h2, h3, h4, h5⟩ hb hsz
    have e1 : W.cell? ⟨w.heap.size, 0, none⟩ = some (.int .i64 un) := (blk_cell h1 0).trans rfl
    simp only [tariff_Bill.body] at hb
    by_cases c2 : un = 0
    · rw [if_pos c2] at hb
      obtain rfl := Option.some.inj hb
      have HI : tariff_Bill.I w w1.heap.size W0.heap.size A0 c0 l0.length (un, out) W := ⟨v, h1, h2, h3, h4, h5⟩
      have HI := Aside0.mk HI
      subst c2
      clear h1 h2 h3 h4 h5 hb GU GU2 GO GT GF GB hW0 G0
      gi_wp2
      exact ⟨rfl, rfl, HI.1, KeepsOthers.refl _⟩
    · rw [if_neg c2] at hb
      by_cases c3 : out.length ≤ 8
      case neg => rw [if_neg c3] at hb; cases hb
      rw [if_pos c3] at hb
      obtain ⟨m, hm⟩ : ∃ m, mn x un = m := ⟨_, rfl⟩
      rw [hm] at hb
      have hmm : (if un < x then un else x) = m := by rw [← hm]; unfold mn; split <;> first | rfl | omega | (split <;> omega)
      clear hm
      obtain rfl := Option.some.inj hb
      have e2 : W.cell? ⟨w1.heap.size, 0, none⟩ = some v := (blk_cell h2 0).trans rfl
      have hn : ∀ w3 : World, W.grownBy w3 v.ownBlock → ∀ k, k < W0.heap.size + 2 → ∀ {o : Obj}, W.heap[k]? = some o → w3.heap[k]? = some o := fun w3 hg k hk o ho => (hg.block k (blk_lt ho) (fun e => by have := h3.1 k e.symm; omega)).trans ho
      have hown : ∀ k, v.ownBlock = some k → ∃ q cs, q ≠ 149 ∧ W.heap[k]? = some (Obj.cells cs q (0, 0)) := fun k hk => by
        obtain ⟨_, _, _, q, hq, cs, hc⟩ := (Kd.R_bound h3).1 k hk
        exact ⟨q, cs, (by decide : ∀ q, q ∈ 84 :: k84.E → q ≠ 149) q hq, hc⟩
      have hs1 := HB1.1.size
      have H1 := Aside0.mk h1
      have H2 := Aside0.mk h2
      have H3 := Aside0.mk h3
      have H4 := Aside0.mk h4
      have H5 := Aside0.mk h5
      have HSZ := Aside0.mk hsz
      have C3 := Aside0.mk c3
      have HN := Aside0.mk hn
      have HOW := Aside0.mk hown
      have hW0 := hW0
      have hlt := blk_lt GF
      clear h1 h2 h3 h4 h5 hsz c3 hb hn hown GU GU2 GO GT GF GB hW0
      gi_wp2_with (first | (gi_at_builtin; refine tariff_pieces.R_append_in k84 (w0 := w) w.heap.size rfl (.tmp 30) (.tmp 37) 80 84 (.agg #[.int .i64 0, .int .i64 0, .int .i64 0]) 24 rfl Try.underlying80 tariff_Bill.info rfl (by decide) (by omega) v out ⟨m, y, wrap64 (m * y)⟩ [.int .i64 (m), .int .i64 y, .int .i64 (wrap64 (m * y))] (fun k => W0.heap.size + 2 ≤ k) rfl rfl (k84_mkM _ _ _ _) (fun k hk => Nat.le_trans HSZ.1 hk) H3.1 H5.1 H5.1.size (by have := C3.1; omega) ?_; intro v1 w3 hr3 hb3 hg3; obtain ⟨A8, c8, rfl⟩ := Kd.R_slice hr3; have HR3 := Aside0.mk hr3; have HB3 := Aside0.mk hb3; have HG3 := Aside0.mk hg3; have b1 := HN.1 w3 hg3 _ (by omega) H1.1; have b2 := HN.1 w3 hg3 _ (by omega) H2.1; have q1 : w3.cell? ⟨w1.heap.size, 0, none⟩ = some v := (blk_cell b2 0).trans rfl; have q2 := blk_frozen b2 0; have q3 : ∀ u, (w3.setCell ⟨w1.heap.size, 0, none⟩ u).cell? ⟨w.heap.size, 0, none⟩ = some (.int .i64 un) := fun u => (blk_cell (blk_far b1 (p := ⟨w1.heap.size, 0, none⟩) (by simp; omega) u) 0).trans rfl; have q4 : ∀ u, (w3.setCell ⟨w1.heap.size, 0, none⟩ u).frozen? ⟨w.heap.size, 0, none⟩ = false := fun u => blk_frozen (blk_far b1 (p := ⟨w1.heap.size, 0, none⟩) (by simp; omega) u) 0; have B1 := Aside0.mk b1; have B2 := Aside0.mk b2; clear hr3 hb3 hg3 b1 b2))
      have f1 : ∀ k, k ≠ w.heap.size → k ≠ w1.heap.size → ((w3.setCell ⟨w1.heap.size, 0, none⟩ (.slice A8 (out.length + 1) c8)).setCell ⟨w.heap.size, 0, none⟩ (.int .i64 (wrap64 (un - m)))).heap[k]? = w3.heap[k]? := fun k n1 n2 => (Below.heap_setCell _ ⟨w.heap.size, 0, none⟩ _ k n1).trans (Below.heap_setCell _ ⟨w1.heap.size, 0, none⟩ _ k n2)
      have f2 : ∀ k, v.ownBlock ≠ some k → k < W.heap.size → w3.heap[k]? = W.heap[k]? := fun k n1 n2 => HG3.1.block k n2 (fun e => n1 e.symm)
      have f3 : ∀ k, v.ownBlock = some k → W0.heap.size + 2 ≤ k := fun k e => H3.1.1 k e
      have f4 := HSZ.1
      refine ⟨rfl, ⟨.slice A8 (out.length + 1) c8, ?_, ?_, ?_, ?_, ?_⟩, ?_, ?_, ?_⟩
      · exact (blk_set (blk_far B1.1 (p := ⟨w1.heap.size, 0, none⟩) (by simp; omega) _) 0 _).trans (by simp)
      · exact blk_far ((blk_set B2.1 0 _).trans (by simp)) (p := ⟨w.heap.size, 0, none⟩) (by simp; omega) _
      · have hh := HR3.1
        simp only [List.length_append, List.length_cons, List.length_nil, Nat.zero_add] at hh
        exact Kd.R_mono (Kd.R_far (Kd.R_far hh (p := ⟨w1.heap.size, 0, none⟩) (fun k hk => by simp; omega) _) (p := ⟨w.heap.size, 0, none⟩) (fun k hk => by simp; omega) _) (fun k hk => by omega)
      · exact (f1 _ (by omega) (by omega)).trans (HN.1 w3 HG3.1 _ (by omega) H4.1)
      · exact (HB3.1.setCell (p := ⟨w1.heap.size, 0, none⟩) (by simp; omega) _).setCell (p := ⟨w.heap.size, 0, none⟩) (by simp) _
      · refine ((KeepsOthers.of_grownBy HG3.1 (fun j o hj ho => ?_)).trans (KeepsOthers.setCell _ _ _)).trans (KeepsOthers.setCell _ _ _)
        obtain ⟨q, cs, _, hc⟩ := HOW.1 j hj
        rw [hc] at ho
        cases ho
        rfl
      · exact (f1 _ (by omega) (by omega)).trans (f2 _ (fun e => by have := f3 _ e; omega) (by omega))
      · intro k cs hk
        refine (f1 _ ?_ ?_).trans (f2 _ ?_ (blk_lt hk))
        · rintro rfl
          rw [H1.1] at hk
          cases hk
        · rintro rfl
          rw [H2.1] at hk
          cases hk
        · intro e
          obtain ⟨q, cs', hq, hc⟩ := HOW.1 k e
          rw [hc] at hk
          cases hk
          exact hq rfl
  case done =>
    rintro W ⟨v, h1, h2, h3, h4, h5⟩ hD hsz
    have e2 : W.cell? ⟨w1.heap.size, 0, none⟩ = some v := (blk_cell h2 0).trans rfl
    have H3 := Aside0.mk h3
    have H5 := Aside0.mk h5
    have HD := Aside0.mk hD
    have HSZ := Aside0.mk hsz
    clear h1 h2 h3 h4 h5 hD hsz GU GU2 GO GT GF GB hW0
    go_wp2
    refine ⟨by simp, .inl ⟨_, _, rfl, run_takeDeferred HD.1, ?_⟩⟩
    have hs1 := HB1.1.size
    exact ⟨.tuple #[v, .int .i64 0], by simp [results, Try.f48, go_sem], v, rfl, Kd.R_mono (Kd.R_step H3.1 (fun k hk _ => World.putObj_heap_other (by omega))) (fun _ _ => trivial), H5.1.trans (belowK_b (w := w) (Nat.le_refl _) W _ _ _ (by omega) HD.1 rfl rfl)⟩
  case stop =>
    rintro W ⟨v, h1, h2, h3, h4, h5⟩ hD hsz
    have e2 : W.cell? ⟨w1.heap.size, 0, none⟩ = some v := (blk_cell h2 0).trans rfl
    have H3 := Aside0.mk h3
    have H5 := Aside0.mk h5
    have HD := Aside0.mk hD
    have HSZ := Aside0.mk hsz
    clear h1 h2 h3 h4 h5 hD hsz GU GU2 GO GT GF GB hW0
    gi_wp2
    go_wp2
    refine ⟨by simp, .inl ⟨_, _, rfl, run_takeDeferred HD.1, ?_⟩⟩
    have hs1 := HB1.1.size
    exact ⟨.tuple #[v, .int .i64 0], by simp [results, Try.f48, go_sem], v, rfl, Kd.R_mono (Kd.R_step H3.1 (fun k hk _ => World.putObj_heap_other (by omega))) (fun _ _ => trivial), H5.1.trans (belowK_b (w := w) (Nat.le_refl _) W _ _ _ (by omega) HD.1 rfl rfl)⟩

/-! ### tariff_Price: function 15 -/
def tariff_Price.l0 : Nat → Int → Int → List (S84) → Int → Int → Option (Int × Int)
  | 0, _, _, _, _, _ => none
  | k + 1, x9, x10, x20, x21, x22 => if x22 < x21 then (if 0 ≤ x22 then (if x22 < (x20.length : Int) then (tariff_Price.l0 k x9 (wrap64 (x10 + ((rd_T84 x20 x22).f2))) x20 x21 (wrap64 (x22 + 1))) else (none)) else (none)) else (some (x10, x9))
def tariff_Price.f (k : Nat) (l0 : List (S149)) (a1 : Int) (a2 : Int) : Option (Int × Int) := (tariff_Bill.f l0 a1 a2).bind fun bt102 => (tariff_Price.l0 k bt102.2 0 bt102.1 (bt102.1.length : Int) 0)
theorem tariff_Price.mono_l : ∀ k, (∀ y0 y1 y2 y3 y4, LeO (tariff_Price.l0 k y0 y1 y2 y3 y4) (tariff_Price.l0 (k + 1) y0 y1 y2 y3 y4))
  | 0 => fun _ _ _ _ _ r h => by simp [tariff_Price.l0] at h
  | k + 1 => by
    have ih0 := tariff_Price.mono_l k
    · intro y0 y1 y2 y3 y4
      unfold tariff_Price.l0
      repeat' first
      | (with_reducible exact ih0 _ _ _ _ _)
      | (with_reducible exact LeO.refl _)
      | (with_reducible exact LeO.none _)
      | (with_reducible refine LeO.ite ?_ ?_)
      | (with_reducible refine LeO.bind ?_ (fun _ => ?_))
      | exact ih0 _ _ _ _ _
      | exact LeO.none _
      | refine LeO.ite ?_ ?_
      | refine LeO.bind ?_ (fun _ => ?_)
theorem tariff_Price.mono : ∀ a0 a1 a2 k, LeO (tariff_Price.f k a0 a1 a2) (tariff_Price.f (k + 1) a0 a1 a2) := by
  intro a0 a1 a2 k
  have ih0 := tariff_Price.mono_l k
  unfold tariff_Price.f
  repeat' first
      | (with_reducible exact ih0 _ _ _ _ _)
      | (with_reducible exact LeO.refl _)
      | (with_reducible exact LeO.none _)
      | (with_reducible refine LeO.ite ?_ ?_)
      | (with_reducible refine LeO.bind ?_ (fun _ => ?_))
      | exact ih0 _ _ _ _ _
      | exact LeO.none _
      | refine LeO.ite ?_ ?_
      | refine LeO.bind ?_ (fun _ => ?_)
set_option maxHeartbeats 8000000 in
set_option maxRecDepth 100000 in
theorem tariff_Price.calls (k : Nat) (A0 : Option Addr) (c0 : Nat) (l0 : List (S149)) (a1 : Int) (a2 : Int) (r1 : Int) (r2 : Int) (w : World) (hr0 : Kd.C k149 w A0 l0.length l0) (hc0 : l0.length ≤ c0) (h : tariff_Price.f k l0 a1 a2 = some (r1, r2)) :
    Calls Try.prog 15 #[.slice A0 l0.length c0, .int .i64 a1, .int .i64 a2] w fun e w' => e = .returned (.tuple #[.int .i64 r1, .int .i64 r2]) ∧ Below w.heap.size w w' := by
  have hu84 := Try.underlying84
  have HR0 := Aside0.mk hr0
  have HC0 := Aside0.mk hc0
  clear hr0 hc0
  have HB := Aside0.mk (Below.refl w.heap.size w)
  have H : ((tariff_Bill.f l0 a1 a2).bind fun bt102 => (tariff_Price.l0 k bt102.2 0 bt102.1 (bt102.1.length : Int) 0)) = some (r1, r2) := h
  clear h
  replace H := Option.bind_eq_some_iff.mp H
  obtain ⟨⟨t102, t103⟩, A40, H⟩ := H
  replace H : (tariff_Price.l0 k t103 0 t102 (t102.length : Int) 0) = some (r1, r2) := H
  have A4 := Aside0.mk A40
  clear A40
  have H' := Aside0.mk H
  clear H
  go_enter Try.func15, Try.ntmps15
  go_wp2_with (first | ((with_reducible refine gate_callee (f := 48) rfl ?_); refine goesL_ (some 17) rfl rfl Try.func48 (by kernel_rfl) rfl #[.slice A0 l0.length c0, .int .i64 a1, .int .i64 a2] rfl (by (try simp only [List.map_toArray, List.map_cons, List.map_nil]); first | done | rfl | (simp only [List.length_drop, List.length_take]; rfl)) ?_; (with_reducible refine (tariff_Bill.calls _ _ l0 a1 a2 t102 t103 _ ?side1 ?side2 A4.out).mono ?_); (case side1 => repeat (first | exact HR0.out | (with_reducible refine Kd.C_alloc ?_ _) | (with_reducible refine Kd.C_drewN ?_ _) | (with_reducible refine Kd.C_drew ?_))); (case side2 => exact HC0.out); rintro e w5 ⟨v104, rfl, ho0, hb⟩; refine ⟨_, rfl, ?_⟩; have n0_ := Aside0.mk (Kd.R_lower ho0 (below_size (by repeat (first | (with_reducible first | exact HB.out | apply below_alloc | apply pw_below_drewN | apply below_drew1) | exact HB.out)))); have n1_ := Aside0.mk (below_step (by repeat (first | (with_reducible first | exact HB.out | apply below_alloc | apply pw_below_drewN | apply below_drew1) | exact HB.out)) hb); clear HB; have HO105 := n0_; have HB := n1_; clear n0_ n1_; (try clear hb); (try clear hb2); (try clear hk); (try clear hi); (try clear ho0); obtain ⟨Ao6, co6, eo6⟩ := Kd.R_slice HO105.out; subst eo6))
  go_loopg [10, 22] k (fun kq v10 v22 w' => ∃ (x10_1 : Int) (x22_1 : Int), v10 = .int .i64 x10_1 ∧ v22 = .int .i64 x22_1 ∧ Aside0 (tariff_Price.l0 kq t103 x10_1 t102 (t102.length : Int) x22_1 = some (r1, r2)) ∧ Aside0 (kq ≤ k) ∧ Aside0 (Kd.R k84 84 w' w.heap.size (fun _ => True) (.slice Ao6 t102.length co6) t102) ∧ Aside0 (Below w.heap.size w w'))
  case atStart => exact ⟨(0), (0), (by first | rfl | (simp; done) | (simp [*]; done)), (by first | rfl | (simp; done) | (simp [*]; done)), H', ⟨Nat.le_refl _⟩, ⟨by (with_reducible repeat (first | apply Kd.R_alloc | apply Kd.R_drewN | apply Kd.R_drew)); exact HO105.out⟩, ⟨by repeat (first | (with_reducible first | exact HB.out | apply below_alloc | apply pw_below_drewN | apply below_drew1) | exact HB.out)⟩⟩
  case round =>
    clear H'
    try clear c1
    try clear p2
    try clear c4
    obtain ⟨x10_1, x22_1, rfl, rfl, HA, HK1, HO_20, HB⟩ := hrel
    cases gk with
    | zero => exact absurd HA.out (by simp [tariff_Price.l0])
    | succ k1 =>
      have H := HA.out
      clear HA
      simp only [tariff_Price.l0] at H
      by_cases c7 : x22_1 < (t102.length : Int)
      · rw [if_pos c7] at H
        have c7b0 : decide (x22_1 < (t102.length : Int)) = true := decide_eq_true c7
        clear c7
        by_cases c8 : 0 ≤ x22_1
        · rw [if_pos c8] at H
          have c8b0 : decide (0 ≤ x22_1) = true := decide_eq_true c8
          clear c8
          by_cases c9 : x22_1 < (t102.length : Int)
          · rw [if_pos c9] at H
            have c9b0 : decide (x22_1 < (t102.length : Int)) = true := decide_eq_true c9
            clear c9
            have H' := Aside0.mk H
            clear H
            have p106 : 0 ≤ (x22_1 : Int) := of_decide_eq_true (by first | (with_reducible assumption) | assumption)
            have q106 : x22_1 < (t102.length : Int) := of_decide_eq_true (by first | (with_reducible assumption) | assumption)
            obtain ⟨ad106, e106, hx106_0, hx106_1, hx106_2⟩ := at_T84 (Kd.R_reads' HO_20.out).2.2 x22_1 p106 q106
            cases e106
            replace p106 := eq_true p106
            replace q106 := eq_true q106
            go_wp2_with (first | ((with_reducible refine gate_dst (N := 12) rfl ?_); refine box_event ?hg (N := 12) ?hd (cs := #[.int .i64 0, .int .i64 0, .int .i64 0]) (t := 84) ?hr ?_; (case hd => rfl); (case hg => rfl); (case hr => first | (go_simp; done) | (go_simp; rfl)); intro gb107 hg w10 hbox hb; have n0_ := Aside0.mk (Kd.R_below (Kd.R_elderB (by (with_reducible repeat (first | apply Kd.R_alloc | apply Kd.R_drewN | apply Kd.R_drew)); exact HO_20.out) gb107 (Nat.le_of_eq hg.symm)) hb); have n1_ := Aside0.mk (below_step (by repeat (first | (with_reducible first | exact HB.out | apply below_alloc | apply pw_below_drewN | apply below_drew1) | exact HB.out)) hb); have n2_ := Aside0.mk (hbox); have n3_ := Aside0.mk ((by rw [hg]; exact (below_size (by repeat (first | (with_reducible first | exact HB.out | apply below_alloc | apply pw_below_drewN | apply below_drew1) | exact HB.out))) : w.heap.size ≤ gb107)); have n4_ := Aside0.mk ((by rw [hg]; exact (below_size (by repeat (first | (with_reducible first | exact HB.out | apply below_alloc | apply pw_below_drewN | apply below_drew1) | exact HB.out))) : w.heap.size ≤ gb107)); clear HO_20; clear HB; have HO_20 := n0_; have HB := n1_; have BK107 := n2_; have GW107 := n3_; have GE107 := n4_; clear n0_ n1_ n2_ n3_ n4_; clear hb hbox hg; have hcz11_0 : w10.cell? ⟨gb107, 0, none⟩ = some (.int .i64 0) := (blk_cell BK107.out 0).trans rfl; have hcz11_1 : w10.cell? ⟨gb107, 1, none⟩ = some (.int .i64 0) := (blk_cell BK107.out 1).trans rfl; have hcz11_2 : w10.cell? ⟨gb107, 2, none⟩ = some (.int .i64 0) := (blk_cell BK107.out 2).trans rfl; have hfz11_0 := blk_frozen BK107.out 0; have hfz11_1 := blk_frozen BK107.out 1; have hfz11_2 := blk_frozen BK107.out 2))
            go_roundg k1
            case measure => have := HK1.out; omega
            case rel => exact ⟨(wrap64 (x10_1 + ((rd_T84 t102 x22_1).f2))), (wrap64 (x22_1 + 1)), (by first | rfl | (simp; done) | (simp [*]; done)), (by first | rfl | (simp; done) | (simp [*]; done)), H', ⟨by have := HK1.out; omega⟩, ⟨by (with_reducible repeat (first | apply Kd.R_alloc | apply Kd.R_drewN | apply Kd.R_drew)); exact Kd.R_mono (Kd.R_far (p := ⟨gb107, 2, none⟩) (Kd.R_far (p := ⟨gb107, 1, none⟩) (Kd.R_far (p := ⟨gb107, 0, none⟩) (Kd.R_mono HO_20.out (fun k_ hk => (⟨hk, hk.2⟩ : _ ∧ k_ ≠ gb107))) (fun _ hk => hk.2) (.int .i64 ((rd_T84 t102 x22_1).f0))) (fun _ hk => hk.2) (.int .i64 ((rd_T84 t102 x22_1).f1))) (fun _ hk => hk.2) (.int .i64 ((rd_T84 t102 x22_1).f2))) (fun _ hk => trivial)⟩, ⟨by repeat (first | (with_reducible first | exact HB.out | apply below_alloc | apply pw_below_drewN | apply below_drew1 | refine below_set ?_ GE107.out) | exact HB.out)⟩⟩
          · rw [if_neg c9] at H
            exact absurd H (by simp)
        · rw [if_neg c8] at H
          exact absurd H (by simp)
      · rw [if_neg c7] at H
        have c7b0 : decide (x22_1 < (t102.length : Int)) = false := decide_eq_false c7
        clear c7
        simp only [Option.some.injEq, Prod.mk.injEq] at H
        obtain ⟨rfl, rfl⟩ := H
        go_wp2
        go_ret2
        exact ⟨by first | rfl | (simp [errW_none, errW_some] <;> rfl) | (simp [*, errW_none, errW_some] <;> rfl), by repeat (first | (with_reducible first | exact HB.out | apply below_alloc | apply pw_below_drewN | apply below_drew1) | exact HB.out)⟩

end Go.Proofs.Ytacgddnjlfkdmaa.PTariffPrices
