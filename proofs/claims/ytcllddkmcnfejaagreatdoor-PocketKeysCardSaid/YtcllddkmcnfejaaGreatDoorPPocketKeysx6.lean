-- written by this session's program wip/xp/xprint.py (it drives the kit's print and adds to it)
import Derived.Test.YtcllddkmcnfejaaGreatDoorPPocketKeysx0
import Derived.Test.YtcllddkmcnfejaaGreatDoorPPocketKeysx5
namespace Go.Proofs.YtcllddkmcnfejaaGreatDoor.PPocketKeys
open Go.RowKit Go.Proofs.YtcllddkmcnfejaaGreatDoorW.PrintWords Go.Proofs.YtcllddkmcnfejaaGreatDoorW.PrintLast Go.Proofs.YtcllddkmcnfejaaGreatDoorW.PrintMore
attribute [local go_sem] max2_int min2_int max_two min_two max_three min_three max_four min_four
set_option linter.unusedVariables false
set_option linter.unusedSimpArgs false
set_option maxHeartbeats 8000000
set_option maxRecDepth 100000

/-! ### window_Used: function 66 -/
def window_Used.l0 : Nat → List Int → Int → Int → Int → Option (List Int × Int)
 | 0, _, _, _, _ => none
 | k + 1, x4, x5, x125000, x125001 => if x5 = 0 then (some (x4, 0)) else ((bits_Len64.f k x5).bind fun t126 => (if x4.length < 17592186044416 then (if 0 ≤ (wrap64 (t126 - 1)) then (window_Used.l0 k (x4 ++ [wrap64 (x125000 - (wrap64 (t126 - 1)))]) (Go.bits .andNot .u64 x5 (shl .u64 1 (wrap64 (t126 - 1)))) x125000 x125001) else (none)) else (none)))
def window_Used.f (k : Nat) (a0_0 : Int) (a0_1 : Int) : Option (List Int × Int) := (window_may.f k a0_0 a0_1).bind fun t125 => (if t125 = true then (window_Used.l0 k ([] : List Int) a0_1 a0_0 a0_1) else (some (([] : List Int), 5)))
theorem window_Used.mono_l : ∀ k, (∀ y0 y1 y2 y3, LeO (window_Used.l0 k y0 y1 y2 y3) (window_Used.l0 (k + 1) y0 y1 y2 y3))
 | 0 => fun _ _ _ _ r h => by simp [window_Used.l0] at h
 | k + 1 => by
  have ih0 := window_Used.mono_l k
  ·
   intro y0 y1 y2 y3
   unfold window_Used.l0
   repeat' first
   | (with_reducible exact ih0 _ _ _ _)
   | (with_reducible exact bits_Len64.mono _ _)
   | (with_reducible exact window_may.mono _ _ _)
   | (with_reducible exact LeO.refl _)
   | (with_reducible exact LeO.none _)
   | (with_reducible refine LeO.ite ?_ ?_)
   | (with_reducible refine LeO.bind ?_ (fun _ => ?_))
theorem window_Used.mono : ∀ a0 a1 k, LeO (window_Used.f k a0 a1) (window_Used.f (k + 1) a0 a1) := by
 intro a0 a1 k
 have ih0 := window_Used.mono_l k
 unfold window_Used.f
 repeat' first
   | (with_reducible exact ih0 _ _ _ _)
   | (with_reducible exact bits_Len64.mono _ _)
   | (with_reducible exact window_may.mono _ _ _)
   | (with_reducible exact LeO.refl _)
   | (with_reducible exact LeO.none _)
   | (with_reducible refine LeO.ite ?_ ?_)
   | (with_reducible refine LeO.bind ?_ (fun _ => ?_))
theorem window_Used.calls (k : Nat) (a0_0 : Int) (a0_1 : Int) (r1 : List Int) (r2 : Int) (w : World) (h : window_Used.f k a0_0 a0_1 = some (r1, r2)) :
  Calls Tryz.prog 66 #[.agg #[.int .i64 a0_0, .int .u64 a0_1]] w fun e w' => ∃ v0_ : Value, e = .returned (.tuple #[v0_, .int .i64 r2]) ∧ Kd.R (Kd.int .i64) 3 w' w.heap.size (fun _ => True) v0_ r1 ∧ Below w.heap.size w w' := by
 have hu38 := Tryz.underlying38
 have HB := am (Below.refl w.heap.size w)
 have H : ((window_may.f k a0_0 a0_1).bind fun t125 => (if t125 = true then (window_Used.l0 k ([] : List Int) a0_1 a0_0 a0_1) else (some (([] : List Int), 5)))) = some (r1, r2) := h
 clear h
 replace H := Option.bind_eq_some_iff.mp H
 obtain ⟨t125, A20, H⟩ := H
 (try dsimp only at H)
 have A2 := am A20
 clear A20
 by_cases c3 : t125 = true
 ·
  subst c3
  have H1 : (window_Used.l0 k ([] : List Int) a0_1 a0_0 a0_1) = some (r1, r2) := by rw [if_pos rfl] at H; exact H
  clear H
  have H := H1
  clear H1
  have H' := am H
  clear H
  go_enter Tryz.func66, Tryz.ntmps66
  go_wp2_with (first | ((with_reducible refine gate_dst (N := 1) rfl ?_); refine czbox 1 #[.int .i64 a0_0, .int .u64 a0_1] 38 ?_; intro gb124 hg w4 hbox hb; have BK124 := am (hbox); have GW124 := czsz hg (czbl HB); have GE124 := czsz hg (czbl HB); replace HB := am (below_step (czbl HB) hb); clear hb hbox hg; obtain ⟨hcz5_0, hcz5_1⟩ := czc2 BK124.1; obtain ⟨hfz5_0, hfz5_1⟩ := czf2 BK124.1) | ((with_reducible refine gate_callee (f := 97) rfl ?_); refine czgo (some 8) Tryz.func97 #[.agg #[.int .i64 a0_0, .int .u64 a0_1]] ?_; (with_reducible refine (window_may.calls k a0_0 a0_1 true _ A2.out).mono ?_); rintro e w6 ⟨rfl, hb⟩; refine ⟨_, rfl, ?_⟩; replace BK124 := czbb BK124 hb; replace HB := am (below_step (czbl1 HB GE124) hb); (try clear hb hb2 hk hi); obtain ⟨hcz7_0, hcz7_1⟩ := czc2 BK124.1; obtain ⟨hfz7_0, hfz7_1⟩ := czf2 BK124.1))
  go_loopg [4, 5] k (fun kq v4 v5 w' => ∃ (x4_1 : List Int) (x5_1 : Int), v5 = .int .u64 x5_1 ∧ Aside0 (window_Used.l0 kq x4_1 x5_1 a0_0 a0_1 = some (r1, r2)) ∧ Aside0 (kq ≤ k) ∧ Aside0 (Kd.R (Kd.int .i64) 3 w' w.heap.size (fun _ => True) v4 x4_1) ∧ Aside0 (w'.heap[gb124]? = some (.cells #[.int .i64 a0_0, .int .u64 a0_1] 38 (0, 0))) ∧ Aside0 (Below w.heap.size w w'))
  case atStart => exact ⟨(([] : List Int)), (a0_1), czr, H', ⟨Nat.le_refl _⟩, ⟨by first | exact Kd.R_nil _ _ _ _ _ | exact Kd.N_nil _ _ _ _ _ | exact Kd.V_nil _ _ _ _ _ | exact Kd.Q_nil _ _ _ _ _ | exact Kd.S_nil _ _ _ _ _⟩, ⟨czbk BK124⟩, ⟨czbl1 HB GE124⟩⟩
  case round =>
   clear H'
   try clear p2
   try clear c3
   try clear c6
   try clear hcz5_0
   try clear hcz5_1
   try clear hcz7_0
   try clear hcz7_1
   try clear hfz5_0
   try clear hfz5_1
   try clear hfz7_0
   try clear hfz7_1
   obtain ⟨x4_1, x5_1, rfl, HA, HK1, HO_4, BK124, HB⟩ := hrel
   cases gk with
   | zero => exact absurd HA.out (by simp [window_Used.l0])
   | succ k1 =>
    have H := HA.out
    clear HA
    simp only [window_Used.l0] at H
    revert H
    refine czei (fun c8b0 c8b1 H => ?_) (fun c8 c8b0 c8b1 H => ?_)
    ·
     simp only [Option.some.injEq, Prod.mk.injEq] at H
     obtain ⟨rfl, rfl⟩ := H
     go_wp2
     go_ret2
     exact ⟨_, czeq, czR HO_4, czbl1 HB GE124⟩
    ·
     replace H := Option.bind_eq_some_iff.mp H
     obtain ⟨t126, A90, H⟩ := H
     (try dsimp only at H)
     have A9 := am A90
     clear A90
     by_cases c10 : x4_1.length < 17592186044416
     ·
      rw [if_pos c10] at H
      have LMc10 := am c10
      clear c10
      obtain ⟨y127, hy127⟩ : ∃ y_ : List Int, y_ = (x4_1 ++ [wrap64 (a0_0 - (wrap64 (t126 - 1)))]) := ⟨_, rfl⟩
      replace H : (if 0 ≤ (wrap64 (t126 - 1)) then (window_Used.l0 k1 y127 (Go.bits .andNot .u64 x5_1 (shl .u64 1 (wrap64 (t126 - 1)))) a0_0 a0_1) else (none)) = some (r1, r2) := by first | (rw [hy127]; with_reducible exact H) | (have H2_ := (Option.bind_some _ _).symm.trans H; rw [hy127]; with_reducible exact H2_) | (have H2_ := (Option.bind_some _ _).symm.trans H; with_reducible exact H2_) | with_reducible exact H | (rw [hy127]; exact H) | exact H
      have Ny127 := am hy127
      clear hy127
      obtain ⟨ji11, hji11⟩ : ∃ j_ : Int, (wrap64 (t126 - 1)) = j_ := ⟨_, rfl⟩
      replace H : (if 0 ≤ (ji11) then (window_Used.l0 k1 y127 (Go.bits .andNot .u64 x5_1 (shl .u64 1 (ji11))) a0_0 a0_1) else (none)) = some (r1, r2) := by first | (rw [hji11] at H; exact H) | (simp only [hji11] at H ⊢; exact H)
      (try rw [hji11] at A9)
      (try rw [hji11] at Ny127)
      have hji11w : (IntKind.i64.wrap (t126 - 1)) = ji11 := (i64_w _).trans hji11
      by_cases c12 : 0 ≤ (ji11)
      ·
       rw [if_pos c12] at H
       have c12b0 := eq_true c12
       have c12b1 : decide (0 ≤ (ji11)) = true := decide_eq_true c12
       clear c12
       obtain ⟨ji13, hji13⟩ : ∃ j_ : Int, (shl .u64 1 (ji11)) = j_ := ⟨_, rfl⟩
       replace H : (window_Used.l0 k1 y127 (Go.bits .andNot .u64 x5_1 (ji13)) a0_0 a0_1) = some (r1, r2) := by first | (rw [hji13] at H; exact H) | (simp only [hji13] at H ⊢; exact H)
       (try rw [hji13] at A9)
       have hji13_ : (IntKind.u64.wrap (1 * 2 ^ min (ji11).toNat 64)) = ji13 := hji13
       have hji13z : (ji11) ≤ 64 → (IntKind.u64.wrap (1 * 2 ^ (ji11).toNat)) = ji13 := shl_small hji13
       have hji13u : (IntKind.u64.wrap (2 ^ min (ji11).toNat 64)) = ji13 := by have h_ := hji13_; rw [Int.one_mul] at h_; exact h_
       have hji13v : (ji11) ≤ 64 → (IntKind.u64.wrap (2 ^ (ji11).toNat)) = ji13 := fun hle_ => by have h_ := hji13z hle_; rw [Int.one_mul] at h_; exact h_
       have H' := am H
       clear H
       go_wp2_with (first | ((with_reducible refine gate_callee (f := 98) rfl ?_); refine czgo (some 15) Tryz.func98 #[.int .u64 x5_1] ?_; (with_reducible refine (bits_Len64.calls k1 x5_1 t126 _ A9.out).mono ?_); rintro e w' ⟨rfl, ⟨nd, rfl⟩⟩; refine ⟨_, rfl, ?_⟩; obtain ⟨hcz14_0, hcz14_1⟩ := czc2 BK124.1; obtain ⟨hfz14_0, hfz14_1⟩ := czf2 BK124.1) | ((with_reducible refine gate_builtin (b := .append) (xs := #[.tmp 17, .tmp 22]) rfl ?_); at_builtin; refine Kd.R_append (Kd.int .i64) (w0 := w) w.heap.size rfl (.tmp 17) (.tmp 22) 113 3 (.int .i64 0) 8 rfl Tryz.underlying113 info3 rfl (by decide) (by omega) u4 x4_1 (wrap64 (a0_0 - (ji11))) [.int .i64 (wrap64 (a0_0 - (ji11)))] (fun _ => True) (fun _ => False) rfl rfl ?aP (fun _ hk => hk.elim) ?aF ?aO ?aB ?aS ?aL ?_; (case aP => exact rfl); (case aB => exact (czbl1 HB GE124)); (case aF => exact (fun _ _ => trivial)); (case aO => exact (czR HO_4)); (case aS => exact (below_size (czbl1 HB GE124))); (case aL => have := LMc10.out; omega); intro v128 w15 ho hb hg hat; rw [← Ny127.out] at ho; have HO129 := am (ho); replace BK124 := am (blk_grown (g := gb124) (o := .cells #[.int .i64 a0_0, .int .u64 a0_1] 38 (0, 0)) (czbk BK124) hg (Kd.R_ne HO_4.out BK124.1 (by decide))); replace HB := am (hb); clear HO_4; clear ho hb hg hat))
       go_roundg k1
       case measure => have := HK1.out; omega
       case rel => exact ⟨(y127), (Go.bits .andNot .u64 x5_1 (ji13)), (by first | rfl | (simp; done) | (simp only [← hji13] <;> (first | rfl | simp)) | (simp [*]; done)), H', ⟨by have := HK1.out; omega⟩, ⟨czR HO129⟩, ⟨czbk BK124⟩, ⟨czbl1 HB GE124⟩⟩
      ·
       rw [if_neg c12] at H
       exact absurd H (by simp)
     ·
      rw [if_neg c10] at H
      exact absurd H (by simp)
 ·
  replace c3 := Bool.eq_false_iff.mpr c3
  subst c3
  have H1 : (some (([] : List Int), 5)) = some (r1, r2) := by rw [if_neg (show ¬ (false = true) by decide)] at H; exact H
  clear H
  have H := H1
  clear H1
  simp only [Option.some.injEq, Prod.mk.injEq] at H
  obtain ⟨rfl, rfl⟩ := H
  go_enter Tryz.func66, Tryz.ntmps66
  go_wp2_with (first | ((with_reducible refine gate_dst (N := 1) rfl ?_); refine czbox 1 #[.int .i64 a0_0, .int .u64 a0_1] 38 ?_; intro gb124 hg w16 hbox hb; have BK124 := am (hbox); have GW124 := czsz hg (czbl HB); have GE124 := czsz hg (czbl HB); replace HB := am (below_step (czbl HB) hb); clear hb hbox hg; obtain ⟨hcz17_0, hcz17_1⟩ := czc2 BK124.1; obtain ⟨hfz17_0, hfz17_1⟩ := czf2 BK124.1) | ((with_reducible refine gate_callee (f := 97) rfl ?_); refine czgo (some 8) Tryz.func97 #[.agg #[.int .i64 a0_0, .int .u64 a0_1]] ?_; (with_reducible refine (window_may.calls k a0_0 a0_1 false _ A2.out).mono ?_); rintro e w18 ⟨rfl, hb⟩; refine ⟨_, rfl, ?_⟩; replace BK124 := czbb BK124 hb; replace HB := am (below_step (czbl1 HB GE124) hb); (try clear hb hb2 hk hi)))
  go_ret2
  exact ⟨_, czeq, by first | exact Kd.R_nil _ _ _ _ _ | exact Kd.N_nil _ _ _ _ _ | exact Kd.V_nil _ _ _ _ _ | exact Kd.Q_nil _ _ _ _ _ | exact Kd.S_nil _ _ _ _ _, czbl1 HB GE124⟩

/-! ### meter_may: function 28 -/
def meter_may.j0 : Nat → Bool → Int → Int → Int → Int → Int → Int → Int → Option (Bool)
 | 0, _, _, _, _, _, _, _, _ => none
 | k + 1, x32, x131000, x131001, x131002, x131003, x131004, x131005, x131006 => if x32 = true then (some false) else (if x131005 < 0 then (some false) else (if x131005 ≥ 5 then (some false) else (if x131006 < 0 then (some false) else (if x131006 > 30 then (some false) else (if x131005 > 0 then (if x131006 > 0 then (some false) else ((window_Used.f k x131003 x131004).bind fun bt131 => (some (bt131.2 == 0)))) else ((window_Used.f k x131003 x131004).bind fun bt135 => (some (bt135.2 == 0))))))))
def meter_may.f (k : Nat) (a0_0 : Int) (a0_1 : Int) (a0_2 : Int) (a0_3 : Int) (a0_4 : Int) (a0_5 : Int) (a0_6 : Int) : Option (Bool) := if a0_0 < 0 then (meter_may.j0 k true a0_0 a0_1 a0_2 a0_3 a0_4 a0_5 a0_6) else (if a0_0 ≥ 50 then (meter_may.j0 k true a0_0 a0_1 a0_2 a0_3 a0_4 a0_5 a0_6) else (if a0_1 < 0 then (meter_may.j0 k true a0_0 a0_1 a0_2 a0_3 a0_4 a0_5 a0_6) else (if a0_1 > 15 then (meter_may.j0 k true a0_0 a0_1 a0_2 a0_3 a0_4 a0_5 a0_6) else (if a0_2 < 0 then (meter_may.j0 k true a0_0 a0_1 a0_2 a0_3 a0_4 a0_5 a0_6) else (meter_may.j0 k (decide (a0_2 > 99999999)) a0_0 a0_1 a0_2 a0_3 a0_4 a0_5 a0_6)))))
theorem meter_may.mono_l : ∀ k, (∀ y0 y1 y2 y3 y4 y5 y6 y7, LeO (meter_may.j0 k y0 y1 y2 y3 y4 y5 y6 y7) (meter_may.j0 (k + 1) y0 y1 y2 y3 y4 y5 y6 y7))
 | 0 => fun _ _ _ _ _ _ _ _ r h => by simp [meter_may.j0] at h
 | k + 1 => by
  have ih0 := meter_may.mono_l k
  ·
   intro y0 y1 y2 y3 y4 y5 y6 y7
   unfold meter_may.j0
   repeat' first
   | (with_reducible exact ih0 _ _ _ _ _ _ _ _)
   | (with_reducible exact window_Used.mono _ _ _)
   | (with_reducible exact LeO.refl _)
   | (with_reducible exact LeO.none _)
   | (with_reducible refine LeO.ite ?_ ?_)
   | (with_reducible refine LeO.bind ?_ (fun _ => ?_))
theorem meter_may.mono : ∀ a0 a1 a2 a3 a4 a5 a6 k, LeO (meter_may.f k a0 a1 a2 a3 a4 a5 a6) (meter_may.f (k + 1) a0 a1 a2 a3 a4 a5 a6) := by
 intro a0 a1 a2 a3 a4 a5 a6 k
 have ih0 := meter_may.mono_l k
 unfold meter_may.f
 repeat' first
   | (with_reducible exact ih0 _ _ _ _ _ _ _ _)
   | (with_reducible exact window_Used.mono _ _ _)
   | (with_reducible exact LeO.refl _)
   | (with_reducible exact LeO.none _)
   | (with_reducible refine LeO.ite ?_ ?_)
   | (with_reducible refine LeO.bind ?_ (fun _ => ?_))
theorem meter_may.calls (k : Nat) (a0_0 : Int) (a0_1 : Int) (a0_2 : Int) (a0_3 : Int) (a0_4 : Int) (a0_5 : Int) (a0_6 : Int) (r : Bool) (w : World) (h : meter_may.f k a0_0 a0_1 a0_2 a0_3 a0_4 a0_5 a0_6 = some r) :
  Calls Tryz.prog 28 #[.agg #[.int .i64 a0_0, .int .i64 a0_1, .int .i64 a0_2, .int .i64 a0_3, .int .u64 a0_4, .int .i64 a0_5, .int .i64 a0_6]] w fun e w' => e = .returned (.bool r) ∧ Below w.heap.size w w' := by
 have hu40 := Tryz.underlying40
 have hu38 := Tryz.underlying38
 have HB := am (Below.refl w.heap.size w)
 have H : (if a0_0 < 0 then (meter_may.j0 k true a0_0 a0_1 a0_2 a0_3 a0_4 a0_5 a0_6) else (if a0_0 ≥ 50 then (meter_may.j0 k true a0_0 a0_1 a0_2 a0_3 a0_4 a0_5 a0_6) else (if a0_1 < 0 then (meter_may.j0 k true a0_0 a0_1 a0_2 a0_3 a0_4 a0_5 a0_6) else (if a0_1 > 15 then (meter_may.j0 k true a0_0 a0_1 a0_2 a0_3 a0_4 a0_5 a0_6) else (if a0_2 < 0 then (meter_may.j0 k true a0_0 a0_1 a0_2 a0_3 a0_4 a0_5 a0_6) else (meter_may.j0 k (decide (a0_2 > 99999999)) a0_0 a0_1 a0_2 a0_3 a0_4 a0_5 a0_6)))))) = some r := h
 clear h
 have HC2 := am H
 clear H
 go_enter Tryz.func28, Tryz.ntmps28
 go_upto_region 1 with (first | ((with_reducible refine gate_dst (N := 1) rfl ?_); refine czbox 1 #[.int .i64 a0_0, .int .i64 a0_1, .int .i64 a0_2, .int .i64 a0_3, .int .u64 a0_4, .int .i64 a0_5, .int .i64 a0_6] 40 ?_; intro gb130 hg w3 hbox hb; have BK130 := am (hbox); have GW130 := czsz hg (czbl HB); have GE130 := czsz hg (czbl HB); replace HB := am (below_step (czbl HB) hb); clear hb hbox hg))
 (try simp only [Act.put, List.setIfInBounds_toArray, List.set_cons_zero, List.set_cons_succ])
 go_cut [32] (fun v32 wc => ∃ (kq : Nat) (x32_1 : Bool), v32 = .bool x32_1 ∧ Aside0 (meter_may.j0 kq x32_1 a0_0 a0_1 a0_2 a0_3 a0_4 a0_5 a0_6 = some r) ∧ Aside0 (kq ≤ k) ∧ Aside0 (wc.heap[gb130]? = some (.cells #[.int .i64 a0_0, .int .i64 a0_1, .int .i64 a0_2, .int .i64 a0_3, .int .u64 a0_4, .int .i64 a0_5, .int .i64 a0_6] 40 (0, 0))) ∧ Aside0 (Below w.heap.size w wc))
 case first =>
  have H := HC2.out
  clear HC2
  revert H
  refine czif (fun c4b0 H => ?_) (fun c4b0 H => ?_)
  ·
   (first | rw [c4b0] | (simp only [i64_w, i32_w]; rw [c4b0]) | skip)
   have H' := am H
   clear H
   obtain ⟨hcz5_0, hcz5_1, hcz5_2, hcz5_3, hcz5_4, hcz5_5, hcz5_6⟩ := czc7 BK130.1
   go_wp2
   go_meet
   case rel => exact ⟨_, (true), czr, H', ⟨by first | omega | exact Nat.le_refl _⟩, ⟨czbk BK130⟩, ⟨czbl1 HB GE130⟩⟩
  ·
   (first | rw [c4b0] | (simp only [i64_w, i32_w]; rw [c4b0]) | skip)
   by_cases c6 : a0_0 ≥ 50
   ·
    rw [if_pos c6] at H
    have c6b0 : decide (50 ≤ a0_0) = true := decide_eq_true c6
    clear c6
    have H' := am H
    clear H
    obtain ⟨hcz7_0, hcz7_1, hcz7_2, hcz7_3, hcz7_4, hcz7_5, hcz7_6⟩ := czc7 BK130.1
    go_wp2
    go_meet
    case rel => exact ⟨_, (true), czr, H', ⟨by first | omega | exact Nat.le_refl _⟩, ⟨czbk BK130⟩, ⟨czbl1 HB GE130⟩⟩
   ·
    rw [if_neg c6] at H
    have c6b0 : decide (50 ≤ a0_0) = false := decide_eq_false c6
    clear c6
    revert H
    refine czif (fun c8b0 H => ?_) (fun c8b0 H => ?_)
    ·
     have H' := am H
     clear H
     obtain ⟨hcz9_0, hcz9_1, hcz9_2, hcz9_3, hcz9_4, hcz9_5, hcz9_6⟩ := czc7 BK130.1
     go_wp2
     go_meet
     case rel => exact ⟨_, (true), czr, H', ⟨by first | omega | exact Nat.le_refl _⟩, ⟨czbk BK130⟩, ⟨czbl1 HB GE130⟩⟩
    ·
     by_cases c10 : a0_1 > 15
     ·
      rw [if_pos c10] at H
      have c10b0 : decide (15 < a0_1) = true := decide_eq_true c10
      clear c10
      have H' := am H
      clear H
      obtain ⟨hcz11_0, hcz11_1, hcz11_2, hcz11_3, hcz11_4, hcz11_5, hcz11_6⟩ := czc7 BK130.1
      go_wp2
      go_meet
      case rel => exact ⟨_, (true), czr, H', ⟨by first | omega | exact Nat.le_refl _⟩, ⟨czbk BK130⟩, ⟨czbl1 HB GE130⟩⟩
     ·
      rw [if_neg c10] at H
      have c10b0 : decide (15 < a0_1) = false := decide_eq_false c10
      clear c10
      revert H
      refine czif (fun c12b0 H => ?_) (fun c12b0 H => ?_)
      ·
       have H' := am H
       clear H
       obtain ⟨hcz13_0, hcz13_1, hcz13_2, hcz13_3, hcz13_4, hcz13_5, hcz13_6⟩ := czc7 BK130.1
       go_wp2
       go_meet
       case rel => exact ⟨_, (true), czr, H', ⟨by first | omega | exact Nat.le_refl _⟩, ⟨czbk BK130⟩, ⟨czbl1 HB GE130⟩⟩
      ·
       have H' := am H
       clear H
       obtain ⟨hcz14_0, hcz14_1, hcz14_2, hcz14_3, hcz14_4, hcz14_5, hcz14_6⟩ := czc7 BK130.1
       go_wp2
       go_meet
       case rel => exact ⟨_, (decide (a0_2 > 99999999)), czr, H', ⟨by first | omega | exact Nat.le_refl _⟩, ⟨czbk BK130⟩, ⟨czbl1 HB GE130⟩⟩
 case rest =>
  clear HC2
  try clear c1
  try clear c2
  try clear p2
  try clear c4
  try clear c4b0
  try clear c6
  try clear c6b0
  try clear c8
  try clear c8b0
  try clear c10
  try clear c10b0
  try clear c12
  try clear c12b0
  try clear hcz11_0
  try clear hcz11_1
  try clear hcz11_2
  try clear hcz11_3
  try clear hcz11_4
  try clear hcz11_5
  try clear hcz11_6
  try clear hcz13_0
  try clear hcz13_1
  try clear hcz13_2
  try clear hcz13_3
  try clear hcz13_4
  try clear hcz13_5
  try clear hcz13_6
  try clear hcz14_0
  try clear hcz14_1
  try clear hcz14_2
  try clear hcz14_3
  try clear hcz14_4
  try clear hcz14_5
  try clear hcz14_6
  try clear hcz5_0
  try clear hcz5_1
  try clear hcz5_2
  try clear hcz5_3
  try clear hcz5_4
  try clear hcz5_5
  try clear hcz5_6
  try clear hcz7_0
  try clear hcz7_1
  try clear hcz7_2
  try clear hcz7_3
  try clear hcz7_4
  try clear hcz7_5
  try clear hcz7_6
  try clear hcz9_0
  try clear hcz9_1
  try clear hcz9_2
  try clear hcz9_3
  try clear hcz9_4
  try clear hcz9_5
  try clear hcz9_6
  try clear hfz11_0
  try clear hfz11_1
  try clear hfz11_2
  try clear hfz11_3
  try clear hfz11_4
  try clear hfz11_5
  try clear hfz11_6
  try clear hfz13_0
  try clear hfz13_1
  try clear hfz13_2
  try clear hfz13_3
  try clear hfz13_4
  try clear hfz13_5
  try clear hfz13_6
  try clear hfz14_0
  try clear hfz14_1
  try clear hfz14_2
  try clear hfz14_3
  try clear hfz14_4
  try clear hfz14_5
  try clear hfz14_6
  try clear hfz5_0
  try clear hfz5_1
  try clear hfz5_2
  try clear hfz5_3
  try clear hfz5_4
  try clear hfz5_5
  try clear hfz5_6
  try clear hfz7_0
  try clear hfz7_1
  try clear hfz7_2
  try clear hfz7_3
  try clear hfz7_4
  try clear hfz7_5
  try clear hfz7_6
  try clear hfz9_0
  try clear hfz9_1
  try clear hfz9_2
  try clear hfz9_3
  try clear hfz9_4
  try clear hfz9_5
  try clear hfz9_6
  obtain ⟨kq, x32_1, rfl, HA, HJ1, BK130, HB⟩ := hcut
  cases kq with
  | zero => exact absurd HA.out (by simp [meter_may.j0])
  | succ kj1 =>
   have H := HA.out
   clear HA
   simp only [meter_may.j0] at H
   by_cases c15 : x32_1 = true
   ·
    subst c15
    have H1 : (some false) = some r := by rw [if_pos rfl] at H; exact H
    clear H
    have H := H1
    clear H1
    obtain rfl := Option.some.inj H
    go_wp2
    go_ret
    exact ⟨czeq, czbl1 HB GE130⟩
   ·
    replace c15 := Bool.eq_false_iff.mpr c15
    subst c15
    have H1 : (if a0_5 < 0 then (some false) else (if a0_5 ≥ 5 then (some false) else (if a0_6 < 0 then (some false) else (if a0_6 > 30 then (some false) else (if a0_5 > 0 then (if a0_6 > 0 then (some false) else ((window_Used.f kj1 a0_3 a0_4).bind fun bt131 => (some (bt131.2 == 0)))) else ((window_Used.f kj1 a0_3 a0_4).bind fun bt135 => (some (bt135.2 == 0)))))))) = some r := by rw [if_neg (show ¬ (false = true) by decide)] at H; exact H
    clear H
    have H := H1
    clear H1
    revert H
    refine czif (fun c16b0 H => ?_) (fun c16b0 H => ?_)
    ·
     obtain rfl := Option.some.inj H
     obtain ⟨hcz17_0, hcz17_1, hcz17_2, hcz17_3, hcz17_4, hcz17_5, hcz17_6⟩ := czc7 BK130.1
     go_wp2
     go_ret
     exact ⟨czeq, czbl1 HB GE130⟩
    ·
     by_cases c18 : a0_5 ≥ 5
     ·
      rw [if_pos c18] at H
      have c18b0 : decide (5 ≤ a0_5) = true := decide_eq_true c18
      clear c18
      obtain rfl := Option.some.inj H
      obtain ⟨hcz19_0, hcz19_1, hcz19_2, hcz19_3, hcz19_4, hcz19_5, hcz19_6⟩ := czc7 BK130.1
      go_wp2
      go_ret
      exact ⟨czeq, czbl1 HB GE130⟩
     ·
      rw [if_neg c18] at H
      have c18b0 : decide (5 ≤ a0_5) = false := decide_eq_false c18
      clear c18
      revert H
      refine czif (fun c20b0 H => ?_) (fun c20b0 H => ?_)
      ·
       obtain rfl := Option.some.inj H
       obtain ⟨hcz21_0, hcz21_1, hcz21_2, hcz21_3, hcz21_4, hcz21_5, hcz21_6⟩ := czc7 BK130.1
       go_wp2
       go_ret
       exact ⟨czeq, czbl1 HB GE130⟩
      ·
       by_cases c22 : a0_6 > 30
       ·
        rw [if_pos c22] at H
        have c22b0 : decide (30 < a0_6) = true := decide_eq_true c22
        clear c22
        obtain rfl := Option.some.inj H
        obtain ⟨hcz23_0, hcz23_1, hcz23_2, hcz23_3, hcz23_4, hcz23_5, hcz23_6⟩ := czc7 BK130.1
        go_wp2
        go_ret
        exact ⟨czeq, czbl1 HB GE130⟩
       ·
        rw [if_neg c22] at H
        have c22b0 : decide (30 < a0_6) = false := decide_eq_false c22
        clear c22
        by_cases c24 : a0_5 > 0
        ·
         rw [if_pos c24] at H
         have c24b0 : decide (0 < a0_5) = true := decide_eq_true c24
         clear c24
         by_cases c25 : a0_6 > 0
         ·
          rw [if_pos c25] at H
          have c25b0 : decide (0 < a0_6) = true := decide_eq_true c25
          clear c25
          obtain rfl := Option.some.inj H
          obtain ⟨hcz26_0, hcz26_1, hcz26_2, hcz26_3, hcz26_4, hcz26_5, hcz26_6⟩ := czc7 BK130.1
          go_wp2
          go_ret
          exact ⟨czeq, czbl1 HB GE130⟩
         ·
          rw [if_neg c25] at H
          have c25b0 : decide (0 < a0_6) = false := decide_eq_false c25
          clear c25
          replace H := Option.bind_eq_some_iff.mp H
          obtain ⟨⟨t131, t134⟩, A270, H⟩ := H
          (try dsimp only at H)
          have A27 := am A270
          clear A270
          obtain rfl := Option.some.inj H
          obtain ⟨hcz28_0, hcz28_1, hcz28_2, hcz28_3, hcz28_4, hcz28_5, hcz28_6⟩ := czc7 BK130.1
          go_wp2_with (first | ((with_reducible refine gate_callee (f := 66) rfl ?_); refine czgo (some 64) Tryz.func66 #[.agg #[.int .i64 a0_3, .int .u64 a0_4]] ?_; (with_reducible refine (window_Used.calls kj1 a0_3 a0_4 t131 t134 _ A27.out).mono ?_); rintro e w29 ⟨v132, rfl, ho0, hb⟩; refine ⟨_, rfl, ?_⟩; have HO133 := am (Kd.R_lower ho0 (below_size (czbl1 HB GE130))); replace BK130 := czbb BK130 hb; replace HB := am (below_step (czbl1 HB GE130) hb); (try clear hb hb2 hk hi ho0)))
          go_ret
          exact ⟨czeq, czbl1 HB GE130⟩
        ·
         rw [if_neg c24] at H
         have c24b0 : decide (0 < a0_5) = false := decide_eq_false c24
         clear c24
         replace H := Option.bind_eq_some_iff.mp H
         obtain ⟨⟨t135, t138⟩, A300, H⟩ := H
         (try dsimp only at H)
         have A30 := am A300
         clear A300
         obtain rfl := Option.some.inj H
         obtain ⟨hcz31_0, hcz31_1, hcz31_2, hcz31_3, hcz31_4, hcz31_5, hcz31_6⟩ := czc7 BK130.1
         go_wp2_with (first | ((with_reducible refine gate_callee (f := 66) rfl ?_); refine czgo (some 64) Tryz.func66 #[.agg #[.int .i64 a0_3, .int .u64 a0_4]] ?_; (with_reducible refine (window_Used.calls kj1 a0_3 a0_4 t135 t138 _ A30.out).mono ?_); rintro e w32 ⟨v136, rfl, ho0, hb⟩; refine ⟨_, rfl, ?_⟩; have HO137 := am (Kd.R_lower ho0 (below_size (czbl1 HB GE130))); replace BK130 := czbb BK130 hb; replace HB := am (below_step (czbl1 HB GE130) hb); (try clear hb hb2 hk hi ho0)))
         go_ret
         exact ⟨czeq, czbl1 HB GE130⟩

/-! ### meter_Read -/
theorem meter_Read.word {w : World} {A : Option Addr} {n : Nat} {xs : List Int} (h : Kd.C (Kd.int .u32) w A n xs) (i : Nat) (h1 : i < n) : ∃ ad, A = some ad ∧ w.cell? (ad.add i) = some (.int .u32 (rd xs (i : Int))) := by
 obtain ⟨ad, c, e, hl, hK, hc⟩ := Kd.C_get h 0 (i : Int) (by omega) (by omega)
 obtain rfl : c = [.int .u32 (xs.getD (i : Int).toNat 0)] := hK
 have := hc 0 _ rfl
 simp only [show (Kd.int IntKind.u32).sz = 1 from rfl, Int.toNat_natCast, Nat.mul_one, Nat.add_zero] at this
 exact ⟨ad, e, this⟩
def meter_Read.cells (a0 a1 a2 a3 cr hi bs : Int) : Nat → Array Value
 | 0 => #[.int .i64 0, .int .i64 0, .int .i64 cr, .int .i64 hi, .int .u64 bs, .int .i64 0, .int .i64 0]
 | 1 => #[.int .i64 a0, .int .i64 0, .int .i64 cr, .int .i64 hi, .int .u64 bs, .int .i64 0, .int .i64 0]
 | 2 => #[.int .i64 a0, .int .i64 a1, .int .i64 cr, .int .i64 hi, .int .u64 bs, .int .i64 0, .int .i64 0]
 | 3 => #[.int .i64 a0, .int .i64 a1, .int .i64 cr, .int .i64 hi, .int .u64 bs, .int .i64 a2, .int .i64 0]
 | _ => #[.int .i64 a0, .int .i64 a1, .int .i64 cr, .int .i64 hi, .int .u64 bs, .int .i64 a2, .int .i64 a3]
def meter_Read.f (k : Nat) (l0 : List Int) : Option (Int × Int × Int × Int × Int × Int × Int × Int) :=
 if (l0.length : Int) = 5 then (if ∀ i : Nat, i < 5 → 0 ≤ rd l0 (i : Int) ∧ rd l0 (i : Int) ≤ 4294967295 then
  ((meter_may.f k (rd l0 1 % 256) (rd l0 1 / 256 % 256) (rd l0 0) (rd l0 2) (Go.bits .or .u64 (rd l0 3) (rd l0 4 * 4294967296)) (rd l0 1 / 65536 % 256) (rd l0 1 / 16777216 % 256)).bind fun t =>
   if t = true then some (rd l0 1 % 256, rd l0 1 / 256 % 256, rd l0 0, rd l0 2, Go.bits .or .u64 (rd l0 3) (rd l0 4 * 4294967296), rd l0 1 / 65536 % 256, rd l0 1 / 16777216 % 256, 0) else some (0, 0, 0, 0, 0, 0, 0, 5)) else none) else some (0, 0, 0, 0, 0, 0, 0, 1)
theorem meter_Read.mono : ∀ a0 k, LeO (meter_Read.f k a0) (meter_Read.f (k + 1) a0) := by
 intro a0 k
 unfold meter_Read.f
 exact LeO.ite (LeO.ite (LeO.bind (meter_may.mono _ _ _ _ _ _ _ _) (fun _ => LeO.refl _)) (LeO.refl _)) (LeO.refl _)
set_option maxHeartbeats 4000000 in
set_option maxRecDepth 100000 in
theorem meter_Read.calls (k : Nat) (A0 : Option Addr) (c0 : Nat) (l0 : List Int) (r1 : Int) (r2 : Int) (r3 : Int) (r4 : Int) (r5 : Int) (r6 : Int) (r7 : Int) (r8 : Int) (w : World) (hr0 : Kd.C (Kd.int .u32) w A0 l0.length l0) (hc0 : l0.length ≤ c0) (h : meter_Read.f k l0 = some (r1, r2, r3, r4, r5, r6, r7, r8)) :
  Calls Tryz.prog 21 #[.slice A0 l0.length c0] w fun e w' => e = .returned (.tuple #[.agg #[.int .i64 r1, .int .i64 r2, .int .i64 r3, .int .i64 r4, .int .u64 r5, .int .i64 r6, .int .i64 r7], .int .i64 r8]) ∧ Below w.heap.size w w' := by
 have hu36 := Tryz.underlying40
 have hu34 := Tryz.underlying38
 have HR0 := am hr0
 have HC0 := am hc0
 clear hr0 hc0
 unfold meter_Read.f at h
 by_cases c1 : (l0.length : Int) = 5
 ·
  rw [if_pos c1] at h
  have c1b : ((l0.length : Int) != 5) = false := bne_eq_false_iff_eq.mpr c1
  by_cases c2 : ∀ i : Nat, i < 5 → 0 ≤ rd l0 (i : Int) ∧ rd l0 (i : Int) ≤ 4294967295
  ·
   rw [if_pos c2] at h
   obtain ⟨t, hm, h⟩ := Option.bind_eq_some_iff.mp h
   obtain ⟨q0, q0'⟩ := c2 0 (by omega)
   obtain ⟨q1, q1'⟩ := c2 1 (by omega)
   obtain ⟨q2, q2'⟩ := c2 2 (by omega)
   obtain ⟨q3, q3'⟩ := c2 3 (by omega)
   obtain ⟨q4, q4'⟩ := c2 4 (by omega)
   clear c2
   obtain ⟨ad, rfl, x0⟩ := meter_Read.word HR0.out 0 (by omega)
   obtain ⟨_, e1, x1⟩ := meter_Read.word HR0.out 1 (by omega)
   cases e1
   obtain ⟨_, e1, x2⟩ := meter_Read.word HR0.out 2 (by omega)
   cases e1
   obtain ⟨_, e1, x3⟩ := meter_Read.word HR0.out 3 (by omega)
   cases e1
   obtain ⟨_, e1, x4⟩ := meter_Read.word HR0.out 4 (by omega)
   cases e1
   have c5 : l0.length = 5 := by omega
   rw [c5]
   generalize hg0 : rd l0 ((0 : Nat) : Int) = g0 at *
   generalize hg1 : rd l0 ((1 : Nat) : Int) = g1 at *
   generalize hg2 : rd l0 ((2 : Nat) : Int) = g2 at *
   generalize hg3 : rd l0 ((3 : Nat) : Int) = g3 at *
   generalize hg4 : rd l0 ((4 : Nat) : Int) = g4 at *
   have hg0' : rd l0 0 = g0 := hg0
   have hg1' : rd l0 1 = g1 := hg1
   have hg2' : rd l0 2 = g2 := hg2
   have hg3' : rd l0 3 = g3 := hg3
   have hg4' : rd l0 4 = g4 := hg4
   try simp only [hg0', hg1', hg2', hg3', hg4'] at h
   try simp only [hg0', hg1', hg2', hg3', hg4'] at hm
   have HM := am hm
   have H := am h
   clear hm h hg0 hg1 hg2 hg3 hg4 hg0' hg1' hg2' hg3' hg4' c1 c5 c1b
   obtain ⟨b0, hb0⟩ : ∃ b0, b0 = g1 % 256 := ⟨_, rfl⟩
   obtain ⟨b1, hb1⟩ : ∃ b1, b1 = g1 / 256 % 256 := ⟨_, rfl⟩
   obtain ⟨b2, hb2⟩ : ∃ b2, b2 = g1 / 65536 % 256 := ⟨_, rfl⟩
   obtain ⟨b3, hb3⟩ : ∃ b3, b3 = g1 / 16777216 % 256 := ⟨_, rfl⟩
   rw [← hb0, ← hb1, ← hb2, ← hb3] at HM H
   have HB0 := am hb0
   have HB1 := am hb1
   have HB2 := am hb2
   have HB3 := am hb3
   clear hb0 hb1 hb2 hb3
   have x0 : w.cell? ad = some (.int .u32 g0) := by simpa [Addr.add] using x0
   have x1 : w.cell? ⟨ad.block, ad.off + 1, none⟩ = some (.int .u32 g1) := by simpa [Addr.add] using x1
   have x2 : w.cell? ⟨ad.block, ad.off + 2, none⟩ = some (.int .u32 g2) := by simpa [Addr.add] using x2
   have x3 : w.cell? ⟨ad.block, ad.off + 3, none⟩ = some (.int .u32 g3) := by simpa [Addr.add] using x3
   have x4 : w.cell? ⟨ad.block, ad.off + 4, none⟩ = some (.int .u32 g4) := by simpa [Addr.add] using x4
   have y0 := fun o => pw_cell_below (below_alloc (Below.refl w.heap.size w) o) x0
   have z0 := fun o o' => pw_cell_below (below_alloc (below_alloc (Below.refl w.heap.size w) o) o') x0
   have y2 := fun o => pw_cell_below (below_alloc (Below.refl w.heap.size w) o) x2
   have z2 := fun o o' => pw_cell_below (below_alloc (below_alloc (Below.refl w.heap.size w) o) o') x2
   have y3 := fun o => pw_cell_below (below_alloc (Below.refl w.heap.size w) o) x3
   have z3 := fun o o' => pw_cell_below (below_alloc (below_alloc (Below.refl w.heap.size w) o) o') x3
   have y4 := fun o => pw_cell_below (below_alloc (Below.refl w.heap.size w) o) x4
   have z4 := fun o o' => pw_cell_below (below_alloc (below_alloc (Below.refl w.heap.size w) o) o') x4
   have X1 := am x1
   clear x0 x1 x2 x3 x4
   go_enter Tryz.func21, Tryz.ntmps21
   go_wp2
   go_region
   go_wp2
   generalize Go.bits .or .u64 g3 (g4 * 4294967296) = bs at *
   go_loopg [37] 4 (fun kq v37 w' => ∃ i : Nat, v37 = .int .i64 (i : Int) ∧ i ≤ 4 ∧ kq = 4 - i ∧ Aside0 (w'.heap[w.heap.size]? = some (.cells #[.int .i64 0, .int .i64 0, .int .i64 0, .int .i64 0, .int .u64 0, .int .i64 0, .int .i64 0] 40 (0, 0))) ∧ Aside0 (w'.heap[w.heap.size + 1]? = some (.cells (meter_Read.cells b0 b1 b2 b3 g0 g2 bs i) 40 (0, 0))) ∧ Aside0 (w'.heap[w.heap.size + 2]? = some (.cells #[.pointer (some ⟨w.heap.size + 1, 0, none⟩), .pointer (some ⟨w.heap.size + 1, 1, none⟩), .pointer (some ⟨w.heap.size + 1, 5, none⟩), .pointer (some ⟨w.heap.size + 1, 6, none⟩)] 66 (0, 0))) ∧ Aside0 (Below w.heap.size w w'))
   case atStart =>
    refine ⟨0, rfl, by omega, rfl, ⟨?_⟩, ⟨?_⟩, ⟨?_⟩, ⟨?_⟩⟩
    ·
     apply blk_drew; apply blk_alloc; apply blk_alloc; exact blk_new w _
    ·
     have := blk_new (w.alloc (.cells #[.int .i64 0, .int .i64 0, .int .i64 0, .int .i64 0, .int .u64 0, .int .i64 0, .int .i64 0] 40)) (.cells #[.int .i64 0, .int .i64 0, .int .i64 g0, .int .i64 g2, .int .u64 bs, .int .i64 0, .int .i64 0] 40)
     rw [World.size_alloc] at this
     apply blk_drew; apply blk_alloc; exact this
    ·
     have := blk_new ((w.alloc (.cells #[.int .i64 0, .int .i64 0, .int .i64 0, .int .i64 0, .int .u64 0, .int .i64 0, .int .i64 0] 40)).alloc (.cells #[.int .i64 0, .int .i64 0, .int .i64 g0, .int .i64 g2, .int .u64 bs, .int .i64 0, .int .i64 0] 40)) (.cells #[.pointer (some ⟨w.heap.size + 1, 0, none⟩), .pointer (some ⟨w.heap.size + 1, 1, none⟩), .pointer (some ⟨w.heap.size + 1, 5, none⟩), .pointer (some ⟨w.heap.size + 1, 6, none⟩)] 66)
     rw [World.size_alloc, World.size_alloc] at this
     apply blk_drew; exact this
    ·
     repeat (first | exact Below.refl _ _ | apply below_drew1 | apply below_alloc)
   case round =>
    obtain ⟨i, rfl, hi, rfl, H2, H4, HS, HBW⟩ := hrel
    have x1 := pw_cell_below HBW.out X1.out
    have n24 : w.heap.size ≠ w.heap.size + 1 := by omega
    have n45 : w.heap.size + 2 ≠ w.heap.size + 1 := by omega
    rcases i with _ | _ | _ | _ | _ | i
    ·
     have s0 := (blk_cell HS.out 0).trans rfl
     have c0 := (blk_cell H4.out 0).trans rfl
     have f0 := blk_frozen H4.out 0
     go_wp2
     go_roundg (4 - 1)
     case measure => omega
     case rel =>
      refine ⟨1, by first | rfl | go_num, by omega, by omega, ⟨blk_far H2.out (by simp) _⟩, ⟨?_⟩, ⟨blk_far HS.out (by simp) _⟩, ⟨HBW.out.setCell (by simp) _⟩⟩
      rw [show meter_Read.cells b0 b1 b2 b3 g0 g2 bs 1 = (meter_Read.cells b0 b1 b2 b3 g0 g2 bs 0).setIfInBounds 0 (.int .i64 b0) from rfl, HB0.out]
      exact blk_set H4.out _ _
    ·
     have s0 := (blk_cell HS.out 1).trans rfl
     have c0 := (blk_cell H4.out 1).trans rfl
     have f0 := blk_frozen H4.out 1
     go_wp2
     go_roundg (4 - 2)
     case measure => omega
     case rel =>
      refine ⟨2, by first | rfl | go_num, by omega, by omega, ⟨blk_far H2.out (by simp) _⟩, ⟨?_⟩, ⟨blk_far HS.out (by simp) _⟩, ⟨HBW.out.setCell (by simp) _⟩⟩
      rw [show meter_Read.cells b0 b1 b2 b3 g0 g2 bs 2 = (meter_Read.cells b0 b1 b2 b3 g0 g2 bs 1).setIfInBounds 1 (.int .i64 b1) from rfl, HB1.out]
      exact blk_set H4.out _ _
    ·
     have s0 := (blk_cell HS.out 2).trans rfl
     have c0 := (blk_cell H4.out 5).trans rfl
     have f0 := blk_frozen H4.out 5
     go_wp2
     go_roundg (4 - 3)
     case measure => omega
     case rel =>
      refine ⟨3, by first | rfl | go_num, by omega, by omega, ⟨blk_far H2.out (by simp) _⟩, ⟨?_⟩, ⟨blk_far HS.out (by simp) _⟩, ⟨HBW.out.setCell (by simp) _⟩⟩
      rw [show meter_Read.cells b0 b1 b2 b3 g0 g2 bs 3 = (meter_Read.cells b0 b1 b2 b3 g0 g2 bs 2).setIfInBounds 5 (.int .i64 b2) from rfl, HB2.out]
      exact blk_set H4.out _ _
    ·
     have s0 := (blk_cell HS.out 3).trans rfl
     have c0 := (blk_cell H4.out 6).trans rfl
     have f0 := blk_frozen H4.out 6
     go_wp2
     go_roundg (4 - 4)
     case measure => omega
     case rel =>
      refine ⟨4, by first | rfl | go_num, by omega, by omega, ⟨blk_far H2.out (by simp) _⟩, ⟨?_⟩, ⟨blk_far HS.out (by simp) _⟩, ⟨HBW.out.setCell (by simp) _⟩⟩
      rw [show meter_Read.cells b0 b1 b2 b3 g0 g2 bs 4 = (meter_Read.cells b0 b1 b2 b3 g0 g2 bs 3).setIfInBounds 6 (.int .i64 b3) from rfl, show b3 = g1 / 16777216 by have := HB3.out; omega]
      exact blk_set H4.out _ _
    ·
     clear HS HB0 HB1 HB2 HB3 X1
     have H4 : Aside0 (wr.heap[w.heap.size + 1]? = some (.cells #[.int .i64 b0, .int .i64 b1, .int .i64 g0, .int .i64 g2, .int .u64 bs, .int .i64 b2, .int .i64 b3] 40 (0, 0))) := ⟨H4.out⟩
     have e0 := (blk_cell H4.out 0).trans rfl
     have e1 := (blk_cell H4.out 1).trans rfl
     have e2 := (blk_cell H4.out 2).trans rfl
     have e3 := (blk_cell H4.out 3).trans rfl
     have e4 := (blk_cell H4.out 4).trans rfl
     have e5 := (blk_cell H4.out 5).trans rfl
     have e6 := (blk_cell H4.out 6).trans rfl
     clear y0 y2 y3 y4 z0 z2 z3 z4 x1
     cases t with
     | true =>
      have H' := H.out
      simp only [if_true, Option.some.injEq, Prod.mk.injEq] at H'
      obtain ⟨rfl, rfl, rfl, rfl, rfl, rfl, rfl, rfl⟩ := H'
      go_wp2_with (go_at_call 28; refine (meter_may.calls k _ _ _ _ _ _ _ _ _ HM.out).mono ?_; rintro e w1 ⟨rfl, hb1⟩; have H41 : Aside0 (w1.heap[w.heap.size + 1]? = some (.cells #[.int .i64 b0, .int .i64 b1, .int .i64 g0, .int .i64 g2, .int .u64 bs, .int .i64 b2, .int .i64 b3] 40 (0, 0))) := ⟨(hb1.block _ (blk_lt H4.out)).trans H4.out⟩; have H21 := am ((hb1.block _ (blk_lt H2.out)).trans H2.out); have HB1 := am (below_then HBW.out HBW.out.size hb1); clear hb1; have e0 := (blk_cell H41.out 0).trans rfl; have e1 := (blk_cell H41.out 1).trans rfl; have e2 := (blk_cell H41.out 2).trans rfl; have e3 := (blk_cell H41.out 3).trans rfl; have e4 := (blk_cell H41.out 4).trans rfl; have e5 := (blk_cell H41.out 5).trans rfl; have e6 := (blk_cell H41.out 6).trans rfl; have y0 := (blk_cell H21.out 0).trans rfl; have y1 := (blk_cell H21.out 1).trans rfl; have y2 := (blk_cell H21.out 2).trans rfl; have y3 := (blk_cell H21.out 3).trans rfl; have y4 := (blk_cell H21.out 4).trans rfl; have y5 := (blk_cell H21.out 5).trans rfl; have y6 := (blk_cell H21.out 6).trans rfl; have ff := blk_frozen H21.out)
      refine bodyPost_ret (results_ct rfl _ _ w.heap.size 40 #[.int .i64 b0, .int .i64 b1, .int .i64 g0, .int .i64 g2, .int .u64 bs, .int .i64 b2, .int .i64 b3] (0, 0) _ rfl (blk_set (blk_set (blk_set (blk_set (blk_set (blk_set (blk_set H21.out 0 (.int .i64 b0)) 1 (.int .i64 b1)) 2 (.int .i64 g0)) 3 (.int .i64 g2)) 4 (.int .u64 bs)) 5 (.int .i64 b2)) 6 (.int .i64 b3)) Tryz.underlying40 rfl (by kernel_rfl)) rfl ?_
      exact ⟨rfl, (((((((HB1.out.setCell (p := ⟨w.heap.size, 0, none⟩) (Nat.le_refl _) _).setCell (p := ⟨w.heap.size, 1, none⟩) (Nat.le_refl _) _).setCell (p := ⟨w.heap.size, 2, none⟩) (Nat.le_refl _) _).setCell (p := ⟨w.heap.size, 3, none⟩) (Nat.le_refl _) _).setCell (p := ⟨w.heap.size, 4, none⟩) (Nat.le_refl _) _).setCell (p := ⟨w.heap.size, 5, none⟩) (Nat.le_refl _) _).setCell (p := ⟨w.heap.size, 6, none⟩) (Nat.le_refl _) _)⟩
     | false =>
      have H' := H.out
      simp only [Bool.false_eq_true, if_false, Option.some.injEq, Prod.mk.injEq] at H'
      obtain ⟨rfl, rfl, rfl, rfl, rfl, rfl, rfl, rfl⟩ := H'
      go_wp2_with (go_at_call 28; refine (meter_may.calls k _ _ _ _ _ _ _ _ _ HM.out).mono ?_; rintro e w1 ⟨rfl, hb1⟩; have H41 : Aside0 (w1.heap[w.heap.size + 1]? = some (.cells #[.int .i64 b0, .int .i64 b1, .int .i64 g0, .int .i64 g2, .int .u64 bs, .int .i64 b2, .int .i64 b3] 40 (0, 0))) := ⟨(hb1.block _ (blk_lt H4.out)).trans H4.out⟩; have H21 := am ((hb1.block _ (blk_lt H2.out)).trans H2.out); have HB1 := am (below_then HBW.out HBW.out.size hb1); clear hb1; have e0 := (blk_cell H41.out 0).trans rfl; have e1 := (blk_cell H41.out 1).trans rfl; have e2 := (blk_cell H41.out 2).trans rfl; have e3 := (blk_cell H41.out 3).trans rfl; have e4 := (blk_cell H41.out 4).trans rfl; have e5 := (blk_cell H41.out 5).trans rfl; have e6 := (blk_cell H41.out 6).trans rfl; have y0 := (blk_cell H21.out 0).trans rfl; have y1 := (blk_cell H21.out 1).trans rfl; have y2 := (blk_cell H21.out 2).trans rfl; have y3 := (blk_cell H21.out 3).trans rfl; have y4 := (blk_cell H21.out 4).trans rfl; have y5 := (blk_cell H21.out 5).trans rfl; have y6 := (blk_cell H21.out 6).trans rfl; have ff := blk_frozen H21.out)
      refine bodyPost_ret (results_ct rfl _ _ w.heap.size 40 #[.int .i64 0, .int .i64 0, .int .i64 0, .int .i64 0, .int .u64 0, .int .i64 0, .int .i64 0] (0, 0) _ rfl (blk_set (blk_set (blk_set (blk_set (blk_set (blk_set (blk_set H21.out 0 (.int .i64 0)) 1 (.int .i64 0)) 2 (.int .i64 0)) 3 (.int .i64 0)) 4 (.int .u64 0)) 5 (.int .i64 0)) 6 (.int .i64 0)) Tryz.underlying40 rfl (by kernel_rfl)) rfl ?_
      exact ⟨rfl, (((((((HB1.out.setCell (p := ⟨w.heap.size, 0, none⟩) (Nat.le_refl _) _).setCell (p := ⟨w.heap.size, 1, none⟩) (Nat.le_refl _) _).setCell (p := ⟨w.heap.size, 2, none⟩) (Nat.le_refl _) _).setCell (p := ⟨w.heap.size, 3, none⟩) (Nat.le_refl _) _).setCell (p := ⟨w.heap.size, 4, none⟩) (Nat.le_refl _) _).setCell (p := ⟨w.heap.size, 5, none⟩) (Nat.le_refl _) _).setCell (p := ⟨w.heap.size, 6, none⟩) (Nat.le_refl _) _)⟩
    ·
     omega
  ·
   rw [if_neg c2] at h
   cases h
 ·
  rw [if_neg c1] at h
  simp only [Option.some.injEq, Prod.mk.injEq] at h
  obtain ⟨rfl, rfl, rfl, rfl, rfl, rfl, rfl, rfl⟩ := h
  have c1b : ((l0.length : Int) != 5) = true := bne_iff_ne.mpr c1
  have c1c : (l0.length == 5) = false := by simp; omega
  go_enter Tryz.func21, Tryz.ntmps21
  go_wp2
  exact bodyPost_ret (v := .tuple #[.agg #[.int .i64 0, .int .i64 0, .int .i64 0, .int .i64 0, .int .u64 0, .int .i64 0, .int .i64 0], .int .i64 1]) (by simp [results, Tryz.results21, go_sem]) rfl ⟨rfl, (Below.refl _ _).alloc (Nat.le_refl _) _⟩

/-! ### pocket_Boot: function 11 -/
def pocket_Boot.f (k : Nat) (l0 : List Int) : Option (Int × Int × Int × Int × Int × Int × Int × Int) := (slot_Load.f k l0 5).bind fun bt140 => (if bt140.2 = 0 then ((meter_Read.f k bt140.1).bind fun bt144 => (some (bt144.1, bt144.2.1, bt144.2.2.1, bt144.2.2.2.1, bt144.2.2.2.2.1, bt144.2.2.2.2.2.1, bt144.2.2.2.2.2.2.1, bt144.2.2.2.2.2.2.2))) else (some (0, 0, 0, 0, 0, 0, 0, bt140.2)))
theorem pocket_Boot.mono : ∀ a0 k, LeO (pocket_Boot.f k a0) (pocket_Boot.f (k + 1) a0) := by
 intro a0 k
 unfold pocket_Boot.f
 repeat' first
   | (with_reducible exact meter_Read.mono _ _)
   | (with_reducible exact slot_Load.mono _ _ _)
   | (with_reducible exact LeO.refl _)
   | (with_reducible exact LeO.none _)
   | (with_reducible refine LeO.ite ?_ ?_)
   | (with_reducible refine LeO.bind ?_ (fun _ => ?_))
theorem pocket_Boot.calls (k : Nat) (A0 : Option Addr) (c0 : Nat) (l0 : List Int) (r1 : Int) (r2 : Int) (r3 : Int) (r4 : Int) (r5 : Int) (r6 : Int) (r7 : Int) (r8 : Int) (w : World) (hr0 : Kd.C (Kd.int .u32) w A0 l0.length l0) (hc0 : l0.length ≤ c0) (h : pocket_Boot.f k l0 = some (r1, r2, r3, r4, r5, r6, r7, r8)) :
  Calls Tryz.prog 11 #[.slice A0 l0.length c0] w fun e w' => e = .returned (.tuple #[.agg #[.int .i64 r1, .int .i64 r2, .int .i64 r3, .int .i64 r4, .int .u64 r5, .int .i64 r6, .int .i64 r7], .int .i64 r8]) ∧ Below w.heap.size w w' := by
 have hu40 := Tryz.underlying40
 have HR0 := am hr0
 have HC0 := am hc0
 clear hr0 hc0
 have HB := am (Below.refl w.heap.size w)
 have H : ((slot_Load.f k l0 5).bind fun bt140 => (if bt140.2 = 0 then ((meter_Read.f k bt140.1).bind fun bt144 => (some (bt144.1, bt144.2.1, bt144.2.2.1, bt144.2.2.2.1, bt144.2.2.2.2.1, bt144.2.2.2.2.2.1, bt144.2.2.2.2.2.2.1, bt144.2.2.2.2.2.2.2))) else (some (0, 0, 0, 0, 0, 0, 0, bt140.2)))) = some (r1, r2, r3, r4, r5, r6, r7, r8) := h
 clear h
 replace H := Option.bind_eq_some_iff.mp H
 obtain ⟨⟨t140, t141⟩, A20, H⟩ := H
 (try dsimp only at H)
 have A2 := am A20
 clear A20
 have HC3 := am H
 clear H
 go_enter Tryz.func11, Tryz.ntmps11
 go_upto_region 2 with (first | ((with_reducible refine gate_dst (N := 2) rfl ?_); refine czbox 2 #[.int .i64 0, .int .i64 0, .int .i64 0, .int .i64 0, .int .u64 0, .int .i64 0, .int .i64 0] 40 ?_; intro gb139 hg w4 hbox hb; have BK139 := am (hbox); have GW139 := czsz hg (czbl HB); have GE139 := czsz hg (czbl HB); replace HB := am (below_step (czbl HB) hb); clear hb hbox hg) | ((with_reducible refine gate_callee (f := 20) rfl ?_); refine czgo (some 8) Tryz.func20 #[.slice A0 l0.length c0, .int .i64 5] ?_; (with_reducible refine (slot_Load.calls k _ _ l0 5 t140 t141 _ ?side1 ?side2 A2.out).mono ?_); (case side1 => repeat (first | exact (Kd.C_below HR0.out HB.1) | (with_reducible refine Kd.C_alloc ?_ _) | (with_reducible refine Kd.C_drewN ?_ _) | (with_reducible refine Kd.C_drew ?_))); (case side2 => exact HC0.out); rintro e w5 ⟨v142, rfl, ho0, hb⟩; refine ⟨_, rfl, ?_⟩; have HO143 := am (Kd.R_lower ho0 (below_size (czbl1 HB GE139))); replace BK139 := czbb BK139 hb; replace HB := am (below_step (czbl1 HB GE139) hb); (try clear hb hb2 hk hi ho0)))
 have H := HC3.out
 clear HC3
 revert H
 refine czei (fun c6b0 c6b1 H => ?_) (fun c6 c6b0 c6b1 H => ?_)
 ·
  replace H := Option.bind_eq_some_iff.mp H
  obtain ⟨⟨t144, t145, t146, t147, t148, t149, t150, t151⟩, A70, H⟩ := H
  (try dsimp only at H)
  have A7 := am A70
  clear A70
  simp only [Option.some.injEq, Prod.mk.injEq] at H
  obtain ⟨rfl, rfl, rfl, rfl, rfl, rfl, rfl, rfl⟩ := H
  obtain ⟨Ao8, co8, eo8⟩ := Kd.R_slice HO143.1
  subst eo8
  go_wp2_with (first | ((with_reducible refine gate_callee (f := 21) rfl ?_); refine czgo (some 16) Tryz.func21 #[.slice Ao8 t140.length co8] ?_; (with_reducible refine (meter_Read.calls k _ _ t140 t144 t145 t146 t147 t148 t149 t150 t151 _ (czC HO143) ?side2 A7.out).mono ?_); (case side2 => exact (Kd.R_reads' HO143.1).2.1); rintro e w9 ⟨rfl, hb⟩; refine ⟨_, rfl, ?_⟩; replace HO143 := am (Kd.R_below (czR HO143) hb); replace BK139 := czbb BK139 hb; replace HB := am (below_step (czbl1 HB GE139) hb); (try clear hb hb2 hk hi); obtain ⟨hcz10_0, hcz10_1, hcz10_2, hcz10_3, hcz10_4, hcz10_5, hcz10_6⟩ := czc7 BK139.1; obtain ⟨hfz10_0, hfz10_1, hfz10_2, hfz10_3, hfz10_4, hfz10_5, hfz10_6⟩ := czf7 BK139.1))
  refine bodyPost_ret (results_ct rfl _ _ gb139 40 #[.int .i64 t144, .int .i64 t145, .int .i64 t146, .int .i64 t147, .int .u64 t148, .int .i64 t149, .int .i64 t150] (0, 0) _ rfl (by (with_reducible repeat (first | apply czxn | apply czxd | apply czxa)); refine blk_put (cs := #[.int .i64 t144, .int .i64 t145, .int .i64 t146, .int .i64 t147, .int .u64 t148, .int .i64 t149, .int .i64 0]) ?_ 6 _ rfl; (with_reducible repeat (first | apply czxn | apply czxd | apply czxa)); refine blk_put (cs := #[.int .i64 t144, .int .i64 t145, .int .i64 t146, .int .i64 t147, .int .u64 t148, .int .i64 0, .int .i64 0]) ?_ 5 _ rfl; (with_reducible repeat (first | apply czxn | apply czxd | apply czxa)); refine blk_put (cs := #[.int .i64 t144, .int .i64 t145, .int .i64 t146, .int .i64 t147, .int .u64 0, .int .i64 0, .int .i64 0]) ?_ 4 _ rfl; (with_reducible repeat (first | apply czxn | apply czxd | apply czxa)); refine blk_put (cs := #[.int .i64 t144, .int .i64 t145, .int .i64 t146, .int .i64 0, .int .u64 0, .int .i64 0, .int .i64 0]) ?_ 3 _ rfl; (with_reducible repeat (first | apply czxn | apply czxd | apply czxa)); refine blk_put (cs := #[.int .i64 t144, .int .i64 t145, .int .i64 0, .int .i64 0, .int .u64 0, .int .i64 0, .int .i64 0]) ?_ 2 _ rfl; (with_reducible repeat (first | apply czxn | apply czxd | apply czxa)); refine blk_put (cs := #[.int .i64 t144, .int .i64 0, .int .i64 0, .int .i64 0, .int .u64 0, .int .i64 0, .int .i64 0]) ?_ 1 _ rfl; (with_reducible repeat (first | apply czxn | apply czxd | apply czxa)); refine blk_put (cs := #[.int .i64 0, .int .i64 0, .int .i64 0, .int .i64 0, .int .u64 0, .int .i64 0, .int .i64 0]) ?_ 0 _ rfl; (with_reducible repeat (first | apply czxn | apply czxd | apply czxa)); exact BK139.1) Tryz.underlying40 rfl (by kernel_rfl)) rfl ?_
  exact ⟨czeq, czbl1 HB GE139⟩
 ·
  simp only [Option.some.injEq, Prod.mk.injEq] at H
  obtain ⟨rfl, rfl, rfl, rfl, rfl, rfl, rfl, rfl⟩ := H
  obtain ⟨hcz11_0, hcz11_1, hcz11_2, hcz11_3, hcz11_4, hcz11_5, hcz11_6⟩ := czc7 BK139.1
  obtain ⟨hfz11_0, hfz11_1, hfz11_2, hfz11_3, hfz11_4, hfz11_5, hfz11_6⟩ := czf7 BK139.1
  go_wp2
  refine bodyPost_ret (results_ct rfl _ _ gb139 40 #[.int .i64 0, .int .i64 0, .int .i64 0, .int .i64 0, .int .u64 0, .int .i64 0, .int .i64 0] (0, 0) _ rfl (by (with_reducible repeat (first | apply czxn | apply czxd | apply czxa)); refine blk_put (cs := #[.int .i64 0, .int .i64 0, .int .i64 0, .int .i64 0, .int .u64 0, .int .i64 0, .int .i64 0]) ?_ 6 _ rfl; (with_reducible repeat (first | apply czxn | apply czxd | apply czxa)); refine blk_put (cs := #[.int .i64 0, .int .i64 0, .int .i64 0, .int .i64 0, .int .u64 0, .int .i64 0, .int .i64 0]) ?_ 5 _ rfl; (with_reducible repeat (first | apply czxn | apply czxd | apply czxa)); refine blk_put (cs := #[.int .i64 0, .int .i64 0, .int .i64 0, .int .i64 0, .int .u64 0, .int .i64 0, .int .i64 0]) ?_ 4 _ rfl; (with_reducible repeat (first | apply czxn | apply czxd | apply czxa)); refine blk_put (cs := #[.int .i64 0, .int .i64 0, .int .i64 0, .int .i64 0, .int .u64 0, .int .i64 0, .int .i64 0]) ?_ 3 _ rfl; (with_reducible repeat (first | apply czxn | apply czxd | apply czxa)); refine blk_put (cs := #[.int .i64 0, .int .i64 0, .int .i64 0, .int .i64 0, .int .u64 0, .int .i64 0, .int .i64 0]) ?_ 2 _ rfl; (with_reducible repeat (first | apply czxn | apply czxd | apply czxa)); refine blk_put (cs := #[.int .i64 0, .int .i64 0, .int .i64 0, .int .i64 0, .int .u64 0, .int .i64 0, .int .i64 0]) ?_ 1 _ rfl; (with_reducible repeat (first | apply czxn | apply czxd | apply czxa)); refine blk_put (cs := #[.int .i64 0, .int .i64 0, .int .i64 0, .int .i64 0, .int .u64 0, .int .i64 0, .int .i64 0]) ?_ 0 _ rfl; (with_reducible repeat (first | apply czxn | apply czxd | apply czxa)); exact BK139.1) Tryz.underlying40 rfl (by kernel_rfl)) rfl ?_
  exact ⟨czeq, czbl1 HB GE139⟩

-- NOT PRINTED: function 57 (strings_trimLeftByte)

-- NOT PRINTED: function 58 (strings_makeASCIISet)

-- NOT PRINTED: function 89 (strings_asciiSet_contains)

-- NOT PRINTED: function 59 (strings_trimLeftASCII)

-- NOT PRINTED: function 114 (utf8_decodeRuneInStringSlow)

-- NOT PRINTED: function 90 (utf8_DecodeRuneInString)

-- NOT PRINTED: function 121 (bytealg_IndexByteString)

-- NOT PRINTED: function 120 (stringslite_IndexByte)

-- NOT PRINTED: function 116 (strings_IndexByte)

-- NOT PRINTED: function 117 (utf8_ValidRune)

-- NOT PRINTED: function 118 (bytealg_Cutover)

-- NOT PRINTED: function 119 (bytealg_IndexString)

-- NOT PRINTED: function 115 (strings_IndexRune)

-- NOT PRINTED: function 91 (strings_ContainsRune)

-- NOT PRINTED: function 60 (strings_trimLeftUnicode)

-- NOT PRINTED: function 22 (strings_TrimLeft)

-- NOT PRINTED: function 92 (words_up)

end Go.Proofs.YtcllddkmcnfejaaGreatDoor.PPocketKeys
