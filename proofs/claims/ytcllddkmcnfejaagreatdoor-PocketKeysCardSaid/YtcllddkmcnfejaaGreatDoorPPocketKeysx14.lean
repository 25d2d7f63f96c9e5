-- written by this session's program wip/xp/xprint.py (it drives the kit's print and adds to it)
import Derived.Test.YtcllddkmcnfejaaGreatDoorPPocketKeysx0
import Derived.Test.YtcllddkmcnfejaaGreatDoorPPocketKeysx12
import Derived.Test.YtcllddkmcnfejaaGreatDoorPPocketKeysx13
namespace Go.Proofs.YtcllddkmcnfejaaGreatDoor.PPocketKeys
open Go.RowKit Go.Proofs.YtcllddkmcnfejaaGreatDoorW.PrintWords Go.Proofs.YtcllddkmcnfejaaGreatDoorW.PrintLast Go.Proofs.YtcllddkmcnfejaaGreatDoorW.PrintMore
attribute [local go_sem] max2_int min2_int max_two min_two max_three min_three max_four min_four
set_option linter.unusedVariables false
set_option linter.unusedSimpArgs false
set_option maxHeartbeats 8000000
set_option maxRecDepth 100000

/-! ### vendmeterref_WindowMay: function 85 -/
def vendmeterref_WindowMay.f (k : Nat) (a0_0 : Int) (a0_1 : Int) : Option (Bool) := if a0_0 = 0 then (some (a0_1 == 0)) else ((vendmeterref_In.f a0_0 1 1048575).bind fun t250 => (if t250 = true then ((vendmeterref_members.f k a0_0 a0_1).bind fun t251 => (if (t251.length : Int) > 0 then (if 0 < (t251.length : Int) then (if (rd t251 0) ≥ 1 then (if 0 ≤ (wrap64 ((t251.length : Int) - 1)) then (if (wrap64 ((t251.length : Int) - 1)) < (t251.length : Int) then (some ((rd t251 (wrap64 ((t251.length : Int) - 1))) == a0_0)) else (none)) else (none)) else (some false)) else (none)) else (some false))) else (some false)))
theorem vendmeterref_WindowMay.mono : ∀ a0 a1 k, LeO (vendmeterref_WindowMay.f k a0 a1) (vendmeterref_WindowMay.f (k + 1) a0 a1) := by
 intro a0 a1 k
 unfold vendmeterref_WindowMay.f
 repeat' first
   | (with_reducible exact vendmeterref_members.mono _ _ _)
   | (with_reducible exact LeO.refl _)
   | (with_reducible exact LeO.none _)
   | (with_reducible refine LeO.ite ?_ ?_)
   | (with_reducible refine LeO.bind ?_ (fun _ => ?_))
theorem vendmeterref_WindowMay.calls (k : Nat) (a0_0 : Int) (a0_1 : Int) (r : Bool) (w : World) (h : vendmeterref_WindowMay.f k a0_0 a0_1 = some r) :
  Calls Tryz.prog 85 #[.agg #[.int .i64 a0_0, .int .u64 a0_1]] w fun e w' => e = .returned (.bool r) ∧ Below w.heap.size w w' := by
 have hu38 := Tryz.underlying38
 have HB := am (Below.refl w.heap.size w)
 have H : (if a0_0 = 0 then (some (a0_1 == 0)) else ((vendmeterref_In.f a0_0 1 1048575).bind fun t250 => (if t250 = true then ((vendmeterref_members.f k a0_0 a0_1).bind fun t251 => (if (t251.length : Int) > 0 then (if 0 < (t251.length : Int) then (if (rd t251 0) ≥ 1 then (if 0 ≤ (wrap64 ((t251.length : Int) - 1)) then (if (wrap64 ((t251.length : Int) - 1)) < (t251.length : Int) then (some ((rd t251 (wrap64 ((t251.length : Int) - 1))) == a0_0)) else (none)) else (none)) else (some false)) else (none)) else (some false))) else (some false)))) = some r := h
 clear h
 have HC2 := am H
 clear H
 go_enter Tryz.func85, Tryz.ntmps85
 go_upto_region 1 with (first | ((with_reducible refine gate_dst (N := 1) rfl ?_); (try (refine gate_guard (by rfl) ?_; dsimp only)); refine czbox 1 #[.int .i64 a0_0, .int .u64 a0_1] 38 ?_; intro gb249 hg w3 hbox hb; have BK249 := am (hbox); have GW249 := czsz hg (czbl HB); have GE249 := czsz hg (czbl HB); replace HB := am (below_step (czbl HB) hb); clear hb hbox hg))
 repeat (go_quiet (first | ((with_reducible refine gate_dst (N := 1) rfl ?_); (try (refine gate_guard (by rfl) ?_; dsimp only)); refine czbox 1 #[.int .i64 a0_0, .int .u64 a0_1] 38 ?_; intro gb249 hg w3 hbox hb; have BK249 := am (hbox); have GW249 := czsz hg (czbl HB); have GE249 := czsz hg (czbl HB); replace HB := am (below_step (czbl HB) hb); clear hb hbox hg)); go_upto_region 1 with (first | ((with_reducible refine gate_dst (N := 1) rfl ?_); (try (refine gate_guard (by rfl) ?_; dsimp only)); refine czbox 1 #[.int .i64 a0_0, .int .u64 a0_1] 38 ?_; intro gb249 hg w3 hbox hb; have BK249 := am (hbox); have GW249 := czsz hg (czbl HB); have GE249 := czsz hg (czbl HB); replace HB := am (below_step (czbl HB) hb); clear hb hbox hg)))
 have H := HC2.out
 clear HC2
 revert H
 refine czei (fun c4b0 c4b1 H => ?_) (fun c4 c4b0 c4b1 H => ?_)
 ·
  obtain rfl := Option.some.inj H
  obtain ⟨hcz5_0, hcz5_1⟩ := czc2 BK249.1
  go_wp2
  repeat (go_quiet (fail); try go_wp2)
  go_ret
  exact ⟨czeq, czbl1 HB GE249⟩
 ·
  replace H := Option.bind_eq_some_iff.mp H
  obtain ⟨t250, A60, H⟩ := H
  (try dsimp only at H)
  have A6 := am A60
  clear A60
  by_cases c7 : t250 = true
  ·
   subst c7
   have H1 : ((vendmeterref_members.f k a0_0 a0_1).bind fun t251 => (if (t251.length : Int) > 0 then (if 0 < (t251.length : Int) then (if (rd t251 0) ≥ 1 then (if 0 ≤ (wrap64 ((t251.length : Int) - 1)) then (if (wrap64 ((t251.length : Int) - 1)) < (t251.length : Int) then (some ((rd t251 (wrap64 ((t251.length : Int) - 1))) == a0_0)) else (none)) else (none)) else (some false)) else (none)) else (some false))) = some r := by rw [if_pos rfl] at H; exact H
   clear H
   have H := H1
   clear H1
   replace H := Option.bind_eq_some_iff.mp H
   obtain ⟨t251, A80, H⟩ := H
   (try dsimp only at H)
   have A8 := am A80
   clear A80
   have HC9 := am H
   clear H
   obtain ⟨hcz10_0, hcz10_1⟩ := czc2 BK249.1
   go_upto_region 6 with (first | (go_at_call 84; (with_reducible refine (vendmeterref_In.calls a0_0 1 1048575 true _ A6.out).mono ?_); rintro e w' ⟨rfl, ⟨nd, rfl⟩⟩; (try first | exact ⟨rfl, _, World.drewN_drewN _ _ _⟩ | exact ⟨rfl, _, Eq.trans (World.drewN_drewN _ _ _) (congrArg (World.drewN _) (Nat.add_assoc _ _ _))⟩)) | (go_at_call 87; (with_reducible refine (vendmeterref_members.calls k a0_0 a0_1 t251 _ A8.out).mono ?_); rintro e w11 ⟨v252, rfl, ho0, hb⟩; have HO253 := am (Kd.R_lower ho0 (below_size (czbl1 HB GE249))); replace BK249 := czbb BK249 hb; replace HB := am (below_step (czbl1 HB GE249) hb); (try clear hb hb2 hk hi ho0)))
   repeat (go_quiet (first | (go_at_call 84; (with_reducible refine (vendmeterref_In.calls a0_0 1 1048575 true _ A6.out).mono ?_); rintro e w' ⟨rfl, ⟨nd, rfl⟩⟩; (try first | exact ⟨rfl, _, World.drewN_drewN _ _ _⟩ | exact ⟨rfl, _, Eq.trans (World.drewN_drewN _ _ _) (congrArg (World.drewN _) (Nat.add_assoc _ _ _))⟩)) | (go_at_call 87; (with_reducible refine (vendmeterref_members.calls k a0_0 a0_1 t251 _ A8.out).mono ?_); rintro e w11 ⟨v252, rfl, ho0, hb⟩; have HO253 := am (Kd.R_lower ho0 (below_size (czbl1 HB GE249))); replace BK249 := czbb BK249 hb; replace HB := am (below_step (czbl1 HB GE249) hb); (try clear hb hb2 hk hi ho0))); go_upto_region 6 with (first | (go_at_call 84; (with_reducible refine (vendmeterref_In.calls a0_0 1 1048575 true _ A6.out).mono ?_); rintro e w' ⟨rfl, ⟨nd, rfl⟩⟩; (try first | exact ⟨rfl, _, World.drewN_drewN _ _ _⟩ | exact ⟨rfl, _, Eq.trans (World.drewN_drewN _ _ _) (congrArg (World.drewN _) (Nat.add_assoc _ _ _))⟩)) | (go_at_call 87; (with_reducible refine (vendmeterref_members.calls k a0_0 a0_1 t251 _ A8.out).mono ?_); rintro e w11 ⟨v252, rfl, ho0, hb⟩; have HO253 := am (Kd.R_lower ho0 (below_size (czbl1 HB GE249))); replace BK249 := czbb BK249 hb; replace HB := am (below_step (czbl1 HB GE249) hb); (try clear hb hb2 hk hi ho0))))
   have H := HC9.out
   clear HC9
   by_cases c12 : (t251.length : Int) > 0
   ·
    rw [if_pos c12] at H
    have c12b0 : decide (0 < (t251.length : Int)) = true := decide_eq_true c12
    have c12b1 : decide (0 < t251.length) = true := decide_eq_true (by omega)
    clear c12
    by_cases c13 : 0 < (t251.length : Int)
    ·
     rw [if_pos c13] at H
     have c13b0 : decide (0 < (t251.length : Int)) = true := decide_eq_true c13
     have c13b1 : decide (0 < t251.length) = true := decide_eq_true (by omega)
     clear c13
     by_cases c14 : (rd t251 0) ≥ 1
     ·
      rw [if_pos c14] at H
      have c14b0 : decide (1 ≤ (rd t251 0)) = true := decide_eq_true c14
      clear c14
      obtain ⟨ji15, hji15⟩ : ∃ j_ : Int, (wrap64 ((t251.length : Int) - 1)) = j_ := ⟨_, rfl⟩
      replace H : (if 0 ≤ (ji15) then (if (ji15) < (t251.length : Int) then (some ((rd t251 (ji15)) == a0_0)) else (none)) else (none)) = some r := by first | (rw [hji15] at H; exact H) | (simp only [hji15] at H ⊢; exact H)
      have hji15w : (IntKind.i64.wrap ((t251.length : Int) - 1)) = ji15 := (i64_w _).trans hji15
      by_cases c16 : 0 ≤ (ji15)
      ·
       rw [if_pos c16] at H
       have c16b0 : decide (0 ≤ (ji15)) = true := decide_eq_true c16
       clear c16
       by_cases c17 : (ji15) < (t251.length : Int)
       ·
        rw [if_pos c17] at H
        have c17b0 : decide ((ji15) < (t251.length : Int)) = true := decide_eq_true c17
        clear c17
        obtain rfl := Option.some.inj H
        obtain ⟨Ao18, co18, eo18⟩ := Kd.R_slice HO253.1
        subst eo18
        have p254 : 0 ≤ (0 : Int) := (by omega)
        have q254 : 0 < (t251.length : Int) := czd
        obtain ⟨ad254, e254, hx254_0⟩ := Kd.at_int (Kd.R_reads' HO253.1).2.2 0 p254 q254
        cases e254
        have qi254 : (0 < t251.length) = True := eq_true (by omega)
        (try rw [show ((0 : Int)).toNat = 0 from rfl] at hx254_0)
        (try rw [Addr.add_zero'] at hx254_0)
        replace p254 := eq_true p254
        replace q254 := eq_true q254
        have p255 : 0 ≤ ((ji15) : Int) := czd
        have q255 : (ji15) < (t251.length : Int) := czd
        obtain ⟨ad255, e255, hx255_0⟩ := Kd.at_int (Kd.R_reads' HO253.1).2.2 (ji15) p255 q255
        obtain rfl : ad254 = ad255 := (by injection e255)
        replace p255 := eq_true p255
        replace q255 := eq_true q255
        obtain ⟨hcz19_0, hcz19_1⟩ := czc2 BK249.1
        go_wp2
        repeat (go_quiet (fail); try go_wp2)
        go_ret
        exact ⟨by first | rfl | (simp [errW_none, errW_some] <;> rfl) | (simp only [← hji15]; first | rfl | (simp [errW_none, errW_some] <;> rfl)) | (simp [*, errW_none, errW_some] <;> rfl), czbl1 HB GE249⟩
       ·
        rw [if_neg c17] at H
        exact absurd H (by simp)
      ·
       rw [if_neg c16] at H
       exact absurd H (by simp)
     ·
      rw [if_neg c14] at H
      have c14b0 : decide (1 ≤ (rd t251 0)) = false := decide_eq_false c14
      clear c14
      obtain rfl := Option.some.inj H
      obtain ⟨Ao20, co20, eo20⟩ := Kd.R_slice HO253.1
      subst eo20
      have p254 : 0 ≤ (0 : Int) := (by omega)
      have q254 : 0 < (t251.length : Int) := czd
      obtain ⟨ad254, e254, hx254_0⟩ := Kd.at_int (Kd.R_reads' HO253.1).2.2 0 p254 q254
      cases e254
      have qi254 : (0 < t251.length) = True := eq_true (by omega)
      (try rw [show ((0 : Int)).toNat = 0 from rfl] at hx254_0)
      (try rw [Addr.add_zero'] at hx254_0)
      replace p254 := eq_true p254
      replace q254 := eq_true q254
      go_wp2
      repeat (go_quiet (fail); try go_wp2)
      go_ret
      exact ⟨czeq, czbl1 HB GE249⟩
    ·
     rw [if_neg c13] at H
     exact absurd H (by simp)
   ·
    rw [if_neg c12] at H
    have c12b0 : decide (0 < (t251.length : Int)) = false := decide_eq_false c12
    have c12b1 : decide (0 < t251.length) = false := decide_eq_false (by omega)
    clear c12
    obtain rfl := Option.some.inj H
    obtain ⟨Ao21, co21, eo21⟩ := Kd.R_slice HO253.1
    subst eo21
    go_wp2
    repeat (go_quiet (fail); try go_wp2)
    go_ret
    exact ⟨czeq, czbl1 HB GE249⟩
  ·
   replace c7 := Bool.eq_false_iff.mpr c7
   subst c7
   have H1 : (some false) = some r := by rw [if_neg (show ¬ (false = true) by decide)] at H; exact H
   clear H
   have H := H1
   clear H1
   obtain rfl := Option.some.inj H
   obtain ⟨hcz22_0, hcz22_1⟩ := czc2 BK249.1
   go_wp2_with (first | (go_at_call 84; (with_reducible refine (vendmeterref_In.calls a0_0 1 1048575 false _ A6.out).mono ?_); rintro e w' ⟨rfl, ⟨nd, rfl⟩⟩; (try first | exact ⟨rfl, _, World.drewN_drewN _ _ _⟩ | exact ⟨rfl, _, Eq.trans (World.drewN_drewN _ _ _) (congrArg (World.drewN _) (Nat.add_assoc _ _ _))⟩)))
   repeat (go_quiet (first | (go_at_call 84; (with_reducible refine (vendmeterref_In.calls a0_0 1 1048575 false _ A6.out).mono ?_); rintro e w' ⟨rfl, ⟨nd, rfl⟩⟩; (try first | exact ⟨rfl, _, World.drewN_drewN _ _ _⟩ | exact ⟨rfl, _, Eq.trans (World.drewN_drewN _ _ _) (congrArg (World.drewN _) (Nat.add_assoc _ _ _))⟩))); try go_wp2_with (first | (go_at_call 84; (with_reducible refine (vendmeterref_In.calls a0_0 1 1048575 false _ A6.out).mono ?_); rintro e w' ⟨rfl, ⟨nd, rfl⟩⟩; (try first | exact ⟨rfl, _, World.drewN_drewN _ _ _⟩ | exact ⟨rfl, _, Eq.trans (World.drewN_drewN _ _ _) (congrArg (World.drewN _) (Nat.add_assoc _ _ _))⟩))))
   go_ret
   exact ⟨czeq, czbl1 HB GE249⟩

/-! ### vendmeterref_MeterMay: function 48 -/
mutual
def vendmeterref_MeterMay.j0 : Nat → Bool → Int → Int → Int → Int → Int → Int → Int → Option (Bool)
 | 0, _, _, _, _, _, _, _, _ => none
 | k + 1, x18, x257000, x257001, x257002, x257003, x257004, x257005, x257006 => if x18 = true then (some false) else ((vendmeterref_In.f x257005 0 4).bind fun t260 => (if t260 = true then ((vendmeterref_In.f x257006 0 30).bind fun t261 => (vendmeterref_MeterMay.j1 k (!t261) x257000 x257001 x257002 x257003 x257004 x257005 x257006)) else (vendmeterref_MeterMay.j1 k true x257000 x257001 x257002 x257003 x257004 x257005 x257006)))
def vendmeterref_MeterMay.j1 : Nat → Bool → Int → Int → Int → Int → Int → Int → Int → Option (Bool)
 | 0, _, _, _, _, _, _, _, _ => none
 | k + 1, x28, x257000, x257001, x257002, x257003, x257004, x257005, x257006 => if x28 = true then (some false) else (if x257005 = 0 then ((vendmeterref_WindowMay.f k x257003 x257004).bind fun t262 => (some t262)) else (if x257006 = 0 then ((vendmeterref_WindowMay.f k x257003 x257004).bind fun t263 => (some t263)) else (some false)))
end
def vendmeterref_MeterMay.f (k : Nat) (a0_0 : Int) (a0_1 : Int) (a0_2 : Int) (a0_3 : Int) (a0_4 : Int) (a0_5 : Int) (a0_6 : Int) : Option (Bool) := (vendmeterref_In.f a0_0 0 49).bind fun t257 => (if t257 = true then ((vendmeterref_In.f a0_1 0 15).bind fun t258 => (if t258 = true then ((vendmeterref_In.f a0_2 0 99999999).bind fun t259 => (vendmeterref_MeterMay.j0 k (!t259) a0_0 a0_1 a0_2 a0_3 a0_4 a0_5 a0_6)) else (vendmeterref_MeterMay.j0 k true a0_0 a0_1 a0_2 a0_3 a0_4 a0_5 a0_6))) else (vendmeterref_MeterMay.j0 k true a0_0 a0_1 a0_2 a0_3 a0_4 a0_5 a0_6))
theorem vendmeterref_MeterMay.mono_l : ∀ k, (∀ y0 y1 y2 y3 y4 y5 y6 y7, LeO (vendmeterref_MeterMay.j0 k y0 y1 y2 y3 y4 y5 y6 y7) (vendmeterref_MeterMay.j0 (k + 1) y0 y1 y2 y3 y4 y5 y6 y7)) ∧ (∀ y0 y1 y2 y3 y4 y5 y6 y7, LeO (vendmeterref_MeterMay.j1 k y0 y1 y2 y3 y4 y5 y6 y7) (vendmeterref_MeterMay.j1 (k + 1) y0 y1 y2 y3 y4 y5 y6 y7))
 | 0 => ⟨fun _ _ _ _ _ _ _ _ r h => by simp [vendmeterref_MeterMay.j0] at h, fun _ _ _ _ _ _ _ _ r h => by simp [vendmeterref_MeterMay.j1] at h⟩
 | k + 1 => by
  obtain ⟨ih0, ih1⟩ := vendmeterref_MeterMay.mono_l k
  refine ⟨?_, ?_⟩
  ·
   intro y0 y1 y2 y3 y4 y5 y6 y7
   unfold vendmeterref_MeterMay.j0
   repeat' first
   | (with_reducible exact ih0 _ _ _ _ _ _ _ _)
   | (with_reducible exact ih1 _ _ _ _ _ _ _ _)
   | (with_reducible exact vendmeterref_WindowMay.mono _ _ _)
   | (with_reducible exact LeO.refl _)
   | (with_reducible exact LeO.none _)
   | (with_reducible refine LeO.ite ?_ ?_)
   | (with_reducible refine LeO.bind ?_ (fun _ => ?_))
  ·
   intro y0 y1 y2 y3 y4 y5 y6 y7
   unfold vendmeterref_MeterMay.j1
   repeat' first
   | (with_reducible exact ih0 _ _ _ _ _ _ _ _)
   | (with_reducible exact ih1 _ _ _ _ _ _ _ _)
   | (with_reducible exact vendmeterref_WindowMay.mono _ _ _)
   | (with_reducible exact LeO.refl _)
   | (with_reducible exact LeO.none _)
   | (with_reducible refine LeO.ite ?_ ?_)
   | (with_reducible refine LeO.bind ?_ (fun _ => ?_))
theorem vendmeterref_MeterMay.mono : ∀ a0 a1 a2 a3 a4 a5 a6 k, LeO (vendmeterref_MeterMay.f k a0 a1 a2 a3 a4 a5 a6) (vendmeterref_MeterMay.f (k + 1) a0 a1 a2 a3 a4 a5 a6) := by
 intro a0 a1 a2 a3 a4 a5 a6 k
 obtain ⟨ih0, ih1⟩ := vendmeterref_MeterMay.mono_l k
 unfold vendmeterref_MeterMay.f
 repeat' first
   | (with_reducible exact ih0 _ _ _ _ _ _ _ _)
   | (with_reducible exact ih1 _ _ _ _ _ _ _ _)
   | (with_reducible exact vendmeterref_WindowMay.mono _ _ _)
   | (with_reducible exact LeO.refl _)
   | (with_reducible exact LeO.none _)
   | (with_reducible refine LeO.ite ?_ ?_)
   | (with_reducible refine LeO.bind ?_ (fun _ => ?_))
theorem vendmeterref_MeterMay.calls (k : Nat) (a0_0 : Int) (a0_1 : Int) (a0_2 : Int) (a0_3 : Int) (a0_4 : Int) (a0_5 : Int) (a0_6 : Int) (r : Bool) (w : World) (h : vendmeterref_MeterMay.f k a0_0 a0_1 a0_2 a0_3 a0_4 a0_5 a0_6 = some r) :
  Calls Tryz.prog 48 #[.agg #[.int .i64 a0_0, .int .i64 a0_1, .int .i64 a0_2, .int .i64 a0_3, .int .u64 a0_4, .int .i64 a0_5, .int .i64 a0_6]] w fun e w' => e = .returned (.bool r) ∧ Below w.heap.size w w' := by
 have hu40 := Tryz.underlying40
 have hu38 := Tryz.underlying38
 have HB := am (Below.refl w.heap.size w)
 have H : ((vendmeterref_In.f a0_0 0 49).bind fun t257 => (if t257 = true then ((vendmeterref_In.f a0_1 0 15).bind fun t258 => (if t258 = true then ((vendmeterref_In.f a0_2 0 99999999).bind fun t259 => (vendmeterref_MeterMay.j0 k (!t259) a0_0 a0_1 a0_2 a0_3 a0_4 a0_5 a0_6)) else (vendmeterref_MeterMay.j0 k true a0_0 a0_1 a0_2 a0_3 a0_4 a0_5 a0_6))) else (vendmeterref_MeterMay.j0 k true a0_0 a0_1 a0_2 a0_3 a0_4 a0_5 a0_6))) = some r := h
 clear h
 have HC2 := am H
 clear H
 go_enter Tryz.func48, Tryz.ntmps48
 go_upto_region 1 with (first | ((with_reducible refine gate_dst (N := 1) rfl ?_); refine czbox 1 #[.int .i64 a0_0, .int .i64 a0_1, .int .i64 a0_2, .int .i64 a0_3, .int .u64 a0_4, .int .i64 a0_5, .int .i64 a0_6] 40 ?_; intro gb256 hg w3 hbox hb; have BK256 := am (hbox); have GW256 := czsz hg (czbl HB); have GE256 := czsz hg (czbl HB); replace HB := am (below_step (czbl HB) hb); clear hb hbox hg))
 (try simp only [Act.put, List.setIfInBounds_toArray, List.set_cons_zero, List.set_cons_succ])
 go_cut [18] (fun v18 wc => ∃ (kq : Nat) (x18_1 : Bool), v18 = .bool x18_1 ∧ Aside0 (vendmeterref_MeterMay.j0 kq x18_1 a0_0 a0_1 a0_2 a0_3 a0_4 a0_5 a0_6 = some r) ∧ Aside0 (kq ≤ k) ∧ Aside0 (wc.heap[gb256]? = some (.cells #[.int .i64 a0_0, .int .i64 a0_1, .int .i64 a0_2, .int .i64 a0_3, .int .u64 a0_4, .int .i64 a0_5, .int .i64 a0_6] 40 (0, 0))) ∧ Aside0 (Below w.heap.size w wc))
 case first =>
  have H := HC2.out
  clear HC2
  replace H := Option.bind_eq_some_iff.mp H
  obtain ⟨t257, A40, H⟩ := H
  (try dsimp only at H)
  have A4 := am A40
  clear A40
  by_cases c5 : t257 = true
  ·
   subst c5
   have H1 : ((vendmeterref_In.f a0_1 0 15).bind fun t258 => (if t258 = true then ((vendmeterref_In.f a0_2 0 99999999).bind fun t259 => (vendmeterref_MeterMay.j0 k (!t259) a0_0 a0_1 a0_2 a0_3 a0_4 a0_5 a0_6)) else (vendmeterref_MeterMay.j0 k true a0_0 a0_1 a0_2 a0_3 a0_4 a0_5 a0_6))) = some r := by rw [if_pos rfl] at H; exact H
   clear H
   have H := H1
   clear H1
   replace H := Option.bind_eq_some_iff.mp H
   obtain ⟨t258, A60, H⟩ := H
   (try dsimp only at H)
   have A6 := am A60
   clear A60
   by_cases c7 : t258 = true
   ·
    subst c7
    have H1 : ((vendmeterref_In.f a0_2 0 99999999).bind fun t259 => (vendmeterref_MeterMay.j0 k (!t259) a0_0 a0_1 a0_2 a0_3 a0_4 a0_5 a0_6)) = some r := by rw [if_pos rfl] at H; exact H
    clear H
    have H := H1
    clear H1
    replace H := Option.bind_eq_some_iff.mp H
    obtain ⟨t259, A80, H⟩ := H
    (try dsimp only at H)
    have A8 := am A80
    clear A80
    have H' := am H
    clear H
    obtain ⟨hcz9_0, hcz9_1, hcz9_2, hcz9_3, hcz9_4, hcz9_5, hcz9_6⟩ := czc7 BK256.1
    go_wp2_with (first | ((with_reducible refine gate_callee (f := 84) rfl ?_); refine czgo (some 5) Tryz.func84 #[.int .i64 a0_0, .int .i64 0, .int .i64 49] ?_; (with_reducible refine (vendmeterref_In.calls a0_0 0 49 true _ A4.out).mono ?_); rintro e w' ⟨rfl, ⟨nd, rfl⟩⟩; refine ⟨_, rfl, ?_⟩) | (go_at_call 84; (with_reducible refine (vendmeterref_In.calls a0_1 0 15 true _ A6.out).mono ?_); rintro e w' ⟨rfl, ⟨nd, rfl⟩⟩) | (go_at_call 84; (with_reducible refine (vendmeterref_In.calls a0_2 0 99999999 t259 _ A8.out).mono ?_); rintro e w' ⟨rfl, ⟨nd, rfl⟩⟩))
    go_meet
    case rel => exact ⟨_, (!t259), czr, H', ⟨by first | omega | exact Nat.le_refl _⟩, ⟨czbk BK256⟩, ⟨czbl1 HB GE256⟩⟩
   ·
    replace c7 := Bool.eq_false_iff.mpr c7
    subst c7
    have H1 : (vendmeterref_MeterMay.j0 k true a0_0 a0_1 a0_2 a0_3 a0_4 a0_5 a0_6) = some r := by rw [if_neg (show ¬ (false = true) by decide)] at H; exact H
    clear H
    have H := H1
    clear H1
    have H' := am H
    clear H
    obtain ⟨hcz10_0, hcz10_1, hcz10_2, hcz10_3, hcz10_4, hcz10_5, hcz10_6⟩ := czc7 BK256.1
    go_wp2_with (first | ((with_reducible refine gate_callee (f := 84) rfl ?_); refine czgo (some 5) Tryz.func84 #[.int .i64 a0_0, .int .i64 0, .int .i64 49] ?_; (with_reducible refine (vendmeterref_In.calls a0_0 0 49 true _ A4.out).mono ?_); rintro e w' ⟨rfl, ⟨nd, rfl⟩⟩; refine ⟨_, rfl, ?_⟩) | (go_at_call 84; (with_reducible refine (vendmeterref_In.calls a0_1 0 15 false _ A6.out).mono ?_); rintro e w' ⟨rfl, ⟨nd, rfl⟩⟩))
    go_meet
    case rel => exact ⟨_, (true), czr, H', ⟨by first | omega | exact Nat.le_refl _⟩, ⟨czbk BK256⟩, ⟨czbl1 HB GE256⟩⟩
  ·
   replace c5 := Bool.eq_false_iff.mpr c5
   subst c5
   have H1 : (vendmeterref_MeterMay.j0 k true a0_0 a0_1 a0_2 a0_3 a0_4 a0_5 a0_6) = some r := by rw [if_neg (show ¬ (false = true) by decide)] at H; exact H
   clear H
   have H := H1
   clear H1
   have H' := am H
   clear H
   obtain ⟨hcz11_0, hcz11_1, hcz11_2, hcz11_3, hcz11_4, hcz11_5, hcz11_6⟩ := czc7 BK256.1
   go_wp2_with (first | ((with_reducible refine gate_callee (f := 84) rfl ?_); refine czgo (some 5) Tryz.func84 #[.int .i64 a0_0, .int .i64 0, .int .i64 49] ?_; (with_reducible refine (vendmeterref_In.calls a0_0 0 49 false _ A4.out).mono ?_); rintro e w' ⟨rfl, ⟨nd, rfl⟩⟩; refine ⟨_, rfl, ?_⟩))
   go_meet
   case rel => exact ⟨_, (true), czr, H', ⟨by first | omega | exact Nat.le_refl _⟩, ⟨czbk BK256⟩, ⟨czbl1 HB GE256⟩⟩
 case rest =>
  clear HC2
  try clear p2
  try clear c4
  try clear c5
  try clear c7
  try clear c8
  try clear hcz10_0
  try clear hcz10_1
  try clear hcz10_2
  try clear hcz10_3
  try clear hcz10_4
  try clear hcz10_5
  try clear hcz10_6
  try clear hcz11_0
  try clear hcz11_1
  try clear hcz11_2
  try clear hcz11_3
  try clear hcz11_4
  try clear hcz11_5
  try clear hcz11_6
  try clear hcz9_0
  try clear hcz9_1
  try clear hcz9_2
  try clear hcz9_3
  try clear hcz9_4
  try clear hcz9_5
  try clear hcz9_6
  try clear hfz10_0
  try clear hfz10_1
  try clear hfz10_2
  try clear hfz10_3
  try clear hfz10_4
  try clear hfz10_5
  try clear hfz10_6
  try clear hfz11_0
  try clear hfz11_1
  try clear hfz11_2
  try clear hfz11_3
  try clear hfz11_4
  try clear hfz11_5
  try clear hfz11_6
  try clear hfz9_0
  try clear hfz9_1
  try clear hfz9_2
  try clear hfz9_3
  try clear hfz9_4
  try clear hfz9_5
  try clear hfz9_6
  obtain ⟨kq, x18_1, rfl, HA, HJ1, BK256, HB⟩ := hcut
  cases kq with
  | zero => exact absurd HA.out (by simp [vendmeterref_MeterMay.j0])
  | succ kj1 =>
   have H := HA.out
   clear HA
   simp only [vendmeterref_MeterMay.j0] at H
   by_cases c12 : x18_1 = true
   ·
    subst c12
    have H1 : (some false) = some r := by rw [if_pos rfl] at H; exact H
    clear H
    have H := H1
    clear H1
    obtain rfl := Option.some.inj H
    go_wp2
    go_ret
    exact ⟨czeq, czbl1 HB GE256⟩
   ·
    replace c12 := Bool.eq_false_iff.mpr c12
    subst c12
    have H1 : ((vendmeterref_In.f a0_5 0 4).bind fun t260 => (if t260 = true then ((vendmeterref_In.f a0_6 0 30).bind fun t261 => (vendmeterref_MeterMay.j1 kj1 (!t261) a0_0 a0_1 a0_2 a0_3 a0_4 a0_5 a0_6)) else (vendmeterref_MeterMay.j1 kj1 true a0_0 a0_1 a0_2 a0_3 a0_4 a0_5 a0_6))) = some r := by rw [if_neg (show ¬ (false = true) by decide)] at H; exact H
    clear H
    have H := H1
    clear H1
    have HC13 := am H
    clear H
    go_upto_region 3 with (fail)
    go_cut [28] (fun v28 wc => ∃ (kq : Nat) (x28_12 : Bool), v28 = .bool x28_12 ∧ Aside0 (vendmeterref_MeterMay.j1 kq x28_12 a0_0 a0_1 a0_2 a0_3 a0_4 a0_5 a0_6 = some r) ∧ Aside0 (kq ≤ kj1) ∧ Aside0 (wc.heap[gb256]? = some (.cells #[.int .i64 a0_0, .int .i64 a0_1, .int .i64 a0_2, .int .i64 a0_3, .int .u64 a0_4, .int .i64 a0_5, .int .i64 a0_6] 40 (0, 0))) ∧ Aside0 (Below w.heap.size w wc))
    case first =>
     have H := HC13.out
     clear HC13
     replace H := Option.bind_eq_some_iff.mp H
     obtain ⟨t260, A140, H⟩ := H
     (try dsimp only at H)
     have A14 := am A140
     clear A140
     by_cases c15 : t260 = true
     ·
      subst c15
      have H1 : ((vendmeterref_In.f a0_6 0 30).bind fun t261 => (vendmeterref_MeterMay.j1 kj1 (!t261) a0_0 a0_1 a0_2 a0_3 a0_4 a0_5 a0_6)) = some r := by rw [if_pos rfl] at H; exact H
      clear H
      have H := H1
      clear H1
      replace H := Option.bind_eq_some_iff.mp H
      obtain ⟨t261, A160, H⟩ := H
      (try dsimp only at H)
      have A16 := am A160
      clear A160
      have H' := am H
      clear H
      obtain ⟨hcz17_0, hcz17_1, hcz17_2, hcz17_3, hcz17_4, hcz17_5, hcz17_6⟩ := czc7 BK256.1
      go_wp2_with (first | ((with_reducible refine gate_callee (f := 84) rfl ?_); refine czgo (some 21) Tryz.func84 #[.int .i64 a0_5, .int .i64 0, .int .i64 4] ?_; (with_reducible refine (vendmeterref_In.calls a0_5 0 4 true _ A14.out).mono ?_); rintro e w' ⟨rfl, ⟨nd, rfl⟩⟩; refine ⟨_, rfl, ?_⟩) | (go_at_call 84; (with_reducible refine (vendmeterref_In.calls a0_6 0 30 t261 _ A16.out).mono ?_); rintro e w' ⟨rfl, ⟨nd, rfl⟩⟩))
      go_meet
      case rel => exact ⟨_, (!t261), czr, H', ⟨by have := HJ1.out; first | omega | exact Nat.le_refl _⟩, ⟨czbk BK256⟩, ⟨czbl1 HB GE256⟩⟩
     ·
      replace c15 := Bool.eq_false_iff.mpr c15
      subst c15
      have H1 : (vendmeterref_MeterMay.j1 kj1 true a0_0 a0_1 a0_2 a0_3 a0_4 a0_5 a0_6) = some r := by rw [if_neg (show ¬ (false = true) by decide)] at H; exact H
      clear H
      have H := H1
      clear H1
      have H' := am H
      clear H
      obtain ⟨hcz18_0, hcz18_1, hcz18_2, hcz18_3, hcz18_4, hcz18_5, hcz18_6⟩ := czc7 BK256.1
      go_wp2_with (first | ((with_reducible refine gate_callee (f := 84) rfl ?_); refine czgo (some 21) Tryz.func84 #[.int .i64 a0_5, .int .i64 0, .int .i64 4] ?_; (with_reducible refine (vendmeterref_In.calls a0_5 0 4 false _ A14.out).mono ?_); rintro e w' ⟨rfl, ⟨nd, rfl⟩⟩; refine ⟨_, rfl, ?_⟩))
      go_meet
      case rel => exact ⟨_, (true), czr, H', ⟨by have := HJ1.out; first | omega | exact Nat.le_refl _⟩, ⟨czbk BK256⟩, ⟨czbl1 HB GE256⟩⟩
    case rest =>
     clear HC13
     try clear c1
     try clear p2
     try clear c4
     try clear c5
     try clear c7
     try clear c8
     try clear c12
     try clear c15
     try clear hcz10_0
     try clear hcz10_1
     try clear hcz10_2
     try clear hcz10_3
     try clear hcz10_4
     try clear hcz10_5
     try clear hcz10_6
     try clear hcz11_0
     try clear hcz11_1
     try clear hcz11_2
     try clear hcz11_3
     try clear hcz11_4
     try clear hcz11_5
     try clear hcz11_6
     try clear hcz17_0
     try clear hcz17_1
     try clear hcz17_2
     try clear hcz17_3
     try clear hcz17_4
     try clear hcz17_5
     try clear hcz17_6
     try clear hcz18_0
     try clear hcz18_1
     try clear hcz18_2
     try clear hcz18_3
     try clear hcz18_4
     try clear hcz18_5
     try clear hcz18_6
     try clear hcz9_0
     try clear hcz9_1
     try clear hcz9_2
     try clear hcz9_3
     try clear hcz9_4
     try clear hcz9_5
     try clear hcz9_6
     try clear hfz10_0
     try clear hfz10_1
     try clear hfz10_2
     try clear hfz10_3
     try clear hfz10_4
     try clear hfz10_5
     try clear hfz10_6
     try clear hfz11_0
     try clear hfz11_1
     try clear hfz11_2
     try clear hfz11_3
     try clear hfz11_4
     try clear hfz11_5
     try clear hfz11_6
     try clear hfz17_0
     try clear hfz17_1
     try clear hfz17_2
     try clear hfz17_3
     try clear hfz17_4
     try clear hfz17_5
     try clear hfz17_6
     try clear hfz18_0
     try clear hfz18_1
     try clear hfz18_2
     try clear hfz18_3
     try clear hfz18_4
     try clear hfz18_5
     try clear hfz18_6
     try clear hfz9_0
     try clear hfz9_1
     try clear hfz9_2
     try clear hfz9_3
     try clear hfz9_4
     try clear hfz9_5
     try clear hfz9_6
     try clear p2
     obtain ⟨kq, x28_12, rfl, HA, HJ12, BK256, HB⟩ := hcut
     cases kq with
     | zero => exact absurd HA.out (by simp [vendmeterref_MeterMay.j1])
     | succ kj12 =>
      have H := HA.out
      clear HA
      simp only [vendmeterref_MeterMay.j1] at H
      by_cases c19 : x28_12 = true
      ·
       subst c19
       have H1 : (some false) = some r := by rw [if_pos rfl] at H; exact H
       clear H
       have H := H1
       clear H1
       obtain rfl := Option.some.inj H
       go_wp2
       go_ret
       exact ⟨czeq, czbl1 HB GE256⟩
      ·
       replace c19 := Bool.eq_false_iff.mpr c19
       subst c19
       have H1 : (if a0_5 = 0 then ((vendmeterref_WindowMay.f kj12 a0_3 a0_4).bind fun t262 => (some t262)) else (if a0_6 = 0 then ((vendmeterref_WindowMay.f kj12 a0_3 a0_4).bind fun t263 => (some t263)) else (some false))) = some r := by rw [if_neg (show ¬ (false = true) by decide)] at H; exact H
       clear H
       have H := H1
       clear H1
       revert H
       refine czei (fun c20b0 c20b1 H => ?_) (fun c20 c20b0 c20b1 H => ?_)
       ·
        replace H := Option.bind_eq_some_iff.mp H
        obtain ⟨t262, A210, H⟩ := H
        (try dsimp only at H)
        have A21 := am A210
        clear A210
        obtain rfl := Option.some.inj H
        obtain ⟨hcz22_0, hcz22_1, hcz22_2, hcz22_3, hcz22_4, hcz22_5, hcz22_6⟩ := czc7 BK256.1
        go_wp2_with (first | ((with_reducible refine gate_callee (f := 85) rfl ?_); refine czgo (some 39) Tryz.func85 #[.agg #[.int .i64 a0_3, .int .u64 a0_4]] ?_; (with_reducible refine (vendmeterref_WindowMay.calls kj12 a0_3 a0_4 t262 _ A21.out).mono ?_); rintro e w23 ⟨rfl, hb⟩; refine ⟨_, rfl, ?_⟩; replace BK256 := czbb BK256 hb; replace HB := am (below_step (czbl1 HB GE256) hb); (try clear hb hb2 hk hi)))
        go_ret
        exact ⟨czeq, czbl1 HB GE256⟩
       ·
        revert H
        refine czei (fun c24b0 c24b1 H => ?_) (fun c24 c24b0 c24b1 H => ?_)
        ·
         replace H := Option.bind_eq_some_iff.mp H
         obtain ⟨t263, A250, H⟩ := H
         (try dsimp only at H)
         have A25 := am A250
         clear A250
         obtain rfl := Option.some.inj H
         obtain ⟨hcz26_0, hcz26_1, hcz26_2, hcz26_3, hcz26_4, hcz26_5, hcz26_6⟩ := czc7 BK256.1
         go_wp2_with (first | ((with_reducible refine gate_callee (f := 85) rfl ?_); refine czgo (some 39) Tryz.func85 #[.agg #[.int .i64 a0_3, .int .u64 a0_4]] ?_; (with_reducible refine (vendmeterref_WindowMay.calls kj12 a0_3 a0_4 t263 _ A25.out).mono ?_); rintro e w27 ⟨rfl, hb⟩; refine ⟨_, rfl, ?_⟩; replace BK256 := czbb BK256 hb; replace HB := am (below_step (czbl1 HB GE256) hb); (try clear hb hb2 hk hi)))
         go_ret
         exact ⟨czeq, czbl1 HB GE256⟩
        ·
         obtain rfl := Option.some.inj H
         obtain ⟨hcz28_0, hcz28_1, hcz28_2, hcz28_3, hcz28_4, hcz28_5, hcz28_6⟩ := czc7 BK256.1
         go_wp2
         go_ret
         exact ⟨czeq, czbl1 HB GE256⟩

end Go.Proofs.YtcllddkmcnfejaaGreatDoor.PPocketKeys
