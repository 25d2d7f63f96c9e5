-- written by this session's program wip/xp/xprint.py (it drives the kit's print and adds to it)
import Derived.Test.YtocolmpfpbclbaaGreatDoorPReceiptShowsx0
import Derived.Test.YtocolmpfpbclbaaGreatDoorPReceiptShowsx6
namespace Go.Proofs.YtocolmpfpbclbaaGreatDoor.PReceiptShows
open Go.RowKit Go.Proofs.YtocolmpfpbclbaaGreatDoorW.PrintWords Go.Proofs.YtocolmpfpbclbaaGreatDoorW.PrintLast Go.Proofs.YtocolmpfpbclbaaGreatDoorW.PrintMore
attribute [local go_sem] max2_int min2_int max_two min_two max_three min_three max_four min_four
set_option linter.unusedVariables false
set_option linter.unusedSimpArgs false
set_option maxHeartbeats 8000000
set_option maxRecDepth 100000

/-! ### vendmeterbig_sub: function 139 -/
def vendmeterbig_sub.l0 : Nat → List Int → List Int → List Int → Int → Int → Option (List Int)
 | 0, _, _, _, _, _ => none
 | k + 1, x0, x1, x5, x6, x7 => if x7 < (x0.length : Int) then (if 0 ≤ x7 then (if x7 < (x1.length : Int) then (if x7 < (x5.length : Int) then (vendmeterbig_sub.l0 k x0 x1 (x5.set (x7 : Int).toNat ((IntKind.u64.wrap ((IntKind.u64.wrap ((IntKind.u64.wrap (rd x0 x7)) - x6)) - (IntKind.u64.wrap (rd x1 x7)))) % 4294967296)) ((IntKind.u64.wrap ((IntKind.u64.wrap ((IntKind.u64.wrap (rd x0 x7)) - x6)) - (IntKind.u64.wrap (rd x1 x7)))) / 9223372036854775808) (wrap64 (x7 + 1))) else (none)) else (if x7 < (x5.length : Int) then (vendmeterbig_sub.l0 k x0 x1 (x5.set (x7 : Int).toNat ((IntKind.u64.wrap ((IntKind.u64.wrap (rd x0 x7)) - x6)) % 4294967296)) ((IntKind.u64.wrap ((IntKind.u64.wrap (rd x0 x7)) - x6)) / 9223372036854775808) (wrap64 (x7 + 1))) else (none))) else (none)) else ((vendmeterbig_trim.f k x5).bind fun t150 => (some t150))
def vendmeterbig_sub.f (k : Nat) (l0 : List Int) (l1 : List Int) : Option (List Int) := if 0 ≤ (l0.length : Int) then (if ((l0.length : Int) : Int).toNat ≤ 70368744177664 then (vendmeterbig_sub.l0 k l0 l1 (List.replicate ((l0.length : Int) : Int).toNat 0) 0 0) else (none)) else (none)
theorem vendmeterbig_sub.mono_l : ∀ k, (∀ y0 y1 y2 y3 y4, LeO (vendmeterbig_sub.l0 k y0 y1 y2 y3 y4) (vendmeterbig_sub.l0 (k + 1) y0 y1 y2 y3 y4))
 | 0 => fun _ _ _ _ _ r h => by simp [vendmeterbig_sub.l0] at h
 | k + 1 => by
  have ih0 := vendmeterbig_sub.mono_l k
  ·
   intro y0 y1 y2 y3 y4
   unfold vendmeterbig_sub.l0
   repeat' first
   | (with_reducible exact ih0 _ _ _ _ _)
   | (with_reducible exact vendmeterbig_trim.mono _ _)
   | (with_reducible exact LeO.refl _)
   | (with_reducible exact LeO.none _)
   | (with_reducible refine LeO.ite ?_ ?_)
   | (with_reducible refine LeO.bind ?_ (fun _ => ?_))
theorem vendmeterbig_sub.mono : ∀ a0 a1 k, LeO (vendmeterbig_sub.f k a0 a1) (vendmeterbig_sub.f (k + 1) a0 a1) := by
 intro a0 a1 k
 have ih0 := vendmeterbig_sub.mono_l k
 unfold vendmeterbig_sub.f
 repeat' first
   | (with_reducible exact ih0 _ _ _ _ _)
   | (with_reducible exact vendmeterbig_trim.mono _ _)
   | (with_reducible exact LeO.refl _)
   | (with_reducible exact LeO.none _)
   | (with_reducible refine LeO.ite ?_ ?_)
   | (with_reducible refine LeO.bind ?_ (fun _ => ?_))
theorem vendmeterbig_sub.calls (k : Nat) (A0 : Option Addr) (c0 : Nat) (l0 : List Int) (A1 : Option Addr) (c1 : Nat) (l1 : List Int) (r : List Int) (w : World) (hr0 : Kd.C (Kd.int .u32) w A0 l0.length l0) (hc0 : l0.length ≤ c0) (hr1 : Kd.C (Kd.int .u32) w A1 l1.length l1) (hc1 : l1.length ≤ c1) (h : vendmeterbig_sub.f k l0 l1 = some r) :
  Calls Tryz.prog 139 #[.slice A0 l0.length c0, .slice A1 l1.length c1] w fun e w' => ∃ v0_ : Value, e = .returned (v0_) ∧ Kd.R (Kd.int .u32) 84 w' w.heap.size (fun _ => True) v0_ r ∧ Below w.heap.size w w' := by
 have HR0 := am hr0
 have HC0 := am hc0
 clear hr0 hc0
 have HR1 := am hr1
 have HC1 := am hc1
 clear hr1 hc1
 have HB := am (Below.refl w.heap.size w)
 have H : (if 0 ≤ (l0.length : Int) then (if ((l0.length : Int) : Int).toNat ≤ 70368744177664 then (vendmeterbig_sub.l0 k l0 l1 (List.replicate ((l0.length : Int) : Int).toNat 0) 0 0) else (none)) else (none)) = some r := h
 clear h
 by_cases c3 : 0 ≤ (l0.length : Int)
 ·
  rw [if_pos c3] at H
  have c3b0 := eq_true c3
  have c3b1 : decide (0 ≤ (l0.length : Int)) = true := decide_eq_true c3
  clear c3
  by_cases c4 : ((l0.length : Int) : Int).toNat ≤ 70368744177664
  ·
   rw [if_pos c4] at H
   have c4b0 := eq_true c4
   have c4b1 : decide (((l0.length : Int) : Int).toNat ≤ 70368744177664) = true := decide_eq_true c4
   clear c4
   obtain ⟨y143, hy143⟩ : ∃ y_ : List Int, y_ = (List.replicate ((l0.length : Int) : Int).toNat 0) := ⟨_, rfl⟩
   replace H : (vendmeterbig_sub.l0 k l0 l1 y143 0 0) = some r := by first | (rw [hy143]; with_reducible exact H) | (have H2_ := (Option.bind_some _ _).symm.trans H; rw [hy143]; with_reducible exact H2_) | (have H2_ := (Option.bind_some _ _).symm.trans H; with_reducible exact H2_) | with_reducible exact H | (rw [hy143]; exact H) | exact H
   have Ny143 := am hy143
   clear hy143
   have H' := am H
   clear H
   go_enter Tryz.func139, Tryz.ntmps139
   go_wp2_with (first | ((with_reducible refine gate_dst (N := 11) rfl ?_); refine Kd.R_make (Kd.int .u32) _ 84 rfl (N := 11) rfl 102 _ _ rfl (l0.length : Int) rfl rfl Tryz.underlying102 (.int .u32 0) 4 info84 rfl (by decide) (by omega) 0 (ok := fun _ => True) (okp := fun _ => True) rfl (fun _ hk => hk) trivial (czd) (Nat.le_trans (Nat.mul_le_mul_right _ (czd : (l0.length : Int).toNat ≤ 70368744177664)) (by omega)) (Below.refl _ _) (Nat.le_refl _) ?_; intro v144 w5 ho6 hb hg_ hnew_; clear hg_ hnew_; (first | rw [← Ny143.out] at ho6 | (simp only [Int.reduceToNat] at ho6; rw [← Ny143.out] at ho6)); have HO145 := am (Kd.R_lower ho6 (below_size (czbl HB))); replace HB := am (below_step (czbl HB) hb); clear hb ho6))
   go_loopg [6, 7] k (fun kq v6 v7 w' => ∃ (x5_1 : List Int) (x6_1 : Int) (x7_1 : Int), v6 = .int .u64 x6_1 ∧ v7 = .int .i64 x7_1 ∧ Aside0 (vendmeterbig_sub.l0 kq l0 l1 x5_1 x6_1 x7_1 = some r) ∧ Aside0 (kq ≤ k) ∧ Aside0 (Kd.R (Kd.int .u32) 84 w' w.heap.size (fun _ => True) v144 x5_1) ∧ Aside0 (Below w.heap.size w w'))
   case atStart => exact ⟨(y143), (0), (0), czr, czr, H', ⟨Nat.le_refl _⟩, ⟨czR HO145⟩, ⟨czbl HB⟩⟩
   case round =>
    clear H'
    try clear c1
    try clear p2
    try clear c3
    try clear c3b0
    try clear c3b1
    try clear c4
    try clear c4b0
    try clear c4b1
    obtain ⟨x5_1, x6_1, x7_1, rfl, rfl, HA, HK1, HO_5, HB⟩ := hrel
    cases gk with
    | zero => exact absurd HA.out (by simp [vendmeterbig_sub.l0])
    | succ k1 =>
     have H := HA.out
     clear HA
     simp only [vendmeterbig_sub.l0] at H
     revert H
     refine czif (fun c7b0 H => ?_) (fun c7b0 H => ?_)
     ·
      by_cases c8 : 0 ≤ x7_1
      ·
       rw [if_pos c8] at H
       have c8b0 : decide (0 ≤ x7_1) = true := decide_eq_true c8
       clear c8
       revert H
       refine czif (fun c9b0 H => ?_) (fun c9b0 H => ?_)
       ·
        by_cases c10 : x7_1 < (x5_1.length : Int)
        ·
         rw [if_pos c10] at H
         have c10b0 : decide (x7_1 < (x5_1.length : Int)) = true := decide_eq_true c10
         clear c10
         obtain ⟨y148, hy148⟩ : ∃ y_ : List Int, y_ = (x5_1.set (x7_1 : Int).toNat ((IntKind.u64.wrap ((IntKind.u64.wrap ((IntKind.u64.wrap (rd l0 x7_1)) - x6_1)) - (IntKind.u64.wrap (rd l1 x7_1)))) % 4294967296)) := ⟨_, rfl⟩
         replace H : (vendmeterbig_sub.l0 k1 l0 l1 y148 ((IntKind.u64.wrap ((IntKind.u64.wrap ((IntKind.u64.wrap (rd l0 x7_1)) - x6_1)) - (IntKind.u64.wrap (rd l1 x7_1)))) / 9223372036854775808) (wrap64 (x7_1 + 1))) = some r := by first | (rw [hy148]; with_reducible exact H) | (have H2_ := (Option.bind_some _ _).symm.trans H; rw [hy148]; with_reducible exact H2_) | (have H2_ := (Option.bind_some _ _).symm.trans H; with_reducible exact H2_) | with_reducible exact H | (rw [hy148]; exact H) | exact H
         have Ny148 := am hy148
         clear hy148
         have H' := am H
         clear H
         have p146 : 0 ≤ (x7_1 : Int) := czd
         have q146 : x7_1 < (l0.length : Int) := czd
         obtain ⟨ad146, e146, hx146_0⟩ := Kd.at_int HR0.out x7_1 p146 q146
         cases e146
         replace hx146_0 := (HB.1.cell (World.block_lt_of_cell? w _ hx146_0)).trans hx146_0
         replace p146 := eq_true p146
         replace q146 := eq_true q146
         have p147 : 0 ≤ (x7_1 : Int) := czd
         have q147 : x7_1 < (l1.length : Int) := czd
         obtain ⟨ad147, e147, hx147_0⟩ := Kd.at_int HR1.out x7_1 p147 q147
         cases e147
         replace hx147_0 := (HB.1.cell (World.block_lt_of_cell? w _ hx147_0)).trans hx147_0
         replace p147 := eq_true p147
         replace q147 := eq_true q147
         have p11 : 0 ≤ (x7_1 : Int) := czd
         have q11 : (x7_1 : Int) < ((x5_1.length : Int) : Int) := czd
         obtain ⟨go11, co11, eo11, gb11, gl11, cl11, HG11⟩ := Kd.R_form HO_5.out (by omega)
         (first | cases eo11 | (injection eo11 with ea_ en_ ec_; (first | subst ea_ | (injection ea_ with ea_; subst ea_)); subst ec_; clear en_))
         have GB11 := am gb11
         have GG11 := am HG11
         clear gb11 gl11 HG11
         obtain ⟨hx11_0, hf11_0⟩ := Kd.R_celln 0 HO_5.out (x7_1 : Int) p11 q11
         replace p11 := eq_true p11
         replace q11 := eq_true q11
         have HP12 := Kd.R_putg HO_5.out (x7_1 : Int) ((IntKind.u64.wrap ((IntKind.u64.wrap ((IntKind.u64.wrap (rd l0 x7_1)) - x6_1)) - (IntKind.u64.wrap (rd l1 x7_1)))) % 4294967296)
         go_wp2_with (first | ((with_reducible refine gate_store (t := 84) (p := 40) rfl ?_); refine store_event (t := 84) (p := 40) (v := ?vo_w13) (w1 := (wr.setCell ⟨go11, (x7_1 : Int).toNat, none⟩ (.int .u32 ((IntKind.u64.wrap ((IntKind.u64.wrap ((IntKind.u64.wrap (rd l0 x7_1)) - x6_1)) - (IntKind.u64.wrap (rd l1 x7_1)))) % 4294967296)))) ?hg ?ho ?hn ?hr ?_; (case ho => rfl); (case hg => rfl); (case hn => rfl); (case hr => first | (go_simp; done) | (go_simp; rfl)); intro w13 hw; have hg : wr.grownBy w13 (some go11) := (by rw [hw]; exact HP12.2); have hp_ : Kd.R (Kd.int .u32) 84 w13 w.heap.size (fun _ => True) (.slice (some ⟨go11, 0, none⟩) x5_1.length co11) y148 := (by rw [hw, Ny148.out]; exact HP12.1); clear HP12; replace HO_5 := am (hp_); replace HB := am ((by rw [hw]; exact below_set (HB.1) GB11.out : Below w.heap.size w w13)); clear hg hw hp_))
         go_roundg k1
         case measure => have := HK1.out; omega
         case rel => exact ⟨(y148), ((IntKind.u64.wrap ((IntKind.u64.wrap ((IntKind.u64.wrap (rd l0 x7_1)) - x6_1)) - (IntKind.u64.wrap (rd l1 x7_1)))) / 9223372036854775808), (wrap64 (x7_1 + 1)), czr, czr, H', ⟨by have := HK1.out; omega⟩, ⟨czR HO_5⟩, ⟨czbl HB⟩⟩
        ·
         rw [if_neg c10] at H
         exact absurd H (by simp)
       ·
        by_cases c14 : x7_1 < (x5_1.length : Int)
        ·
         rw [if_pos c14] at H
         have c14b0 : decide (x7_1 < (x5_1.length : Int)) = true := decide_eq_true c14
         clear c14
         obtain ⟨y149, hy149⟩ : ∃ y_ : List Int, y_ = (x5_1.set (x7_1 : Int).toNat ((IntKind.u64.wrap ((IntKind.u64.wrap (rd l0 x7_1)) - x6_1)) % 4294967296)) := ⟨_, rfl⟩
         replace H : (vendmeterbig_sub.l0 k1 l0 l1 y149 ((IntKind.u64.wrap ((IntKind.u64.wrap (rd l0 x7_1)) - x6_1)) / 9223372036854775808) (wrap64 (x7_1 + 1))) = some r := by first | (rw [hy149]; with_reducible exact H) | (have H2_ := (Option.bind_some _ _).symm.trans H; rw [hy149]; with_reducible exact H2_) | (have H2_ := (Option.bind_some _ _).symm.trans H; with_reducible exact H2_) | with_reducible exact H | (rw [hy149]; exact H) | exact H
         have Ny149 := am hy149
         clear hy149
         have H' := am H
         clear H
         have p146 : 0 ≤ (x7_1 : Int) := czd
         have q146 : x7_1 < (l0.length : Int) := czd
         obtain ⟨ad146, e146, hx146_0⟩ := Kd.at_int HR0.out x7_1 p146 q146
         cases e146
         replace hx146_0 := (HB.1.cell (World.block_lt_of_cell? w _ hx146_0)).trans hx146_0
         replace p146 := eq_true p146
         replace q146 := eq_true q146
         have p15 : 0 ≤ (x7_1 : Int) := czd
         have q15 : (x7_1 : Int) < ((x5_1.length : Int) : Int) := czd
         obtain ⟨go15, co15, eo15, gb15, gl15, cl15, HG15⟩ := Kd.R_form HO_5.out (by omega)
         (first | cases eo15 | (injection eo15 with ea_ en_ ec_; (first | subst ea_ | (injection ea_ with ea_; subst ea_)); subst ec_; clear en_))
         have GB15 := am gb15
         have GG15 := am HG15
         clear gb15 gl15 HG15
         obtain ⟨hx15_0, hf15_0⟩ := Kd.R_celln 0 HO_5.out (x7_1 : Int) p15 q15
         replace p15 := eq_true p15
         replace q15 := eq_true q15
         have HP16 := Kd.R_putg HO_5.out (x7_1 : Int) ((IntKind.u64.wrap ((IntKind.u64.wrap (rd l0 x7_1)) - x6_1)) % 4294967296)
         go_wp2_with (first | ((with_reducible refine gate_store (t := 84) (p := 40) rfl ?_); refine store_event (t := 84) (p := 40) (v := ?vo_w17) (w1 := (wr.setCell ⟨go15, (x7_1 : Int).toNat, none⟩ (.int .u32 ((IntKind.u64.wrap ((IntKind.u64.wrap (rd l0 x7_1)) - x6_1)) % 4294967296)))) ?hg ?ho ?hn ?hr ?_; (case ho => rfl); (case hg => rfl); (case hn => rfl); (case hr => first | (go_simp; done) | (go_simp; rfl)); intro w17 hw; have hg : wr.grownBy w17 (some go15) := (by rw [hw]; exact HP16.2); have hp_ : Kd.R (Kd.int .u32) 84 w17 w.heap.size (fun _ => True) (.slice (some ⟨go15, 0, none⟩) x5_1.length co15) y149 := (by rw [hw, Ny149.out]; exact HP16.1); clear HP16; replace HO_5 := am (hp_); replace HB := am ((by rw [hw]; exact below_set (HB.1) GB15.out : Below w.heap.size w w17)); clear hg hw hp_))
         go_roundg k1
         case measure => have := HK1.out; omega
         case rel => exact ⟨(y149), ((IntKind.u64.wrap ((IntKind.u64.wrap (rd l0 x7_1)) - x6_1)) / 9223372036854775808), (wrap64 (x7_1 + 1)), czr, czr, H', ⟨by have := HK1.out; omega⟩, ⟨czR HO_5⟩, ⟨czbl HB⟩⟩
        ·
         rw [if_neg c14] at H
         exact absurd H (by simp)
      ·
       rw [if_neg c8] at H
       exact absurd H (by simp)
     ·
      replace H := Option.bind_eq_some_iff.mp H
      obtain ⟨t150, A180, H⟩ := H
      (try dsimp only at H)
      have A18 := am A180
      clear A180
      obtain rfl := Option.some.inj H
      obtain ⟨Ao19, co19, eo19⟩ := Kd.R_slice HO_5.out
      subst eo19
      go_wp2_with (first | ((with_reducible refine gate_callee (f := 135) rfl ?_); refine czgo (some 44) Tryz.func135 #[.slice Ao19 x5_1.length co19] ?_; (with_reducible refine (vendmeterbig_trim.calls k1 (fun k_ => some k_ = (.slice Ao19 x5_1.length co19 : Value).ownBlock) (.slice Ao19 x5_1.length co19) x5_1 t150 w _ ?side1 ?side2 A18.out).mono ?_); (case side1 => repeat (first | (with_reducible first | exact HB.1 | apply below_alloc | apply pw_below_drewN | apply below_drew1) | exact HB.1)); (case side2 => exact Kd.R_tight rfl HO_5.out); rintro e w20 ⟨v151, rfl, ho0, hb, hkp⟩; refine ⟨_, rfl, ?_⟩; have HO152 := am (Kd.R_mono (ok' := fun k_ => True) ho0 (fun k_ hk_ => trivial)); replace HB := am (hb); clear HO_5; (try clear hb hkp ho0)))
      go_ret
      exact ⟨_, czeq, czR HO152, czbl HB⟩
  ·
   rw [if_neg c4] at H
   exact absurd H (by simp)
 ·
  rw [if_neg c3] at H
  exact absurd H (by simp)

-- NOT PRINTED: function 105 (vendmeterbig_sum)

-- NOT PRINTED: function 67 (vendmeterbig_Int_Add)

/-! ### vendmeterbig_length: function 106 -/
def vendmeterbig_length.l0 : Nat → List Int → Int → Int → Option (Int)
 | 0, _, _, _ => none
 | k + 1, x0, x3, x4 => if x4 = 0 then (some (wrap64 ((wrap64 ((wrap64 ((x0.length : Int) - 1)) * 32)) + x3))) else (vendmeterbig_length.l0 k x0 (wrap64 (x3 + 1)) (x4 / 2))
def vendmeterbig_length.f (k : Nat) (l0 : List Int) : Option (Int) := if (l0.length : Int) = 0 then (some 0) else (if 0 ≤ (wrap64 ((l0.length : Int) - 1)) then (if (wrap64 ((l0.length : Int) - 1)) < (l0.length : Int) then (vendmeterbig_length.l0 k l0 0 (rd l0 (wrap64 ((l0.length : Int) - 1)))) else (none)) else (none))
theorem vendmeterbig_length.mono_l : ∀ k, (∀ y0 y1 y2, LeO (vendmeterbig_length.l0 k y0 y1 y2) (vendmeterbig_length.l0 (k + 1) y0 y1 y2))
 | 0 => fun _ _ _ r h => by simp [vendmeterbig_length.l0] at h
 | k + 1 => by
  have ih0 := vendmeterbig_length.mono_l k
  ·
   intro y0 y1 y2
   unfold vendmeterbig_length.l0
   repeat' first
   | (with_reducible exact ih0 _ _ _)
   | (with_reducible exact LeO.refl _)
   | (with_reducible exact LeO.none _)
   | (with_reducible refine LeO.ite ?_ ?_)
   | (with_reducible refine LeO.bind ?_ (fun _ => ?_))
theorem vendmeterbig_length.mono : ∀ a0 k, LeO (vendmeterbig_length.f k a0) (vendmeterbig_length.f (k + 1) a0) := by
 intro a0 k
 have ih0 := vendmeterbig_length.mono_l k
 unfold vendmeterbig_length.f
 repeat' first
   | (with_reducible exact ih0 _ _ _)
   | (with_reducible exact LeO.refl _)
   | (with_reducible exact LeO.none _)
   | (with_reducible refine LeO.ite ?_ ?_)
   | (with_reducible refine LeO.bind ?_ (fun _ => ?_))
theorem vendmeterbig_length.calls (k : Nat) (A0 : Option Addr) (c0 : Nat) (l0 : List Int) (r : Int) (w : World) (hr0 : Kd.C (Kd.int .u32) w A0 l0.length l0) (hc0 : l0.length ≤ c0) (h : vendmeterbig_length.f k l0 = some r) :
  Calls Tryz.prog 106 #[.slice A0 l0.length c0] w fun e w' => e = .returned (.int .i64 r) ∧ Drawn0 w w' := by
 have HR0 := am hr0
 have HC0 := am hc0
 clear hr0 hc0
 have H : (if (l0.length : Int) = 0 then (some 0) else (if 0 ≤ (wrap64 ((l0.length : Int) - 1)) then (if (wrap64 ((l0.length : Int) - 1)) < (l0.length : Int) then (vendmeterbig_length.l0 k l0 0 (rd l0 (wrap64 ((l0.length : Int) - 1)))) else (none)) else (none))) = some r := h
 clear h
 revert H
 refine czei (fun c2b0 c2b1 H => ?_) (fun c2 c2b0 c2b1 H => ?_)
 ·
  obtain rfl := Option.some.inj H
  go_enter Tryz.func106, Tryz.ntmps106
  go_wp2
  go_ret
  exact ⟨by first | rfl | (simp; done) | (simp [*]; done), by repeat (first | exact Drawn0.refl _ | apply Drawn0.step)⟩
 ·
  have c2b2 : ¬ (l0 = []) := fun h_ => c2 (by rw [h_]; rfl)
  obtain ⟨ji3, hji3⟩ : ∃ j_ : Int, (wrap64 ((l0.length : Int) - 1)) = j_ := ⟨_, rfl⟩
  replace H : (if 0 ≤ (ji3) then (if (ji3) < (l0.length : Int) then (vendmeterbig_length.l0 k l0 0 (rd l0 (ji3))) else (none)) else (none)) = some r := by first | (rw [hji3] at H; exact H) | (simp only [hji3] at H ⊢; exact H)
  have hji3w : (IntKind.i64.wrap ((l0.length : Int) - 1)) = ji3 := (i64_w _).trans hji3
  by_cases c4 : 0 ≤ (ji3)
  ·
   rw [if_pos c4] at H
   have c4b0 : decide (0 ≤ (ji3)) = true := decide_eq_true c4
   clear c4
   by_cases c5 : (ji3) < (l0.length : Int)
   ·
    rw [if_pos c5] at H
    have c5b0 : decide ((ji3) < (l0.length : Int)) = true := decide_eq_true c5
    clear c5
    have H' := am H
    clear H
    have p153 : 0 ≤ ((ji3) : Int) := czd
    have q153 : (ji3) < (l0.length : Int) := czd
    obtain ⟨ad153, e153, hx153_0⟩ := Kd.at_int HR0.out (ji3) p153 q153
    cases e153
    replace p153 := eq_true p153
    replace q153 := eq_true q153
    go_enter Tryz.func106, Tryz.ntmps106
    go_wp2
    go_loopg [3, 4] k (fun kq v3 v4 w' => ∃ (x3_1 : Int) (x4_1 : Int), v3 = .int .i64 x3_1 ∧ v4 = .int .u32 x4_1 ∧ Aside0 (vendmeterbig_length.l0 kq l0 x3_1 x4_1 = some r) ∧ Aside0 (kq ≤ k) ∧ Drawn0 w w')
    case atStart => exact ⟨(0), (rd l0 (ji3)), czr, (by first | rfl | (simp; done) | (simp only [← hji3] <;> (first | rfl | simp)) | (simp [*]; done)), H', ⟨Nat.le_refl _⟩, by repeat (first | exact Drawn0.refl _ | apply Drawn0.step)⟩
    case round =>
     clear H'
     try clear c1
     try clear p1
     try clear q1
     try clear hx1
     try clear c2
     try clear c2b0
     try clear c2b1
     try clear c2b2
     try clear p2
     try clear c4
     try clear c4b0
     try clear c5
     try clear c5b0
     try clear hx153_0
     try clear p153
     try clear q153
     obtain ⟨x3_1, x4_1, rfl, rfl, HA, HK1, ⟨m1, rfl⟩⟩ := hrel
     cases gk with
     | zero => exact absurd HA.out (by simp [vendmeterbig_length.l0])
     | succ k1 =>
      have H := HA.out
      clear HA
      simp only [vendmeterbig_length.l0] at H
      revert H
      refine czei (fun c6b0 c6b1 H => ?_) (fun c6 c6b0 c6b1 H => ?_)
      ·
       obtain rfl := Option.some.inj H
       go_wp2
       go_ret
       exact ⟨by first | rfl | (simp; done) | (simp only [← hji3] <;> (first | rfl | simp)) | (simp [*]; done), by repeat (first | exact Drawn0.refl _ | apply Drawn0.step)⟩
      ·
       have H' := am H
       clear H
       go_wp2
       go_roundg k1
       case measure => have := HK1.out; omega
       case rel => exact ⟨(wrap64 (x3_1 + 1)), (x4_1 / 2), czr, czr, H', ⟨by have := HK1.out; omega⟩, by repeat (first | exact Drawn0.refl _ | apply Drawn0.step)⟩
   ·
    rw [if_neg c5] at H
    exact absurd H (by simp)
  ·
   rw [if_neg c4] at H
   exact absurd H (by simp)

/-! ### BitLen stands in bw.B, bw.L -/

/-! ### vendmeterbig_twin: function 140 -/
def vendmeterbig_twin.f (l0 : List Int) : Option (List Int) := if ([] : List Int).length + l0.length < 35184372088832 then (some (([] : List Int) ++ l0)) else (none)
theorem vendmeterbig_twin.calls (A0 : Option Addr) (c0 : Nat) (l0 : List Int) (r : List Int) (w : World) (hr0 : Kd.C (Kd.int .u32) w A0 l0.length l0) (hc0 : l0.length ≤ c0) (h : vendmeterbig_twin.f l0 = some r) :
  Calls Tryz.prog 140 #[.slice A0 l0.length c0] w fun e w' => ∃ v0_ : Value, e = .returned (v0_) ∧ Kd.R (Kd.int .u32) 84 w' w.heap.size (fun _ => True) v0_ r ∧ Below w.heap.size w w' := by
 have HR0 := am hr0
 have HC0 := am hc0
 clear hr0 hc0
 have HB := am (Below.refl w.heap.size w)
 have H : (if ([] : List Int).length + l0.length < 35184372088832 then (some (([] : List Int) ++ l0)) else (none)) = some r := h
 clear h
 by_cases c2 : ([] : List Int).length + l0.length < 35184372088832
 ·
  rw [if_pos c2] at H
  have LMc2 := am c2
  clear c2
  obtain ⟨y154, hy154⟩ : ∃ y_ : List Int, y_ = (([] : List Int) ++ l0) := ⟨_, rfl⟩
  replace H : (some y154) = some r := by first | (rw [hy154]; with_reducible exact H) | (have H2_ := (Option.bind_some _ _).symm.trans H; rw [hy154]; with_reducible exact H2_) | (have H2_ := (Option.bind_some _ _).symm.trans H; with_reducible exact H2_) | with_reducible exact H | (rw [hy154]; exact H) | exact H
  have Ny154 := am hy154
  clear hy154
  obtain rfl := Option.some.inj H
  go_enter Tryz.func140, Tryz.ntmps140
  go_wp2_with (first | ((with_reducible refine gate_builtin (b := .append) (xs := #[.const (.slice none 0 0), .tmp 3]) rfl ?_); at_builtin; refine Kd.R_append_rows (Kd.int .u32) (w0 := w) w.heap.size rfl (.const (.slice none 0 0)) (.tmp 3) 102 84 (.int .u32 0) 4 rfl Tryz.underlying102 info84 rfl (by decide) (by omega) (.slice none 0 0) ([] : List Int) l0 _ _ _ (fun _ => True) (fun _ => False) rfl rfl ?aO ?aR (fun _ _ h => h) (fun _ h => h.elim) ?aF ?aB ?aS ?aL ?_; (case aR => repeat (first | exact HR0.out | (with_reducible refine Kd.C_alloc ?_ _) | (with_reducible refine Kd.C_drewN ?_ _) | (with_reducible refine Kd.C_drew ?_))); (case aB => exact (czbl HB)); (case aF => exact (fun _ _ => trivial)); (case aO => exact ((Kd.R_nil _ _ _ _ (fun _ => True)))); (case aS => exact (below_size (czbl HB))); (case aL => have := LMc2.out; omega); intro v155 w3 ho hb hg hat; rw [← Ny154.out] at ho; have HO156 := am (ho); replace HB := am (hb); clear ho hb hg hat))
  go_ret
  exact ⟨_, czeq, czR HO156, czbl HB⟩
 ·
  rw [if_neg c2] at H
  exact absurd H (by simp)

/-! ### vendmeterbig_plain: function 141 -/
def vendmeterbig_plain.f (l0 : List Int) : Option (Int) := if (l0.length : Int) > 0 then (if 0 < (l0.length : Int) then (if (l0.length : Int) > 1 then (if 1 < (l0.length : Int) then (some (Go.bits .or .u64 (IntKind.u64.wrap (rd l0 0)) (IntKind.u64.wrap ((IntKind.u64.wrap (rd l0 1)) * 4294967296)))) else (none)) else (some (IntKind.u64.wrap (rd l0 0)))) else (none)) else (if (l0.length : Int) > 1 then (if 1 < (l0.length : Int) then (some (Go.bits .or .u64 0 (IntKind.u64.wrap ((IntKind.u64.wrap (rd l0 1)) * 4294967296)))) else (none)) else (some 0))
theorem vendmeterbig_plain.calls (A0 : Option Addr) (c0 : Nat) (l0 : List Int) (r : Int) (w : World) (hr0 : Kd.C (Kd.int .u32) w A0 l0.length l0) (hc0 : l0.length ≤ c0) (h : vendmeterbig_plain.f l0 = some r) :
  Calls Tryz.prog 141 #[.slice A0 l0.length c0] w fun e w' => e = .returned (.int .u64 r) ∧ Drawn0 w w' := by
 have HR0 := am hr0
 have HC0 := am hc0
 clear hr0 hc0
 have H : (if (l0.length : Int) > 0 then (if 0 < (l0.length : Int) then (if (l0.length : Int) > 1 then (if 1 < (l0.length : Int) then (some (Go.bits .or .u64 (IntKind.u64.wrap (rd l0 0)) (IntKind.u64.wrap ((IntKind.u64.wrap (rd l0 1)) * 4294967296)))) else (none)) else (some (IntKind.u64.wrap (rd l0 0)))) else (none)) else (if (l0.length : Int) > 1 then (if 1 < (l0.length : Int) then (some (Go.bits .or .u64 0 (IntKind.u64.wrap ((IntKind.u64.wrap (rd l0 1)) * 4294967296)))) else (none)) else (some 0))) = some r := h
 clear h
 by_cases c2 : (l0.length : Int) > 0
 ·
  rw [if_pos c2] at H
  have c2b0 : decide (0 < (l0.length : Int)) = true := decide_eq_true c2
  have c2b1 : decide (0 < l0.length) = true := decide_eq_true (by omega)
  clear c2
  by_cases c3 : 0 < (l0.length : Int)
  ·
   rw [if_pos c3] at H
   have c3b0 : decide (0 < (l0.length : Int)) = true := decide_eq_true c3
   have c3b1 : decide (0 < l0.length) = true := decide_eq_true (by omega)
   clear c3
   by_cases c4 : (l0.length : Int) > 1
   ·
    rw [if_pos c4] at H
    have c4b0 : decide (1 < (l0.length : Int)) = true := decide_eq_true c4
    have c4b1 : decide (1 < l0.length) = true := decide_eq_true (by omega)
    clear c4
    by_cases c5 : 1 < (l0.length : Int)
    ·
     rw [if_pos c5] at H
     have c5b0 : decide (1 < (l0.length : Int)) = true := decide_eq_true c5
     have c5b1 : decide (1 < l0.length) = true := decide_eq_true (by omega)
     clear c5
     obtain rfl := Option.some.inj H
     have p157 : 0 ≤ (0 : Int) := (by omega)
     have q157 : 0 < (l0.length : Int) := czd
     obtain ⟨ad157, e157, hx157_0⟩ := Kd.at_int HR0.out 0 p157 q157
     cases e157
     have qi157 : (0 < l0.length) = True := eq_true (by omega)
     (try rw [show ((0 : Int)).toNat = 0 from rfl] at hx157_0)
     (try rw [Addr.add_zero'] at hx157_0)
     replace p157 := eq_true p157
     replace q157 := eq_true q157
     have p158 : 0 ≤ (1 : Int) := (by omega)
     have q158 : 1 < (l0.length : Int) := czd
     obtain ⟨ad158, e158, hx158_0⟩ := Kd.at_int HR0.out 1 p158 q158
     obtain rfl : ad157 = ad158 := (by injection e158)
     (try simp only [show (1 : Int).toNat = 1 from rfl, Nat.reduceMul, Nat.reduceEqDiff, Go.Addr.add, ↓reduceIte] at hx158_0)
     have qi158 : (1 < l0.length) = True := eq_true (by omega)
     (try rw [show ((1 : Int)).toNat = 1 from rfl] at hx158_0)
     replace p158 := eq_true p158
     replace q158 := eq_true q158
     go_enter Tryz.func141, Tryz.ntmps141
     go_wp2
     go_ret
     exact ⟨by first | rfl | (simp; done) | (simp [*]; done), by repeat (first | exact Drawn0.refl _ | apply Drawn0.step)⟩
    ·
     rw [if_neg c5] at H
     exact absurd H (by simp)
   ·
    rw [if_neg c4] at H
    have c4b0 : decide (1 < (l0.length : Int)) = false := decide_eq_false c4
    have c4b1 : decide (1 < l0.length) = false := decide_eq_false (by omega)
    clear c4
    obtain rfl := Option.some.inj H
    have p157 : 0 ≤ (0 : Int) := (by omega)
    have q157 : 0 < (l0.length : Int) := czd
    obtain ⟨ad157, e157, hx157_0⟩ := Kd.at_int HR0.out 0 p157 q157
    cases e157
    have qi157 : (0 < l0.length) = True := eq_true (by omega)
    (try rw [show ((0 : Int)).toNat = 0 from rfl] at hx157_0)
    (try rw [Addr.add_zero'] at hx157_0)
    replace p157 := eq_true p157
    replace q157 := eq_true q157
    go_enter Tryz.func141, Tryz.ntmps141
    go_wp2
    go_ret
    exact ⟨by first | rfl | (simp; done) | (simp [*]; done), by repeat (first | exact Drawn0.refl _ | apply Drawn0.step)⟩
  ·
   rw [if_neg c3] at H
   exact absurd H (by simp)
 ·
  rw [if_neg c2] at H
  have c2b0 : decide (0 < (l0.length : Int)) = false := decide_eq_false c2
  have c2b1 : decide (0 < l0.length) = false := decide_eq_false (by omega)
  clear c2
  by_cases c6 : (l0.length : Int) > 1
  ·
   rw [if_pos c6] at H
   have c6b0 : decide (1 < (l0.length : Int)) = true := decide_eq_true c6
   have c6b1 : decide (1 < l0.length) = true := decide_eq_true (by omega)
   clear c6
   by_cases c7 : 1 < (l0.length : Int)
   ·
    rw [if_pos c7] at H
    have c7b0 : decide (1 < (l0.length : Int)) = true := decide_eq_true c7
    have c7b1 : decide (1 < l0.length) = true := decide_eq_true (by omega)
    clear c7
    obtain rfl := Option.some.inj H
    have p159 : 0 ≤ (1 : Int) := (by omega)
    have q159 : 1 < (l0.length : Int) := czd
    obtain ⟨ad159, e159, hx159_0⟩ := Kd.at_int HR0.out 1 p159 q159
    cases e159
    (try simp only [show (1 : Int).toNat = 1 from rfl, Nat.reduceMul, Nat.reduceEqDiff, Go.Addr.add, ↓reduceIte] at hx159_0)
    have qi159 : (1 < l0.length) = True := eq_true (by omega)
    (try rw [show ((1 : Int)).toNat = 1 from rfl] at hx159_0)
    replace p159 := eq_true p159
    replace q159 := eq_true q159
    go_enter Tryz.func141, Tryz.ntmps141
    go_wp2
    go_ret
    exact ⟨by first | rfl | (simp; done) | (simp [*]; done), by repeat (first | exact Drawn0.refl _ | apply Drawn0.step)⟩
   ·
    rw [if_neg c7] at H
    exact absurd H (by simp)
  ·
   rw [if_neg c6] at H
   have c6b0 : decide (1 < (l0.length : Int)) = false := decide_eq_false c6
   have c6b1 : decide (1 < l0.length) = false := decide_eq_false (by omega)
   clear c6
   obtain rfl := Option.some.inj H
   go_enter Tryz.func141, Tryz.ntmps141
   go_wp2
   go_ret
   exact ⟨by first | rfl | (simp; done) | (simp [*]; done), by repeat (first | exact Drawn0.refl _ | apply Drawn0.step)⟩

/-! ### vendmeterbig_small: function 142 -/
def vendmeterbig_small.l0 : Nat → List Int → Int → List Int → Int → Int → Option (List Int × Int)
 | 0, _, _, _, _, _ => none
 | k + 1, x0, x1, x6, x7, x8 => if x8 ≥ 0 then (if 0 ≤ x8 then (if x8 < (x0.length : Int) then (if (IntKind.u64.wrap (x1)) = 0 then (none) else (if x8 < (x6.length : Int) then (vendmeterbig_small.l0 k x0 x1 (x6.set (x8 : Int).toNat ((IntKind.u64.wrap (Int.tdiv (Go.bits .or .u64 (IntKind.u64.wrap (x7 * 4294967296)) (IntKind.u64.wrap (rd x0 x8))) (IntKind.u64.wrap (x1)))) % 4294967296)) (Int.tmod (Go.bits .or .u64 (IntKind.u64.wrap (x7 * 4294967296)) (IntKind.u64.wrap (rd x0 x8))) (IntKind.u64.wrap (x1))) (wrap64 (x8 - 1))) else (none))) else (none)) else (none)) else ((vendmeterbig_trim.f k x6).bind fun t165 => (some (t165, (x7) % 4294967296)))
def vendmeterbig_small.f (k : Nat) (l0 : List Int) (a1 : Int) : Option (List Int × Int) := if 0 ≤ (l0.length : Int) then (if ((l0.length : Int) : Int).toNat ≤ 70368744177664 then (vendmeterbig_small.l0 k l0 a1 (List.replicate ((l0.length : Int) : Int).toNat 0) 0 (wrap64 ((l0.length : Int) - 1))) else (none)) else (none)
theorem vendmeterbig_small.mono_l : ∀ k, (∀ y0 y1 y2 y3 y4, LeO (vendmeterbig_small.l0 k y0 y1 y2 y3 y4) (vendmeterbig_small.l0 (k + 1) y0 y1 y2 y3 y4))
 | 0 => fun _ _ _ _ _ r h => by simp [vendmeterbig_small.l0] at h
 | k + 1 => by
  have ih0 := vendmeterbig_small.mono_l k
  ·
   intro y0 y1 y2 y3 y4
   unfold vendmeterbig_small.l0
   repeat' first
   | (with_reducible exact ih0 _ _ _ _ _)
   | (with_reducible exact vendmeterbig_trim.mono _ _)
   | (with_reducible exact LeO.refl _)
   | (with_reducible exact LeO.none _)
   | (with_reducible refine LeO.ite ?_ ?_)
   | (with_reducible refine LeO.bind ?_ (fun _ => ?_))
theorem vendmeterbig_small.mono : ∀ a0 a1 k, LeO (vendmeterbig_small.f k a0 a1) (vendmeterbig_small.f (k + 1) a0 a1) := by
 intro a0 a1 k
 have ih0 := vendmeterbig_small.mono_l k
 unfold vendmeterbig_small.f
 repeat' first
   | (with_reducible exact ih0 _ _ _ _ _)
   | (with_reducible exact vendmeterbig_trim.mono _ _)
   | (with_reducible exact LeO.refl _)
   | (with_reducible exact LeO.none _)
   | (with_reducible refine LeO.ite ?_ ?_)
   | (with_reducible refine LeO.bind ?_ (fun _ => ?_))
theorem vendmeterbig_small.calls (k : Nat) (A0 : Option Addr) (c0 : Nat) (l0 : List Int) (a1 : Int) (r1 : List Int) (r2 : Int) (w : World) (hr0 : Kd.C (Kd.int .u32) w A0 l0.length l0) (hc0 : l0.length ≤ c0) (h : vendmeterbig_small.f k l0 a1 = some (r1, r2)) :
  Calls Tryz.prog 142 #[.slice A0 l0.length c0, .int .u32 a1] w fun e w' => ∃ v0_ : Value, e = .returned (.tuple #[v0_, .int .u32 r2]) ∧ Kd.R (Kd.int .u32) 84 w' w.heap.size (fun _ => True) v0_ r1 ∧ Below w.heap.size w w' := by
 have HR0 := am hr0
 have HC0 := am hc0
 clear hr0 hc0
 have HB := am (Below.refl w.heap.size w)
 have H : (if 0 ≤ (l0.length : Int) then (if ((l0.length : Int) : Int).toNat ≤ 70368744177664 then (vendmeterbig_small.l0 k l0 a1 (List.replicate ((l0.length : Int) : Int).toNat 0) 0 (wrap64 ((l0.length : Int) - 1))) else (none)) else (none)) = some (r1, r2) := h
 clear h
 by_cases c3 : 0 ≤ (l0.length : Int)
 ·
  rw [if_pos c3] at H
  have c3b0 := eq_true c3
  have c3b1 : decide (0 ≤ (l0.length : Int)) = true := decide_eq_true c3
  clear c3
  by_cases c4 : ((l0.length : Int) : Int).toNat ≤ 70368744177664
  ·
   rw [if_pos c4] at H
   have c4b0 := eq_true c4
   have c4b1 : decide (((l0.length : Int) : Int).toNat ≤ 70368744177664) = true := decide_eq_true c4
   clear c4
   obtain ⟨y160, hy160⟩ : ∃ y_ : List Int, y_ = (List.replicate ((l0.length : Int) : Int).toNat 0) := ⟨_, rfl⟩
   replace H : (vendmeterbig_small.l0 k l0 a1 y160 0 (wrap64 ((l0.length : Int) - 1))) = some (r1, r2) := by first | (rw [hy160]; with_reducible exact H) | (have H2_ := (Option.bind_some _ _).symm.trans H; rw [hy160]; with_reducible exact H2_) | (have H2_ := (Option.bind_some _ _).symm.trans H; with_reducible exact H2_) | with_reducible exact H | (rw [hy160]; exact H) | exact H
   have Ny160 := am hy160
   clear hy160
   have H' := am H
   clear H
   go_enter Tryz.func142, Tryz.ntmps142
   go_wp2_with (first | ((with_reducible refine gate_dst (N := 11) rfl ?_); refine Kd.R_make (Kd.int .u32) _ 84 rfl (N := 11) rfl 102 _ _ rfl (l0.length : Int) rfl rfl Tryz.underlying102 (.int .u32 0) 4 info84 rfl (by decide) (by omega) 0 (ok := fun _ => True) (okp := fun _ => True) rfl (fun _ hk => hk) trivial (czd) (Nat.le_trans (Nat.mul_le_mul_right _ (czd : (l0.length : Int).toNat ≤ 70368744177664)) (by omega)) (Below.refl _ _) (Nat.le_refl _) ?_; intro v161 w5 ho6 hb hg_ hnew_; clear hg_ hnew_; (first | rw [← Ny160.out] at ho6 | (simp only [Int.reduceToNat] at ho6; rw [← Ny160.out] at ho6)); have HO162 := am (Kd.R_lower ho6 (below_size (czbl HB))); replace HB := am (below_step (czbl HB) hb); clear hb ho6))
   go_loopg [7, 8] k (fun kq v7 v8 w' => ∃ (x6_1 : List Int) (x7_1 : Int) (x8_1 : Int), v7 = .int .u64 x7_1 ∧ v8 = .int .i64 x8_1 ∧ Aside0 (vendmeterbig_small.l0 kq l0 a1 x6_1 x7_1 x8_1 = some (r1, r2)) ∧ Aside0 (kq ≤ k) ∧ Aside0 (Kd.R (Kd.int .u32) 84 w' w.heap.size (fun _ => True) v161 x6_1) ∧ Aside0 (Below w.heap.size w w'))
   case atStart => exact ⟨(y160), (0), (wrap64 ((l0.length : Int) - 1)), czr, czr, H', ⟨Nat.le_refl _⟩, ⟨czR HO162⟩, ⟨czbl HB⟩⟩
   case round =>
    clear H'
    try clear c1
    try clear p2
    try clear c3
    try clear c3b0
    try clear c3b1
    try clear c4
    try clear c4b0
    try clear c4b1
    try clear p6
    obtain ⟨x6_1, x7_1, x8_1, rfl, rfl, HA, HK1, HO_6, HB⟩ := hrel
    cases gk with
    | zero => exact absurd HA.out (by simp [vendmeterbig_small.l0])
    | succ k1 =>
     have H := HA.out
     clear HA
     simp only [vendmeterbig_small.l0] at H
     by_cases c7 : x8_1 ≥ 0
     ·
      rw [if_pos c7] at H
      have c7b0 : decide (0 ≤ x8_1) = true := decide_eq_true c7
      clear c7
      by_cases c8 : 0 ≤ x8_1
      ·
       rw [if_pos c8] at H
       have c8b0 : decide (0 ≤ x8_1) = true := decide_eq_true c8
       clear c8
       by_cases c9 : x8_1 < (l0.length : Int)
       ·
        rw [if_pos c9] at H
        have c9b0 : decide (x8_1 < (l0.length : Int)) = true := decide_eq_true c9
        clear c9
        by_cases c10 : (IntKind.u64.wrap (a1)) = 0
        ·
         rw [if_pos c10] at H
         exact absurd H (by simp)
        ·
         rw [if_neg c10] at H
         have c10b0 : ((IntKind.u64.wrap (a1)) == 0) = false := beq_eq_false_iff_ne.mpr c10
         have c10b1 : ((IntKind.u64.wrap (a1)) != 0) = true := bne_iff_ne.mpr c10
         by_cases c11 : x8_1 < (x6_1.length : Int)
         ·
          rw [if_pos c11] at H
          have c11b0 : decide (x8_1 < (x6_1.length : Int)) = true := decide_eq_true c11
          clear c11
          obtain ⟨y164, hy164⟩ : ∃ y_ : List Int, y_ = (x6_1.set (x8_1 : Int).toNat ((IntKind.u64.wrap (Int.tdiv (Go.bits .or .u64 (IntKind.u64.wrap (x7_1 * 4294967296)) (IntKind.u64.wrap (rd l0 x8_1))) (IntKind.u64.wrap (a1)))) % 4294967296)) := ⟨_, rfl⟩
          replace H : (vendmeterbig_small.l0 k1 l0 a1 y164 (Int.tmod (Go.bits .or .u64 (IntKind.u64.wrap (x7_1 * 4294967296)) (IntKind.u64.wrap (rd l0 x8_1))) (IntKind.u64.wrap (a1))) (wrap64 (x8_1 - 1))) = some (r1, r2) := by first | (rw [hy164]; with_reducible exact H) | (have H2_ := (Option.bind_some _ _).symm.trans H; rw [hy164]; with_reducible exact H2_) | (have H2_ := (Option.bind_some _ _).symm.trans H; with_reducible exact H2_) | with_reducible exact H | (rw [hy164]; exact H) | exact H
          have Ny164 := am hy164
          clear hy164
          have H' := am H
          clear H
          have p163 : 0 ≤ (x8_1 : Int) := czd
          have q163 : x8_1 < (l0.length : Int) := czd
          obtain ⟨ad163, e163, hx163_0⟩ := Kd.at_int HR0.out x8_1 p163 q163
          cases e163
          replace hx163_0 := (HB.1.cell (World.block_lt_of_cell? w _ hx163_0)).trans hx163_0
          replace p163 := eq_true p163
          replace q163 := eq_true q163
          have p12 : 0 ≤ (x8_1 : Int) := czd
          have q12 : (x8_1 : Int) < ((x6_1.length : Int) : Int) := czd
          obtain ⟨go12, co12, eo12, gb12, gl12, cl12, HG12⟩ := Kd.R_form HO_6.out (by omega)
          (first | cases eo12 | (injection eo12 with ea_ en_ ec_; (first | subst ea_ | (injection ea_ with ea_; subst ea_)); subst ec_; clear en_))
          have GB12 := am gb12
          have GG12 := am HG12
          clear gb12 gl12 HG12
          obtain ⟨hx12_0, hf12_0⟩ := Kd.R_celln 0 HO_6.out (x8_1 : Int) p12 q12
          replace p12 := eq_true p12
          replace q12 := eq_true q12
          have HP13 := Kd.R_putg HO_6.out (x8_1 : Int) ((IntKind.u64.wrap (Int.tdiv (Go.bits .or .u64 (IntKind.u64.wrap (x7_1 * 4294967296)) (IntKind.u64.wrap (rd l0 x8_1))) (IntKind.u64.wrap (a1)))) % 4294967296)
          go_wp2_with (first | ((with_reducible refine gate_store (t := 84) (p := 34) rfl ?_); refine store_event (t := 84) (p := 34) (v := ?vo_w14) (w1 := (wr.setCell ⟨go12, (x8_1 : Int).toNat, none⟩ (.int .u32 ((IntKind.u64.wrap (Int.tdiv (Go.bits .or .u64 (IntKind.u64.wrap (x7_1 * 4294967296)) (IntKind.u64.wrap (rd l0 x8_1))) (IntKind.u64.wrap (a1)))) % 4294967296)))) ?hg ?ho ?hn ?hr ?_; (case ho => rfl); (case hg => rfl); (case hn => rfl); (case hr => first | (go_simp; done) | (go_simp; rfl)); intro w14 hw; have hg : wr.grownBy w14 (some go12) := (by rw [hw]; exact HP13.2); have hp_ : Kd.R (Kd.int .u32) 84 w14 w.heap.size (fun _ => True) (.slice (some ⟨go12, 0, none⟩) x6_1.length co12) y164 := (by rw [hw, Ny164.out]; exact HP13.1); clear HP13; replace HO_6 := am (hp_); replace HB := am ((by rw [hw]; exact below_set (HB.1) GB12.out : Below w.heap.size w w14)); clear hg hw hp_))
          go_roundg k1
          case measure => have := HK1.out; omega
          case rel => exact ⟨(y164), (Int.tmod (Go.bits .or .u64 (IntKind.u64.wrap (x7_1 * 4294967296)) (IntKind.u64.wrap (rd l0 x8_1))) (IntKind.u64.wrap (a1))), (wrap64 (x8_1 - 1)), czr, czr, H', ⟨by have := HK1.out; omega⟩, ⟨czR HO_6⟩, ⟨czbl HB⟩⟩
         ·
          rw [if_neg c11] at H
          exact absurd H (by simp)
       ·
        rw [if_neg c9] at H
        exact absurd H (by simp)
      ·
       rw [if_neg c8] at H
       exact absurd H (by simp)
     ·
      rw [if_neg c7] at H
      have c7b0 : decide (0 ≤ x8_1) = false := decide_eq_false c7
      clear c7
      replace H := Option.bind_eq_some_iff.mp H
      obtain ⟨t165, A150, H⟩ := H
      (try dsimp only at H)
      have A15 := am A150
      clear A150
      simp only [Option.some.injEq, Prod.mk.injEq] at H
      obtain ⟨rfl, rfl⟩ := H
      obtain ⟨Ao16, co16, eo16⟩ := Kd.R_slice HO_6.out
      subst eo16
      go_wp2_with (first | ((with_reducible refine gate_callee (f := 135) rfl ?_); refine czgo (some 40) Tryz.func135 #[.slice Ao16 x6_1.length co16] ?_; (with_reducible refine (vendmeterbig_trim.calls k1 (fun k_ => some k_ = (.slice Ao16 x6_1.length co16 : Value).ownBlock) (.slice Ao16 x6_1.length co16) x6_1 t165 w _ ?side1 ?side2 A15.out).mono ?_); (case side1 => repeat (first | (with_reducible first | exact HB.1 | apply below_alloc | apply pw_below_drewN | apply below_drew1) | exact HB.1)); (case side2 => exact Kd.R_tight rfl HO_6.out); rintro e w17 ⟨v166, rfl, ho0, hb, hkp⟩; refine ⟨_, rfl, ?_⟩; have HO167 := am (Kd.R_mono (ok' := fun k_ => True) ho0 (fun k_ hk_ => trivial)); replace HB := am (hb); clear HO_6; (try clear hb hkp ho0)))
      go_ret2
      exact ⟨_, czeq, czR HO167, czbl HB⟩
  ·
   rw [if_neg c4] at H
   exact absurd H (by simp)
 ·
  rw [if_neg c3] at H
  exact absurd H (by simp)

/-! ### vendmeterbig_left stands in bw.A, bw.B -/

/-! ### vendmeterbig_right stands in bw.A, bw.B -/

-- NOT PRINTED: function 107 (vendmeterbig_div)

-- NOT PRINTED: function 69 (vendmeterbig_Int_QuoRem)

-- NOT PRINTED: function 70 (vendmeterbig_Int_Sign)

/-! ### Uint64 stands in bw.B, bw.L -/

-- NOT PRINTED: function 71 (vendmeterbig_Int_Int64)

end Go.Proofs.YtocolmpfpbclbaaGreatDoor.PReceiptShows
