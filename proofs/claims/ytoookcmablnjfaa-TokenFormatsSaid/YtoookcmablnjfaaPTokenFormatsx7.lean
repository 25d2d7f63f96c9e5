-- written by this session's program wip/xp/xprint.py (it drives the kit's print and adds to it)
import Derived.Test.YtoookcmablnjfaaPTokenFormatsx0
import Derived.Test.YtoookcmablnjfaaPTokenFormatsx5
import Derived.Test.YtoookcmablnjfaaPTokenFormatsx6
namespace Go.Proofs.Ytoookcmablnjfaa.PTokenFormats
open Go.RowKit Go.Proofs.YtoookcmablnjfaaW.PrintWords Go.Proofs.YtoookcmablnjfaaW.PrintLast Go.Proofs.YtoookcmablnjfaaW.PrintMore
attribute [local go_sem] max2_int min2_int max_two min_two max_three min_three max_four min_four   -- for this text's walks alone
set_option linter.unusedVariables false
set_option linter.unusedSimpArgs false

/-! ### vendmeterbig_sub: function 103 -/
theorem xa103 {w : World} {g : Nat} {o : Obj} (h : w.heap[g]? = some o) (o' : Obj) : (w.alloc o').heap[g]? = some o := blk_alloc h o'
theorem xd103 {w : World} {g : Nat} {o : Obj} (h : w.heap[g]? = some o) : w.drew.heap[g]? = some o := blk_drew h
theorem xn103 {w : World} {g : Nat} {o : Obj} (h : w.heap[g]? = some o) (n : Nat) : (w.drewN n).heap[g]? = some o := blk_drewN h n
theorem ya103 {w W : World} (h : Below w.heap.size w W) (o : Obj) : Below w.heap.size w (W.alloc o) := below_alloc h o
theorem yn103 {B : Nat} {w W : World} (h : Below B w W) (n : Nat) : Below B w (W.drewN n) := pw_below_drewN h n
theorem yd103 {B : Nat} {w W : World} (h : Below B w W) : Below B w W.drew := below_drew1 h
def vendmeterbig_sub.l0 : Nat → List Int → List Int → List Int → Int → Int → Option (List Int)
  | 0, _, _, _, _, _ => none
  | k + 1, x0, x1, x5, x6, x7 => if x7 < (x0.length : Int) then (if 0 ≤ x7 then (if x7 < (x1.length : Int) then (if x7 < (x5.length : Int) then (vendmeterbig_sub.l0 k x0 x1 (x5.set (x7 : Int).toNat ((IntKind.u64.wrap ((IntKind.u64.wrap ((IntKind.u64.wrap (rd x0 x7)) - x6)) - (IntKind.u64.wrap (rd x1 x7)))) % 4294967296)) ((IntKind.u64.wrap ((IntKind.u64.wrap ((IntKind.u64.wrap (rd x0 x7)) - x6)) - (IntKind.u64.wrap (rd x1 x7)))) / 9223372036854775808) (wrap64 (x7 + 1))) else (none)) else (if x7 < (x5.length : Int) then (vendmeterbig_sub.l0 k x0 x1 (x5.set (x7 : Int).toNat ((IntKind.u64.wrap ((IntKind.u64.wrap (rd x0 x7)) - x6)) % 4294967296)) ((IntKind.u64.wrap ((IntKind.u64.wrap (rd x0 x7)) - x6)) / 9223372036854775808) (wrap64 (x7 + 1))) else (none))) else (none)) else ((vendmeterbig_trim.f k x5).bind fun t194 => (some t194))
def vendmeterbig_sub.f (k : Nat) (l0 : List Int) (l1 : List Int) : Option (List Int) := if 0 ≤ (l0.length : Int) then (if ((l0.length : Int) : Int).toNat ≤ 70368744177664 then (vendmeterbig_sub.l0 k l0 l1 (List.replicate ((l0.length : Int) : Int).toNat 0) 0 0) else (none)) else (none)
theorem vendmeterbig_sub.mono_l : ∀ k, (∀ y0 y1 y2 y3 y4, LeO (vendmeterbig_sub.l0 k y0 y1 y2 y3 y4) (vendmeterbig_sub.l0 (k + 1) y0 y1 y2 y3 y4))
  | 0 => fun _ _ _ _ _ r h => by simp [vendmeterbig_sub.l0] at h
  | k + 1 => by
    have ih0 := vendmeterbig_sub.mono_l k
    · intro y0 y1 y2 y3 y4
      unfold vendmeterbig_sub.l0
      repeat' first
      | (with_reducible exact ih0 _ _ _ _ _)
      | (with_reducible exact vendmeterbig_trim.mono _ _)
      | (with_reducible exact LeO.refl _)
      | (with_reducible exact LeO.none _)
      | (with_reducible refine LeO.ite ?_ ?_)
      | (with_reducible refine LeO.bind ?_ (fun _ => ?_))
      | exact ih0 _ _ _ _ _
      | exact vendmeterbig_trim.mono _ _
      | exact LeO.none _
      | refine LeO.ite ?_ ?_
      | refine LeO.bind ?_ (fun _ => ?_)
theorem vendmeterbig_sub.mono : ∀ a0 a1 k, LeO (vendmeterbig_sub.f k a0 a1) (vendmeterbig_sub.f (k + 1) a0 a1) := by
  intro a0 a1 k
  have ih0 := vendmeterbig_sub.mono_l k
  unfold vendmeterbig_sub.f
  repeat' first
      | (with_reducible exact ih0 _ _ _ _ _)
      | (with_reducible exact vendmeterbig_trim.mono _ _)
      | (with_reducible exact LeO.refl _)
      | (with_reducible exact LeO.none _)
      | (with_reducible refine LeO.ite ?_ ?_)
      | (with_reducible refine LeO.bind ?_ (fun _ => ?_))
      | exact ih0 _ _ _ _ _
      | exact vendmeterbig_trim.mono _ _
      | exact LeO.none _
      | refine LeO.ite ?_ ?_
      | refine LeO.bind ?_ (fun _ => ?_)
set_option maxHeartbeats 8000000 in
set_option maxRecDepth 100000 in
theorem vendmeterbig_sub.calls (k : Nat) (A0 : Option Addr) (c0 : Nat) (l0 : List Int) (A1 : Option Addr) (c1 : Nat) (l1 : List Int) (r : List Int) (w : World) (hr0 : Kd.C (Kd.int .u32) w A0 l0.length l0) (hc0 : l0.length ≤ c0) (hr1 : Kd.C (Kd.int .u32) w A1 l1.length l1) (hc1 : l1.length ≤ c1) (h : vendmeterbig_sub.f k l0 l1 = some r) :
    Calls Try.prog 103 #[.slice A0 l0.length c0, .slice A1 l1.length c1] w fun e w' => ∃ v0_ : Value, e = .returned (v0_) ∧ Kd.R (Kd.int .u32) 22 w' w.heap.size (fun _ => True) v0_ r ∧ Below w.heap.size w w' := by
  have HR0 := Aside0.mk hr0
  have HC0 := Aside0.mk hc0
  clear hr0 hc0
  have HR1 := Aside0.mk hr1
  have HC1 := Aside0.mk hc1
  clear hr1 hc1
  have HB := Aside0.mk (Below.refl w.heap.size w)
  have H : (if 0 ≤ (l0.length : Int) then (if ((l0.length : Int) : Int).toNat ≤ 70368744177664 then (vendmeterbig_sub.l0 k l0 l1 (List.replicate ((l0.length : Int) : Int).toNat 0) 0 0) else (none)) else (none)) = some r := h
  clear h
  by_cases c3 : 0 ≤ (l0.length : Int)
  · rw [if_pos c3] at H
    have c3b0 := eq_true c3
    have c3b1 : decide (0 ≤ (l0.length : Int)) = true := decide_eq_true c3
    clear c3
    by_cases c4 : ((l0.length : Int) : Int).toNat ≤ 70368744177664
    · rw [if_pos c4] at H
      have c4b0 := eq_true c4
      have c4b1 : decide (((l0.length : Int) : Int).toNat ≤ 70368744177664) = true := decide_eq_true c4
      clear c4
      obtain ⟨y187, hy187⟩ : ∃ y_ : List Int, y_ = (List.replicate ((l0.length : Int) : Int).toNat 0) := ⟨_, rfl⟩
      replace H : (vendmeterbig_sub.l0 k l0 l1 y187 0 0) = some r := by first | (rw [hy187]; with_reducible exact H) | (have H2_ := (Option.bind_some _ _).symm.trans H; rw [hy187]; with_reducible exact H2_) | (have H2_ := (Option.bind_some _ _).symm.trans H; with_reducible exact H2_) | with_reducible exact H | (rw [hy187]; exact H) | exact H
      have Ny187 := Aside0.mk hy187
      clear hy187
      have H' := Aside0.mk H
      clear H
      go_enter Try.func103, Try.ntmps103
      go_wp2_with (first | ((with_reducible refine gate_dst (N := 11) rfl ?_); refine Kd.R_make (Kd.int .u32) _ 22 rfl (N := 11) rfl 42 _ _ rfl (l0.length : Int) rfl rfl Try.underlying42 (.int .u32 0) 4 info22 rfl (by decide) (by omega) 0 (ok := fun _ => True) (okp := fun _ => True) rfl (fun _ hk => hk) trivial (of_decide_eq_true (by first | (with_reducible assumption) | assumption)) (Nat.le_trans (Nat.mul_le_mul_right _ (of_decide_eq_true (by first | (with_reducible assumption) | assumption) : (l0.length : Int).toNat ≤ 70368744177664)) (by omega)) (Below.refl _ _) (Nat.le_refl _) ?_; intro v188 w5 ho6 hb hg_ hnew_; clear hg_ hnew_; (first | rw [← Ny187.out] at ho6 | (simp only [Int.reduceToNat] at ho6; rw [← Ny187.out] at ho6)); have n0_ := Aside0.mk (Kd.R_lower ho6 (below_size (by with_reducible repeat (first | exact HB.1 | apply ya103 | apply yn103 | apply yd103)))); have n1_ := Aside0.mk (below_step (by with_reducible repeat (first | exact HB.1 | apply ya103 | apply yn103 | apply yd103)) hb); clear HB; have HO189 := n0_; have HB := n1_; clear n0_ n1_; clear hb ho6))
      go_loopg [6, 7] k (fun kq v6 v7 w' => ∃ (x5_1 : List Int) (x6_1 : Int) (x7_1 : Int), v6 = .int .u64 x6_1 ∧ v7 = .int .i64 x7_1 ∧ Aside0 (vendmeterbig_sub.l0 kq l0 l1 x5_1 x6_1 x7_1 = some r) ∧ Aside0 (kq ≤ k) ∧ Aside0 (Kd.R (Kd.int .u32) 22 w' w.heap.size (fun _ => True) v188 x5_1) ∧ Aside0 (Below w.heap.size w w'))
      case atStart => exact ⟨(y187), (0), (0), (by first | rfl | (simp; done) | (simp [*]; done)), (by first | rfl | (simp; done) | (simp [*]; done)), H', ⟨Nat.le_refl _⟩, ⟨by (with_reducible repeat (first | apply Kd.R_alloc | apply Kd.R_drewN | apply Kd.R_drew)); exact HO189.1⟩, ⟨by repeat (first | (with_reducible first | exact HB.1 | apply below_alloc | apply pw_below_drewN | apply below_drew1) | exact HB.1)⟩⟩
      case round =>
        clear H'
        try clear c1
        try clear p2
        try clear c3
        try clear c3b0
        try clear c3b1
        try clear c4
        try clear c4b0
        try clear c4b1
        obtain ⟨x5_1, x6_1, x7_1, rfl, rfl, HA, HK1, HO_5, HB⟩ := hrel
        cases gk with
        | zero => exact absurd HA.out (by simp [vendmeterbig_sub.l0])
        | succ k1 =>
          have H := HA.out
          clear HA
          simp only [vendmeterbig_sub.l0] at H
          by_cases c7 : x7_1 < (l0.length : Int)
          · rw [if_pos c7] at H
            have c7b0 : decide (x7_1 < (l0.length : Int)) = true := decide_eq_true c7
            clear c7
            by_cases c8 : 0 ≤ x7_1
            · rw [if_pos c8] at H
              have c8b0 : decide (0 ≤ x7_1) = true := decide_eq_true c8
              clear c8
              by_cases c9 : x7_1 < (l1.length : Int)
              · rw [if_pos c9] at H
                have c9b0 : decide (x7_1 < (l1.length : Int)) = true := decide_eq_true c9
                clear c9
                by_cases c10 : x7_1 < (x5_1.length : Int)
                · rw [if_pos c10] at H
                  have c10b0 : decide (x7_1 < (x5_1.length : Int)) = true := decide_eq_true c10
                  clear c10
                  obtain ⟨y192, hy192⟩ : ∃ y_ : List Int, y_ = (x5_1.set (x7_1 : Int).toNat ((IntKind.u64.wrap ((IntKind.u64.wrap ((IntKind.u64.wrap (rd l0 x7_1)) - x6_1)) - (IntKind.u64.wrap (rd l1 x7_1)))) % 4294967296)) := ⟨_, rfl⟩
                  replace H : (vendmeterbig_sub.l0 k1 l0 l1 y192 ((IntKind.u64.wrap ((IntKind.u64.wrap ((IntKind.u64.wrap (rd l0 x7_1)) - x6_1)) - (IntKind.u64.wrap (rd l1 x7_1)))) / 9223372036854775808) (wrap64 (x7_1 + 1))) = some r := by first | (rw [hy192]; with_reducible exact H) | (have H2_ := (Option.bind_some _ _).symm.trans H; rw [hy192]; with_reducible exact H2_) | (have H2_ := (Option.bind_some _ _).symm.trans H; with_reducible exact H2_) | with_reducible exact H | (rw [hy192]; exact H) | exact H
                  have Ny192 := Aside0.mk hy192
                  clear hy192
                  have H' := Aside0.mk H
                  clear H
                  have p190 : 0 ≤ (x7_1 : Int) := of_decide_eq_true (by first | (with_reducible assumption) | assumption)
                  have q190 : x7_1 < (l0.length : Int) := of_decide_eq_true (by first | (with_reducible assumption) | assumption)
                  obtain ⟨ad190, e190, hx190_0⟩ := Kd.at_int HR0.out x7_1 p190 q190
                  cases e190
                  replace hx190_0 := (HB.1.cell (World.block_lt_of_cell? w _ hx190_0)).trans hx190_0
                  replace p190 := eq_true p190
                  replace q190 := eq_true q190
                  have p191 : 0 ≤ (x7_1 : Int) := of_decide_eq_true (by first | (with_reducible assumption) | assumption)
                  have q191 : x7_1 < (l1.length : Int) := of_decide_eq_true (by first | (with_reducible assumption) | assumption)
                  obtain ⟨ad191, e191, hx191_0⟩ := Kd.at_int HR1.out x7_1 p191 q191
                  cases e191
                  replace hx191_0 := (HB.1.cell (World.block_lt_of_cell? w _ hx191_0)).trans hx191_0
                  replace p191 := eq_true p191
                  replace q191 := eq_true q191
                  have p11 : 0 ≤ (x7_1 : Int) := of_decide_eq_true (by first | (with_reducible assumption) | assumption)
                  have q11 : (x7_1 : Int) < ((x5_1.length : Int) : Int) := of_decide_eq_true (by first | (with_reducible assumption) | assumption)
                  obtain ⟨go11, co11, eo11, gb11, gl11, cl11, HG11⟩ := Kd.R_form HO_5.out (by omega)
                  (first | cases eo11 | (injection eo11 with ea_ en_ ec_; (first | subst ea_ | (injection ea_ with ea_; subst ea_)); subst ec_; clear en_))
                  have GB11 := Aside0.mk gb11
                  have GG11 := Aside0.mk HG11
                  clear gb11 gl11 HG11
                  obtain ⟨hx11_0, hf11_0⟩ := Kd.R_celln 0 HO_5.out (x7_1 : Int) p11 q11
                  replace p11 := eq_true p11
                  replace q11 := eq_true q11
                  have HP12 := Kd.R_putg HO_5.out (x7_1 : Int) ((IntKind.u64.wrap ((IntKind.u64.wrap ((IntKind.u64.wrap (rd l0 x7_1)) - x6_1)) - (IntKind.u64.wrap (rd l1 x7_1)))) % 4294967296)
                  go_wp2_with (first | ((with_reducible refine gate_store (t := 22) (p := 40) rfl ?_); refine store_event (t := 22) (p := 40) (v := ?vo_w13) (w1 := (wr.setCell ⟨go11, (x7_1 : Int).toNat, none⟩ (.int .u32 ((IntKind.u64.wrap ((IntKind.u64.wrap ((IntKind.u64.wrap (rd l0 x7_1)) - x6_1)) - (IntKind.u64.wrap (rd l1 x7_1)))) % 4294967296)))) ?hg ?ho ?hn ?hr ?_; (case ho => rfl); (case hg => rfl); (case hn => rfl); (case hr => first | (go_simp; done) | (go_simp; rfl)); intro w13 hw; have hg : wr.grownBy w13 (some go11) := (by rw [hw]; exact HP12.2); have hp_ : Kd.R (Kd.int .u32) 22 w13 w.heap.size (fun _ => True) (.slice (some ⟨go11, 0, none⟩) x5_1.length co11) y192 := (by rw [hw, Ny192.out]; exact HP12.1); clear HP12; have n0_ := Aside0.mk (hp_); have n1_ := Aside0.mk ((by rw [hw]; exact below_set (HB.1) GB11.out : Below w.heap.size w w13)); clear HO_5; clear HB; have HO_5 := n0_; have HB := n1_; clear n0_ n1_; clear hg hw hp_))
                  go_roundg k1
                  case measure => have := HK1.out; omega
                  case rel => exact ⟨(y192), ((IntKind.u64.wrap ((IntKind.u64.wrap ((IntKind.u64.wrap (rd l0 x7_1)) - x6_1)) - (IntKind.u64.wrap (rd l1 x7_1)))) / 9223372036854775808), (wrap64 (x7_1 + 1)), (by first | rfl | (simp; done) | (simp [*]; done)), (by first | rfl | (simp; done) | (simp [*]; done)), H', ⟨by have := HK1.out; omega⟩, ⟨by (with_reducible repeat (first | apply Kd.R_alloc | apply Kd.R_drewN | apply Kd.R_drew)); exact HO_5.out⟩, ⟨by repeat (first | (with_reducible first | exact HB.1 | apply below_alloc | apply pw_below_drewN | apply below_drew1) | exact HB.1)⟩⟩
                · rw [if_neg c10] at H
                  exact absurd H (by simp)
              · rw [if_neg c9] at H
                have c9b0 : decide (x7_1 < (l1.length : Int)) = false := decide_eq_false c9
                clear c9
                by_cases c14 : x7_1 < (x5_1.length : Int)
                · rw [if_pos c14] at H
                  have c14b0 : decide (x7_1 < (x5_1.length : Int)) = true := decide_eq_true c14
                  clear c14
                  obtain ⟨y193, hy193⟩ : ∃ y_ : List Int, y_ = (x5_1.set (x7_1 : Int).toNat ((IntKind.u64.wrap ((IntKind.u64.wrap (rd l0 x7_1)) - x6_1)) % 4294967296)) := ⟨_, rfl⟩
                  replace H : (vendmeterbig_sub.l0 k1 l0 l1 y193 ((IntKind.u64.wrap ((IntKind.u64.wrap (rd l0 x7_1)) - x6_1)) / 9223372036854775808) (wrap64 (x7_1 + 1))) = some r := by first | (rw [hy193]; with_reducible exact H) | (have H2_ := (Option.bind_some _ _).symm.trans H; rw [hy193]; with_reducible exact H2_) | (have H2_ := (Option.bind_some _ _).symm.trans H; with_reducible exact H2_) | with_reducible exact H | (rw [hy193]; exact H) | exact H
                  have Ny193 := Aside0.mk hy193
                  clear hy193
                  have H' := Aside0.mk H
                  clear H
                  have p190 : 0 ≤ (x7_1 : Int) := of_decide_eq_true (by first | (with_reducible assumption) | assumption)
                  have q190 : x7_1 < (l0.length : Int) := of_decide_eq_true (by first | (with_reducible assumption) | assumption)
                  obtain ⟨ad190, e190, hx190_0⟩ := Kd.at_int HR0.out x7_1 p190 q190
                  cases e190
                  replace hx190_0 := (HB.1.cell (World.block_lt_of_cell? w _ hx190_0)).trans hx190_0
                  replace p190 := eq_true p190
                  replace q190 := eq_true q190
                  have p15 : 0 ≤ (x7_1 : Int) := of_decide_eq_true (by first | (with_reducible assumption) | assumption)
                  have q15 : (x7_1 : Int) < ((x5_1.length : Int) : Int) := of_decide_eq_true (by first | (with_reducible assumption) | assumption)
                  obtain ⟨go15, co15, eo15, gb15, gl15, cl15, HG15⟩ := Kd.R_form HO_5.out (by omega)
                  (first | cases eo15 | (injection eo15 with ea_ en_ ec_; (first | subst ea_ | (injection ea_ with ea_; subst ea_)); subst ec_; clear en_))
                  have GB15 := Aside0.mk gb15
                  have GG15 := Aside0.mk HG15
                  clear gb15 gl15 HG15
                  obtain ⟨hx15_0, hf15_0⟩ := Kd.R_celln 0 HO_5.out (x7_1 : Int) p15 q15
                  replace p15 := eq_true p15
                  replace q15 := eq_true q15
                  have HP16 := Kd.R_putg HO_5.out (x7_1 : Int) ((IntKind.u64.wrap ((IntKind.u64.wrap (rd l0 x7_1)) - x6_1)) % 4294967296)
                  go_wp2_with (first | ((with_reducible refine gate_store (t := 22) (p := 40) rfl ?_); refine store_event (t := 22) (p := 40) (v := ?vo_w17) (w1 := (wr.setCell ⟨go15, (x7_1 : Int).toNat, none⟩ (.int .u32 ((IntKind.u64.wrap ((IntKind.u64.wrap (rd l0 x7_1)) - x6_1)) % 4294967296)))) ?hg ?ho ?hn ?hr ?_; (case ho => rfl); (case hg => rfl); (case hn => rfl); (case hr => first | (go_simp; done) | (go_simp; rfl)); intro w17 hw; have hg : wr.grownBy w17 (some go15) := (by rw [hw]; exact HP16.2); have hp_ : Kd.R (Kd.int .u32) 22 w17 w.heap.size (fun _ => True) (.slice (some ⟨go15, 0, none⟩) x5_1.length co15) y193 := (by rw [hw, Ny193.out]; exact HP16.1); clear HP16; have n0_ := Aside0.mk (hp_); have n1_ := Aside0.mk ((by rw [hw]; exact below_set (HB.1) GB15.out : Below w.heap.size w w17)); clear HO_5; clear HB; have HO_5 := n0_; have HB := n1_; clear n0_ n1_; clear hg hw hp_))
                  go_roundg k1
                  case measure => have := HK1.out; omega
                  case rel => exact ⟨(y193), ((IntKind.u64.wrap ((IntKind.u64.wrap (rd l0 x7_1)) - x6_1)) / 9223372036854775808), (wrap64 (x7_1 + 1)), (by first | rfl | (simp; done) | (simp [*]; done)), (by first | rfl | (simp; done) | (simp [*]; done)), H', ⟨by have := HK1.out; omega⟩, ⟨by (with_reducible repeat (first | apply Kd.R_alloc | apply Kd.R_drewN | apply Kd.R_drew)); exact HO_5.out⟩, ⟨by repeat (first | (with_reducible first | exact HB.1 | apply below_alloc | apply pw_below_drewN | apply below_drew1) | exact HB.1)⟩⟩
                · rw [if_neg c14] at H
                  exact absurd H (by simp)
            · rw [if_neg c8] at H
              exact absurd H (by simp)
          · rw [if_neg c7] at H
            have c7b0 : decide (x7_1 < (l0.length : Int)) = false := decide_eq_false c7
            clear c7
            replace H := Option.bind_eq_some_iff.mp H
            obtain ⟨t194, A180, H⟩ := H
            replace H : (some t194) = some r := H
            have A18 := Aside0.mk A180
            clear A180
            obtain rfl := Option.some.inj H
            obtain ⟨Ao19, co19, eo19⟩ := Kd.R_slice HO_5.out
            subst eo19
            go_wp2_with (first | ((with_reducible refine gate_callee (f := 99) rfl ?_); refine goesL_ (some 44) rfl rfl Try.func99 (by kernel_rfl) rfl #[.slice Ao19 x5_1.length co19] rfl (by (try simp only [List.map_toArray, List.map_cons, List.map_nil]); first | done | rfl | (simp only [List.length_drop, List.length_take]; rfl)) ?_; (with_reducible refine (vendmeterbig_trim.calls k1 (fun k_ => some k_ = (.slice Ao19 x5_1.length co19 : Value).ownBlock) (.slice Ao19 x5_1.length co19) x5_1 t194 w _ ?side1 ?side2 A18.out).mono ?_); (case side1 => repeat (first | (with_reducible first | exact HB.1 | apply below_alloc | apply pw_below_drewN | apply below_drew1) | exact HB.1)); (case side2 => exact Kd.R_tight rfl HO_5.out); rintro e w20 ⟨v195, rfl, ho0, hb, hkp⟩; refine ⟨_, rfl, ?_⟩; have n0_ := Aside0.mk (Kd.R_mono (ok' := fun k_ => True) ho0 (fun k_ hk_ => trivial)); have n1_ := Aside0.mk (hb); clear HB; clear HO_5; have HO196 := n0_; have HB := n1_; clear n0_ n1_; (try clear hb); (try clear hkp); (try clear ho0)))
            go_ret
            exact ⟨_, by first | rfl | (simp [errW_none, errW_some] <;> rfl) | (simp [*, errW_none, errW_some] <;> rfl), by (with_reducible repeat (first | apply Kd.R_alloc | apply Kd.R_drewN | apply Kd.R_drew)); exact HO196.1, by repeat (first | (with_reducible first | exact HB.1 | apply below_alloc | apply pw_below_drewN | apply below_drew1) | exact HB.1)⟩
    · rw [if_neg c4] at H
      exact absurd H (by simp)
  · rw [if_neg c3] at H
    exact absurd H (by simp)

-- NOT PRINTED: function 87 (vendmeterbig_sum)

-- NOT PRINTED: function 56 (vendmeterbig_Int_Add)

/-! ### vendmeterref_BodyOf: function 69 -/
theorem xa69 {w : World} {g : Nat} {o : Obj} (h : w.heap[g]? = some o) (o' : Obj) : (w.alloc o').heap[g]? = some o := blk_alloc h o'
theorem xd69 {w : World} {g : Nat} {o : Obj} (h : w.heap[g]? = some o) : w.drew.heap[g]? = some o := blk_drew h
theorem xn69 {w : World} {g : Nat} {o : Obj} (h : w.heap[g]? = some o) (n : Nat) : (w.drewN n).heap[g]? = some o := blk_drewN h n
theorem ya69 {w W : World} (h : Below w.heap.size w W) (o : Obj) : Below w.heap.size w (W.alloc o) := below_alloc h o
theorem yn69 {B : Nat} {w W : World} (h : Below B w W) (n : Nat) : Below B w (W.drewN n) := pw_below_drewN h n
theorem yd69 {B : Nat} {w W : World} (h : Below B w W) : Below B w W.drew := below_drew1 h
theorem c4_69 {w : World} {g : Nat} {t : TypeId} {x0 x1 x2 x3 : Value} {r : List Value} (h : w.heap[g]? = some (.cells (List.toArray (x0 :: x1 :: x2 :: x3 :: r)) t (0, 0))) : w.cell? ⟨g, 0, none⟩ = some x0 ∧ w.cell? ⟨g, 1, none⟩ = some x1 ∧ w.cell? ⟨g, 2, none⟩ = some x2 ∧ w.cell? ⟨g, 3, none⟩ = some x3 := ⟨(blk_cell h 0).trans rfl, (blk_cell h 1).trans rfl, (blk_cell h 2).trans rfl, (blk_cell h 3).trans rfl⟩
theorem f4_69 {w : World} {g : Nat} {t : TypeId} {cs : Array Value} (h : w.heap[g]? = some (.cells cs t (0, 0))) : w.frozen? ⟨g, 0, none⟩ = false ∧ w.frozen? ⟨g, 1, none⟩ = false ∧ w.frozen? ⟨g, 2, none⟩ = false ∧ w.frozen? ⟨g, 3, none⟩ = false := ⟨blk_frozen h 0, blk_frozen h 1, blk_frozen h 2, blk_frozen h 3⟩
def vendmeterref_BodyOf.f (k : Nat) (a0_0 : Int) (a0_1 : Int) (a0_2 : Int) (a0_3 : Int) : Option (Int × Int) := (vendmeterref_TokenFault.f k a0_0 a0_1 a0_2 a0_3).bind fun t198 => (if t198 = 0 then (some (wrap64 ((wrap64 ((wrap64 (a0_0 * 2199023255552)) + (wrap64 (a0_1 * 2097152)))) + a0_2), 0)) else (some (0, t198)))
theorem vendmeterref_BodyOf.mono : ∀ a0 a1 a2 a3 k, LeO (vendmeterref_BodyOf.f k a0 a1 a2 a3) (vendmeterref_BodyOf.f (k + 1) a0 a1 a2 a3) := by
  intro a0 a1 a2 a3 k
  unfold vendmeterref_BodyOf.f
  repeat' first
      | (with_reducible exact vendmeterref_TokenFault.mono _ _ _ _ _)
      | (with_reducible exact LeO.refl _)
      | (with_reducible exact LeO.none _)
      | (with_reducible refine LeO.ite ?_ ?_)
      | (with_reducible refine LeO.bind ?_ (fun _ => ?_))
      | exact vendmeterref_TokenFault.mono _ _ _ _ _
      | exact LeO.none _
      | refine LeO.ite ?_ ?_
      | refine LeO.bind ?_ (fun _ => ?_)
set_option maxHeartbeats 8000000 in
set_option maxRecDepth 100000 in
theorem vendmeterref_BodyOf.calls (k : Nat) (a0_0 : Int) (a0_1 : Int) (a0_2 : Int) (a0_3 : Int) (r1 : Int) (r2 : Int) (w : World) (h : vendmeterref_BodyOf.f k a0_0 a0_1 a0_2 a0_3 = some (r1, r2)) :
    Calls Try.prog 69 #[.agg #[.int .i64 a0_0, .int .i64 a0_1, .int .i64 a0_2, .int .i64 a0_3]] w fun e w' => e = .returned (.tuple #[.int .i64 r1, .int .i64 r2]) ∧ Below w.heap.size w w' := by
  have hu28 := Try.underlying28
  have HB := Aside0.mk (Below.refl w.heap.size w)
  have H : ((vendmeterref_TokenFault.f k a0_0 a0_1 a0_2 a0_3).bind fun t198 => (if t198 = 0 then (some (wrap64 ((wrap64 ((wrap64 (a0_0 * 2199023255552)) + (wrap64 (a0_1 * 2097152)))) + a0_2), 0)) else (some (0, t198)))) = some (r1, r2) := h
  clear h
  replace H := Option.bind_eq_some_iff.mp H
  obtain ⟨t198, A20, H⟩ := H
  replace H : (if t198 = 0 then (some (wrap64 ((wrap64 ((wrap64 (a0_0 * 2199023255552)) + (wrap64 (a0_1 * 2097152)))) + a0_2), 0)) else (some (0, t198))) = some (r1, r2) := H
  have A2 := Aside0.mk A20
  clear A20
  by_cases c3 : t198 = 0
  · rw [if_pos c3] at H
    have c3b0 : (t198 == 0) = true := beq_iff_eq.mpr c3
    have c3b1 : (t198 != 0) = false := bne_eq_false_iff_eq.mpr c3
    clear c3
    simp only [Option.some.injEq, Prod.mk.injEq] at H
    obtain ⟨rfl, rfl⟩ := H
    go_enter Try.func69, Try.ntmps69
    go_wp2_with (first | ((with_reducible refine gate_dst (N := 1) rfl ?_); refine box_event ?hg (N := 1) ?hd (cs := #[.int .i64 a0_0, .int .i64 a0_1, .int .i64 a0_2, .int .i64 a0_3]) (t := 28) ?hr ?_; (case hd => rfl); (case hg => rfl); (case hr => first | (go_simp; done) | (go_simp; rfl)); intro gb197 hg w4 hbox hb; have n0_ := Aside0.mk (below_step (by with_reducible repeat (first | exact HB.1 | apply ya69 | apply yn69 | apply yd69)) hb); have n1_ := Aside0.mk (hbox); have n2_ := Aside0.mk ((by rw [hg]; exact (below_size (by with_reducible repeat (first | exact HB.1 | apply ya69 | apply yn69 | apply yd69))) : w.heap.size ≤ gb197)); have n3_ := n2_; clear HB; have HB := n0_; have BK197 := n1_; have GW197 := n2_; have GE197 := n3_; clear n0_ n1_ n2_ n3_; clear hb hbox hg; obtain ⟨hcz5_0, hcz5_1, hcz5_2, hcz5_3⟩ := c4_69 BK197.1; obtain ⟨hfz5_0, hfz5_1, hfz5_2, hfz5_3⟩ := f4_69 BK197.1) | ((with_reducible refine gate_callee (f := 29) rfl ?_); refine goesL_ (some 6) rfl rfl Try.func29 (by kernel_rfl) rfl #[.agg #[.int .i64 a0_0, .int .i64 a0_1, .int .i64 a0_2, .int .i64 a0_3]] rfl (by (try simp only [List.map_toArray, List.map_cons, List.map_nil]); first | done | rfl | (simp only [List.length_drop, List.length_take]; rfl)) ?_; (with_reducible refine (vendmeterref_TokenFault.calls k a0_0 a0_1 a0_2 a0_3 t198 _ A2.out).mono ?_); rintro e w6 ⟨rfl, hb⟩; refine ⟨_, rfl, ?_⟩; have n0_ := Aside0.mk (blk_below (g := gb197) (o := .cells #[.int .i64 a0_0, .int .i64 a0_1, .int .i64 a0_2, .int .i64 a0_3] 28 (0, 0)) (by (with_reducible repeat (first | apply xn69 | apply xd69 | apply xa69)); exact BK197.1) hb); have n1_ := Aside0.mk (below_step (by with_reducible repeat (first | exact HB.1 | apply ya69 | apply yn69 | apply yd69 | refine below_set ?_ GE197.1)) hb); clear BK197; clear HB; have BK197 := n0_; have HB := n1_; clear n0_ n1_; (try clear hb); (try clear hb2); (try clear hk); (try clear hi); obtain ⟨hcz7_0, hcz7_1, hcz7_2, hcz7_3⟩ := c4_69 BK197.1; obtain ⟨hfz7_0, hfz7_1, hfz7_2, hfz7_3⟩ := f4_69 BK197.1))
    go_ret2
    exact ⟨by first | rfl | (simp [errW_none, errW_some] <;> rfl) | (simp [*, errW_none, errW_some] <;> rfl), by repeat (first | (with_reducible first | exact HB.1 | apply below_alloc | apply pw_below_drewN | apply below_drew1 | refine below_set ?_ GE197.1) | exact HB.1)⟩
  · rw [if_neg c3] at H
    have c3b0 : (t198 == 0) = false := beq_eq_false_iff_ne.mpr c3
    have c3b1 : (t198 != 0) = true := bne_iff_ne.mpr c3
    simp only [Option.some.injEq, Prod.mk.injEq] at H
    obtain ⟨rfl, rfl⟩ := H
    go_enter Try.func69, Try.ntmps69
    go_wp2_with (first | ((with_reducible refine gate_dst (N := 1) rfl ?_); refine box_event ?hg (N := 1) ?hd (cs := #[.int .i64 a0_0, .int .i64 a0_1, .int .i64 a0_2, .int .i64 a0_3]) (t := 28) ?hr ?_; (case hd => rfl); (case hg => rfl); (case hr => first | (go_simp; done) | (go_simp; rfl)); intro gb197 hg w8 hbox hb; have n0_ := Aside0.mk (below_step (by with_reducible repeat (first | exact HB.1 | apply ya69 | apply yn69 | apply yd69)) hb); have n1_ := Aside0.mk (hbox); have n2_ := Aside0.mk ((by rw [hg]; exact (below_size (by with_reducible repeat (first | exact HB.1 | apply ya69 | apply yn69 | apply yd69))) : w.heap.size ≤ gb197)); have n3_ := n2_; clear HB; have HB := n0_; have BK197 := n1_; have GW197 := n2_; have GE197 := n3_; clear n0_ n1_ n2_ n3_; clear hb hbox hg; obtain ⟨hcz9_0, hcz9_1, hcz9_2, hcz9_3⟩ := c4_69 BK197.1; obtain ⟨hfz9_0, hfz9_1, hfz9_2, hfz9_3⟩ := f4_69 BK197.1) | ((with_reducible refine gate_callee (f := 29) rfl ?_); refine goesL_ (some 6) rfl rfl Try.func29 (by kernel_rfl) rfl #[.agg #[.int .i64 a0_0, .int .i64 a0_1, .int .i64 a0_2, .int .i64 a0_3]] rfl (by (try simp only [List.map_toArray, List.map_cons, List.map_nil]); first | done | rfl | (simp only [List.length_drop, List.length_take]; rfl)) ?_; (with_reducible refine (vendmeterref_TokenFault.calls k a0_0 a0_1 a0_2 a0_3 t198 _ A2.out).mono ?_); rintro e w10 ⟨rfl, hb⟩; refine ⟨_, rfl, ?_⟩; have n0_ := Aside0.mk (blk_below (g := gb197) (o := .cells #[.int .i64 a0_0, .int .i64 a0_1, .int .i64 a0_2, .int .i64 a0_3] 28 (0, 0)) (by (with_reducible repeat (first | apply xn69 | apply xd69 | apply xa69)); exact BK197.1) hb); have n1_ := Aside0.mk (below_step (by with_reducible repeat (first | exact HB.1 | apply ya69 | apply yn69 | apply yd69 | refine below_set ?_ GE197.1)) hb); clear BK197; clear HB; have BK197 := n0_; have HB := n1_; clear n0_ n1_; (try clear hb); (try clear hb2); (try clear hk); (try clear hi)))
    go_ret2
    exact ⟨by first | rfl | (simp [errW_none, errW_some] <;> rfl) | (simp [*, errW_none, errW_some] <;> rfl), by repeat (first | (with_reducible first | exact HB.1 | apply below_alloc | apply pw_below_drewN | apply below_drew1 | refine below_set ?_ GE197.1) | exact HB.1)⟩

-- NOT PRINTED: function 31 (vendmeterref_numberOf)

end Go.Proofs.Ytoookcmablnjfaa.PTokenFormats
