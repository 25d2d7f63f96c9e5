-- written by this session's program wip/xp/xprint.py (it drives the kit's print and adds to it)
import Derived.Test.YtoookcmablnjfaaPWordsShowsx0
import Derived.Test.YtoookcmablnjfaaPWordsShowsx2
import Derived.Test.YtoookcmablnjfaaPWordsShowsx3
import Derived.Test.YtoookcmablnjfaaPWordsShowsx4
namespace Go.Proofs.Ytoookcmablnjfaa.PWordsShows
open Go.RowKit Go.Proofs.YtoookcmablnjfaaW.PrintWords Go.Proofs.YtoookcmablnjfaaW.PrintLast Go.Proofs.YtoookcmablnjfaaW.PrintMore
attribute [local go_sem] max2_int min2_int max_two min_two max_three min_three max_four min_four   -- for this text's walks alone
set_option linter.unusedVariables false
set_option linter.unusedSimpArgs false

/-! ### vendmeterbig_twin: function 88 -/
def vendmeterbig_twin.f (l0 : List Int) : Option (List Int) := if ([] : List Int).length + l0.length < 35184372088832 then (some (([] : List Int) ++ l0)) else (none)
set_option maxHeartbeats 8000000 in
set_option maxRecDepth 100000 in
theorem vendmeterbig_twin.calls (A0 : Option Addr) (c0 : Nat) (l0 : List Int) (r : List Int) (w : World) (hr0 : Kd.C (Kd.int .u32) w A0 l0.length l0) (hc0 : l0.length ≤ c0) (h : vendmeterbig_twin.f l0 = some r) :
    Calls Try.prog 88 #[.slice A0 l0.length c0] w fun e w' => ∃ v0_ : Value, e = .returned (v0_) ∧ Kd.R (Kd.int .u32) 22 w' w.heap.size (fun _ => True) v0_ r ∧ Below w.heap.size w w' := by
  have HR0 := Aside0.mk hr0
  have HC0 := Aside0.mk hc0
  clear hr0 hc0
  have HB := Aside0.mk (Below.refl w.heap.size w)
  have H : (if ([] : List Int).length + l0.length < 35184372088832 then (some (([] : List Int) ++ l0)) else (none)) = some r := h
  clear h
  by_cases c2 : ([] : List Int).length + l0.length < 35184372088832
  · rw [if_pos c2] at H
    have LMc2 := Aside0.mk c2
    clear c2
    obtain ⟨y145, hy145⟩ : ∃ y_ : List Int, y_ = (([] : List Int) ++ l0) := ⟨_, rfl⟩
    replace H : (some y145) = some r := by first | (rw [hy145]; with_reducible exact H) | (have H2_ := (Option.bind_some _ _).symm.trans H; rw [hy145]; with_reducible exact H2_) | (have H2_ := (Option.bind_some _ _).symm.trans H; with_reducible exact H2_) | with_reducible exact H | (rw [hy145]; exact H) | exact H
    have Ny145 := Aside0.mk hy145
    clear hy145
    obtain rfl := Option.some.inj H
    go_enter Try.func88, Try.ntmps88
    go_wp2_with (first | ((with_reducible refine gate_builtin (b := .append) (xs := #[.const (.slice none 0 0), .tmp 3]) rfl ?_); at_builtin; refine Kd.R_append_rows (Kd.int .u32) (w0 := w) w.heap.size rfl (.const (.slice none 0 0)) (.tmp 3) 42 22 (.int .u32 0) 4 rfl Try.underlying42 info22 rfl (by decide) (by omega) (.slice none 0 0) ([] : List Int) l0 _ _ _ (fun _ => True) (fun _ => False) rfl rfl ?aO ?aR (fun _ _ h => h) (fun _ h => h.elim) ?aF ?aB ?aS ?aL ?_; (case aR => repeat (first | exact HR0.out | (with_reducible refine Kd.C_alloc ?_ _) | (with_reducible refine Kd.C_drewN ?_ _) | (with_reducible refine Kd.C_drew ?_))); (case aB => exact (by repeat (first | (with_reducible first | exact HB.out | apply below_alloc | apply pw_below_drewN | apply below_drew1) | exact HB.out))); (case aF => exact (fun _ _ => trivial)); (case aO => exact ((Kd.R_nil _ _ _ _ (fun _ => True)))); (case aS => exact (below_size (by repeat (first | (with_reducible first | exact HB.out | apply below_alloc | apply pw_below_drewN | apply below_drew1) | exact HB.out)))); (case aL => have := LMc2.out; omega); intro v146 w3 ho hb hg hat; rw [← Ny145.out] at ho; have n0_ := Aside0.mk (hb); have n1_ := Aside0.mk (ho); clear HB; have HB := n0_; have HO147 := n1_; clear n0_ n1_; clear ho hb hg hat))
    go_ret
    exact ⟨_, by first | rfl | (simp [errW_none, errW_some] <;> rfl) | (simp [*, errW_none, errW_some] <;> rfl), by (with_reducible repeat (first | apply Kd.R_alloc | apply Kd.R_drewN | apply Kd.R_drew)); exact HO147.out, by repeat (first | (with_reducible first | exact HB.out | apply below_alloc | apply pw_below_drewN | apply below_drew1) | exact HB.out)⟩
  · rw [if_neg c2] at H
    exact absurd H (by simp)

/-! ### vendmeterbig_small: function 89 -/
def vendmeterbig_small.l0 : Nat → List Int → Int → List Int → Int → Int → Option (List Int × Int)
  | 0, _, _, _, _, _ => none
  | k + 1, x0, x1, x6, x7, x8 => if x8 ≥ 0 then (if 0 ≤ x8 then (if x8 < (x0.length : Int) then (if (IntKind.u64.wrap (x1)) = 0 then (none) else (if x8 < (x6.length : Int) then (vendmeterbig_small.l0 k x0 x1 (x6.set (x8 : Int).toNat ((IntKind.u64.wrap (Int.tdiv (Go.bits .or .u64 (IntKind.u64.wrap (x7 * 4294967296)) (IntKind.u64.wrap (rd x0 x8))) (IntKind.u64.wrap (x1)))) % 4294967296)) (Int.tmod (Go.bits .or .u64 (IntKind.u64.wrap (x7 * 4294967296)) (IntKind.u64.wrap (rd x0 x8))) (IntKind.u64.wrap (x1))) (wrap64 (x8 - 1))) else (none))) else (none)) else (none)) else ((vendmeterbig_trim.f k x6).bind fun t153 => (some (t153, (x7) % 4294967296)))
def vendmeterbig_small.f (k : Nat) (l0 : List Int) (a1 : Int) : Option (List Int × Int) := if 0 ≤ (l0.length : Int) then (if ((l0.length : Int) : Int).toNat ≤ 70368744177664 then (vendmeterbig_small.l0 k l0 a1 (List.replicate ((l0.length : Int) : Int).toNat 0) 0 (wrap64 ((l0.length : Int) - 1))) else (none)) else (none)
theorem vendmeterbig_small.mono_l : ∀ k, (∀ y0 y1 y2 y3 y4, LeO (vendmeterbig_small.l0 k y0 y1 y2 y3 y4) (vendmeterbig_small.l0 (k + 1) y0 y1 y2 y3 y4))
  | 0 => fun _ _ _ _ _ r h => by simp [vendmeterbig_small.l0] at h
  | k + 1 => by
    have ih0 := vendmeterbig_small.mono_l k
    · intro y0 y1 y2 y3 y4
      unfold vendmeterbig_small.l0
      repeat' first
      | (with_reducible exact ih0 _ _ _ _ _)
      | (with_reducible exact vendmeterbig_trim.mono _ _)
      | (with_reducible exact LeO.refl _)
      | (with_reducible exact LeO.none _)
      | (with_reducible refine LeO.ite ?_ ?_)
      | (with_reducible refine LeO.bind ?_ (fun _ => ?_))
      | exact ih0 _ _ _ _ _
      | exact vendmeterbig_trim.mono _ _
      | exact LeO.none _
      | refine LeO.ite ?_ ?_
      | refine LeO.bind ?_ (fun _ => ?_)
theorem vendmeterbig_small.mono : ∀ a0 a1 k, LeO (vendmeterbig_small.f k a0 a1) (vendmeterbig_small.f (k + 1) a0 a1) := by
  intro a0 a1 k
  have ih0 := vendmeterbig_small.mono_l k
  unfold vendmeterbig_small.f
  repeat' first
      | (with_reducible exact ih0 _ _ _ _ _)
      | (with_reducible exact vendmeterbig_trim.mono _ _)
      | (with_reducible exact LeO.refl _)
      | (with_reducible exact LeO.none _)
      | (with_reducible refine LeO.ite ?_ ?_)
      | (with_reducible refine LeO.bind ?_ (fun _ => ?_))
      | exact ih0 _ _ _ _ _
      | exact vendmeterbig_trim.mono _ _
      | exact LeO.none _
      | refine LeO.ite ?_ ?_
      | refine LeO.bind ?_ (fun _ => ?_)
set_option maxHeartbeats 8000000 in
set_option maxRecDepth 100000 in
theorem vendmeterbig_small.calls (k : Nat) (A0 : Option Addr) (c0 : Nat) (l0 : List Int) (a1 : Int) (r1 : List Int) (r2 : Int) (w : World) (hr0 : Kd.C (Kd.int .u32) w A0 l0.length l0) (hc0 : l0.length ≤ c0) (h : vendmeterbig_small.f k l0 a1 = some (r1, r2)) :
    Calls Try.prog 89 #[.slice A0 l0.length c0, .int .u32 a1] w fun e w' => ∃ v0_ : Value, e = .returned (.tuple #[v0_, .int .u32 r2]) ∧ Kd.R (Kd.int .u32) 22 w' w.heap.size (fun _ => True) v0_ r1 ∧ Below w.heap.size w w' := by
  have HR0 := Aside0.mk hr0
  have HC0 := Aside0.mk hc0
  clear hr0 hc0
  have HB := Aside0.mk (Below.refl w.heap.size w)
  have H : (if 0 ≤ (l0.length : Int) then (if ((l0.length : Int) : Int).toNat ≤ 70368744177664 then (vendmeterbig_small.l0 k l0 a1 (List.replicate ((l0.length : Int) : Int).toNat 0) 0 (wrap64 ((l0.length : Int) - 1))) else (none)) else (none)) = some (r1, r2) := h
  clear h
  by_cases c3 : 0 ≤ (l0.length : Int)
  · rw [if_pos c3] at H
    have c3b0 := eq_true c3
    have c3b1 : decide (0 ≤ (l0.length : Int)) = true := decide_eq_true c3
    clear c3
    by_cases c4 : ((l0.length : Int) : Int).toNat ≤ 70368744177664
    · rw [if_pos c4] at H
      have c4b0 := eq_true c4
      have c4b1 : decide (((l0.length : Int) : Int).toNat ≤ 70368744177664) = true := decide_eq_true c4
      clear c4
      obtain ⟨y148, hy148⟩ : ∃ y_ : List Int, y_ = (List.replicate ((l0.length : Int) : Int).toNat 0) := ⟨_, rfl⟩
      replace H : (vendmeterbig_small.l0 k l0 a1 y148 0 (wrap64 ((l0.length : Int) - 1))) = some (r1, r2) := by first | (rw [hy148]; with_reducible exact H) | (have H2_ := (Option.bind_some _ _).symm.trans H; rw [hy148]; with_reducible exact H2_) | (have H2_ := (Option.bind_some _ _).symm.trans H; with_reducible exact H2_) | with_reducible exact H | (rw [hy148]; exact H) | exact H
      have Ny148 := Aside0.mk hy148
      clear hy148
      have H' := Aside0.mk H
      clear H
      go_enter Try.func89, Try.ntmps89
      go_wp2_with (first | ((with_reducible refine gate_dst (N := 11) rfl ?_); refine Kd.R_make (Kd.int .u32) _ 22 rfl (N := 11) rfl 42 _ _ rfl (l0.length : Int) rfl rfl Try.underlying42 (.int .u32 0) 4 info22 rfl (by decide) (by omega) 0 (ok := fun _ => True) (okp := fun _ => True) rfl (fun _ hk => hk) trivial (of_decide_eq_true (by first | (with_reducible assumption) | assumption)) (Nat.le_trans (Nat.mul_le_mul_right _ (of_decide_eq_true (by first | (with_reducible assumption) | assumption) : (l0.length : Int).toNat ≤ 70368744177664)) (by omega)) (Below.refl _ _) (Nat.le_refl _) ?_; intro v149 w5 ho6 hb hg_ hnew_; clear hg_ hnew_; (first | rw [← Ny148.out] at ho6 | (simp only [Int.reduceToNat] at ho6; rw [← Ny148.out] at ho6)); have n0_ := Aside0.mk (Kd.R_lower ho6 (below_size (by repeat (first | (with_reducible first | exact HB.out | apply below_alloc | apply pw_below_drewN | apply below_drew1) | exact HB.out)))); have n1_ := Aside0.mk (below_step (by repeat (first | (with_reducible first | exact HB.out | apply below_alloc | apply pw_below_drewN | apply below_drew1) | exact HB.out)) hb); clear HB; have HO150 := n0_; have HB := n1_; clear n0_ n1_; clear hb ho6))
      go_loopg [7, 8] k (fun kq v7 v8 w' => ∃ (x6_1 : List Int) (x7_1 : Int) (x8_1 : Int), v7 = .int .u64 x7_1 ∧ v8 = .int .i64 x8_1 ∧ Aside0 (vendmeterbig_small.l0 kq l0 a1 x6_1 x7_1 x8_1 = some (r1, r2)) ∧ Aside0 (kq ≤ k) ∧ Aside0 (Kd.R (Kd.int .u32) 22 w' w.heap.size (fun _ => True) v149 x6_1) ∧ Aside0 (Below w.heap.size w w'))
      case atStart => exact ⟨(y148), (0), (wrap64 ((l0.length : Int) - 1)), (by first | rfl | (simp; done) | (simp [*]; done)), (by first | rfl | (simp; done) | (simp [*]; done)), H', ⟨Nat.le_refl _⟩, ⟨by (with_reducible repeat (first | apply Kd.R_alloc | apply Kd.R_drewN | apply Kd.R_drew)); exact HO150.out⟩, ⟨by repeat (first | (with_reducible first | exact HB.out | apply below_alloc | apply pw_below_drewN | apply below_drew1) | exact HB.out)⟩⟩
      case round =>
        clear H'
        try clear p2
        try clear c3
        try clear c3b0
        try clear c3b1
        try clear c4
        try clear c4b0
        try clear c4b1
        try clear p6
        obtain ⟨x6_1, x7_1, x8_1, rfl, rfl, HA, HK1, HO_6, HB⟩ := hrel
        cases gk with
        | zero => exact absurd HA.out (by simp [vendmeterbig_small.l0])
        | succ k1 =>
          have H := HA.out
          clear HA
          simp only [vendmeterbig_small.l0] at H
          by_cases c7 : x8_1 ≥ 0
          · rw [if_pos c7] at H
            have c7b0 : decide (0 ≤ x8_1) = true := decide_eq_true c7
            clear c7
            by_cases c8 : 0 ≤ x8_1
            · rw [if_pos c8] at H
              have c8b0 : decide (0 ≤ x8_1) = true := decide_eq_true c8
              clear c8
              by_cases c9 : x8_1 < (l0.length : Int)
              · rw [if_pos c9] at H
                have c9b0 : decide (x8_1 < (l0.length : Int)) = true := decide_eq_true c9
                clear c9
                by_cases c10 : (IntKind.u64.wrap (a1)) = 0
                · rw [if_pos c10] at H
                  exact absurd H (by simp)
                · rw [if_neg c10] at H
                  have c10b0 : ((IntKind.u64.wrap (a1)) == 0) = false := beq_eq_false_iff_ne.mpr c10
                  have c10b1 : ((IntKind.u64.wrap (a1)) != 0) = true := bne_iff_ne.mpr c10
                  by_cases c11 : x8_1 < (x6_1.length : Int)
                  · rw [if_pos c11] at H
                    have c11b0 : decide (x8_1 < (x6_1.length : Int)) = true := decide_eq_true c11
                    clear c11
                    obtain ⟨y152, hy152⟩ : ∃ y_ : List Int, y_ = (x6_1.set (x8_1 : Int).toNat ((IntKind.u64.wrap (Int.tdiv (Go.bits .or .u64 (IntKind.u64.wrap (x7_1 * 4294967296)) (IntKind.u64.wrap (rd l0 x8_1))) (IntKind.u64.wrap (a1)))) % 4294967296)) := ⟨_, rfl⟩
                    replace H : (vendmeterbig_small.l0 k1 l0 a1 y152 (Int.tmod (Go.bits .or .u64 (IntKind.u64.wrap (x7_1 * 4294967296)) (IntKind.u64.wrap (rd l0 x8_1))) (IntKind.u64.wrap (a1))) (wrap64 (x8_1 - 1))) = some (r1, r2) := by first | (rw [hy152]; with_reducible exact H) | (have H2_ := (Option.bind_some _ _).symm.trans H; rw [hy152]; with_reducible exact H2_) | (have H2_ := (Option.bind_some _ _).symm.trans H; with_reducible exact H2_) | with_reducible exact H | (rw [hy152]; exact H) | exact H
                    have Ny152 := Aside0.mk hy152
                    clear hy152
                    have H' := Aside0.mk H
                    clear H
                    have p151 : 0 ≤ (x8_1 : Int) := of_decide_eq_true (by first | (with_reducible assumption) | assumption)
                    have q151 : x8_1 < (l0.length : Int) := of_decide_eq_true (by first | (with_reducible assumption) | assumption)
                    obtain ⟨ad151, e151, hx151_0⟩ := Kd.at_int HR0.out x8_1 p151 q151
                    cases e151
                    replace hx151_0 := (HB.out.cell (World.block_lt_of_cell? w _ hx151_0)).trans hx151_0
                    replace p151 := eq_true p151
                    replace q151 := eq_true q151
                    have p12 : 0 ≤ (x8_1 : Int) := of_decide_eq_true (by first | (with_reducible assumption) | assumption)
                    have q12 : (x8_1 : Int) < ((x6_1.length : Int) : Int) := of_decide_eq_true (by first | (with_reducible assumption) | assumption)
                    obtain ⟨go12, co12, eo12, gb12, gl12, cl12, HG12⟩ := Kd.R_form HO_6.out (by omega)
                    (first | cases eo12 | (injection eo12 with ea_ en_ ec_; (first | subst ea_ | (injection ea_ with ea_; subst ea_)); subst ec_; clear en_))
                    have GB12 := Aside0.mk gb12
                    have GG12 := Aside0.mk HG12
                    clear gb12 gl12 HG12
                    obtain ⟨hx12_0, hf12_0⟩ := Kd.R_celln 0 HO_6.out (x8_1 : Int) p12 q12
                    replace p12 := eq_true p12
                    replace q12 := eq_true q12
                    have HP13 := Kd.R_putg HO_6.out (x8_1 : Int) ((IntKind.u64.wrap (Int.tdiv (Go.bits .or .u64 (IntKind.u64.wrap (x7_1 * 4294967296)) (IntKind.u64.wrap (rd l0 x8_1))) (IntKind.u64.wrap (a1)))) % 4294967296)
                    go_wp2_with (first | ((with_reducible refine gate_store (t := 22) (p := 34) rfl ?_); refine store_event (t := 22) (p := 34) (v := ?vo_w14) (w1 := (wr.setCell ⟨go12, (x8_1 : Int).toNat, none⟩ (.int .u32 ((IntKind.u64.wrap (Int.tdiv (Go.bits .or .u64 (IntKind.u64.wrap (x7_1 * 4294967296)) (IntKind.u64.wrap (rd l0 x8_1))) (IntKind.u64.wrap (a1)))) % 4294967296)))) ?hg ?ho ?hn ?hr ?_; (case ho => rfl); (case hg => rfl); (case hn => rfl); (case hr => first | (go_simp; done) | (go_simp; rfl)); intro w14 hw; have hg : wr.grownBy w14 (some go12) := (by rw [hw]; exact HP13.2); have hp_ : Kd.R (Kd.int .u32) 22 w14 w.heap.size (fun _ => True) (.slice (some ⟨go12, 0, none⟩) x6_1.length co12) y152 := (by rw [hw, Ny152.out]; exact HP13.1); clear HP13; have n0_ := Aside0.mk (hp_); have n1_ := Aside0.mk ((by rw [hw]; exact below_set (HB.out) GB12.out : Below w.heap.size w w14)); clear HO_6; clear HB; have HO_6 := n0_; have HB := n1_; clear n0_ n1_; clear hg hw hp_))
                    go_roundg k1
                    case measure => have := HK1.out; omega
                    case rel => exact ⟨(y152), (Int.tmod (Go.bits .or .u64 (IntKind.u64.wrap (x7_1 * 4294967296)) (IntKind.u64.wrap (rd l0 x8_1))) (IntKind.u64.wrap (a1))), (wrap64 (x8_1 - 1)), (by first | rfl | (simp; done) | (simp [*]; done)), (by first | rfl | (simp; done) | (simp [*]; done)), H', ⟨by have := HK1.out; omega⟩, ⟨by (with_reducible repeat (first | apply Kd.R_alloc | apply Kd.R_drewN | apply Kd.R_drew)); exact HO_6.out⟩, ⟨by repeat (first | (with_reducible first | exact HB.out | apply below_alloc | apply pw_below_drewN | apply below_drew1) | exact HB.out)⟩⟩
                  · rw [if_neg c11] at H
                    exact absurd H (by simp)
              · rw [if_neg c9] at H
                exact absurd H (by simp)
            · rw [if_neg c8] at H
              exact absurd H (by simp)
          · rw [if_neg c7] at H
            have c7b0 : decide (0 ≤ x8_1) = false := decide_eq_false c7
            clear c7
            replace H := Option.bind_eq_some_iff.mp H
            obtain ⟨t153, A150, H⟩ := H
            replace H : (some (t153, (x7_1) % 4294967296)) = some (r1, r2) := H
            have A15 := Aside0.mk A150
            clear A150
            simp only [Option.some.injEq, Prod.mk.injEq] at H
            obtain ⟨rfl, rfl⟩ := H
            obtain ⟨Ao16, co16, eo16⟩ := Kd.R_slice HO_6.out
            subst eo16
            go_wp2_with (first | ((with_reducible refine gate_callee (f := 99) rfl ?_); refine goesL_ (some 40) rfl rfl Try.func99 (by kernel_rfl) rfl #[.slice Ao16 x6_1.length co16] rfl (by (try simp only [List.map_toArray, List.map_cons, List.map_nil]); first | done | rfl | (simp only [List.length_drop, List.length_take]; rfl)) ?_; (with_reducible refine (vendmeterbig_trim.calls k1 (fun k_ => some k_ = (.slice Ao16 x6_1.length co16 : Value).ownBlock) (.slice Ao16 x6_1.length co16) x6_1 t153 w _ ?side1 ?side2 A15.out).mono ?_); (case side1 => repeat (first | (with_reducible first | exact HB.out | apply below_alloc | apply pw_below_drewN | apply below_drew1) | exact HB.out)); (case side2 => exact Kd.R_tight rfl HO_6.out); rintro e w17 ⟨v154, rfl, ho0, hb, hkp⟩; refine ⟨_, rfl, ?_⟩; have n0_ := Aside0.mk (Kd.R_mono (ok' := fun k_ => True) ho0 (fun k_ hk_ => trivial)); have n1_ := Aside0.mk (hb); clear HB; clear HO_6; have HO155 := n0_; have HB := n1_; clear n0_ n1_; (try clear hb); (try clear hkp); (try clear ho0)))
            go_ret2
            exact ⟨_, by first | rfl | (simp [errW_none, errW_some] <;> rfl) | (simp [*, errW_none, errW_some] <;> rfl), by (with_reducible repeat (first | apply Kd.R_alloc | apply Kd.R_drewN | apply Kd.R_drew)); exact HO155.out, by repeat (first | (with_reducible first | exact HB.out | apply below_alloc | apply pw_below_drewN | apply below_drew1) | exact HB.out)⟩
    · rw [if_neg c4] at H
      exact absurd H (by simp)
  · rw [if_neg c3] at H
    exact absurd H (by simp)

-- NOT PRINTED: function 57 (vendmeterbig_Int_Text)

-- NOT PRINTED: function 25 (vendmeterbig_Int_String)

/-! ### small -/
theorem drop_set_lt {α : Type} (l : List α) (i j : Nat) (x : α) (h : i < j) : (l.set i x).drop j = l.drop j := by
  rw [List.drop_set, if_pos h]
theorem wval_drop_set (l : List Int) (i : Nat) (x : Int) (h : i < l.length) : wval ((l.set i x).drop i) = x + 4294967296 * wval (l.drop (i + 1)) := by
  rw [wval_drop _ _ (by rw [List.length_set]; exact h), getD_set_eq _ _ _ h, drop_set_lt _ _ _ _ (Nat.lt_succ_self _)]
theorem ediv_of {x q d r : Int} (h : x = q * d + r) (h0 : 0 ≤ r) (h1 : r < d) : x / d = q ∧ x % d = r := by
  subst h
  have hd : d ≠ 0 := by omega
  constructor
  · rw [Int.add_comm, Int.add_mul_ediv_right _ _ hd, Int.ediv_eq_zero_of_lt h0 h1, Int.zero_add]
  · rw [Int.add_comm, Int.add_mul_emod_self_right, Int.emod_eq_of_lt h0 h1]
theorem wsmall_l0 (x : List Int) (d : Int) (hx : wok x) (hd : 0 < d ∧ d < 4294967296) (hb : x.length ≤ 1000000) : ∀ (n : Nat) (o : List Int) (r : Int), n ≤ x.length → o.length = x.length → wok o → (0 ≤ r ∧ r < d) → wval (x.drop n) = wval (o.drop n) * d + r →
    ∃ q, Ev (fun k => vendmeterbig_small.l0 k x d o r ((n : Int) - 1)) (q, wval x % d) ∧ Wd q (wval x / d) ∧ q.length ≤ x.length
  | 0, o, r, hn, ho, hk, hr, hv => by
    obtain ⟨q, h1, h2, h3⟩ := wtrim_ev o hk (by omega)
    rw [List.drop_zero, List.drop_zero] at hv
    obtain ⟨e1, e2⟩ := ediv_of hv hr.1 hr.2
    refine ⟨q, Ev.step (f := fun k => (vendmeterbig_trim.f k o).bind fun t => some (t, r % 4294967296)) (fun k => ?_) (Ev.bind h1 (WEv.ret ?_)), by rw [e1]; exact h2, by omega⟩
    · simp only [vendmeterbig_small.l0]; rw [if_neg (by omega)]
    · rw [e2, Int.emod_eq_of_lt hr.1 (by omega)]
  | n + 1, o, r, hn, ho, hk, hr, hv => by
    have bx := hx.at_ n
    have h1 : ((n + 1 : Nat) : Int) - 1 = (n : Int) := by omega
    have h2 : wrap64 ((n : Int) - 1) = (n : Int) - 1 := ww64 ⟨by omega, by omega⟩
    obtain ⟨t, ht⟩ : ∃ t, r * 4294967296 + x.getD n 0 = t := ⟨_, rfl⟩
    have ht0 : 0 ≤ t := by omega
    have ht1 : t < 4294967296 * d := by
      have := Int.mul_le_mul_of_nonneg_right (show r + 1 ≤ d by omega) (show (0 : Int) ≤ 4294967296 by decide)
      omega
    have hq0 : 0 ≤ t / d := Int.ediv_nonneg ht0 (by omega)
    have hq1 : t / d < 4294967296 := Int.ediv_lt_of_lt_mul hd.1 ht1
    have hr0 : 0 ≤ t % d := Int.emod_nonneg _ (by omega)
    have hr1 : t % d < d := Int.emod_lt_of_pos _ hd.1
    have hq : t = t / d * d + t % d := by have := Int.mul_ediv_add_emod t d; rw [Int.mul_comm] at this; omega
    obtain ⟨q, g1, g2⟩ := wsmall_l0 x d hx hd hb n (o.set n (t / d)) (t % d) (by omega) (by rw [List.length_set]; exact ho) (hk.set n ⟨hq0, hq1⟩) ⟨hr0, hr1⟩ (by
      rw [wval_drop_set o n _ (by omega), wval_drop x n (by omega), hv]
      generalize t / d = a at *
      generalize t % d = b at *
      grind)
    refine ⟨q, Ev.step (fun k => ?_) g1, g2⟩
    have e1 : Go.bits .or .u64 (IntKind.u64.wrap (r * 4294967296)) (IntKind.u64.wrap (rd x (n : Int))) = t := by rw [wrd, wor ⟨hr.1, by omega⟩ bx, ht]
    have e2 : IntKind.u64.wrap d = d := wu64 ⟨by omega, by omega⟩
    rw [h1]
    simp only [vendmeterbig_small.l0, e1, e2, h2, Int.tdiv_eq_ediv_of_nonneg ht0, Int.tmod_eq_emod_of_nonneg ht0, wu64 (a := t / d) ⟨hq0, by omega⟩, Int.emod_eq_of_lt hq0 hq1, Int.toNat_natCast]
    rw [if_pos (by omega), if_pos (by omega), if_pos (by omega), if_neg (by omega), if_pos (by omega)]
theorem wsmall_ev {x : List Int} {a d : Int} (hx : Wd x a) (hd : 0 < d ∧ d < 4294967296) (hb : x.length ≤ 1000000) : ∃ q, Ev (fun k => vendmeterbig_small.f k x d) (q, a % d) ∧ Wd q (a / d) ∧ q.length ≤ x.length := by
  obtain ⟨q, h1, h2, h3⟩ := wsmall_l0 x d hx.ok hd hb x.length (List.replicate x.length 0) 0 (Nat.le_refl _) (by simp) (wok.replicate _) ⟨Int.le_refl _, hd.1⟩ (by
    rw [List.drop_of_length_le (Nat.le_refl _), List.drop_of_length_le (by simp)]; simp [wval])
  rw [hx.val] at h1 h2
  refine ⟨q, ?_, h2, h3⟩
  unfold vendmeterbig_small.f
  refine WEv.pos (by omega) (WEv.pos (by omega) ?_)
  rw [ww64 (a := (x.length : Int) - 1) ⟨by omega, by omega⟩]
  exact h1

theorem wtwin_eq (x : List Int) (h : x.length ≤ 1000000) : vendmeterbig_twin.f x = some x := by
  unfold vendmeterbig_twin.f
  rw [if_pos (by simp only [List.length_nil]; omega)]; rfl

def dgs (n : Nat) : List Int := if h : n < 10 then [48 + (n : Int)] else (48 + ((n % 10 : Nat) : Int)) :: dgs (n / 10)
termination_by n
decreasing_by omega
theorem dgs_small {n : Nat} (h : n < 10) : dgs n = [48 + (n : Int)] := by rw [dgs, dif_pos h]
theorem dgs_big {n : Nat} (h : ¬ n < 10) : dgs n = (48 + ((n % 10 : Nat) : Int)) :: dgs (n / 10) := by rw [dgs, dif_neg h]
def dgs0 (n : Nat) : List Int := if n = 0 then [] else dgs n
theorem dgs_step {n : Nat} : dgs n = (48 + ((n % 10 : Nat) : Int)) :: dgs0 (n / 10) := by
  by_cases h : n < 10
  · rw [dgs_small h, dgs0, if_pos (by omega), Nat.mod_eq_of_lt h]
  · rw [dgs_big h, dgs0, if_neg (by omega)]
theorem dgs_len : ∀ (d n : Nat), n < 10 ^ (d + 1) → (dgs n).length ≤ d + 1
  | 0, n, h => by rw [dgs_small (by simpa using h)]; simp
  | d + 1, n, h => by
    by_cases h10 : n < 10
    · rw [dgs_small h10]; simp
    · rw [dgs_big h10, List.length_cons]
      have := dgs_len d (n / 10) (by rw [Nat.div_lt_iff_lt_mul (by decide)]; rw [Nat.pow_succ] at h; omega)
      omega
theorem dgs_pos (n : Nat) : 0 < (dgs n).length := by rw [dgs_step]; simp
def decB (n : Int) : ByteArray := strOfNums (dgs n.toNat).reverse
def rvL (l : List Int) (i : Nat) : List Int := (List.range l.length).map fun t => if t < i ∨ l.length ≤ t + i then l.getD (l.length - 1 - t) 0 else l.getD t 0
theorem rvL_len (l : List Int) (i : Nat) : (rvL l i).length = l.length := by simp [rvL]
theorem rvL_get (l : List Int) (i t : Nat) (ht : t < l.length) : (rvL l i)[t]? = some (if t < i ∨ l.length ≤ t + i then l.getD (l.length - 1 - t) 0 else l.getD t 0) := by
  simp [rvL, List.getElem?_map, List.getElem?_range ht]
theorem rvL_getD (l : List Int) (i t : Nat) (ht : t < l.length) : (rvL l i).getD t 0 = if t < i ∨ l.length ≤ t + i then l.getD (l.length - 1 - t) 0 else l.getD t 0 := by
  rw [List.getD_eq_getElem?_getD, rvL_get l i t ht]; rfl
theorem rvL_zero (l : List Int) : rvL l 0 = l := by
  apply List.ext_getElem?
  intro t
  by_cases ht : t < l.length
  · rw [rvL_get l 0 t ht, if_neg (by omega), List.getD_eq_getElem?_getD, List.getElem?_eq_getElem ht]; rfl
  · rw [List.getElem?_eq_none (by rw [rvL_len]; omega), List.getElem?_eq_none (by omega)]
theorem rvL_end (l : List Int) (i : Nat) (hi : l.length ≤ i + i + 1) : rvL l i = l.reverse := by
  apply List.ext_getElem?
  intro t
  by_cases ht : t < l.length
  · rw [rvL_get l i t ht, List.getElem?_reverse ht]
    by_cases hc : t < i ∨ l.length ≤ t + i
    · rw [if_pos hc, List.getD_eq_getElem?_getD, List.getElem?_eq_getElem (show l.length - 1 - t < l.length by omega)]; rfl
    · rw [if_neg hc, show l.length - 1 - t = t by omega, List.getD_eq_getElem?_getD, List.getElem?_eq_getElem ht]; rfl
  · rw [List.getElem?_eq_none (by rw [rvL_len]; omega), List.getElem?_eq_none (by rw [List.length_reverse]; omega)]
theorem rvL_step (l : List Int) (i : Nat) (hi : i + i + 1 < l.length) : ((rvL l i).set i ((rvL l i).getD (l.length - 1 - i) 0)).set (l.length - 1 - i) ((rvL l i).getD i 0) = rvL l (i + 1) := by
  apply List.ext_getElem?
  intro t
  by_cases ht : t < l.length
  · rw [rvL_get l (i + 1) t ht, List.getElem?_set, List.length_set, rvL_len, List.getElem?_set, rvL_len, rvL_get l i t ht, rvL_getD l i i (by omega), rvL_getD l i (l.length - 1 - i) (by omega)]
    by_cases h1 : l.length - 1 - i = t
    · rw [if_pos h1, if_pos (by omega), if_neg (by omega), if_pos (by omega), show l.length - 1 - t = i by omega]
    · rw [if_neg h1]
      by_cases h2 : i = t
      · rw [if_pos h2, if_pos (by omega), if_neg (by omega), if_pos (by omega), h2]
      · rw [if_neg h2]
        by_cases hc : t < i ∨ l.length ≤ t + i
        · rw [if_pos hc, if_pos (by omega)]
        · rw [if_neg hc, if_neg (by omega)]
  · rw [List.getElem?_eq_none (by rw [List.length_set, List.length_set, rvL_len]; omega), List.getElem?_eq_none (by rw [rvL_len]; omega)]
theorem tx_keep {v6 : Value} {l : List Int} {W w1 : World} {v v1 : Value} {e base : Nat} (h : Kd.R (Kd.int .u32) e W base (fun k => some k ≠ v.ownBlock) v6 l) (hg : W.grownBy w1 v.ownBlock) (hat : v1.ownBlock = v.ownBlock ∨ ∃ b, v1.ownBlock = some b ∧ W.heap.size ≤ b) : Kd.R (Kd.int .u32) e w1 base (fun k => some k ≠ v1.ownBlock) v6 l :=
  Kd.R_mono (Kd.R_grown (Kd.R_bound h) hg (fun k hk => hk.1)) (fun k hk => by
    rcases hat with e | ⟨b, e, hb⟩
    · rw [e]; exact hk.1
    · rw [e]; intro e2; have := Option.some.inj e2; have := hk.2.2.1; omega)
theorem tx_info : (Try.prog.info? 5).map (fun i => (i.zero, i.size, i.bytes)) = some (some (.int .u8 0), 1, 1) := by kernel_rfl
theorem tx_put {W : World} {base g n cap : Nat} {ok : Nat → Prop} {l : List Int} (h : Kd.R (Kd.int .u8) 5 W base ok (.slice (some ⟨g, 0, none⟩) n cap) l) (i : Nat) (x : Int) : Kd.R (Kd.int .u8) 5 (W.setCell ⟨g, i, none⟩ (.int .u8 x)) base ok (.slice (some ⟨g, 0, none⟩) n cap) (l.set i x) := Kd.R_putn h (i : Int) x
theorem tx_cell {W : World} {base g n cap : Nat} {ok : Nat → Prop} {l : List Int} (h : Kd.R (Kd.int .u8) 5 W base ok (.slice (some ⟨g, 0, none⟩) n cap) l) (i : Nat) (hi : i < n) : W.cell? ⟨g, i, none⟩ = some (.int .u8 (l.getD i 0)) ∧ W.frozen? ⟨g, i, none⟩ = false := Kd.R_celln 0 h (i : Int) (by omega) (by omega)
theorem tx_far {W : World} {base g n cap : Nat} {ok : Nat → Prop} {l : List Int} (h : Kd.R (Kd.int .u8) 5 W base ok (.slice (some ⟨g, 0, none⟩) n cap) l) (i j : Nat) (hj : j < n) (hij : i ≠ j) (u : Value) : (W.setCell ⟨g, i, none⟩ u).cell? ⟨g, j, none⟩ = some (.int .u8 (l.getD j 0)) ∧ (W.setCell ⟨g, i, none⟩ u).frozen? ⟨g, j, none⟩ = false := by
  obtain ⟨A', c', e⟩ := Kd.R_slice h
  injection e with _ e2 _
  obtain ⟨g', cap', e, _, _, cells, hc⟩ := Kd.R_form h (by rw [← e2]; omega)
  injection e with e1
  have e3 := Option.some.inj e1
  injection e3 with e4
  subst e4
  refine ⟨?_, blk_frozen (blk_set hc i u) j⟩
  rw [← (tx_cell h j hj).1]
  exact World.cell?_setCell_other _ _ _ _ (fun e => hij (by simp at e))

set_option maxHeartbeats 8000000 in
set_option maxRecDepth 100000 in
theorem vendmeterbig_Int_Text.zero (w : World) (x : Nat) (hx : BigA w x 0) :
    Calls Try.prog 57 #[.pointer (some ⟨x, 0, none⟩), .int .i64 10] w fun e w' => e = .returned (.string (decB 0)) ∧ Below w.heap.size w w' := by
  obtain ⟨A, c, l, hx1, hx2, hx3, hx4⟩ := hx
  have hl : l.length = 0 := hx4.nil_iff.2 rfl
  rw [hl] at hx1
  have x1 : w.cell? ⟨x, 1, none⟩ = some (.slice A 0 c) := (blk_cell hx1 1).trans rfl
  clear hx1 hx2 hx3 hx4 hl
  go_enter Try.func57, Try.ntmps57
  go_wp2
  go_ret
  refine ⟨?_, Below.refl _ _⟩
  have e : decB 0 = ⟨#[48]⟩ := by unfold decB; rw [show (0 : Int).toNat = 0 from rfl, dgs_small (by decide)]; decide
  rw [e]
  rfl
set_option maxHeartbeats 8000000 in
set_option maxRecDepth 100000 in
theorem vendmeterbig_Int_Text.at_ (w : World) (x : Nat) (n : Int) (hx : BigA w x n) (hn0 : 0 < n) (hn : n < W32 4) :
    Calls Try.prog 57 #[.pointer (some ⟨x, 0, none⟩), .int .i64 10] w fun e w' => e = .returned (.string (decB n)) ∧ Below w.heap.size w w' := by
  obtain ⟨A, c, l, hx1, hx2, hx3, hx4⟩ := hx
  obtain ⟨N, rfl⟩ : ∃ N : Nat, n = (N : Int) := ⟨n.toNat, by omega⟩
  have hl0 : l.length ≠ 0 := fun h => by have := hx4.nil_iff.1 h; omega
  have hlm : l.length ≤ 4 := hx4.len_le hn
  have x1 : w.cell? ⟨x, 1, none⟩ = some (.slice A l.length c) := (blk_cell hx1 1).trans rfl
  have t1 : (l.length == 0) = false := beq_eq_false_iff_ne.mpr hl0
  have t1i : ((l.length : Int) == 0) = false := beq_eq_false_iff_ne.mpr (by omega)
  have HX := Aside0.mk hx1
  have HC := Aside0.mk hx2
  have HCC := Aside0.mk hx3
  have HW := Aside0.mk hx4
  have HNL := Aside0.mk (show (dgs N).length ≤ 39 from dgs_len 38 N (by have e : W32 4 = 340282366920938463463374607431768211456 := by decide
                                                                        omega))
  have HN0 := Aside0.mk (show 0 < N by omega)
  have HLM := Aside0.mk hlm
  clear hx1 hx2 hx3 hx4 hl0 hlm hn0 hn
  go_enter Try.func57, Try.ntmps57
  go_wp2_with (go_at_call 88; refine (vendmeterbig_twin.calls _ _ l l _ (WC.c HC.out) HCC.out (wtwin_eq l (by have := HLM.out; omega))).mono ?_; rintro e wa ⟨v0, rfl, hR, hb⟩; have HR0 := Aside0.mk hR; have HB0 := Aside0.mk hb; clear hR hb)
  go_loopg [5, 6, 7] N (fun kq v5 v6 v7 w' => ∃ (l dn : List Int), Aside0 (Wd l (kq : Int) ∧ l.length ≤ 1000000) ∧ Aside0 (dn ++ dgs0 kq = dgs N) ∧ Aside0 (Kd.R (Kd.int .u32) 22 w' w.heap.size (fun k => some k ≠ v5.ownBlock) v6 l) ∧ Aside0 (Kd.R (Kd.int .u8) 5 w' w.heap.size (fun _ => True) v5 dn) ∧ Aside0 (Below w.heap.size w w'))
  case atStart => exact ⟨l, [], ⟨HW.out, by have := HLM.out; omega⟩, ⟨by rw [List.nil_append, dgs0, if_neg (by have := HN0.out; omega)]⟩, ⟨Kd.R_mono HR0.out (fun k _ => by simp [Value.ownBlock])⟩, ⟨Kd.R_nil _ _ _ _ _⟩, HB0⟩
  case round =>
    clear HR0 HB0 t1 t1i x1
    obtain ⟨l, dn, HL, HD, H6, H5, HB⟩ := hrel
    obtain ⟨A6, c6, rfl, hc6, hC6⟩ := Kd.R_reads H6.out
    rcases Nat.eq_zero_or_pos gk with hk | hk
    · subst hk
      have hll : l.length = 0 := HL.out.1.nil_iff.2 rfl
      have hdn : dn = dgs N := by have := HD.out; rw [dgs0, if_pos rfl, List.append_nil] at this; exact this
      subst hdn
      obtain ⟨g, cap, rfl, hgb, hgl, _⟩ := Kd.R_form H5.out (dgs_pos N)
      have HG := Aside0.mk hgb
      have x0 : wr.cell? ⟨x, 0, none⟩ = some (.bool false) := (blk_cell (blk_below HX.out HB.out) 0).trans rfl
      obtain ⟨L, hL⟩ : ∃ L, (dgs N).length = L := ⟨_, rfl⟩
      have HLL := Aside0.mk (And.intro hL (show 0 < L by rw [← hL]; exact dgs_pos N))
      have t1 : decide (0 < l.length) = false := decide_eq_false (by omega)
      have t1b : decide ((0 : Int) < (l.length : Int)) = false := decide_eq_false (by omega)
      have hLb : 0 < L ∧ L ≤ 39 := ⟨HLL.out.2, by rw [← hL]; exact HNL.out⟩
      rw [hL] at H5 ⊢
      rw [hll]
      have ej : wrap64 ((L : Int) - 1) = (L : Int) - 1 := ww64 ⟨by omega, by omega⟩
      have eji : IntKind.i64.wrap ((L : Int) - 1) = (L : Int) - 1 := by rw [Go.IntKind.wrap_i64]; omega
      clear hL hll hgb hgl hC6 hc6 H6 HD HL t1 t1b hLb
      go_wp2
      go_loopg [8, 9, 10] L (fun kq v8 v9 v10 w' => ∃ (i : Nat) (jj : Int), v8 = .int .i64 (i : Int) ∧ v9 = .int .i64 jj ∧ Aside0 (jj = (L : Int) - 1 - i ∧ i + i ≤ L ∧ kq = L - i) ∧ Aside0 (Kd.R (Kd.int .u8) 5 w' w.heap.size (fun _ => True) (.slice (some ⟨g, 0, none⟩) L cap) (rvL (dgs N) i)) ∧ Aside0 (Below w.heap.size w w'))
      case atStart => exact ⟨0, (L : Int) - 1, rfl, rfl, ⟨by simp, by omega, by omega⟩, ⟨by rw [rvL_zero]; exact H5.out⟩, HB⟩
      case round =>
        clear H5 HB ej eji x0
        obtain ⟨i, jj, rfl, rfl, HJ, H5, HB⟩ := hrel
        by_cases hlt : (i : Int) < jj
        · obtain ⟨j, rfl⟩ : ∃ j : Nat, jj = (j : Int) := ⟨jj.toNat, by omega⟩
          have hij : i < j := by omega
          have t2 : decide (i < j) = true := decide_eq_true hij
          have hjl : j < L := by have := HJ.out; omega
          have hil : i < L := by omega
          obtain ⟨ci, fi⟩ := tx_cell H5.out i hil
          obtain ⟨cj, fj⟩ := tx_cell H5.out j hjl
          obtain ⟨ai, hai⟩ : ∃ a, (rvL (dgs N) i).getD i 0 = a := ⟨_, rfl⟩
          obtain ⟨aj, haj⟩ : ∃ a, (rvL (dgs N) i).getD j 0 = a := ⟨_, rfl⟩
          have fa := fun u => (tx_far H5.out i j hjl (by omega) u).1
          have fb := fun u => (tx_far H5.out i j hjl (by omega) u).2
          rw [hai] at ci
          rw [haj] at cj fa
          have HA := Aside0.mk (And.intro hai haj)
          have HIJ := Aside0.mk (And.intro hij hjl)
          clear hlt hai haj hij
          go_wp2
          go_roundg (L - (i + 1))
          case measure => have := HIJ.out; have := HJ.out; omega
          case rel =>
            obtain ⟨h1, h2, h3⟩ := HJ.out
            obtain ⟨h4, h5⟩ := HIJ.out
            obtain ⟨e1, e2⟩ := HA.out
            have hl := HLL.out.1
            have hj : j = (dgs N).length - 1 - i := by omega
            have hNL := HNL.out
            refine ⟨i + 1, (j : Int) - 1, by rw [ww64 ⟨by omega, by omega⟩]; rfl, by rw [ww64 ⟨by omega, by omega⟩], ⟨by omega, by omega, rfl⟩, ⟨?_⟩, ⟨below_set (below_set HB.out HG.out) HG.out⟩⟩
            rw [← rvL_step (dgs N) i (by omega), ← hj, e1, e2]
            exact tx_put (tx_put H5.out i aj) j ai
        · have t2 : decide ((i : Int) < jj) = false := decide_eq_false hlt
          have he := rvL_end (dgs N) i (by have := HJ.out; have := HLL.out.1; omega)
          rw [he] at H5
          have hCC := Kd.R_reads H5.out
          obtain ⟨A9, c9, e9, hc9, hC9⟩ := hCC
          injection e9 with e91 e92 e93
          subst e91; subst e93
          rw [← e92] at hC9
          have hcv := Kd.C_string (P := Try.prog) (A := some ⟨g, 0, none⟩) (c := cap) Try.underlying90 Try.underlying5 Try.underlying9 hC9
          clear hC9 hc9 e92 hlt he
          go_wp2
          go_ret
          exact ⟨rfl, HB.out⟩
    · have hll : 0 < l.length := by
        rcases Nat.eq_zero_or_pos l.length with h | h
        · have := HL.out.1.nil_iff.1 h; omega
        · exact h
      have t1 : decide (0 < l.length) = true := decide_eq_true hll
      obtain ⟨q, hq1, hq2, hq3⟩ := wsmall_ev HL.out.1 (d := 10) ⟨by decide, by decide⟩ HL.out.2
      obtain ⟨ks, hks⟩ := Ev.rounds hq1
      obtain ⟨rr, hrr⟩ : ∃ rr : Int, (gk : Int) % 10 = rr := ⟨_, rfl⟩
      rw [hrr] at hks
      have hrb : 0 ≤ rr ∧ rr < 10 := by omega
      have t2 : decide (rr < 10) = true := decide_eq_true hrb.2
      obtain ⟨cc, hcc⟩ : ∃ cc : Int, 48 + rr = cc := ⟨_, rfl⟩
      have e1 : (48 + rr) % 4294967296 = cc := by omega
      have e2 : cc % 256 = cc := by omega
      have HKS := Aside0.mk hks
      have H6C := Aside0.mk hC6
      have HC6 := Aside0.mk hc6
      have hdl : dn.length ≤ 39 := by
        have h1 := congrArg List.length HD.out
        rw [List.length_append] at h1
        have := HNL.out
        omega
      have HDL := Aside0.mk hdl
      have hge : ((gk / 10 : Nat) : Int) = (gk : Int) / 10 := by omega
      have HQ := Aside0.mk (show Wd q ((gk / 10 : Nat) : Int) ∧ q.length ≤ 1000000 from ⟨by rw [hge]; exact hq2, by have := HL.out.2; omega⟩)
      have HDN := Aside0.mk (show (dn ++ [cc]) ++ dgs0 (gk / 10) = dgs N by
        have h := HD.out
        rw [dgs0, if_neg (by omega), dgs_step] at h
        rw [← h, List.append_assoc]
        congr 1
        simp
        omega)
      have HGK := Aside0.mk hk
      clear hge hk hll hq1 hq2 hq3 hks hrr hrb hcc hC6 hc6 hdl
      go_wp2_with (first | (go_at_call 89; refine (vendmeterbig_small.calls ks _ _ l 10 q rr _ H6C.out HC6.out HKS.out).mono ?_; rintro e wb ⟨v0, rfl, hR, hb⟩; have I5 := Aside0.mk (Kd.R_below H5.out hb); have I6 := Aside0.mk (Kd.R_mono (Kd.R_lower (Kd.R_new hR (Kd.R_own H5.out).choose_spec) HB.out.size) (fun k hk => hk.2)); have IB := Aside0.mk (below_then HB.out HB.out.size hb); clear hR hb) | ((with_reducible refine gate_builtin (b := .append) (xs := #[.tmp 36, .tmp 40]) rfl ?_); at_builtin; refine Kd.R_append (Kd.int .u8) (w0 := w) w.heap.size rfl (.tmp 36) (.tmp 40) 90 5 (.int .u8 0) 1 rfl Try.underlying90 tx_info rfl (by decide) (by omega) u5 dn cc [.int .u8 cc] (fun _ => True) (fun _ => False) rfl rfl rfl (fun _ hk => hk.elim) (fun _ _ => trivial) I5.out IB.out IB.out.size (by have := HDL.out; omega) ?_; intro v9 wc ho hb hg hat; have J5 := Aside0.mk ho; have J6 := Aside0.mk (tx_keep I6.out hg hat); have JB := Aside0.mk hb; clear ho hb hg hat))
      go_roundg (gk / 10)
      case measure => have := HGK.out; omega
      case rel => exact ⟨q, dn ++ [cc], HQ, HDN, J6, J5, JB⟩
set_option maxHeartbeats 8000000 in
set_option maxRecDepth 100000 in
theorem vendmeterbig_Int_Text.all (w : World) (x : Nat) (n : Int) (hx : BigA w x n) (hn : n < W32 4) :
    Calls Try.prog 57 #[.pointer (some ⟨x, 0, none⟩), .int .i64 10] w fun e w' => e = .returned (.string (decB n)) ∧ Below w.heap.size w w' := by
  rcases Int.lt_or_le 0 n with h | h
  · exact vendmeterbig_Int_Text.at_ w x n hx h hn
  · have h0 := hx.pos
    obtain rfl : n = 0 := by omega
    exact vendmeterbig_Int_Text.zero w x hx
set_option maxHeartbeats 8000000 in
set_option maxRecDepth 100000 in
theorem vendmeterbig_Int_String.at_ (w : World) (x : Nat) (n : Int) (hx : BigA w x n) (hn : n < W32 4) :
    Calls Try.prog 25 #[.pointer (some ⟨x, 0, none⟩)] w fun e w' => e = .returned (.string (decB n)) ∧ Below w.heap.size w w' := by
  have HX := Aside0.mk hx
  have HN := Aside0.mk hn
  clear hx hn
  go_enter Try.func25, Try.ntmps25
  go_wp2_with (go_at_call 57; refine (vendmeterbig_Int_Text.all _ x n HX.out HN.out).mono ?_; rintro e wa ⟨rfl, hb⟩; have HB := Aside0.mk hb; clear hb)
  go_ret
  exact ⟨rfl, HB.out⟩

set_option maxHeartbeats 8000000 in
set_option maxRecDepth 100000 in
theorem vendmeterref_WideShown.at_ (w : World) (w0 w1 w2 : Int) (h0 : 0 ≤ w0 ∧ w0 < 4294967296) (h1 : 0 ≤ w1 ∧ w1 < 4294967296) (h2 : 0 ≤ w2 ∧ w2 < 4294967296) :
    Calls Try.prog 9 #[.agg #[.int .u32 w0, .int .u32 w1, .int .u32 w2]] w fun e w' => e = .returned (.string (decB (wval [w0, w1, w2]))) ∧ Below w.heap.size w w' := by
  have hu24 := Try.underlying24
  have HB := Aside0.mk (below_alloc (Below.refl w.heap.size w) (.cells #[.int .u32 w0, .int .u32 w1, .int .u32 w2] 24))
  have HV := Aside0.mk (show wval [w0, w1, w2] < W32 4 from (w3v_bd h0 h1 h2 0).2)
  have HU := Aside0.mk (fun W : World => vendmeterref_big96.calls W w0 w1 w2 h0 h1 h2)
  clear h0 h1 h2
  go_enter Try.func9, Try.ntmps9
  go_wp2_with (first | (go_at_call 24; refine (HU.out _).mono ?_; rintro e wa ⟨g, rfl, hg, hA, hb⟩; have HA := Aside0.mk hA; have HB1 := Aside0.mk (below_then HB.out HB.out.size hb); clear hg hA hb) | (go_at_call 25; refine (vendmeterbig_Int_String.at_ wa g _ HA.out HV.out).mono ?_; rintro e wb ⟨rfl, hb⟩; have HB2 := Aside0.mk (below_then HB1.out HB1.out.size hb); clear hb))
  go_ret
  exact ⟨rfl, HB2.out⟩
/-! ### vendmeterref_WideShown: function 9 (by hand) -/
def vendmeterref_WideShown.f (a0_0 : Int) (a0_1 : Int) (a0_2 : Int) : Option (ByteArray) := if (0 ≤ a0_0 ∧ a0_0 < 4294967296) ∧ (0 ≤ a0_1 ∧ a0_1 < 4294967296) ∧ (0 ≤ a0_2 ∧ a0_2 < 4294967296) then some (decB (wval [a0_0, a0_1, a0_2])) else none
theorem vendmeterref_WideShown.calls (a0_0 : Int) (a0_1 : Int) (a0_2 : Int) (r : ByteArray) (w : World) (h : vendmeterref_WideShown.f a0_0 a0_1 a0_2 = some r) :
    Calls Try.prog 9 #[.agg #[.int .u32 a0_0, .int .u32 a0_1, .int .u32 a0_2]] w fun e w' => e = .returned (.string r) ∧ Below w.heap.size w w' := by
  unfold vendmeterref_WideShown.f at h
  split at h
  · rename_i hc
    obtain rfl := Option.some.inj h
    exact vendmeterref_WideShown.at_ w a0_0 a0_1 a0_2 hc.1 hc.2.1 hc.2.2
  · cases h

/-! ### vendmeterlaw_WordsShows: function 3 -/
def vendmeterlaw_WordsShows.f (k : Nat) (a0_0 : Int) (a0_1 : Int) (a0_2 : Int) : Option (Bool) := (words_Show.f k a0_0 a0_1 a0_2).bind fun t177 => ((vendmeterref_WideShown.f a0_0 a0_1 a0_2).bind fun t178 => (some (t177.toList == t178.toList)))
theorem vendmeterlaw_WordsShows.mono : ∀ a0 a1 a2 k, LeO (vendmeterlaw_WordsShows.f k a0 a1 a2) (vendmeterlaw_WordsShows.f (k + 1) a0 a1 a2) := by
  intro a0 a1 a2 k
  unfold vendmeterlaw_WordsShows.f
  repeat' first
      | (with_reducible exact words_Show.mono _ _ _ _)
      | (with_reducible exact LeO.refl _)
      | (with_reducible exact LeO.none _)
      | (with_reducible refine LeO.ite ?_ ?_)
      | (with_reducible refine LeO.bind ?_ (fun _ => ?_))
      | exact words_Show.mono _ _ _ _
      | exact LeO.none _
      | refine LeO.ite ?_ ?_
      | refine LeO.bind ?_ (fun _ => ?_)
set_option maxHeartbeats 8000000 in
set_option maxRecDepth 100000 in
theorem vendmeterlaw_WordsShows.calls (k : Nat) (a0_0 : Int) (a0_1 : Int) (a0_2 : Int) (r : Bool) (w : World) (h : vendmeterlaw_WordsShows.f k a0_0 a0_1 a0_2 = some r) :
    Calls Try.prog 3 #[.agg #[.int .u32 a0_0, .int .u32 a0_1, .int .u32 a0_2]] w fun e w' => e = .returned (.bool r) ∧ Below w.heap.size w w' := by
  have hu24 := Try.underlying24
  have HB := Aside0.mk (Below.refl w.heap.size w)
  have H : ((words_Show.f k a0_0 a0_1 a0_2).bind fun t177 => ((vendmeterref_WideShown.f a0_0 a0_1 a0_2).bind fun t178 => (some (t177.toList == t178.toList)))) = some r := h
  clear h
  replace H := Option.bind_eq_some_iff.mp H
  obtain ⟨t177, A20, H⟩ := H
  replace H : ((vendmeterref_WideShown.f a0_0 a0_1 a0_2).bind fun t178 => (some (t177.toList == t178.toList))) = some r := H
  have A2 := Aside0.mk A20
  clear A20
  replace H := Option.bind_eq_some_iff.mp H
  obtain ⟨t178, A30, H⟩ := H
  replace H : (some (t177.toList == t178.toList)) = some r := H
  have A3 := Aside0.mk A30
  clear A30
  obtain rfl := Option.some.inj H
  go_enter Try.func3, Try.ntmps3
  go_wp2_with (first | ((with_reducible refine gate_dst (N := 1) rfl ?_); refine box_event ?hg (N := 1) ?hd (cs := #[.int .u32 a0_0, .int .u32 a0_1, .int .u32 a0_2]) (t := 24) ?hr ?_; (case hd => rfl); (case hg => rfl); (case hr => first | (go_simp; done) | (go_simp; rfl)); intro gb176 hg w4 hbox hb; have n0_ := Aside0.mk (below_step (by repeat (first | (with_reducible first | exact HB.out | apply below_alloc | apply pw_below_drewN | apply below_drew1) | exact HB.out)) hb); have n1_ := Aside0.mk (hbox); have n2_ := Aside0.mk ((by rw [hg]; exact (below_size (by repeat (first | (with_reducible first | exact HB.out | apply below_alloc | apply pw_below_drewN | apply below_drew1) | exact HB.out))) : w.heap.size ≤ gb176)); have n3_ := Aside0.mk ((by rw [hg]; exact (below_size (by repeat (first | (with_reducible first | exact HB.out | apply below_alloc | apply pw_below_drewN | apply below_drew1) | exact HB.out))) : w.heap.size ≤ gb176)); clear HB; have HB := n0_; have BK176 := n1_; have GW176 := n2_; have GE176 := n3_; clear n0_ n1_ n2_ n3_; clear hb hbox hg; have hcz5_0 : w4.cell? ⟨gb176, 0, none⟩ = some (.int .u32 a0_0) := (blk_cell BK176.out 0).trans rfl; have hcz5_1 : w4.cell? ⟨gb176, 1, none⟩ = some (.int .u32 a0_1) := (blk_cell BK176.out 1).trans rfl; have hcz5_2 : w4.cell? ⟨gb176, 2, none⟩ = some (.int .u32 a0_2) := (blk_cell BK176.out 2).trans rfl; have hfz5_0 := blk_frozen BK176.out 0; have hfz5_1 := blk_frozen BK176.out 1; have hfz5_2 := blk_frozen BK176.out 2) | ((with_reducible refine gate_callee (f := 8) rfl ?_); refine goesL_ (some 6) rfl rfl Try.func8 (by kernel_rfl) rfl #[.agg #[.int .u32 a0_0, .int .u32 a0_1, .int .u32 a0_2]] rfl (by (try simp only [List.map_toArray, List.map_cons, List.map_nil]); first | done | rfl | (simp only [List.length_drop, List.length_take]; rfl)) ?_; (with_reducible refine (words_Show.calls k a0_0 a0_1 a0_2 t177 _ A2.out).mono ?_); rintro e w6 ⟨rfl, hb⟩; refine ⟨_, rfl, ?_⟩; have n0_ := Aside0.mk (blk_below (g := gb176) (o := .cells #[.int .u32 a0_0, .int .u32 a0_1, .int .u32 a0_2] 24 (0, 0)) (by (with_reducible repeat (first | refine blk_drewN ?_ _ | refine blk_drew ?_ | refine blk_alloc ?_ _)); exact BK176.out) hb); have n1_ := Aside0.mk (below_step (by repeat (first | (with_reducible first | exact HB.out | apply below_alloc | apply pw_below_drewN | apply below_drew1 | refine below_set ?_ GE176.out) | exact HB.out)) hb); clear BK176; clear HB; have BK176 := n0_; have HB := n1_; clear n0_ n1_; (try clear hb); (try clear hb2); (try clear hk); (try clear hi); have hcz7_0 : w6.cell? ⟨gb176, 0, none⟩ = some (.int .u32 a0_0) := (blk_cell BK176.out 0).trans rfl; have hcz7_1 : w6.cell? ⟨gb176, 1, none⟩ = some (.int .u32 a0_1) := (blk_cell BK176.out 1).trans rfl; have hcz7_2 : w6.cell? ⟨gb176, 2, none⟩ = some (.int .u32 a0_2) := (blk_cell BK176.out 2).trans rfl; have hfz7_0 := blk_frozen BK176.out 0; have hfz7_1 := blk_frozen BK176.out 1; have hfz7_2 := blk_frozen BK176.out 2) | ((with_reducible refine gate_callee (f := 9) rfl ?_); refine goesL_ (some 8) rfl rfl Try.func9 (by kernel_rfl) rfl #[.agg #[.int .u32 a0_0, .int .u32 a0_1, .int .u32 a0_2]] rfl (by (try simp only [List.map_toArray, List.map_cons, List.map_nil]); first | done | rfl | (simp only [List.length_drop, List.length_take]; rfl)) ?_; (with_reducible refine (vendmeterref_WideShown.calls a0_0 a0_1 a0_2 t178 _ A3.out).mono ?_); rintro e w8 ⟨rfl, hb⟩; refine ⟨_, rfl, ?_⟩; have n0_ := Aside0.mk (blk_below (g := gb176) (o := .cells #[.int .u32 a0_0, .int .u32 a0_1, .int .u32 a0_2] 24 (0, 0)) (by (with_reducible repeat (first | refine blk_drewN ?_ _ | refine blk_drew ?_ | refine blk_alloc ?_ _)); exact BK176.out) hb); have n1_ := Aside0.mk (below_step (by repeat (first | (with_reducible first | exact HB.out | apply below_alloc | apply pw_below_drewN | apply below_drew1 | refine below_set ?_ GE176.out) | exact HB.out)) hb); clear BK176; clear HB; have BK176 := n0_; have HB := n1_; clear n0_ n1_; (try clear hb); (try clear hb2); (try clear hk); (try clear hi)))
  go_ret
  exact ⟨by first | rfl | (simp [errW_none, errW_some] <;> rfl) | (simp [*, errW_none, errW_some] <;> rfl), by repeat (first | (with_reducible first | exact HB.out | apply below_alloc | apply pw_below_drewN | apply below_drew1 | refine below_set ?_ GE176.out) | exact HB.out)⟩

end Go.Proofs.Ytoookcmablnjfaa.PWordsShows
