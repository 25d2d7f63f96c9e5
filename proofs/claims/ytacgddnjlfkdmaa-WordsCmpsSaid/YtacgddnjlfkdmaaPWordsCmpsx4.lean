-- written by this session's program wip/xp/xprint.py (it drives the kit's print and adds to it)
import Derived.Test.YtacgddnjlfkdmaaPWordsCmpsx0
import Derived.Test.YtacgddnjlfkdmaaPWordsCmpsx1
import Derived.Test.YtacgddnjlfkdmaaPWordsCmpsx3
namespace Go.Proofs.Ytacgddnjlfkdmaa.PWordsCmps
open Go.RowKit Go.Proofs.YtacgddnjlfkdmaaW.PrintWords Go.Proofs.YtacgddnjlfkdmaaW.PrintLast Go.Proofs.YtacgddnjlfkdmaaW.PrintMore
attribute [local go_sem] max2_int min2_int max_two min_two max_three min_three max_four min_four   -- for this text's walks alone
set_option linter.unusedVariables false
set_option linter.unusedSimpArgs false

-- NOT PRINTED: function 90 (vendmeterbig_Int_Cmp)

-- NOT PRINTED: function 41 (vendmeterref_Compared)

theorem words_eq (d : Nat) (w : World) (x0 x1 x2 y0 y1 y2 : Int) : (Op.equalIn (d + 2) 63 (.agg #[.int .u32 x0, .int .u32 x1, .int .u32 x2]) (.agg #[.int .u32 y0, .int .u32 y1, .int .u32 y2])).run Try.prog w = .ok (x0 == y0 && (x1 == y1 && x2 == y2)) w := by
  obtain ⟨i61, hi⟩ : ∃ i, Try.prog.info? 61 = some i := by
    have h := winfo
    cases hh : Try.prog.info? 61 with
    | none => rw [hh] at h; cases h
    | some i => exact ⟨i, rfl⟩
  have hc : Try.prog.cellsOf 61 = 1 := by kernel_rfl
  rw [show d + 2 = (d + 1) + 1 from rfl, run_equalIn_array (P := Try.prog) w (d + 1) _ _ Try.underlying63 hi, hc]
  have h0 : (Op.equalIn (d + 1) 61 (.int .u32 x0) (.int .u32 y0)).run Try.prog w = .ok (x0 == y0) w := by go_simp
  have h1 : (Op.equalIn (d + 1) 61 (.int .u32 x1) (.int .u32 y1)).run Try.prog w = .ok (x1 == y1) w := by go_simp
  have h2 : (Op.equalIn (d + 1) 61 (.int .u32 x2) (.int .u32 y2)).run Try.prog w = .ok (x2 == y2) w := by go_simp
  have p0 : ∀ a b c : Int, (part 61 #[.int .u32 a, .int .u32 b, .int .u32 c] (0 * 1)).run Try.prog w = .ok (.int .u32 a) w := fun a b c => by go_simp
  have p1 : ∀ a b c : Int, (part 61 #[.int .u32 a, .int .u32 b, .int .u32 c] (1 * 1)).run Try.prog w = .ok (.int .u32 b) w := fun a b c => by go_simp
  have p2 : ∀ a b c : Int, (part 61 #[.int .u32 a, .int .u32 b, .int .u32 c] (2 * 1)).run Try.prog w = .ok (.int .u32 c) w := fun a b c => by go_simp
  simp only [show List.range 3 = [0, 1, 2] from rfl, Op.eqItems, Sem.run_bind, p0, p1, p2, h0, h1, h2, Result.andThen_ok]
  have q1 : ∀ a b c : Int, (part 61 #[.int .u32 a, .int .u32 b, .int .u32 c] 1).run Try.prog w = .ok (.int .u32 b) w := p1
  have q2 : ∀ a b c : Int, (part 61 #[.int .u32 a, .int .u32 b, .int .u32 c] 2).run Try.prog w = .ok (.int .u32 c) w := p2
  cases hx : (x0 == y0) <;> cases hy : (x1 == y1) <;> cases hz : (x2 == y2) <;> simp [hx, hy, hz, q1, q2, h1, h2]
attribute [local go_sem high] words_eq

set_option maxHeartbeats 4000000 in
set_option maxRecDepth 100000 in
theorem vendmeterbig_Int_Cmp.calls (w : World) (x y : Nat) (a b : Int) (hx : BigA w x a) (hy : BigA w y b) (ha : a < W32 1000) (hb : b < W32 1000) :
    Calls Try.prog 90 #[.pointer (some ⟨x, 0, none⟩), .pointer (some ⟨y, 0, none⟩)] w fun e w' => e = .returned (.int .i64 (wcmp a b)) ∧ Below w.heap.size w w' := by
  obtain ⟨Ax, cx, lx, hx1, hx2, hx3, hx4⟩ := hx
  obtain ⟨Ay, cy, ly, hy1, hy2, hy3, hy4⟩ := hy
  have lbx := hx4.len_le ha
  obtain ⟨kc, hcm⟩ := Ev.rounds (wcmp_ev hx4 hy4 (by omega))
  have HCM := Aside0.mk hcm
  have x0 : w.cell? ⟨x, 0, none⟩ = some (.bool false) := (blk_cell hx1 0).trans rfl
  have y0 : w.cell? ⟨y, 0, none⟩ = some (.bool false) := (blk_cell hy1 0).trans rfl
  have HX := Aside0.mk hx1
  have HY := Aside0.mk hy1
  have HCX := Aside0.mk hx2
  have HCY := Aside0.mk hy2
  clear hx1 hx2 hy1 hy2 hcm
  go_enter Try.func90, Try.ntmps90
  go_wp2
  go_quiet (fail)
  go_wp2
  refine start_ (n := 10) (S := fun w' => w'.cell? ⟨x, 1, none⟩ = some (.slice Ax lx.length cx) ∧ w'.cell? ⟨y, 1, none⟩ = some (.slice Ay ly.length cy)) (ds := []) #[false, false, false, false, false, false, false, false, false, false] (by kernel_rfl) rfl rfl ⟨(blk_cell (blk_drew (blk_drewN HX.out nq)) 1).trans rfl, (blk_cell (blk_drew (blk_drewN HY.out nq)) 1).trans rfl⟩ (fun hHeld => ?_)
  refine pure_ (i := 0) (N := some 19) (v := ?_) (a' := ?_) #[true, false, false, false, false, false, false, false, false, false] rfl rfl (by kernel_rfl) (fun _ _ _ h => h) (Or.inl ⟨by rfl, ?_⟩) ?_ ?_
  rotate_left
  · intro w'
    go_simp
    with_reducible rfl
  rotate_left
  · simp only [Act.put, List.setIfInBounds_toArray, List.set_cons_zero, List.set_cons_succ, i64_w, i32_w]
    rfl
  refine pure_ (i := 1) (N := some 20) (v := ?_) (a' := ?_) #[true, true, false, false, false, false, false, false, false, false] rfl rfl (by kernel_rfl) (fun _ _ _ h => h) (Or.inl ⟨by rfl, ?_⟩) ?_ ?_
  rotate_left
  · intro w'
    go_simp
    with_reducible rfl
  rotate_left
  · simp only [Act.put, List.setIfInBounds_toArray, List.set_cons_zero, List.set_cons_succ, i64_w, i32_w]
    rfl
  refine pure_ (i := 2) (N := some 21) (v := ?_) (a' := ?_) #[true, true, true, false, false, false, false, false, false, false] rfl rfl (by kernel_rfl) (fun _ _ _ h => h) (Or.inl ⟨by rfl, ?_⟩) ?_ ?_
  rotate_left
  · intro w'
    go_simp
    with_reducible rfl
  rotate_left
  · simp only [Act.put, List.setIfInBounds_toArray, List.set_cons_zero, List.set_cons_succ, i64_w, i32_w]
    rfl
  refine pure_ (i := 4) (N := some 23) (v := ?_) (a' := ?_) #[true, true, true, false, true, false, false, false, false, false] rfl rfl (by kernel_rfl) (fun _ _ _ h => h) (Or.inl ⟨by rfl, ?_⟩) ?_ ?_
  rotate_left
  · intro w'
    go_simp
    with_reducible rfl
  rotate_left
  · simp only [Act.put, List.setIfInBounds_toArray, List.set_cons_zero, List.set_cons_succ, i64_w, i32_w]
    rfl
  refine pure_ (i := 5) (N := some 24) (v := ?_) (a' := ?_) #[true, true, true, false, true, true, false, false, false, false] rfl rfl (by kernel_rfl) (fun _ _ _ h => h) (Or.inl ⟨by rfl, ?_⟩) ?_ ?_
  rotate_left
  · intro w'
    go_simp
    with_reducible rfl
  rotate_left
  · simp only [Act.put, List.setIfInBounds_toArray, List.set_cons_zero, List.set_cons_succ, i64_w, i32_w]
    rfl
  refine pure_ (i := 6) (N := some 25) (v := ?_) (a' := ?_) #[true, true, true, false, true, true, true, false, false, false] rfl rfl (by kernel_rfl) (fun _ _ _ h => h) (Or.inl ⟨by rfl, ?_⟩) ?_ ?_
  rotate_left
  · intro w'
    go_simp
    with_reducible rfl
  rotate_left
  · simp only [Act.put, List.setIfInBounds_toArray, List.set_cons_zero, List.set_cons_succ, i64_w, i32_w]
    rfl
  refine take_ (i := 3) (N := some 22) (v := ?_) (a' := ?_) #[true, true, true, true, true, true, true, false, false, false] rfl rfl (by kernel_rfl) (fun _ _ _ h => h) (Or.inl ⟨by rfl, ?_⟩) hHeld ?_ ?_
  rotate_left
  · rintro w' ⟨s0, s1⟩
    go_simp
    with_reducible rfl
  rotate_left
  · simp only [Act.put, List.setIfInBounds_toArray, List.set_cons_zero, List.set_cons_succ, i64_w, i32_w]
    rfl
  refine take_ (i := 7) (N := some 26) (v := ?_) (a' := ?_) #[true, true, true, true, true, true, true, true, false, false] rfl rfl (by kernel_rfl) (fun _ _ _ h => h) (Or.inl ⟨by rfl, ?_⟩) hHeld ?_ ?_
  rotate_left
  · rintro w' ⟨s0, s1⟩
    go_simp
    with_reducible rfl
  rotate_left
  · simp only [Act.put, List.setIfInBounds_toArray, List.set_cons_zero, List.set_cons_succ, i64_w, i32_w]
    rfl
  refine one_ (i := 8) (N := some 27) #[true, true, true, true, true, true, true, true, true, false] rfl rfl (by kernel_rfl) (by decide) (fun K hK => ?_)
  refine goes_ Try.func126 (by kernel_rfl) rfl #[.slice Ax lx.length cx, .slice Ay ly.length cy] (by rfl) rfl rfl (by (try simp only [List.map_toArray, List.map_cons, List.map_nil]); first | done | rfl) ?_
  with_reducible refine (vendmeterbig_cmp.calls kc Ax cx lx Ay cy ly _ _ (Kd.C_below (WC.c HCX.out) (below_drew1 (pw_below_drewN (Below.refl _ _) nq))) hx3 (Kd.C_below (WC.c HCY.out) (below_drew1 (pw_below_drewN (Below.refl _ _) nq))) hy3 HCM.out).mono ?_
  rintro e w3 ⟨rfl, hd⟩
  refine ⟨_, rfl, ?_⟩
  have hB := hd.below
  have HX1 := Aside0.mk (blk_below (blk_drew (blk_drewN HX.out nq)) hB)
  have HY1 := Aside0.mk (blk_below (blk_drew (blk_drewN HY.out nq)) hB)
  have HB3 := Aside0.mk (Below.trans (below_drew1 (pw_below_drewN (Below.refl w.heap.size w) nq)) (hB.mono (Nat.le_refl _)))
  clear hd hB
  refine hK.out _ _ ⟨(blk_cell HX1.out 1).trans rfl, (blk_cell HY1.out 1).trans rfl⟩ (fun hHeld => ?_)
  clear hK K
  refine norm_ (a' := ?_) ?_ ?_
  rotate_left
  · show Act.put _ (some 27) _ = _
    simp only [Act.put, List.setIfInBounds_toArray, List.set_cons_zero, List.set_cons_succ, i64_w, i32_w]
    rfl
  refine pure_ (i := 9) (N := some 5) (v := ?_) (a' := ?_) #[true, true, true, true, true, true, true, true, true, true] rfl rfl (by kernel_rfl) (fun _ _ _ h => h) (Or.inl ⟨by rfl, ?_⟩) ?_ ?_
  rotate_left
  · intro w'
    go_simp
    with_reducible rfl
  rotate_left
  · simp only [Act.put, List.setIfInBounds_toArray, List.set_cons_zero, List.set_cons_succ, i64_w, i32_w]
    rfl
  refine done_ (by kernel_rfl) ?_
  have x3 : w3.cell? ⟨x, 0, none⟩ = some (.bool false) := (blk_cell HX1.out 0).trans rfl
  clear x0 y0
  go_wp2
  go_ret
  exact ⟨rfl, HB3.out⟩

set_option maxHeartbeats 8000000 in
set_option maxRecDepth 100000 in
theorem slices_Reverse_three.calls (k : Nat) (P0_ : Nat → Prop) (u9000_ : Value) (l0 : List Int) (r : List Int) (w0 w : World) (hB : Below w0.heap.size w0 w) (ho0 : Kd.R (Kd.int .u32) 63 w w0.heap.size P0_ u9000_ l0) (h : slices_Reverse_uint32_uint32.f k l0 = some r) :
    Calls Try.prog 88 #[u9000_] w fun e w' => e = .returned (.tuple #[]) ∧ Kd.R (Kd.int .u32) 63 w' w0.heap.size (fun k_ => (P0_ k_ ∨ w.heap.size ≤ k_)) u9000_ r ∧ Below w0.heap.size w0 w' ∧ Kept w w' (fun k_ => P0_ k_) := by
  have HO0 := Aside0.mk (show Kd.R (Kd.int .u32) 63 w w0.heap.size (fun k_ => (P0_ k_ ∨ w.heap.size ≤ k_)) u9000_ l0 from Kd.R_mono ho0 (fun k_ hk => (.inl hk)))
  have HK := Aside0.mk (Kept.refl w (fun k_ => P0_ k_))
  have HW0 := Aside0.mk hB.size
  have HB := Aside0.mk hB
  clear hB
  have H : (slices_Reverse_uint32_uint32.l0 k l0 0 (wrap64 ((l0.length : Int) - 1))) = some r := h
  clear h
  have H' := Aside0.mk H
  clear H
  obtain ⟨Ao2, co2, eo2⟩ := Kd.R_slice HO0.out
  subst eo2
  go_enter Try.func88, Try.ntmps88
  go_wp2
  go_loopg [2, 3] k (fun kq v2 v3 w' => ∃ (x0_1 : List Int) (x2_1 : Int) (x3_1 : Int), v2 = .int .i64 x2_1 ∧ v3 = .int .i64 x3_1 ∧ Aside0 (slices_Reverse_uint32_uint32.l0 kq x0_1 x2_1 x3_1 = some r) ∧ Aside0 (kq ≤ k) ∧ Aside0 (Kd.R (Kd.int .u32) 63 w' w0.heap.size (fun k_ => (P0_ k_ ∨ w.heap.size ≤ k_)) (.slice Ao2 l0.length co2) x0_1) ∧ Aside0 (Kept w w' (fun k_ => P0_ k_)) ∧ Aside0 (Below w0.heap.size w0 w'))
  case atStart => exact ⟨(l0), (0), (wrap64 ((l0.length : Int) - 1)), (by first | rfl | (simp; done) | (simp [*]; done)), (by first | rfl | (simp; done) | (simp [*]; done)), H', ⟨Nat.le_refl _⟩, ⟨by (with_reducible repeat (first | apply Kd.R_alloc | apply Kd.R_drewN | apply Kd.R_drew)); exact HO0.out⟩, ⟨by repeat (first | (with_reducible first | exact HK.out | apply Kept.alloc | apply Kept.drewN | apply Kept.drew) | exact HK.out)⟩, ⟨by repeat (first | (with_reducible first | exact HB.out | apply below_alloc | apply pw_below_drewN | apply below_drew1) | exact HB.out)⟩⟩
  case round =>
    clear H'
    try clear p2
    obtain ⟨x0_1, x2_1, x3_1, rfl, rfl, HA, HK1, HO_0, HK, HB⟩ := hrel
    have hl0_1 := (Kd.R_reads' HO_0.out).1
    rw [hl0_1] at HO_0
    (try simp only [hl0_1])
    cases gk with
    | zero => exact absurd HA.out (by simp [slices_Reverse_uint32_uint32.l0])
    | succ k1 =>
      have H := HA.out
      clear HA
      simp only [slices_Reverse_uint32_uint32.l0] at H
      by_cases c3 : x2_1 < x3_1
      · rw [if_pos c3] at H
        have c3b0 : decide (x2_1 < x3_1) = true := decide_eq_true c3
        clear c3
        by_cases c4 : 0 ≤ x3_1
        · rw [if_pos c4] at H
          have c4b0 : decide (0 ≤ x3_1) = true := decide_eq_true c4
          clear c4
          by_cases c5 : x3_1 < (x0_1.length : Int)
          · rw [if_pos c5] at H
            have c5b0 : decide (x3_1 < (x0_1.length : Int)) = true := decide_eq_true c5
            clear c5
            by_cases c6 : 0 ≤ x2_1
            · rw [if_pos c6] at H
              have c6b0 : decide (0 ≤ x2_1) = true := decide_eq_true c6
              clear c6
              by_cases c7 : x2_1 < (x0_1.length : Int)
              · rw [if_pos c7] at H
                have c7b0 : decide (x2_1 < (x0_1.length : Int)) = true := decide_eq_true c7
                clear c7
                obtain ⟨y103, hy103⟩ : ∃ y_ : List Int, y_ = (x0_1.set (x2_1 : Int).toNat (rd x0_1 x3_1)) := ⟨_, rfl⟩
                replace H : (slices_Reverse_uint32_uint32.l0 k1 (y103.set (x3_1 : Int).toNat (rd x0_1 x2_1)) (wrap64 (x2_1 + 1)) (wrap64 (x3_1 - 1))) = some r := by first | (rw [hy103]; with_reducible exact H) | (have H2_ := (Option.bind_some _ _).symm.trans H; rw [hy103]; with_reducible exact H2_) | (have H2_ := (Option.bind_some _ _).symm.trans H; with_reducible exact H2_) | with_reducible exact H | (rw [hy103]; exact H) | exact H
                have Ny103 := Aside0.mk hy103
                clear hy103
                obtain ⟨y104, hy104⟩ : ∃ y_ : List Int, y_ = (y103.set (x3_1 : Int).toNat (rd x0_1 x2_1)) := ⟨_, rfl⟩
                replace H : (slices_Reverse_uint32_uint32.l0 k1 y104 (wrap64 (x2_1 + 1)) (wrap64 (x3_1 - 1))) = some r := by first | (rw [hy104]; with_reducible exact H) | (have H2_ := (Option.bind_some _ _).symm.trans H; rw [hy104]; with_reducible exact H2_) | (have H2_ := (Option.bind_some _ _).symm.trans H; with_reducible exact H2_) | with_reducible exact H | (rw [hy104]; exact H) | exact H
                have Ny104 := Aside0.mk hy104
                clear hy104
                have H' := Aside0.mk H
                clear H
                try go_wp2
                have n0_ := Aside0.mk (Kd.R_drew HO_0.out)
                have n1_ := Aside0.mk (Kept.drew HK.out)
                have n2_ := Aside0.mk (below_drew1 HB.out)
                clear HO_0
                clear HK
                clear HB
                have HO_0 := n0_
                have HK := n1_
                have HB := n2_
                clear n0_ n1_ n2_
                have p101 : 0 ≤ (x3_1 : Int) := of_decide_eq_true (by first | (with_reducible assumption) | assumption)
                have q101 : x3_1 < (x0_1.length : Int) := of_decide_eq_true (by first | (with_reducible assumption) | assumption)
                obtain ⟨ad101, e101, hx101_0⟩ := Kd.at_int (Kd.R_reads' HO_0.out).2.2 x3_1 p101 q101
                cases e101
                replace p101 := eq_true p101
                replace q101 := eq_true q101
                have p102 : 0 ≤ (x2_1 : Int) := of_decide_eq_true (by first | (with_reducible assumption) | assumption)
                have q102 : x2_1 < (x0_1.length : Int) := of_decide_eq_true (by first | (with_reducible assumption) | assumption)
                obtain ⟨ad102, e102, hx102_0⟩ := Kd.at_int (Kd.R_reads' HO_0.out).2.2 x2_1 p102 q102
                obtain rfl : ad101 = ad102 := (by injection e102)
                replace p102 := eq_true p102
                replace q102 := eq_true q102
                have p8 : 0 ≤ (x2_1 : Int) := of_decide_eq_true (by first | (with_reducible assumption) | assumption)
                have q8 : (x2_1 : Int) < ((x0_1.length : Int) : Int) := of_decide_eq_true (by first | (with_reducible assumption) | assumption)
                obtain ⟨go8, co8, eo8, gb8, gl8, cl8, HG8⟩ := Kd.R_form HO_0.out (by omega)
                (first | cases eo8 | (injection eo8 with ea_ en_ ec_; (first | subst ea_ | (injection ea_ with ea_; subst ea_)); subst ec_; clear en_))
                have GB8 := Aside0.mk gb8
                have GG8 := Aside0.mk HG8
                clear gb8 gl8 HG8
                have HMgo8 := Aside0.mk (show (P0_ go8 ∨ w.heap.size ≤ go8) from (HO_0.out.1 _ rfl))
                (first | simp only [add_plain] at hx101_0 | skip)
                (first | simp only [add_plain] at hx102_0 | skip)
                obtain ⟨hx8_0, hf8_0⟩ := Kd.R_celln 0 HO_0.out (x2_1 : Int) p8 q8
                replace p8 := eq_true p8
                replace q8 := eq_true q8
                have HP11 := Kd.R_putn HO_0.out (x2_1 : Int) (rd x0_1 x3_1)
                rw [← Ny103.out] at HP11
                have HQ11 := Aside0.mk HP11
                clear HP11
                have p9 : 0 ≤ (x3_1 : Int) := of_decide_eq_true (by first | (with_reducible assumption) | assumption)
                have q9 : (x3_1 : Int) < ((x0_1.length : Int) : Int) := of_decide_eq_true (by first | (with_reducible assumption) | assumption)
                obtain ⟨hx9_0, hf9_0⟩ := Kd.R_celln 0 HQ11.out (x3_1 : Int) p9 q9
                replace p9 := eq_true p9
                replace q9 := eq_true q9
                have HP12 := Kd.R_putn HQ11.out (x3_1 : Int) (rd x0_1 x2_1)
                rw [← Ny104.out] at HP12
                have HQ12 := Aside0.mk HP12
                clear HP12
                refine start_ (n := 16) (S := fun w' => w'.cell? ⟨go8, (x3_1).toNat, none⟩ = some (.int .u32 (rd x0_1 x3_1)) ∧ w'.cell? ⟨go8, (x2_1).toNat, none⟩ = some (.int .u32 (rd x0_1 x2_1))) (ds := [13, 15]) #[false, false, false, false, false, false, false, false, false, false, false, false, false, false, false, false] (by kernel_rfl) rfl rfl ⟨hx101_0, hx102_0⟩ (fun hHeld => ?_); refine with_tabW slices_Reverse_uint32_uint32.tab3 slices_Reverse_uint32_uint32.bits3 (fun HT_ HW_ => ?_)
                generalize wr.drew = w10 at HO_0 HK HB GG8 HQ11 HQ12 hf8_0 hf9_0 hx101_0 hx102_0 hx8_0 hx9_0 hHeld ⊢
                refine pure_ (i := 0) (N := some 14) (v := ?_) (a' := ?_) #[true, false, false, false, false, false, false, false, false, false, false, false, false, false, false, false] rfl rfl (any_of HT_.out (by kernel_rfl)) (fun _ _ _ h => h) (Or.inl ⟨by rfl, ?_⟩) ?_ ?_
                rotate_left
                · intro w'
                  go_simp
                  with_reducible rfl
                rotate_left
                · simp only [Act.put, List.setIfInBounds_toArray, List.set_cons_zero, List.set_cons_succ, i64_w, i32_w]
                  rfl
                refine pure_ (i := 1) (N := some 15) (v := ?_) (a' := ?_) #[true, true, false, false, false, false, false, false, false, false, false, false, false, false, false, false] rfl rfl (any_of HT_.out (by kernel_rfl)) (fun _ _ _ h => h) (Or.inl ⟨by rfl, ?_⟩) ?_ ?_
                rotate_left
                · intro w'
                  go_simp
                  with_reducible rfl
                rotate_left
                · simp only [Act.put, List.setIfInBounds_toArray, List.set_cons_zero, List.set_cons_succ, i64_w, i32_w]
                  rfl
                refine pure_ (i := 2) (N := some 16) (v := ?_) (a' := ?_) #[true, true, true, false, false, false, false, false, false, false, false, false, false, false, false, false] rfl rfl (any_of HT_.out (by kernel_rfl)) (fun _ _ _ h => h) (Or.inl ⟨by rfl, ?_⟩) ?_ ?_
                rotate_left
                · intro w'
                  go_simp
                  with_reducible rfl
                rotate_left
                · simp only [Act.put, List.setIfInBounds_toArray, List.set_cons_zero, List.set_cons_succ, i64_w, i32_w]
                  rfl
                refine pure_ (i := 3) (N := some 17) (v := ?_) (a' := ?_) #[true, true, true, true, false, false, false, false, false, false, false, false, false, false, false, false] rfl rfl (any_of HT_.out (by kernel_rfl)) (fun _ _ _ h => h) (Or.inl ⟨by rfl, ?_⟩) ?_ ?_
                rotate_left
                · intro w'
                  go_simp
                  with_reducible rfl
                rotate_left
                · simp only [Act.put, List.setIfInBounds_toArray, List.set_cons_zero, List.set_cons_succ, i64_w, i32_w]
                  rfl
                refine pure_ (i := 4) (N := some 18) (v := ?_) (a' := ?_) #[true, true, true, true, true, false, false, false, false, false, false, false, false, false, false, false] rfl rfl (any_of HT_.out (by kernel_rfl)) (fun _ _ _ h => h) (Or.inl ⟨by rfl, ?_⟩) ?_ ?_
                rotate_left
                · intro w'
                  go_simp
                  with_reducible rfl
                rotate_left
                · simp only [Act.put, List.setIfInBounds_toArray, List.set_cons_zero, List.set_cons_succ, i64_w, i32_w]
                  rfl
                refine pure_ (i := 5) (N := some 19) (v := ?_) (a' := ?_) #[true, true, true, true, true, true, false, false, false, false, false, false, false, false, false, false] rfl rfl (any_of HT_.out (by kernel_rfl)) (fun _ _ _ h => h) (Or.inl ⟨by rfl, ?_⟩) ?_ ?_
                rotate_left
                · intro w'
                  go_simp
                  with_reducible rfl
                rotate_left
                · simp only [Act.put, List.setIfInBounds_toArray, List.set_cons_zero, List.set_cons_succ, i64_w, i32_w]
                  rfl
                refine pure_ (i := 6) (N := some 20) (v := ?_) (a' := ?_) #[true, true, true, true, true, true, true, false, false, false, false, false, false, false, false, false] rfl rfl (any_of HT_.out (by kernel_rfl)) (fun _ _ _ h => h) (Or.inl ⟨by rfl, ?_⟩) ?_ ?_
                rotate_left
                · intro w'
                  go_simp
                  with_reducible rfl
                rotate_left
                · simp only [Act.put, List.setIfInBounds_toArray, List.set_cons_zero, List.set_cons_succ, i64_w, i32_w]
                  rfl
                refine pure_ (i := 8) (N := some 22) (v := ?_) (a' := ?_) #[true, true, true, true, true, true, true, false, true, false, false, false, false, false, false, false] rfl rfl (any_of HT_.out (by kernel_rfl)) (fun _ _ _ h => h) (Or.inl ⟨by rfl, ?_⟩) ?_ ?_
                rotate_left
                · intro w'
                  go_simp
                  with_reducible rfl
                rotate_left
                · simp only [Act.put, List.setIfInBounds_toArray, List.set_cons_zero, List.set_cons_succ, i64_w, i32_w]
                  rfl
                refine pure_ (i := 9) (N := some 23) (v := ?_) (a' := ?_) #[true, true, true, true, true, true, true, false, true, true, false, false, false, false, false, false] rfl rfl (any_of HT_.out (by kernel_rfl)) (fun _ _ _ h => h) (Or.inl ⟨by rfl, ?_⟩) ?_ ?_
                rotate_left
                · intro w'
                  go_simp
                  with_reducible rfl
                rotate_left
                · simp only [Act.put, List.setIfInBounds_toArray, List.set_cons_zero, List.set_cons_succ, i64_w, i32_w]
                  rfl
                refine pure_ (i := 10) (N := some 24) (v := ?_) (a' := ?_) #[true, true, true, true, true, true, true, false, true, true, true, false, false, false, false, false] rfl rfl (any_of HT_.out (by kernel_rfl)) (fun _ _ _ h => h) (Or.inl ⟨by rfl, ?_⟩) ?_ ?_
                rotate_left
                · intro w'
                  go_simp
                  with_reducible rfl
                rotate_left
                · simp only [Act.put, List.setIfInBounds_toArray, List.set_cons_zero, List.set_cons_succ, i64_w, i32_w]
                  rfl
                refine take_ (i := 7) (N := some 21) (v := ?_) (a' := ?_) #[true, true, true, true, true, true, true, true, true, true, true, false, false, false, false, false] rfl rfl (take_ofW HT_.out HW_.out (by kernel_rfl)) (fun _ _ _ h => h) (Or.inl ⟨by rfl, ?_⟩) hHeld ?_ ?_
                rotate_left
                · rintro w' ⟨s0, s1⟩
                  go_simp
                  with_reducible rfl
                rotate_left
                · simp only [Act.put, List.setIfInBounds_toArray, List.set_cons_zero, List.set_cons_succ, i64_w, i32_w]
                  rfl
                refine take_ (i := 11) (N := some 25) (v := ?_) (a' := ?_) #[true, true, true, true, true, true, true, true, true, true, true, true, false, false, false, false] rfl rfl (take_ofW HT_.out HW_.out (by kernel_rfl)) (fun _ _ _ h => h) (Or.inl ⟨by rfl, ?_⟩) hHeld ?_ ?_
                rotate_left
                · rintro w' ⟨s0, s1⟩
                  go_simp
                  with_reducible rfl
                rotate_left
                · simp only [Act.put, List.setIfInBounds_toArray, List.set_cons_zero, List.set_cons_succ, i64_w, i32_w]
                  rfl
                refine pure_ (i := 12) (N := some 26) (v := ?_) (a' := ?_) #[true, true, true, true, true, true, true, true, true, true, true, true, true, false, false, false] rfl rfl (any_of HT_.out (by kernel_rfl)) (fun _ _ _ h => h) (Or.inl ⟨by rfl, ?_⟩) ?_ ?_
                rotate_left
                · intro w'
                  go_simp
                  with_reducible rfl
                rotate_left
                · simp only [Act.put, List.setIfInBounds_toArray, List.set_cons_zero, List.set_cons_succ, i64_w, i32_w]
                  rfl
                refine last_ (i := 13) (N := none) #[true, true, true, true, true, true, true, true, true, true, true, true, true, true, false, false] rfl rfl (one_of HT_.out (by kernel_rfl)) (by decide) (fun K hK => ?_)
                refine skip_ (w1 := ?_) (by rfl) rfl ?_ ?_
                rotate_left
                · go_simp
                  rfl
                refine hK.out _ _ ?_
                clear hK K
                refine pure_ (i := 14) (N := some 27) (v := ?_) (a' := ?_) #[true, true, true, true, true, true, true, true, true, true, true, true, true, true, true, false] rfl rfl (any_of HT_.out (by kernel_rfl)) (fun _ _ _ h => h) (Or.inl ⟨by rfl, ?_⟩) ?_ ?_
                rotate_left
                · intro w'
                  go_simp
                  with_reducible rfl
                rotate_left
                · simp only [Act.put, List.setIfInBounds_toArray, List.set_cons_zero, List.set_cons_succ, i64_w, i32_w]
                  rfl
                refine last_ (i := 15) (N := none) #[true, true, true, true, true, true, true, true, true, true, true, true, true, true, true, true] rfl rfl (one_of HT_.out (by kernel_rfl)) (by decide) (fun K hK => ?_)
                refine skip_ (w1 := ?_) (by rfl) rfl ?_ ?_
                rotate_left
                · go_simp
                  rfl
                refine hK.out _ _ ?_
                clear hK K
                refine done_ (done_of HT_.out (by kernel_rfl)) ?_
                try go_wp2
                (try simp only [← hl0_1])
                go_roundg k1
                case measure => have := HK1.out; omega
                case rel => exact ⟨(y104), (wrap64 (x2_1 + 1)), (wrap64 (x3_1 - 1)), (by first | rfl | (simp; done) | (simp [*]; done)), (by first | rfl | (simp; done) | (simp [*]; done)), H', ⟨by have := HK1.out; omega⟩, ⟨by (try simp only [hl0_1]); (with_reducible repeat (first | apply Kd.R_alloc | apply Kd.R_drewN | apply Kd.R_drew)); exact HQ12.out⟩, ⟨by repeat (first | (with_reducible first | exact HK.out | apply Kept.alloc | apply Kept.drewN | apply Kept.drew | refine Kept.setCell ?_ HMgo8.out _ | refine Kept.setCell ?_ HMgo8.out _) | exact HK.out)⟩, ⟨by repeat (first | (with_reducible first | exact HB.out | apply below_alloc | apply pw_below_drewN | apply below_drew1 | refine below_set ?_ GB8.out | refine below_set ?_ GB8.out) | exact HB.out)⟩⟩
              · rw [if_neg c7] at H
                exact absurd H (by simp)
            · rw [if_neg c6] at H
              exact absurd H (by simp)
          · rw [if_neg c5] at H
            exact absurd H (by simp)
        · rw [if_neg c4] at H
          exact absurd H (by simp)
      · rw [if_neg c3] at H
        have c3b0 : decide (x2_1 < x3_1) = false := decide_eq_false c3
        clear c3
        obtain rfl := Option.some.inj H
        go_wp2
        first | go_end0 | ((try simp only [Exit.inBlock, Exit.then]); refine bodyPost_ret (results_none rfl _ _ _) rfl ?_)
        exact ⟨by first | rfl | (simp [errW_none, errW_some] <;> rfl) | (simp [*, errW_none, errW_some] <;> rfl), (by first | exact (by (with_reducible repeat (first | apply Kd.R_alloc | apply Kd.R_drewN | apply Kd.R_drew)); exact HO_0.out) | (simp only [hl0_1]; exact (by (with_reducible repeat (first | apply Kd.R_alloc | apply Kd.R_drewN | apply Kd.R_drew)); exact HO_0.out))), by repeat (first | (with_reducible first | exact HB.out | apply below_alloc | apply pw_below_drewN | apply below_drew1) | exact HB.out), by repeat (first | (with_reducible first | exact HK.out | apply Kept.alloc | apply Kept.drewN | apply Kept.drew) | exact HK.out)⟩
theorem three_R {w : World} {base g : Nat} {ok : Nat → Prop} {a b c : Int} (hg : w.heap[g]? = some (.cells #[.int .u32 a, .int .u32 b, .int .u32 c] 63 (0, 0))) (hb : base ≤ g) (hok : ok g) : Kd.R (Kd.int .u32) 63 w base ok (.slice (some ⟨g, 0, none⟩) 3 3) [a, b, c] := by
  refine Kd.R_of_own ⟨rfl, .inr ⟨g, 3, _, rfl, hb, hg, Nat.le_refl _, by decide, rfl, rfl⟩⟩ (fun k hk => ?_)
  simp only [Value.ownBlock, Option.some.injEq] at hk
  exact hk ▸ hok
theorem three_of {w : World} {base g : Nat} {ok : Nat → Prop} {a b c : Int} (h : Kd.R (Kd.int .u32) 63 w base ok (.slice (some ⟨g, 0, none⟩) 3 3) [a, b, c]) : w.heap[g]? = some (.cells #[.int .u32 a, .int .u32 b, .int .u32 c] 63 (0, 0)) := by
  obtain ⟨g', cap, e, _, _, cells, hc⟩ := Kd.R_form h (by simp)
  have h0 := (Kd.R_cell 0 h 0 (by decide) (by simp)).1
  have h1 := (Kd.R_cell 0 h 1 (by decide) (by simp)).1
  have h2 := (Kd.R_cell 0 h 2 (by decide) (by simp)).1
  obtain ⟨_, inner, ho, hr⟩ := h
  simp only [Value.slice.injEq, Option.some.injEq, Addr.mk.injEq] at e
  obtain ⟨⟨rfl, _⟩, _, rfl⟩ := e
  have hs : cells.size = 3 := by
    obtain ⟨_, h5 | ⟨g1, cap1, cur, e1, _, hc1, _, _, hz, _⟩⟩ := ho
    · cases h5.1
    · simp only [Value.slice.injEq, Option.some.injEq, Addr.mk.injEq] at e1
      obtain ⟨⟨rfl, _⟩, _, rfl⟩ := e1
      rw [hc] at hc1
      simp only [Option.some.injEq, Obj.cells.injEq] at hc1
      rw [hc1.1, hz]; rfl
  rw [hc]
  rw [show ((0 : Int).toNat) = 0 from rfl, blk_cell hc 0] at h0
  rw [show ((1 : Int).toNat) = 1 from rfl, blk_cell hc 1] at h1
  rw [show ((2 : Int).toNat) = 2 from rfl, blk_cell hc 2] at h2
  obtain ⟨l⟩ := cells
  match l, hs with
  | [x, y, z], _ =>
    simp only [List.getElem?_toArray, List.getElem?_cons_zero, List.getElem?_cons_succ, Option.some.injEq] at h0 h1 h2
    rw [h0, h1, h2]; rfl
theorem three_turned (a b c : Int) : slices_Reverse_uint32_uint32.f 3 [a, b, c] = some [c, b, a] := by
  have w0 : wrap64 (((3 : Nat) : Int) - 1) = 2 := by unfold wrap64; omega
  have w1 : wrap64 (0 + 1) = 1 := by unfold wrap64; omega
  have w2 : wrap64 (2 - 1) = 1 := by unfold wrap64; omega
  unfold slices_Reverse_uint32_uint32.f
  rw [show [a, b, c].length = 3 from rfl, w0]
  simp [slices_Reverse_uint32_uint32.l0, w1, w2, rd]
def cmp1 (x y : Int) : Int := if x < y then -1 else if y < x then 1 else 0
theorem cmp1_f (x y : Int) : cmp_Compare_uint32.f x y = some (cmp1 x y) := by
  unfold cmp_Compare_uint32.f cmp_isNaN_uint32.f cmp1
  by_cases h : x < y <;> by_cases h2 : y < x <;> simp [h, h2]
def cmp3 (a b c x y z : Int) : Int := if cmp1 a x = 0 then (if cmp1 b y = 0 then cmp1 c z else cmp1 b y) else cmp1 a x
theorem three_cmp (a b c x y z : Int) : slices_Compare_uint32_uint32.f 5 [a, b, c] [x, y, z] = some (cmp3 a b c x y z) := by
  have w1 : wrap64 (0 + 1) = 1 := by unfold wrap64; omega
  have w2 : wrap64 (1 + 1) = 2 := by unfold wrap64; omega
  have w3 : wrap64 (2 + 1) = 3 := by unfold wrap64; omega
  have r0 : ∀ p q r : Int, rd [p, q, r] 0 = p := fun _ _ _ => rfl
  have r1 : ∀ p q r : Int, rd [p, q, r] 1 = q := fun _ _ _ => rfl
  have r2 : ∀ p q r : Int, rd [p, q, r] 2 = r := fun _ _ _ => rfl
  unfold slices_Compare_uint32_uint32.f cmp3
  simp only [slices_Compare_uint32_uint32.l0, cmp1_f, List.length_cons, List.length_nil]
  simp only [show ((0 + 1 + 1 + 1 : Nat) : Int) = 3 from rfl, Option.bind_some, w1, w2, w3, r0, r1, r2]
  by_cases h1 : cmp1 a x = 0 <;> by_cases h2 : cmp1 b y = 0 <;> by_cases h3 : cmp1 c z = 0 <;> simp [h1, h2, h3]
theorem cmp3_w {a b c x y z : Int} (ha : 0 ≤ a ∧ a < 4294967296) (hb : 0 ≤ b ∧ b < 4294967296) (hc : 0 ≤ c ∧ c < 4294967296) (hx : 0 ≤ x ∧ x < 4294967296) (hy : 0 ≤ y ∧ y < 4294967296) (hz : 0 ≤ z ∧ z < 4294967296) : cmp3 c b a z y x = wcmp (wval [a, b, c]) (wval [x, y, z]) := by
  have e : wval [a, b, c] = a + 4294967296 * b + 18446744073709551616 * c := by simp only [wval]; omega
  have e2 : wval [x, y, z] = x + 4294967296 * y + 18446744073709551616 * z := by simp only [wval]; omega
  rw [e, e2]
  unfold cmp3 cmp1 wcmp
  split <;> split <;> (try split) <;> (try split) <;> (try split) <;> (try split) <;> (try split) <;> omega
theorem ov_dN {B : Nat} {a w : World} (h : Below B a w) (n : Nat) : Below B a (w.drewN n) := h.trans ⟨rfl, rfl, rfl, Nat.le_refl _, fun _ _ => rfl⟩
theorem cmp3_same (a b c : Int) : cmp3 c b a c b a = 0 := by simp [cmp3, cmp1]
set_option maxHeartbeats 8000000 in
set_option maxRecDepth 100000 in
theorem words_Cmp.calls (w : World) (a b c x y z : Int) :
    Calls Try.prog 40 #[.agg #[.int .u32 a, .int .u32 b, .int .u32 c], .agg #[.int .u32 x, .int .u32 y, .int .u32 z]] w fun e w' => e = .returned (.int .i64 (cmp3 c b a z y x)) ∧ Below w.heap.size w w' := by
  have hu63 := Try.underlying63
  have B2 := blk_alloc (blk_new w (.cells #[.int .u32 a, .int .u32 b, .int .u32 c] 63)) (.cells #[.int .u32 x, .int .u32 y, .int .u32 z] 63)
  have B3 := blk_new (w.alloc (.cells #[.int .u32 a, .int .u32 b, .int .u32 c] 63)) (.cells #[.int .u32 x, .int .u32 y, .int .u32 z] 63)
  rw [World.size_alloc] at B3
  have HB := Aside0.mk (below_alloc (below_alloc (Below.refl w.heap.size w) (.cells #[.int .u32 a, .int .u32 b, .int .u32 c] 63)) (.cells #[.int .u32 x, .int .u32 y, .int .u32 z] 63))
  have H2 := Aside0.mk B2
  have H3 := Aside0.mk B3
  clear B2 B3
  by_cases hs : (a == x && (b == y && c == z)) = true
  · obtain ⟨rfl, rfl, rfl⟩ : a = x ∧ b = y ∧ c = z := by simpa using hs
    clear hs
    go_enter Try.func40, Try.ntmps40
    go_wp2
    go_ret
    exact ⟨by rw [cmp3_same]; rfl, HB.out⟩
  · have hs0 : (a == x && (b == y && c == z)) = false := by simpa using hs
    clear hs
    go_enter Try.func40, Try.ntmps40
    go_wp2
    go_quiet (fail)
    go_upto_region 5 with (go_at_call 88; refine (slices_Reverse_three.calls 3 (fun k => k = w.heap.size) (.slice (some ⟨w.heap.size, 0, none⟩) 3 3) [a, b, c] [c, b, a] w _ (ov_dN HB.out nq) (three_R (blk_drewN H2.out nq) (Nat.le_refl _) rfl) (three_turned a b c)).mono ?_; rintro e wa ⟨rfl, hr, hb, hk⟩; have K2 := Aside0.mk (three_of hr); have K3 := Aside0.mk (blk_kept (blk_drewN H3.out nq) hk (by simp)); have HB1 := Aside0.mk hb; clear hr hb hk)
    go_upto_region 6 with (go_at_call 88; refine (slices_Reverse_three.calls 3 (fun k => k = w.heap.size + 1) (.slice (some ⟨w.heap.size + 1, 0, none⟩) 3 3) [x, y, z] [z, y, x] w wa HB1.out (three_R K3.out (Nat.le_succ _) rfl) (three_turned x y z)).mono ?_; rintro e wb ⟨rfl, hr, hb, hk⟩; have L3 := Aside0.mk (three_of hr); have L2 := Aside0.mk (blk_kept K2.out hk (by simp)); have HB2 := Aside0.mk hb; clear hr hb hk)
    go_wp2_with (go_at_call 89; refine (slices_Compare_uint32_uint32.calls 5 _ 3 [c, b, a] _ 3 [z, y, x] _ wb (Kd.R_reads' (three_R (ok := fun _ => True) L2.out (Nat.zero_le _) trivial)).2.2 (Nat.le_refl _) (Kd.R_reads' (three_R (ok := fun _ => True) L3.out (Nat.zero_le _) trivial)).2.2 (Nat.le_refl _) (three_cmp c b a z y x)).mono ?_; rintro e wc ⟨rfl, hd⟩; have HB3 := Aside0.mk (below_then HB2.out HB2.out.size hd.below); clear hd)
    go_ret
    exact ⟨rfl, HB3.out⟩

set_option maxHeartbeats 8000000 in
set_option maxRecDepth 100000 in
theorem vendmeterref_Compared.calls (w : World) (a b c x y z : Int) (ha : 0 ≤ a ∧ a < 4294967296) (hb : 0 ≤ b ∧ b < 4294967296) (hc : 0 ≤ c ∧ c < 4294967296) (hx : 0 ≤ x ∧ x < 4294967296) (hy : 0 ≤ y ∧ y < 4294967296) (hz : 0 ≤ z ∧ z < 4294967296) :
    Calls Try.prog 41 #[.agg #[.int .u32 a, .int .u32 b, .int .u32 c], .agg #[.int .u32 x, .int .u32 y, .int .u32 z]] w fun e w' => e = .returned (.int .i64 (wcmp (wval [a, b, c]) (wval [x, y, z]))) ∧ Below w.heap.size w w' := by
  have hu63 := Try.underlying63
  have B2 := blk_alloc (blk_new w (.cells #[.int .u32 a, .int .u32 b, .int .u32 c] 63)) (.cells #[.int .u32 x, .int .u32 y, .int .u32 z] 63)
  have B3 := blk_new (w.alloc (.cells #[.int .u32 a, .int .u32 b, .int .u32 c] 63)) (.cells #[.int .u32 x, .int .u32 y, .int .u32 z] 63)
  rw [World.size_alloc] at B3
  have HB := Aside0.mk (below_alloc (below_alloc (Below.refl w.heap.size w) (.cells #[.int .u32 a, .int .u32 b, .int .u32 c] 63)) (.cells #[.int .u32 x, .int .u32 y, .int .u32 z] 63))
  have H2 := Aside0.mk B2
  have H3 := Aside0.mk B3
  have HU1 := Aside0.mk (fun W : World => vendmeterref_big96.calls W a b c ha hb hc)
  have HU2 := Aside0.mk (fun W : World => vendmeterref_big96.calls W x y z hx hy hz)
  have HV1 := Aside0.mk (show wval [a, b, c] < W32 4 from (w3v_bd ha hb hc 0).2)
  have HV2 := Aside0.mk (show wval [x, y, z] < W32 4 from (w3v_bd hx hy hz 0).2)
  clear B2 B3 ha hb hc hx hy hz
  generalize wval [a, b, c] = V1 at *
  generalize wval [x, y, z] = V2 at *
  go_enter Try.func41, Try.ntmps41
  go_wp2
  refine start_ (n := 6) (S := fun w' => w'.cell? ⟨w.heap.size, 0, none⟩ = some (Value.int .u32 a) ∧ w'.cell? ⟨w.heap.size, 1, none⟩ = some (Value.int .u32 b) ∧ w'.cell? ⟨w.heap.size, 2, none⟩ = some (Value.int .u32 c) ∧ w'.cell? ⟨w.heap.size + 1, 0, none⟩ = some (Value.int .u32 x) ∧ w'.cell? ⟨w.heap.size + 1, 1, none⟩ = some (Value.int .u32 y) ∧ w'.cell? ⟨w.heap.size + 1, 2, none⟩ = some (Value.int .u32 z)) (ds := []) #[false, false, false, false, false, false] (by kernel_rfl) rfl rfl ⟨(blk_cell (blk_drew H2.out) 0).trans rfl, (blk_cell (blk_drew H2.out) 1).trans rfl, (blk_cell (blk_drew H2.out) 2).trans rfl, (blk_cell (blk_drew H3.out) 0).trans rfl, (blk_cell (blk_drew H3.out) 1).trans rfl, (blk_cell (blk_drew H3.out) 2).trans rfl⟩ (fun hHeld => ?_)
  refine take_ (i := 0) (N := some 5) (v := ?_) (a' := ?_) #[true, false, false, false, false, false] rfl rfl (by kernel_rfl) (fun _ _ _ h => h) (Or.inl ⟨by rfl, ?_⟩) hHeld ?_ ?_
  rotate_left
  · rintro w' ⟨s0, s1, s2, s3, s4, s5⟩
    go_simp
    with_reducible rfl
  rotate_left
  · simp only [Act.put, List.setIfInBounds_toArray, List.set_cons_zero, List.set_cons_succ, i64_w, i32_w]
    rfl
  refine take_ (i := 2) (N := some 7) (v := ?_) (a' := ?_) #[true, false, true, false, false, false] rfl rfl (by kernel_rfl) (fun _ _ _ h => h) (Or.inl ⟨by rfl, ?_⟩) hHeld ?_ ?_
  rotate_left
  · rintro w' ⟨s0, s1, s2, s3, s4, s5⟩
    go_simp
    with_reducible rfl
  rotate_left
  · simp only [Act.put, List.setIfInBounds_toArray, List.set_cons_zero, List.set_cons_succ, i64_w, i32_w]
    rfl
  refine one_ (i := 1) (N := some 6) #[true, true, true, false, false, false] rfl rfl (by kernel_rfl) (by decide) (fun K hK => ?_)
  refine goes_ Try.func78 (by kernel_rfl) rfl #[.agg #[.int .u32 a, .int .u32 b, .int .u32 c]] (by rfl) rfl rfl (by (try simp only [List.map_toArray, List.map_cons, List.map_nil]); first | done | rfl) ?_
  with_reducible refine (HU1.out _).mono ?_
  rintro e wa ⟨g1, rfl, hg1, hA1, hb1⟩
  refine ⟨_, rfl, ?_⟩
  have K1 := Aside0.mk hA1
  have J2 := Aside0.mk (blk_below (blk_drew H2.out) hb1)
  have J3 := Aside0.mk (blk_below (blk_drew H3.out) hb1)
  have HB1 := Aside0.mk (below_then (below_drew1 HB.out) HB.out.size hb1)
  clear hg1 hA1 hb1
  refine hK.out _ _ ⟨(blk_cell J2.out 0).trans rfl, (blk_cell J2.out 1).trans rfl, (blk_cell J2.out 2).trans rfl, (blk_cell J3.out 0).trans rfl, (blk_cell J3.out 1).trans rfl, (blk_cell J3.out 2).trans rfl⟩ (fun hHeld => ?_)
  clear hK K
  refine norm_ (a' := ?_) ?_ ?_
  rotate_left
  · show Act.put _ (some 6) _ = _
    simp only [Act.put, List.setIfInBounds_toArray, List.set_cons_zero, List.set_cons_succ, i64_w, i32_w]
    rfl
  refine one_ (i := 3) (N := some 8) #[true, true, true, true, false, false] rfl rfl (by kernel_rfl) (by decide) (fun K hK => ?_)
  refine goes_ Try.func78 (by kernel_rfl) rfl #[.agg #[.int .u32 x, .int .u32 y, .int .u32 z]] (by rfl) rfl rfl (by (try simp only [List.map_toArray, List.map_cons, List.map_nil]); first | done | rfl) ?_
  with_reducible refine (HU2.out _).mono ?_
  rintro e wb ⟨g2, rfl, hg2, hA2, hb2⟩
  refine ⟨_, rfl, ?_⟩
  have L1 := Aside0.mk (K1.out.below hb2)
  have L2 := Aside0.mk hA2
  have I2 := Aside0.mk (blk_below J2.out hb2)
  have I3 := Aside0.mk (blk_below J3.out hb2)
  have HB2 := Aside0.mk (below_then HB1.out HB1.out.size hb2)
  clear hg2 hA2 hb2
  refine hK.out _ _ ⟨(blk_cell I2.out 0).trans rfl, (blk_cell I2.out 1).trans rfl, (blk_cell I2.out 2).trans rfl, (blk_cell I3.out 0).trans rfl, (blk_cell I3.out 1).trans rfl, (blk_cell I3.out 2).trans rfl⟩ (fun hHeld => ?_)
  clear hK K
  refine norm_ (a' := ?_) ?_ ?_
  rotate_left
  · show Act.put _ (some 8) _ = _
    simp only [Act.put, List.setIfInBounds_toArray, List.set_cons_zero, List.set_cons_succ, i64_w, i32_w]
    rfl
  refine one_ (i := 4) (N := some 9) #[true, true, true, true, true, false] rfl rfl (by kernel_rfl) (by decide) (fun K hK => ?_)
  refine goes_ Try.func90 (by kernel_rfl) rfl #[.pointer (some ⟨g1, 0, none⟩), .pointer (some ⟨g2, 0, none⟩)] (by rfl) rfl rfl (by (try simp only [List.map_toArray, List.map_cons, List.map_nil]); first | done | rfl) ?_
  with_reducible refine (vendmeterbig_Int_Cmp.calls wb g1 g2 _ _ L1.out L2.out (lt1000 HV1.out (by decide)) (lt1000 HV2.out (by decide))).mono ?_
  rintro e wc ⟨rfl, hb3⟩
  refine ⟨_, rfl, ?_⟩
  have HB3 := Aside0.mk (below_then HB2.out HB2.out.size hb3)
  have M2 := Aside0.mk (blk_below I2.out hb3)
  have M3 := Aside0.mk (blk_below I3.out hb3)
  clear hb3
  refine hK.out _ _ ⟨(blk_cell M2.out 0).trans rfl, (blk_cell M2.out 1).trans rfl, (blk_cell M2.out 2).trans rfl, (blk_cell M3.out 0).trans rfl, (blk_cell M3.out 1).trans rfl, (blk_cell M3.out 2).trans rfl⟩ (fun hHeld => ?_)
  clear hK K
  refine norm_ (a' := ?_) ?_ ?_
  rotate_left
  · show Act.put _ (some 9) _ = _
    simp only [Act.put, List.setIfInBounds_toArray, List.set_cons_zero, List.set_cons_succ, i64_w, i32_w]
    rfl
  refine pure_ (i := 5) (N := some 4) (v := ?_) (a' := ?_) #[true, true, true, true, true, true] rfl rfl (by kernel_rfl) (fun _ _ _ h => h) (Or.inl ⟨by rfl, ?_⟩) ?_ ?_
  rotate_left
  · intro w'
    go_simp
    with_reducible rfl
  rotate_left
  · simp only [Act.put, List.setIfInBounds_toArray, List.set_cons_zero, List.set_cons_succ, i64_w, i32_w]
    rfl
  refine done_ (by kernel_rfl) ?_
  go_wp2
  go_ret
  exact ⟨rfl, HB3.out⟩

set_option maxHeartbeats 4000000 in
set_option maxRecDepth 100000 in
theorem vendmeterlaw_WordsCmps.true_ (w : World) (a b c x y z : Int) (ha : 0 ≤ a ∧ a < 4294967296) (hb : 0 ≤ b ∧ b < 4294967296) (hc : 0 ≤ c ∧ c < 4294967296) (hx : 0 ≤ x ∧ x < 4294967296) (hy : 0 ≤ y ∧ y < 4294967296) (hz : 0 ≤ z ∧ z < 4294967296) :
    Calls Try.prog 11 #[.agg #[.int .u32 a, .int .u32 b, .int .u32 c], .agg #[.int .u32 x, .int .u32 y, .int .u32 z]] w fun e w' => e = .returned (.bool true) ∧ Below w.heap.size w w' := by
  have hu63 := Try.underlying63
  have B2 := blk_alloc (blk_new w (.cells #[.int .u32 a, .int .u32 b, .int .u32 c] 63)) (.cells #[.int .u32 x, .int .u32 y, .int .u32 z] 63)
  have B3 := blk_new (w.alloc (.cells #[.int .u32 a, .int .u32 b, .int .u32 c] 63)) (.cells #[.int .u32 x, .int .u32 y, .int .u32 z] 63)
  rw [World.size_alloc] at B3
  have HB := Aside0.mk (below_alloc (below_alloc (Below.refl w.heap.size w) (.cells #[.int .u32 a, .int .u32 b, .int .u32 c] 63)) (.cells #[.int .u32 x, .int .u32 y, .int .u32 z] 63))
  have H2 := Aside0.mk B2
  have H3 := Aside0.mk B3
  have HC := Aside0.mk (fun W : World => words_Cmp.calls W a b c x y z)
  have HR := Aside0.mk (fun W : World => vendmeterref_Compared.calls W a b c x y z ha hb hc hx hy hz)
  have he := cmp3_w ha hb hc hx hy hz
  rw [he] at HC
  clear B2 B3 ha hb hc hx hy hz he
  generalize wcmp (wval [a, b, c]) (wval [x, y, z]) = r at *
  go_enter Try.func11, Try.ntmps11
  go_upto_region 2 with (go_at_call 40; refine (HC.out _).mono ?_; rintro e wa ⟨rfl, hd⟩; have HB1 := Aside0.mk (below_then HB.out HB.out.size hd); have J2 := Aside0.mk (blk_below H2.out hd); have J3 := Aside0.mk (blk_below H3.out hd); clear hd)
  have x0 := (show wa.cell? ⟨w.heap.size, 0, none⟩ = some (.int .u32 a) from (blk_cell J2.out 0).trans rfl)
  have x1 := (show wa.cell? ⟨w.heap.size, 1, none⟩ = some (.int .u32 b) from (blk_cell J2.out 1).trans rfl)
  have x2 := (show wa.cell? ⟨w.heap.size, 2, none⟩ = some (.int .u32 c) from (blk_cell J2.out 2).trans rfl)
  have y0 := (show wa.cell? ⟨w.heap.size + 1, 0, none⟩ = some (.int .u32 x) from (blk_cell J3.out 0).trans rfl)
  have y1 := (show wa.cell? ⟨w.heap.size + 1, 1, none⟩ = some (.int .u32 y) from (blk_cell J3.out 1).trans rfl)
  have y2 := (show wa.cell? ⟨w.heap.size + 1, 2, none⟩ = some (.int .u32 z) from (blk_cell J3.out 2).trans rfl)
  go_upto_region 3 with (go_at_call 41; refine (HR.out _).mono ?_; rintro e wb ⟨rfl, hd⟩; have HB2 := Aside0.mk (below_then HB1.out HB1.out.size hd); clear hd)
  clear x0 x1 x2 y0 y1 y2
  go_wp2
  go_ret
  exact ⟨rfl, HB2.out⟩
def vendmeterlaw_WordsCmps.f (a0_0 : Int) (a0_1 : Int) (a0_2 : Int) (a1_0 : Int) (a1_1 : Int) (a1_2 : Int) : Option Bool := if (0 ≤ a0_0 ∧ a0_0 < 4294967296) ∧ (0 ≤ a0_1 ∧ a0_1 < 4294967296) ∧ (0 ≤ a0_2 ∧ a0_2 < 4294967296) ∧ (0 ≤ a1_0 ∧ a1_0 < 4294967296) ∧ (0 ≤ a1_1 ∧ a1_1 < 4294967296) ∧ (0 ≤ a1_2 ∧ a1_2 < 4294967296) then some true else none
theorem vendmeterlaw_WordsCmps.calls (a0_0 : Int) (a0_1 : Int) (a0_2 : Int) (a1_0 : Int) (a1_1 : Int) (a1_2 : Int) (r : Bool) (w : World) (h : vendmeterlaw_WordsCmps.f a0_0 a0_1 a0_2 a1_0 a1_1 a1_2 = some r) : Calls Try.prog 11 #[.agg #[.int .u32 a0_0, .int .u32 a0_1, .int .u32 a0_2], .agg #[.int .u32 a1_0, .int .u32 a1_1, .int .u32 a1_2]] w fun e w' => e = .returned (.bool r) ∧ Below w.heap.size w w' := by
  unfold vendmeterlaw_WordsCmps.f at h
  split at h
  · rename_i hc
    obtain rfl := Option.some.inj h
    exact vendmeterlaw_WordsCmps.true_ w a0_0 a0_1 a0_2 a1_0 a1_1 a1_2 hc.1 hc.2.1 hc.2.2.1 hc.2.2.2.1 hc.2.2.2.2.1 hc.2.2.2.2.2
  · cases h

end Go.Proofs.Ytacgddnjlfkdmaa.PWordsCmps
