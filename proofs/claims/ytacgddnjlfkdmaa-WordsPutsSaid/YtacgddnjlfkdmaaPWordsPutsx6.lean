-- written by this session's program wip/xp/xprint.py (it drives the kit's print and adds to it)
import Derived.Test.YtacgddnjlfkdmaaPWordsPutsx0
import Derived.Test.YtacgddnjlfkdmaaPWordsPutsx1
import Derived.Test.YtacgddnjlfkdmaaPWordsPutsx2
import Derived.Test.YtacgddnjlfkdmaaPWordsPutsx3
import Derived.Test.YtacgddnjlfkdmaaPWordsPutsx4
namespace Go.Proofs.Ytacgddnjlfkdmaa.PWordsPuts
open Go.RowKit Go.Proofs.YtacgddnjlfkdmaaW.PrintWords Go.Proofs.YtacgddnjlfkdmaaW.PrintLast Go.Proofs.YtacgddnjlfkdmaaW.PrintMore
attribute [local go_sem] max2_int min2_int max_two min_two max_three min_three max_four min_four   -- for this text's walks alone
set_option linter.unusedVariables false
set_option linter.unusedSimpArgs false

theorem words_eq (d : Nat) (w : World) (x0 x1 x2 y0 y1 y2 : Int) : (Op.equalIn (d + 2) 63 (.agg #[.int .u32 x0, .int .u32 x1, .int .u32 x2]) (.agg #[.int .u32 y0, .int .u32 y1, .int .u32 y2])).run Try.prog w = .ok (x0 == y0 && (x1 == y1 && x2 == y2)) w := by
  obtain ⟨i61, hi⟩ : ∃ i, Try.prog.info? 61 = some i := by
    have h := winfo
    cases hh : Try.prog.info? 61 with
    | none => rw [hh] at h; cases h
    | some i => exact ⟨i, rfl⟩
  have hc : Try.prog.cellsOf 61 = 1 := by kernel_rfl
  rw [show d + 2 = (d + 1) + 1 from rfl, run_equalIn_array (P := Try.prog) w (d + 1) _ _ Try.underlying63 hi, hc]
  have h0 : (Op.equalIn (d + 1) 61 (.int .u32 x0) (.int .u32 y0)).run Try.prog w = .ok (x0 == y0) w := by go_simp
  have h1 : (Op.equalIn (d + 1) 61 (.int .u32 x1) (.int .u32 y1)).run Try.prog w = .ok (x1 == y1) w := by go_simp
  have h2 : (Op.equalIn (d + 1) 61 (.int .u32 x2) (.int .u32 y2)).run Try.prog w = .ok (x2 == y2) w := by go_simp
  have p0 : ∀ a b c : Int, (part 61 #[.int .u32 a, .int .u32 b, .int .u32 c] (0 * 1)).run Try.prog w = .ok (.int .u32 a) w := fun a b c => by go_simp
  have p1 : ∀ a b c : Int, (part 61 #[.int .u32 a, .int .u32 b, .int .u32 c] (1 * 1)).run Try.prog w = .ok (.int .u32 b) w := fun a b c => by go_simp
  have p2 : ∀ a b c : Int, (part 61 #[.int .u32 a, .int .u32 b, .int .u32 c] (2 * 1)).run Try.prog w = .ok (.int .u32 c) w := fun a b c => by go_simp
  simp only [show List.range 3 = [0, 1, 2] from rfl, Op.eqItems, Sem.run_bind, p0, p1, p2, h0, h1, h2, Result.andThen_ok]
  have q1 : ∀ a b c : Int, (part 61 #[.int .u32 a, .int .u32 b, .int .u32 c] 1).run Try.prog w = .ok (.int .u32 b) w := p1
  have q2 : ∀ a b c : Int, (part 61 #[.int .u32 a, .int .u32 b, .int .u32 c] 2).run Try.prog w = .ok (.int .u32 c) w := p2
  cases hx : (x0 == y0) <;> cases hy : (x1 == y1) <;> cases hz : (x2 == y2) <;> simp [hx, hy, hz, q1, q2, h1, h2]
attribute [local go_sem high] words_eq

set_option maxHeartbeats 4000000 in
set_option maxRecDepth 100000 in
theorem vendmeterbig_Int_Lsh.calls (w : World) (z x : Nat) (a : Int) (n : Nat) (hz : IsI w z) (hx : BigA w x a) (ha : a < W32 1000) (hn : n ≤ 100000) :
    Calls Try.prog 94 #[.pointer (some ⟨z, 0, none⟩), .pointer (some ⟨x, 0, none⟩), .int .u64 (n : Int)] w fun e w' => e = .returned (.pointer (some ⟨z, 0, none⟩)) ∧ BigA w' z (a * 2 ^ n) ∧ Only z w w' := by
  obtain ⟨Ax, cx, lx, hx1, hx2, hx3, hx4⟩ := hx
  have lbx := hx4.len_le ha
  have HX := Aside0.mk hx1
  have HCX := Aside0.mk hx2
  clear hx1 hx2
  go_enter Try.func94, Try.ntmps94
  go_wp2
  refine start_ (n := 13) (S := fun w' => w'.cell? ⟨x, 0, none⟩ = some (.bool false) ∧ w'.cell? ⟨x, 1, none⟩ = some (.slice Ax lx.length cx)) (ds := [11]) #[false, false, false, false, false, false, false, false, false, false, false, false, false] (by kernel_rfl) rfl rfl ⟨(blk_cell HX.out 0).trans rfl, (blk_cell HX.out 1).trans rfl⟩ (fun hHeld => ?_)
  refine pure_ (i := 0) (N := some 7) (v := ?_) (a' := ?_) #[true, false, false, false, false, false, false, false, false, false, false, false, false] rfl rfl (by kernel_rfl) (fun _ _ _ h => h) (Or.inl ⟨by rfl, ?_⟩) ?_ ?_
  rotate_left
  · intro w'
    go_simp
    with_reducible rfl
  rotate_left
  · simp only [Act.put, List.setIfInBounds_toArray, List.set_cons_zero, List.set_cons_succ, i64_w, i32_w]
    rfl
  refine pure_ (i := 1) (N := some 8) (v := ?_) (a' := ?_) #[true, true, false, false, false, false, false, false, false, false, false, false, false] rfl rfl (by kernel_rfl) (fun _ _ _ h => h) (Or.inl ⟨by rfl, ?_⟩) ?_ ?_
  rotate_left
  · intro w'
    go_simp
    with_reducible rfl
  rotate_left
  · simp only [Act.put, List.setIfInBounds_toArray, List.set_cons_zero, List.set_cons_succ, i64_w, i32_w]
    rfl
  refine pure_ (i := 2) (N := some 9) (v := ?_) (a' := ?_) #[true, true, true, false, false, false, false, false, false, false, false, false, false] rfl rfl (by kernel_rfl) (fun _ _ _ h => h) (Or.inl ⟨by rfl, ?_⟩) ?_ ?_
  rotate_left
  · intro w'
    go_simp
    with_reducible rfl
  rotate_left
  · simp only [Act.put, List.setIfInBounds_toArray, List.set_cons_zero, List.set_cons_succ, i64_w, i32_w]
    rfl
  refine pure_ (i := 3) (N := some 10) (v := ?_) (a' := ?_) #[true, true, true, true, false, false, false, false, false, false, false, false, false] rfl rfl (by kernel_rfl) (fun _ _ _ h => h) (Or.inl ⟨by rfl, ?_⟩) ?_ ?_
  rotate_left
  · intro w'
    go_simp
    with_reducible rfl
  rotate_left
  · simp only [Act.put, List.setIfInBounds_toArray, List.set_cons_zero, List.set_cons_succ, i64_w, i32_w]
    rfl
  refine pure_ (i := 5) (N := some 12) (v := ?_) (a' := ?_) #[true, true, true, true, false, true, false, false, false, false, false, false, false] rfl rfl (by kernel_rfl) (fun _ _ _ h => h) (Or.inl ⟨by rfl, ?_⟩) ?_ ?_
  rotate_left
  · intro w'
    go_simp
    with_reducible rfl
  rotate_left
  · simp only [Act.put, List.setIfInBounds_toArray, List.set_cons_zero, List.set_cons_succ, i64_w, i32_w]
    rfl
  refine pure_ (i := 6) (N := some 13) (v := ?_) (a' := ?_) #[true, true, true, true, false, true, true, false, false, false, false, false, false] rfl rfl (by kernel_rfl) (fun _ _ _ h => h) (Or.inl ⟨by rfl, ?_⟩) ?_ ?_
  rotate_left
  · intro w'
    go_simp
    with_reducible rfl
  rotate_left
  · simp only [Act.put, List.setIfInBounds_toArray, List.set_cons_zero, List.set_cons_succ, i64_w, i32_w]
    rfl
  refine pure_ (i := 7) (N := some 14) (v := ?_) (a' := ?_) #[true, true, true, true, false, true, true, true, false, false, false, false, false] rfl rfl (by kernel_rfl) (fun _ _ _ h => h) (Or.inl ⟨by rfl, ?_⟩) ?_ ?_
  rotate_left
  · intro w'
    go_simp
    with_reducible rfl
  rotate_left
  · simp only [Act.put, List.setIfInBounds_toArray, List.set_cons_zero, List.set_cons_succ, i64_w, i32_w]
    rfl
  refine pure_ (i := 9) (N := some 16) (v := ?_) (a' := ?_) #[true, true, true, true, false, true, true, true, false, true, false, false, false] rfl rfl (by kernel_rfl) (fun _ _ _ h => h) (Or.inl ⟨by rfl, ?_⟩) ?_ ?_
  rotate_left
  · intro w'
    go_simp
    with_reducible rfl
  rotate_left
  · simp only [Act.put, List.setIfInBounds_toArray, List.set_cons_zero, List.set_cons_succ, i64_w, i32_w]
    rfl
  refine take_ (i := 4) (N := some 11) (v := ?_) (a' := ?_) #[true, true, true, true, true, true, true, true, false, true, false, false, false] rfl rfl (by kernel_rfl) (fun _ _ _ h => h) (Or.inl ⟨by rfl, ?_⟩) hHeld ?_ ?_
  rotate_left
  · rintro w' ⟨s0, s1⟩
    go_simp
    with_reducible rfl
  rotate_left
  · simp only [Act.put, List.setIfInBounds_toArray, List.set_cons_zero, List.set_cons_succ, i64_w, i32_w]
    rfl
  refine take_ (i := 8) (N := some 15) (v := ?_) (a' := ?_) #[true, true, true, true, true, true, true, true, true, true, false, false, false] rfl rfl (by kernel_rfl) (fun _ _ _ h => h) (Or.inl ⟨by rfl, ?_⟩) hHeld ?_ ?_
  rotate_left
  · rintro w' ⟨s0, s1⟩
    go_simp
    with_reducible rfl
  rotate_left
  · simp only [Act.put, List.setIfInBounds_toArray, List.set_cons_zero, List.set_cons_succ, i64_w, i32_w]
    rfl
  refine one_ (i := 10) (N := some 17) #[true, true, true, true, true, true, true, true, true, true, true, false, false] rfl rfl (by kernel_rfl) (by decide) (fun K hK => ?_)
  refine goes_ Try.func130 (by kernel_rfl) rfl #[.slice Ax lx.length cx, .int .u64 (n : Int)] (by rfl) rfl rfl (by (try simp only [List.map_toArray, List.map_cons, List.map_nil]); first | done | rfl) ?_
  with_reducible refine (vendmeterbig_left.calls Ax cx lx a n w.drew (Kd.C_below (WC.c HCX.out) (below_drew1 (Below.refl _ _))) hx3 hx4 (by omega) hn).mono ?_
  rintro e w3 ⟨v3, r, rfl, hR, hW, _, hB⟩
  refine ⟨_, rfl, ?_⟩
  obtain ⟨Ar, cr, rfl⟩ := Kd.R_slice hR
  have HX1 := Aside0.mk (blk_below (blk_drew HX.out) hB)
  have HB3 := Aside0.mk (Below.trans (below_drew1 (Below.refl w.heap.size w)) (hB.mono (Nat.le_refl _)))
  have HR3 := Aside0.mk (wRW hR)
  clear hR hB
  refine hK.out _ _ ⟨(blk_cell HX1.out 0).trans rfl, (blk_cell HX1.out 1).trans rfl⟩ (fun hHeld => ?_)
  clear hK K
  refine norm_ (a' := ?_) ?_ ?_
  rotate_left
  · show Act.put _ (some 17) _ = _
    simp only [Act.put, List.setIfInBounds_toArray, List.set_cons_zero, List.set_cons_succ, i64_w, i32_w]
    rfl
  refine last_ (i := 11) (N := some 18) #[true, true, true, true, true, true, true, true, true, true, true, true, false] rfl rfl (by kernel_rfl) (by decide) (fun K hK => ?_)
  refine goes_ Try.func118 (by kernel_rfl) rfl #[.pointer (some ⟨z, 0, none⟩), .bool false, .slice Ar (r).length cr] (by rfl) rfl rfl (by (try simp only [List.map_toArray, List.map_cons, List.map_nil]); first | done | rfl) ?_
  with_reducible refine (vendmeterbig_Int_give.calls w3 z (hz.below HB3.out) Ar cr r _ HR3.out.1 HR3.out.2 hW).mono ?_
  rintro e w4 ⟨rfl, hA, hO⟩
  refine ⟨_, rfl, ?_⟩
  have HA4 := Aside0.mk hA
  have HO4 := Aside0.mk ((Only.of_below HB3.out).trans hO)
  clear hA hO
  refine hK.out _ _ ?_
  clear hK K
  refine norm_ (a' := ?_) ?_ ?_
  rotate_left
  · show Act.put _ (some 18) _ = _
    simp only [Act.put, List.setIfInBounds_toArray, List.set_cons_zero, List.set_cons_succ, i64_w, i32_w]
    rfl
  refine pure_ (i := 12) (N := some 6) (v := ?_) (a' := ?_) #[true, true, true, true, true, true, true, true, true, true, true, true, true] rfl rfl (by kernel_rfl) (fun _ _ _ h => h) (Or.inl ⟨by rfl, ?_⟩) ?_ ?_
  rotate_left
  · intro w'
    go_simp
    with_reducible rfl
  rotate_left
  · simp only [Act.put, List.setIfInBounds_toArray, List.set_cons_zero, List.set_cons_succ, i64_w, i32_w]
    rfl
  refine done_ (by kernel_rfl) ?_
  go_wp2
  go_ret
  exact ⟨rfl, HA4.out, HO4.out⟩
set_option maxHeartbeats 4000000 in
set_option maxRecDepth 100000 in
theorem vendmeterbig_Int_Rsh.calls (w : World) (z x : Nat) (a : Int) (n : Nat) (hz : IsI w z) (hx : BigA w x a) (ha : a < W32 1000) (hn : n ≤ 100000) :
    Calls Try.prog 93 #[.pointer (some ⟨z, 0, none⟩), .pointer (some ⟨x, 0, none⟩), .int .u64 (n : Int)] w fun e w' => e = .returned (.pointer (some ⟨z, 0, none⟩)) ∧ BigA w' z (a / 2 ^ n) ∧ Only z w w' := by
  obtain ⟨Ax, cx, lx, hx1, hx2, hx3, hx4⟩ := hx
  have lbx := hx4.len_le ha
  have x0 : w.cell? ⟨x, 0, none⟩ = some (.bool false) := (blk_cell hx1 0).trans rfl
  have x1 : w.cell? ⟨x, 1, none⟩ = some (.slice Ax lx.length cx) := (blk_cell hx1 1).trans rfl
  have HCX := Aside0.mk hx2
  clear hx1 hx2
  go_enter Try.func93, Try.ntmps93
  go_wp2_with (first | (go_at_call 128; refine (vendmeterbig_right.calls Ax cx lx a n w (WC.c HCX.out) hx3 hx4 (by omega) hn).mono ?_; rintro e w3 ⟨v3, r, rfl, hR, hW, _, hB⟩; obtain ⟨Ar, cr, rfl⟩ := Kd.R_slice hR; have HB3 := Aside0.mk hB; have HR3 := Aside0.mk (wRW hR); have HW3 := Aside0.mk hW; clear hR hB hW) | (go_at_call 118; refine (vendmeterbig_Int_give.calls w3 z (hz.below HB3.out) Ar cr r _ HR3.out.1 HR3.out.2 HW3.out).mono ?_; rintro e w4 ⟨rfl, hA, hO⟩; have HA4 := Aside0.mk hA; have HO4 := Aside0.mk ((Only.of_below HB3.out).trans hO); clear hA hO))
  go_ret
  exact ⟨rfl, HA4.out, HO4.out⟩

set_option maxHeartbeats 4000000 in
theorem vendmeterbig_Int_SetUint64.calls (w : World) (z : Nat) (v : Int) (hz : IsI w z) (hv : 0 ≤ v ∧ v < 18446744073709551616) :
    Calls Try.prog 98 #[.pointer (some ⟨z, 0, none⟩), .int .u64 v] w fun e w' => e = .returned (.pointer (some ⟨z, 0, none⟩)) ∧ BigA w' z v ∧ Only z w w' := by
  obtain ⟨r, t1, hW, _⟩ := wwords_ev v hv
  obtain ⟨kw, ht⟩ := Ev.rounds t1
  have HT := Aside0.mk ht
  clear t1 ht
  go_enter Try.func98, Try.ntmps98
  go_wp2_with (first | (go_at_call 132; refine (vendmeterbig_words.calls kw v r _ HT.out).mono ?_; rintro e w3 ⟨v3, rfl, hR, hB⟩; obtain ⟨Ar, cr, rfl⟩ := Kd.R_slice hR; have HB3 := Aside0.mk hB; have HR3 := Aside0.mk (wRW hR); clear hR hB) | (go_at_call 118; refine (vendmeterbig_Int_give.calls w3 z (hz.below HB3.out) Ar cr r _ HR3.out.1 HR3.out.2 hW).mono ?_; rintro e w4 ⟨rfl, hA, hO⟩; have HA4 := Aside0.mk hA; have HO4 := Aside0.mk ((Only.of_below HB3.out).trans hO); clear hA hO))
  go_ret
  exact ⟨rfl, HA4.out, HO4.out⟩

theorem bt_wrap {n : Int} (h : -9223372036854775808 ≤ n ∧ n ≤ 9223372036854775807) : wrap64 n = n := by unfold wrap64; omega
theorem field_no {lo n : Int} (h : ¬ (0 ≤ lo ∧ 1 ≤ n ∧ n ≤ 64 ∧ lo + n ≤ 96)) : words_field.f lo n = some false := by
  unfold words_field.f
  split
  · split
    · split
      · split
        · rw [bt_wrap (by omega)]; simp only [Option.some.injEq, decide_eq_false_iff_not]; omega
        · rfl
      · rfl
    · rfl
  · rfl
theorem field_yes {lo n : Int} (h : 0 ≤ lo ∧ 1 ≤ n ∧ n ≤ 64 ∧ lo + n ≤ 96) : words_field.f lo n = some true := by
  unfold words_field.f
  rw [if_pos (by omega), if_pos (by omega), if_pos (by omega), if_pos (by omega), bt_wrap (by omega)]
  simp only [Option.some.injEq, decide_eq_true_eq]; omega
theorem may_no {lo n : Int} (h : ¬ (0 ≤ lo ∧ 1 ≤ n ∧ n ≤ 64 ∧ lo + n ≤ 96)) : vendmeterref_fieldMay.f lo n = some false := by
  unfold vendmeterref_fieldMay.f vendmeterref_In.f
  by_cases c1 : lo ≥ 0 <;> by_cases c2 : lo ≤ 95 <;> by_cases c3 : n ≥ 1 <;> by_cases c4 : n ≤ 64 <;> simp [c1, c2, c3, c4]
  rw [bt_wrap (by omega)]; omega
theorem may_yes {lo n : Int} (h : 0 ≤ lo ∧ 1 ≤ n ∧ n ≤ 64 ∧ lo + n ≤ 96) : vendmeterref_fieldMay.f lo n = some true := by
  unfold vendmeterref_fieldMay.f vendmeterref_In.f
  rw [bt_wrap (by omega)]
  have c1 : lo ≥ 0 := by omega
  have c2 : lo ≤ 95 := by omega
  have c3 : n ≥ 1 := by omega
  have c4 : n ≤ 64 := by omega
  simp [c1, c2, c3, c4]
  omega
set_option maxHeartbeats 4000000 in
set_option maxRecDepth 100000 in
theorem words_Bits.bad (w : World) (w0 w1 w2 lo n : Int) (h : ¬ (0 ≤ lo ∧ 1 ≤ n ∧ n ≤ 64 ∧ lo + n ≤ 96)) :
    Calls Try.prog 42 #[.agg #[.int .u32 w0, .int .u32 w1, .int .u32 w2], .int .i64 lo, .int .i64 n] w fun e w' => e = .returned (.tuple #[.int .u64 0, .int .i64 2]) ∧ Below w.heap.size w w' := by
  have hu63 := Try.underlying63
  have HF := Aside0.mk (field_no h)
  have HB := Aside0.mk (below_alloc (Below.refl w.heap.size w) (.cells #[.int .u32 w0, .int .u32 w1, .int .u32 w2] 63))
  clear h
  go_enter Try.func42, Try.ntmps42
  go_wp2_with (go_at_call 91; refine (words_field.calls _ _ _ _ HF.out).mono ?_; rintro e wa ⟨rfl, hd⟩; have HB1 := Aside0.mk (below_then HB.out HB.out.size hd.below); clear hd)
  go_ret2
  exact ⟨rfl, HB1.out⟩
def btx (w0 w1 w2 : Int) : Nat → Int
  | 0 => w0
  | 1 => w1
  | _ => w2
theorem bit_low (a U : Int) {rr : Nat} (hr : rr < 32) : (a + 4294967296 * U) / 2 ^ rr % 2 = a / 2 ^ rr % 2 := by
  have e : (4294967296 : Int) = 2 ^ rr * (2 ^ (31 - rr) * 2) := by
    rw [← Int.pow_succ, ← Int.pow_add, show rr + (31 - rr + 1) = 32 by omega]; rfl
  have hp : (2 : Int) ^ rr ≠ 0 := Int.ne_of_gt (Int.pow_pos (by decide))
  rw [e, Int.mul_assoc, Int.add_mul_ediv_left _ _ hp, Int.mul_comm (2 ^ (31 - rr)) 2, Int.mul_assoc]
  omega
theorem bit_at {V w0 w1 w2 : Int} (hV : wval [w0, w1, w2] = V) (h0 : 0 ≤ w0 ∧ w0 < 4294967296) (h1 : 0 ≤ w1 ∧ w1 < 4294967296) (h2 : 0 ≤ w2 ∧ w2 < 4294967296) {a q rr : Nat} (ha : a < 96) (hq : a / 32 = q) (hr : a % 32 = rr) : btx w0 w1 w2 q / 2 ^ rr % 2 = V / 2 ^ a % 2 := by
  have hr2 : rr < 32 := by omega
  have ev : V = w0 + 4294967296 * (w1 + 4294967296 * w2) := by rw [← hV]; simp only [wval]; omega
  have hq3 : q < 3 := by omega
  have ea : a = 32 * q + rr := by omega
  have ed : V / 2 ^ a = V / 2 ^ (32 * q) / 2 ^ rr := by rw [ea, Int.pow_add, Int.ediv_ediv_of_nonneg (Int.le_of_lt (Int.pow_pos (by decide)))]
  rw [ed]
  match q, hq3 with
  | 0, _ =>
    rw [show V / 2 ^ (32 * 0) = w0 + 4294967296 * (w1 + 4294967296 * w2) by rw [show (2 : Int) ^ (32 * 0) = 1 from rfl, Int.ediv_one, ev], bit_low _ _ hr2]; rfl
  | 1, _ =>
    rw [show V / 2 ^ (32 * 1) = w1 + 4294967296 * w2 by rw [show (2 : Int) ^ (32 * 1) = 4294967296 by decide]; omega, bit_low _ _ hr2]; rfl
  | 2, _ =>
    rw [show V / 2 ^ (32 * 2) = w2 by rw [show (2 : Int) ^ (32 * 2) = 18446744073709551616 by decide]; omega]; rfl
theorem bit_mod (A : Int) (m : Nat) : A % 2 ^ (m + 1) = A / 2 % 2 ^ m * 2 + A % 2 := by
  have hP : (0 : Int) < 2 ^ m := Int.pow_pos (by decide)
  rw [Int.pow_succ, Int.mul_comm (2 ^ m) 2]
  generalize (2 : Int) ^ m = P at *
  have h := Int.mul_ediv_add_emod (A / 2) P
  have h1 := Int.emod_nonneg (A / 2) (show P ≠ 0 by omega)
  have h2 := Int.emod_lt_of_pos (A / 2) hP
  refine ((Int.ediv_emod_unique (a := A) (b := 2 * P) (q := A / 2 / P) (r := A / 2 % P * 2 + A % 2) (by omega)).2 ⟨?_, by omega, by omega⟩).2
  rw [Int.mul_assoc]
  generalize P * (A / 2 / P) = t at *
  omega
theorem bit_next {V : Int} {L n k : Nat} (hk : k + 1 ≤ n) : V / 2 ^ (L + k) % 2 ^ (n - k) = V / 2 ^ (L + (k + 1)) % 2 ^ (n - (k + 1)) * 2 + V / 2 ^ (L + k) % 2 := by
  have e : V / 2 ^ (L + (k + 1)) = V / 2 ^ (L + k) / 2 := by
    rw [show L + (k + 1) = (L + k) + 1 by omega, Int.pow_succ, Int.ediv_ediv_of_nonneg (Int.le_of_lt (Int.pow_pos (by decide)))]
  rw [e, show n - k = (n - (k + 1)) + 1 by omega, bit_mod]
theorem bit_or {v b : Int} (hv : 0 ≤ v ∧ v * 2 + b < 18446744073709551616) (hb : 0 ≤ b ∧ b < 2) : Go.bits .or .u64 (IntKind.u64.wrap (v * 2)) (IntKind.u64.wrap b) = v * 2 + b := by
  rw [wu64 (a := v * 2) ⟨by omega, by omega⟩, wu64 (a := b) ⟨hb.1, by omega⟩]
  exact bits_join .u64 64 (by decide) (fun n a c => wu64 ⟨a, by have := c; omega⟩) 1 (v * 2) b (by omega) (by omega) (by omega) hb.1 (by omega) (by omega)
theorem bit_and {x : Int} (hx : 0 ≤ x ∧ x < 4294967296) (rr : Nat) : Go.bits .and .u32 (x / 2 ^ rr) 1 = x / 2 ^ rr % 2 := by
  have h0 : 0 ≤ x / 2 ^ rr := Int.ediv_nonneg hx.1 (Int.le_of_lt (Int.pow_pos (by decide)))
  have h1 : x / 2 ^ rr ≤ x := Int.ediv_le_self _ hx.1
  exact bits_mask .u32 32 (by decide) (fun n a c => by rw [IntKind.wrap_u32']; exact Int.emod_eq_of_lt a (by omega)) 1 (by decide) _ h0 (by omega)
theorem bit_new {V w0 w1 w2 x v : Int} {L n k a q rr : Nat} (hV : wval [w0, w1, w2] = V) (h0 : 0 ≤ w0 ∧ w0 < 4294967296) (h1 : 0 ≤ w1 ∧ w1 < 4294967296) (h2 : 0 ≤ w2 ∧ w2 < 4294967296) (hk : k + 1 ≤ n) (hn : n ≤ 64) (hl : L + k = a) (ha : a < 96) (hq : a / 32 = q) (hr : a % 32 = rr) (hx : btx w0 w1 w2 q = x) (hv : V / 2 ^ (L + (k + 1)) % 2 ^ (n - (k + 1)) = v) :
    Go.bits .or .u64 (IntKind.u64.wrap (v * 2)) (IntKind.u64.wrap (Go.bits .and .u32 (x / 2 ^ rr) 1)) = V / 2 ^ (L + k) % 2 ^ (n - k) := by
  have hxb : 0 ≤ x ∧ x < 4294967296 := by
    rw [← hx]
    match q with
    | 0 => exact h0
    | 1 => exact h1
    | q + 2 => exact h2
  have e1 := bit_at hV h0 h1 h2 ha hq hr
  rw [hx] at e1
  rw [bit_and hxb, e1, bit_next hk, hv, hl]
  have hp : (0 : Int) < 2 ^ (n - (k + 1)) ∧ (2 : Int) ^ (n - (k + 1)) ≤ 9223372036854775808 := by
    refine ⟨Int.pow_pos (by decide), ?_⟩
    have h := Nat.pow_le_pow_right (n := 2) (by decide) (show n - (k + 1) ≤ 31 + 32 by omega)
    have h2 : ((2 ^ (n - (k + 1)) : Nat) : Int) ≤ ((2 ^ (31 + 32) : Nat) : Int) := Int.ofNat_le.2 h
    rw [Int.natCast_pow] at h2
    exact h2
  have v0 : 0 ≤ v := by rw [← hv]; exact Int.emod_nonneg _ (by omega)
  have v1 : v < 2 ^ (n - (k + 1)) := by rw [← hv]; exact Int.emod_lt_of_pos _ hp.1
  exact bit_or ⟨v0, by omega⟩ ⟨by omega, by omega⟩
set_option maxHeartbeats 8000000 in
set_option maxRecDepth 100000 in
theorem words_Bits.calls (w : World) (w0 w1 w2 : Int) (h0 : 0 ≤ w0 ∧ w0 < 4294967296) (h1 : 0 ≤ w1 ∧ w1 < 4294967296) (h2 : 0 ≤ w2 ∧ w2 < 4294967296) (lo n : Nat) (hn : 1 ≤ n) (hn2 : n ≤ 64) (hl : lo + n ≤ 96) :
    Calls Try.prog 42 #[.agg #[.int .u32 w0, .int .u32 w1, .int .u32 w2], .int .i64 (lo : Int), .int .i64 (n : Int)] w fun e w' => e = .returned (.tuple #[.int .u64 (wval [w0, w1, w2] / 2 ^ lo % 2 ^ n), .int .i64 0]) ∧ Below w.heap.size w w' := by
  have hu63 := Try.underlying63
  have HF := Aside0.mk (field_yes (lo := (lo : Int)) (n := (n : Int)) ⟨by omega, by omega, by omega, by omega⟩)
  have HX := Aside0.mk (And.intro h0 (And.intro h1 h2))
  have HN := Aside0.mk (And.intro hn (And.intro hn2 hl))
  obtain ⟨j0, hj0⟩ : ∃ j0, (n : Int) - 1 = j0 := ⟨_, rfl⟩
  have ej0 : IntKind.i64.wrap ((n : Int) - 1) = j0 := by rw [Go.IntKind.wrap_i64]; omega
  have HJ := Aside0.mk hj0
  have B3 := blk_new w (.cells #[.int .u32 w0, .int .u32 w1, .int .u32 w2] 63)
  have HB3 := Aside0.mk B3
  have HB := Aside0.mk (below_alloc (Below.refl w.heap.size w) (.cells #[.int .u32 w0, .int .u32 w1, .int .u32 w2] 63))
  obtain ⟨V, hV⟩ : ∃ V, wval [w0, w1, w2] = V := ⟨_, rfl⟩
  rw [hV]
  have HVV := Aside0.mk hV
  clear h0 h1 h2 hn hn2 hl B3 hj0 hV
  go_enter Try.func42, Try.ntmps42
  go_wp2_with (go_at_call 91; refine (words_field.calls _ _ _ _ HF.out).mono ?_; rintro e wa ⟨rfl, hd⟩; have HB1 := Aside0.mk (below_then HB.out HB.out.size hd.below); have HC1 := Aside0.mk (blk_below HB3.out hd.below); clear hd)
  go_loopg [8, 9, 10] n (fun kz v8 v9 v10 w' => ∃ jj : Int, v8 = .int .u64 (V / 2 ^ (lo + kz) % 2 ^ (n - kz)) ∧ v9 = .int .i64 jj ∧ Aside0 (jj = (kz : Int) - 1 ∧ kz ≤ n) ∧ Aside0 (w'.heap[w.heap.size]? = some (.cells #[.int .u32 w0, .int .u32 w1, .int .u32 w2] 63 (0, 0))) ∧ Aside0 (Below w.heap.size w w'))
  case atStart => exact ⟨_, by simp, rfl, ⟨HJ.out.symm, Nat.le_refl _⟩, HC1, HB1⟩
  case round =>
    clear ej0 HB3 HB1 HC1 HB
    obtain ⟨jj, rfl, rfl, HK, B3, HB⟩ := hrel
    obtain ⟨hjj, hkn⟩ := HK.out
    rcases Nat.eq_zero_or_pos gk with hk0 | hk0
    · subst hk0
      have hneg : decide (0 ≤ jj) = false := decide_eq_false (by omega)
      clear hjj hkn
      go_wp2
      go_ret2
      exact ⟨by simp, HB.out⟩
    · obtain ⟨k, rfl⟩ : ∃ k, gk = k + 1 := ⟨gk - 1, by omega⟩
      obtain rfl : jj = (k : Int) := by omega
      have hnn : decide ((0 : Int) ≤ (k : Int)) = true := decide_eq_true (by omega)
      have hat : IntKind.i64.wrap ((lo : Int) + (k : Int)) = ((lo + k : Nat) : Int) := by rw [Go.IntKind.wrap_i64]; have := HN.out; omega
      obtain ⟨at_, hat_⟩ : ∃ at_, lo + k = at_ := ⟨_, rfl⟩
      rw [hat_] at hat
      have hlt : at_ < 96 := by have := HN.out; omega
      obtain ⟨q, hq⟩ : ∃ q, at_ / 32 = q := ⟨_, rfl⟩
      obtain ⟨rr, hr⟩ : ∃ rr, at_ % 32 = rr := ⟨_, rfl⟩
      have eq_ : wrap64 ((at_ : Int) / 32) = (q : Int) := by rw [bt_wrap (by omega)]; omega
      have er_ : (at_ : Int) % 32 = (rr : Int) := by omega
      have er1_ : wrap64 (rr : Int) = (rr : Int) := bt_wrap (by omega)
      have hq3 : q < 3 := by omega
      have hcell : wr.cell? ⟨w.heap.size, q, none⟩ = some (.int .u32 (btx w0 w1 w2 q)) := by
        rw [blk_cell B3.out q]
        match q, hq3 with
        | 0, _ => rfl
        | 1, _ => rfl
        | 2, _ => rfl
      obtain ⟨x, hx⟩ : ∃ x, btx w0 w1 w2 q = x := ⟨_, rfl⟩
      rw [hx] at hcell
      obtain ⟨v, hv⟩ : ∃ v, V / 2 ^ (lo + (k + 1)) % 2 ^ (n - (k + 1)) = v := ⟨_, rfl⟩
      rw [hv]
      have HALL := Aside0.mk (And.intro hat_ (And.intro hlt (And.intro hq (And.intro hr (And.intro hx hv)))))
      clear hjj hkn hat_ hlt hq hr hx hv hk0
      go_wp2
      go_roundg k
      case measure => omega
      case rel =>
        obtain ⟨a1, a2, a3, a4, a5, a6⟩ := HALL.out
        obtain ⟨b0, b1, b2⟩ := HX.out
        have hkn := HK.out.2
        exact ⟨wrap64 ((k : Int) - 1), by rw [bit_new HVV.out b0 b1 b2 hkn HN.out.2.1 a1 a2 a3 a4 a5 a6], rfl, ⟨bt_wrap (by omega), by omega⟩, B3, HB⟩

set_option maxHeartbeats 4000000 in
set_option maxRecDepth 100000 in
theorem vendmeterref_Field.bad (w : World) (w0 w1 w2 lo n : Int) (h : ¬ (0 ≤ lo ∧ 1 ≤ n ∧ n ≤ 64 ∧ lo + n ≤ 96)) :
    Calls Try.prog 43 #[.agg #[.int .u32 w0, .int .u32 w1, .int .u32 w2], .int .i64 lo, .int .i64 n] w fun e w' => e = .returned (.tuple #[.int .u64 0, .int .i64 2]) ∧ Below w.heap.size w w' := by
  have hu63 := Try.underlying63
  have HF := Aside0.mk (may_no h)
  have HB := Aside0.mk (below_alloc (Below.refl w.heap.size w) (.cells #[.int .u32 w0, .int .u32 w1, .int .u32 w2] 63))
  clear h
  go_enter Try.func43, Try.ntmps43
  go_wp2_with (go_at_call 92; refine (vendmeterref_fieldMay.calls _ _ _ _ HF.out).mono ?_; rintro e wa ⟨rfl, hd⟩; have HB1 := Aside0.mk (below_then HB.out HB.out.size hd.below); clear hd)
  go_ret2
  exact ⟨rfl, HB1.out⟩
theorem fd_pow {n : Nat} (hn : n ≤ 64) : (0 : Int) < 2 ^ n ∧ (2 : Int) ^ n ≤ 18446744073709551616 := by
  refine ⟨Int.pow_pos (by decide), ?_⟩
  have h := Nat.pow_le_pow_right (n := 2) (by decide) hn
  have h2 : ((2 ^ n : Nat) : Int) ≤ ((2 ^ 64 : Nat) : Int) := Int.ofNat_le.2 h
  rw [Int.natCast_pow] at h2
  exact h2
theorem fd_mod (V : Int) (lo : Nat) {n : Nat} (hn : n ≤ 64) : V / 2 ^ lo % 2 ^ n % 18446744073709551616 = V / 2 ^ lo % 2 ^ n := by
  obtain ⟨a, b⟩ := fd_pow hn
  have h1 := Int.emod_nonneg (V / 2 ^ lo) (show (2 : Int) ^ n ≠ 0 by omega)
  have h2 := Int.emod_lt_of_pos (V / 2 ^ lo) a
  exact Int.emod_eq_of_lt h1 (by omega)
theorem fd_div {V : Int} (h0 : 0 ≤ V) (lo : Nat) : V / 2 ^ lo ≤ V := Int.ediv_le_self _ h0
set_option maxHeartbeats 8000000 in
set_option maxRecDepth 100000 in
theorem vendmeterref_Field.calls (w : World) (w0 w1 w2 : Int) (h0 : 0 ≤ w0 ∧ w0 < 4294967296) (h1 : 0 ≤ w1 ∧ w1 < 4294967296) (h2 : 0 ≤ w2 ∧ w2 < 4294967296) (lo n : Nat) (hn : 1 ≤ n) (hn2 : n ≤ 64) (hl : lo + n ≤ 96) :
    Calls Try.prog 43 #[.agg #[.int .u32 w0, .int .u32 w1, .int .u32 w2], .int .i64 (lo : Int), .int .i64 (n : Int)] w fun e w' => e = .returned (.tuple #[.int .u64 (wval [w0, w1, w2] / 2 ^ lo % 2 ^ n), .int .i64 0]) ∧ Below w.heap.size w w' := by
  have hu63 := Try.underlying63
  have HF := Aside0.mk (may_yes (lo := (lo : Int)) (n := (n : Int)) ⟨by omega, by omega, by omega, by omega⟩)
  have HN := Aside0.mk (And.intro hn (And.intro hn2 hl))
  have el : IntKind.u64.wrap (lo : Int) = (lo : Int) := wu64 ⟨by omega, by omega⟩
  have en : IntKind.u64.wrap (n : Int) = (n : Int) := wu64 ⟨by omega, by omega⟩
  have HV := Aside0.mk (show 0 ≤ wval [w0, w1, w2] ∧ wval [w0, w1, w2] < W32 4 from w3v_bd h0 h1 h2 0)
  have HB3 := Aside0.mk (blk_new w (.cells #[.int .u32 w0, .int .u32 w1, .int .u32 w2] 63))
  have HB := Aside0.mk (below_alloc (Below.refl w.heap.size w) (.cells #[.int .u32 w0, .int .u32 w1, .int .u32 w2] 63))
  have HU := Aside0.mk (fun W : World => vendmeterref_big96.calls W w0 w1 w2 h0 h1 h2)
  obtain ⟨V, hV⟩ : ∃ V, wval [w0, w1, w2] = V := ⟨_, rfl⟩
  rw [hV] at HU HV ⊢
  clear h0 h1 h2 hn hn2 hl hV
  go_enter Try.func43, Try.ntmps43
  go_upto_region 3 with (go_at_call 92; refine (vendmeterref_fieldMay.calls _ _ _ _ HF.out).mono ?_; rintro e wa ⟨rfl, hd⟩; have HB1 := Aside0.mk (below_then HB.out HB.out.size hd.below); have HC1 := Aside0.mk (blk_below HB3.out hd.below); clear hd)
  have HT := Aside0.mk (IsI.new wa)
  have HBa := Aside0.mk (below_then HB1.out HB1.out.size (below_alloc (Below.refl _ wa) (.cells #[.bool false, .slice none 0 0] 130)))
  have HSZ := Aside0.mk HB1.out.size
  have x0 : wa.cell? ⟨w.heap.size, 0, none⟩ = some (.int .u32 w0) := (blk_cell HC1.out 0).trans rfl
  have x1 : wa.cell? ⟨w.heap.size, 1, none⟩ = some (.int .u32 w1) := (blk_cell HC1.out 1).trans rfl
  have x2 : wa.cell? ⟨w.heap.size, 2, none⟩ = some (.int .u32 w2) := (blk_cell HC1.out 2).trans rfl
  have hl0 : w.heap.size < wa.heap.size := blk_lt HC1.out
  go_upto_region 4 with (first | (go_at_call 78; refine (HU.out _).mono ?_; rintro e wb ⟨g, rfl, hg, hA, hb⟩; have HG := Aside0.mk hg; have HA := Aside0.mk hA; have HT1 := Aside0.mk (HT.out.below hb); have HBb := Aside0.mk (below_then HBa.out HBa.out.size hb); clear hg hA hb x0 x1 x2 hl0) | (go_at_call 93; refine (vendmeterbig_Int_Rsh.calls _ wa.heap.size g V lo HT1.out HA.out (lt1000 HV.out.2 (by decide)) (by have := HN.out; omega)).mono ?_; rintro e wc ⟨rfl, hA, hO⟩; have HR := Aside0.mk hA; have HBc := Aside0.mk (Only.below HBb.out hO HSZ.out); clear hA hO))
  have HT2 := Aside0.mk (IsI.new wc)
  have HRa := Aside0.mk (HR.out.below (below_alloc (Below.refl _ wc) (.cells #[.bool false, .slice none 0 0] 130)))
  have HBd := Aside0.mk (below_then HBc.out HBc.out.size (below_alloc (Below.refl _ wc) (.cells #[.bool false, .slice none 0 0] 130)))
  have HRL := Aside0.mk HR.out.lt
  go_wp2_with (first | (go_at_call 80; refine (vendmeterbig_NewInt.calls _ 1 (by decide)).mono ?_; rintro e wd ⟨g1, rfl, hg, hA, hb⟩; have HA1 := Aside0.mk hA; have HT3 := Aside0.mk (HT2.out.below hb); have HRb := Aside0.mk (HRa.out.below hb); have HBe := Aside0.mk (below_then HBd.out HBd.out.size hb); clear hg hA hb) | (go_at_call 94; refine (vendmeterbig_Int_Lsh.calls wd wc.heap.size g1 1 n HT3.out HA1.out (lt1000 (m := 1) (by decide) (by decide)) (by have := HN.out; omega)).mono ?_; rintro e we ⟨rfl, hA, hO⟩; rw [Int.one_mul] at hA; have HP := Aside0.mk hA; have HRc := Aside0.mk (HRb.out.keep HT3.out hO (Nat.ne_of_lt HRL.out)); have HBf := Aside0.mk (Only.below HBe.out hO HBc.out.size); clear hA hO) | (go_at_call 95; refine (vendmeterbig_Int_Mod.calls we wa.heap.size wa.heap.size wc.heap.size _ _ HRc.out.isI HRc.out HP.out (lt1000 (Int.lt_of_le_of_lt (fd_div HV.out.1 lo) HV.out.2) (by decide)) (lt1000 (m := 3) (Int.lt_of_le_of_lt (fd_pow HN.out.2.1).2 (by decide)) (by decide)) (fd_pow HN.out.2.1).1 (.inr (.inr (.inr ⟨n, rfl⟩)))).mono ?_; rintro e wf ⟨rfl, hA, hO⟩; have HM := Aside0.mk hA; have HBg := Aside0.mk (Only.below HBf.out hO HSZ.out); clear hA hO) | (go_at_call 87; refine (vendmeterbig_Int_Uint64.at_ wf wa.heap.size _ HM.out).mono ?_; rintro e wg ⟨rfl, rfl⟩; rw [fd_mod V lo HN.out.2.1]))
  go_ret2
  exact ⟨rfl, HBg.out⟩

def fpv (V v : Int) (lo n : Nat) : Int := V - V / 2 ^ lo % 2 ^ n * 2 ^ lo + v * 2 ^ lo
theorem fp_le {V : Int} (hV : 0 ≤ V) (lo n : Nat) : V / 2 ^ lo % 2 ^ n * 2 ^ lo ≤ V := by
  have hp : (0 : Int) < 2 ^ lo := Int.pow_pos (by decide)
  have hq : (0 : Int) < 2 ^ n := Int.pow_pos (by decide)
  have h0 : 0 ≤ V / 2 ^ lo := Int.ediv_nonneg hV (Int.le_of_lt hp)
  have h1 : V / 2 ^ lo % 2 ^ n ≤ V / 2 ^ lo := by
    have e := Int.mul_ediv_add_emod (V / 2 ^ lo) (2 ^ n)
    have e2 := Int.mul_nonneg (Int.le_of_lt hq) (Int.ediv_nonneg h0 (Int.le_of_lt hq))
    omega
  exact Int.le_trans (Int.mul_le_mul_of_nonneg_right h1 (Int.le_of_lt hp)) (Int.ediv_mul_le _ (Int.ne_of_gt hp))
theorem fp_bd {V : Int} (lo : Nat) {n : Nat} (hn : n ≤ 64) : 0 ≤ V / 2 ^ lo % 2 ^ n ∧ V / 2 ^ lo % 2 ^ n < 18446744073709551616 := by
  obtain ⟨a, b⟩ := fd_pow hn
  have h1 := Int.emod_nonneg (V / 2 ^ lo) (show (2 : Int) ^ n ≠ 0 by omega)
  have h2 := Int.emod_lt_of_pos (V / 2 ^ lo) a
  exact ⟨h1, by omega⟩
theorem fp_shl {v : Int} {lo : Nat} (hv : 0 ≤ v ∧ v < 18446744073709551616) (hl : lo ≤ 96) : v * 2 ^ lo < W32 6 := by
  have h := Nat.pow_le_pow_right (n := 2) (by decide) hl
  have h2 : ((2 ^ lo : Nat) : Int) ≤ ((2 ^ 96 : Nat) : Int) := Int.ofNat_le.2 h
  rw [Int.natCast_pow] at h2
  have h3 : (2 : Int) ^ lo ≤ 79228162514264337593543950336 := h2
  have hp : (0 : Int) < 2 ^ lo := Int.pow_pos (by decide)
  have h4 : v * 2 ^ lo ≤ 18446744073709551615 * 79228162514264337593543950336 := Int.mul_le_mul (by omega) h3 (Int.le_of_lt hp) (by decide)
  exact Int.lt_of_le_of_lt h4 (by decide)
set_option maxHeartbeats 4000000 in
set_option maxRecDepth 100000 in
theorem vendmeterref_FieldPut.bad (w : World) (w0 w1 w2 lo n v : Int) (h : ¬ (0 ≤ lo ∧ 1 ≤ n ∧ n ≤ 64 ∧ lo + n ≤ 96)) :
    Calls Try.prog 45 #[.agg #[.int .u32 w0, .int .u32 w1, .int .u32 w2], .int .i64 lo, .int .i64 n, .int .u64 v] w fun e w' => e = .returned (.tuple #[.agg #[.int .u32 0, .int .u32 0, .int .u32 0], .int .i64 2]) ∧ Below w.heap.size w w' := by
  have hu63 := Try.underlying63
  have HF := Aside0.mk (may_no h)
  have B4 := blk_new (w.alloc (.cells #[.int .u32 w0, .int .u32 w1, .int .u32 w2] 63)) (.cells #[.int .u32 0, .int .u32 0, .int .u32 0] 63)
  have HB := Aside0.mk (below_alloc (below_alloc (Below.refl w.heap.size w) (.cells #[.int .u32 w0, .int .u32 w1, .int .u32 w2] 63)) (.cells #[.int .u32 0, .int .u32 0, .int .u32 0] 63))
  rw [World.size_alloc] at B4
  have HB4 := Aside0.mk B4
  clear B4 h
  go_enter Try.func45, Try.ntmps45
  go_wp2_with (first | (go_at_call 92; refine (vendmeterref_fieldMay.calls _ _ _ _ HF.out).mono ?_; rintro e wa ⟨rfl, hd⟩; have HB1 := Aside0.mk (below_then HB.out HB.out.size hd.below); have HC1 := Aside0.mk (blk_below HB4.out hd.below); clear hd) | ((with_reducible refine gate_store (t := 63) (p := 8) rfl ?_); refine seg.list rfl rfl 63 (.tmp 8) _ rfl 63 (w.heap.size + 1) 0 #[.int .u32 0, .int .u32 0, .int .u32 0] #[.int .u32 0, .int .u32 0, .int .u32 0] [.int .u32 0, .int .u32 0, .int .u32 0] rfl rfl (by kernel_rfl) (by simp [Value.oneCell']) HC1.out (by simp) rfl ?_; intro w9 bx hgr))
  refine bodyPost_ret (results_ct (p := 8) (u := 9) rfl _ w9 (w.heap.size + 1) 63 _ (0, 0) _ rfl bx Try.underlying63 rfl (by kernel_rfl)) rfl ?_
  exact ⟨rfl, seg.below HB1.out hgr (Nat.le_succ _)⟩
theorem fp_new {V v : Int} (hV : 0 ≤ V ∧ V < W32 4) {lo n : Nat} (hl : lo ≤ 96) (hv : 0 ≤ v ∧ v < 18446744073709551616) : fpv V v lo n < W32 10 := by
  have h := fp_shl hv hl
  have h2 : 0 ≤ V / 2 ^ lo % 2 ^ n * 2 ^ lo := Int.mul_nonneg (Int.emod_nonneg _ (Int.ne_of_gt (Int.pow_pos (by decide)))) (Int.le_of_lt (Int.pow_pos (by decide)))
  have h3 : W32 4 + W32 6 ≤ W32 10 := by decide
  unfold fpv
  omega
set_option maxHeartbeats 8000000 in
set_option maxRecDepth 100000 in
theorem vendmeterref_FieldPut.calls (w : World) (w0 w1 w2 v : Int) (h0 : 0 ≤ w0 ∧ w0 < 4294967296) (h1 : 0 ≤ w1 ∧ w1 < 4294967296) (h2 : 0 ≤ w2 ∧ w2 < 4294967296) (lo n : Nat) (hn : 1 ≤ n) (hn2 : n ≤ 64) (hl : lo + n ≤ 96) (hv : 0 ≤ v ∧ v < 18446744073709551616) (hvn : v < 2 ^ n) :
    Calls Try.prog 45 #[.agg #[.int .u32 w0, .int .u32 w1, .int .u32 w2], .int .i64 (lo : Int), .int .i64 (n : Int), .int .u64 v] w fun e w' => e = .returned (.tuple #[.agg #[.int .u32 (fpv (wval [w0, w1, w2]) v lo n % 4294967296), .int .u32 (fpv (wval [w0, w1, w2]) v lo n / 4294967296 % 4294967296), .int .u32 (fpv (wval [w0, w1, w2]) v lo n / 18446744073709551616 % 4294967296)], .int .i64 0]) ∧ Below w.heap.size w w' := by
  have hu63 := Try.underlying63
  have HF := Aside0.mk (may_yes (lo := (lo : Int)) (n := (n : Int)) ⟨by omega, by omega, by omega, by omega⟩)
  have HN := Aside0.mk (And.intro hn (And.intro hn2 (And.intro hl hv)))
  have el : IntKind.u64.wrap (lo : Int) = (lo : Int) := wu64 ⟨by omega, by omega⟩
  have en : IntKind.u64.wrap (n : Int) = (n : Int) := wu64 ⟨by omega, by omega⟩
  have es : v / 2 ^ min n 64 = 0 := by rw [Nat.min_eq_left hn2]; exact Int.ediv_eq_zero_of_lt hv.1 hvn
  have HV := Aside0.mk (show 0 ≤ wval [w0, w1, w2] ∧ wval [w0, w1, w2] < W32 4 from w3v_bd h0 h1 h2 0)
  have HU := Aside0.mk (fun W : World => vendmeterref_big96.calls W w0 w1 w2 h0 h1 h2)
  have HFD := Aside0.mk (fun W : World => vendmeterref_Field.calls W w0 w1 w2 h0 h1 h2 lo n hn hn2 hl)
  have B4 := blk_alloc (blk_new w (.cells #[.int .u32 w0, .int .u32 w1, .int .u32 w2] 63)) (.cells #[.int .u32 0, .int .u32 0, .int .u32 0] 63)
  have B8 := blk_new (w.alloc (.cells #[.int .u32 w0, .int .u32 w1, .int .u32 w2] 63)) (.cells #[.int .u32 0, .int .u32 0, .int .u32 0] 63)
  rw [World.size_alloc] at B8
  have HB := Aside0.mk (below_alloc (below_alloc (Below.refl w.heap.size w) (.cells #[.int .u32 w0, .int .u32 w1, .int .u32 w2] 63)) (.cells #[.int .u32 0, .int .u32 0, .int .u32 0] 63))
  have H4 := Aside0.mk B4
  have H8 := Aside0.mk B8
  have HOB := Aside0.mk (fp_bd (V := wval [w0, w1, w2]) lo hn2)
  have HOL := Aside0.mk (fp_le HV.out.1 lo n)
  have HLT := Aside0.mk (show v * 2 ^ lo < W32 6 ∧ fpv (wval [w0, w1, w2]) v lo n < W32 10 from ⟨fp_shl hv (by omega), fp_new HV.out (by omega) hv⟩)
  obtain ⟨V, hVV⟩ : ∃ V, wval [w0, w1, w2] = V := ⟨_, rfl⟩
  rw [hVV] at HU HV HFD HLT HOB HOL ⊢
  obtain ⟨old, hold⟩ : ∃ old, V / 2 ^ lo % 2 ^ n = old := ⟨_, rfl⟩
  have HFE := Aside0.mk (show fpv V v lo n = V - old * 2 ^ lo + v * 2 ^ lo by rw [← hold]; rfl)
  rw [hold] at HFD HOB HOL
  obtain ⟨F, hF⟩ : ∃ F, fpv V v lo n = F := ⟨_, rfl⟩
  rw [hF] at HFE HLT ⊢
  generalize hq0 : F % 4294967296 = d0
  generalize hq1 : F / 4294967296 % 4294967296 = d1
  generalize hq2 : F / 18446744073709551616 % 4294967296 = d2
  have HQ := Aside0.mk (And.intro hq0 (And.intro hq1 hq2))
  clear hq0 hq1 hq2 hF hold
  clear h0 h1 h2 hn hn2 hl hv hvn B4 B8 hVV
  rcases Nat.lt_or_ge n 64 with h64 | h64
  all_goals (
    first | (have hd64 : decide ((n : Int) < 64) = true := decide_eq_true (by omega)) | (have hd64 : decide ((n : Int) < 64) = false := decide_eq_false (by omega))
    clear h64
    go_enter Try.func45, Try.ntmps45
    go_upto_region 3 with (go_at_call 92; refine (vendmeterref_fieldMay.calls _ _ _ _ HF.out).mono ?_; rintro e wa ⟨rfl, hd⟩; have HB1 := Aside0.mk (below_then HB.out HB.out.size hd.below); have J4 := Aside0.mk (blk_below H4.out hd.below); have J8 := Aside0.mk (blk_below H8.out hd.below); clear hd)
    have x0 : wa.cell? ⟨w.heap.size, 0, none⟩ = some (.int .u32 w0) := (blk_cell J4.out 0).trans rfl
    have x1 : wa.cell? ⟨w.heap.size, 1, none⟩ = some (.int .u32 w1) := (blk_cell J4.out 1).trans rfl
    have x2 : wa.cell? ⟨w.heap.size, 2, none⟩ = some (.int .u32 w2) := (blk_cell J4.out 2).trans rfl
    go_upto_region 4 with (go_at_call 43; refine (HFD.out _).mono ?_; rintro e wb ⟨rfl, hd⟩; have HB2 := Aside0.mk (below_then HB1.out HB1.out.size hd); have K4 := Aside0.mk (blk_below J4.out hd); have K8 := Aside0.mk (blk_below J8.out hd); clear hd)
    clear x0 x1 x2
    have x0 : wb.cell? ⟨w.heap.size, 0, none⟩ = some (.int .u32 w0) := (blk_cell K4.out 0).trans rfl
    have x1 : wb.cell? ⟨w.heap.size, 1, none⟩ = some (.int .u32 w1) := (blk_cell K4.out 1).trans rfl
    have x2 : wb.cell? ⟨w.heap.size, 2, none⟩ = some (.int .u32 w2) := (blk_cell K4.out 2).trans rfl
    go_upto_region 5 with (go_at_call 78; refine (HU.out _).mono ?_; rintro e wc ⟨g, rfl, hg, hA, hb⟩; have HGG := Aside0.mk (Nat.lt_of_lt_of_le (blk_lt K8.out) hg); have HA := Aside0.mk hA; have HB3 := Aside0.mk (below_then HB2.out HB2.out.size hb); have L8 := Aside0.mk (blk_below K8.out hb); clear hg hA hb)
    clear x0 x1 x2
    have T2 := Aside0.mk ((IsI.new wc).below (below_alloc (Below.refl _ (wc.alloc (.cells #[.bool false, .slice none 0 0] 130))) (.cells #[.bool false, .slice none 0 0] 130)))
    have T1' := IsI.new (wc.alloc (.cells #[.bool false, .slice none 0 0] 130))
    rw [World.size_alloc] at T1'
    have T1 := Aside0.mk T1'
    clear T1'
    have BA := Aside0.mk (below_alloc (below_alloc (Below.refl _ wc) (.cells #[.bool false, .slice none 0 0] 130)) (.cells #[.bool false, .slice none 0 0] 130))
    have A0 := Aside0.mk (HA.out.below BA.out)
    have AL := Aside0.mk HA.out.lt
    have LL := Aside0.mk (blk_lt L8.out)
    have M0 := Aside0.mk (blk_below L8.out BA.out)
    have BB := Aside0.mk (below_then HB3.out HB3.out.size BA.out)
    have SZ := Aside0.mk HB3.out.size
    go_upto_region 6 with (first | (go_at_call 98; refine (vendmeterbig_Int_SetUint64.calls _ (wc.heap.size + 1) _ T1.out HOB.out).mono ?_; rintro e wd ⟨rfl, hA, hO⟩; have S1 := Aside0.mk hA; have T2d := Aside0.mk (T2.out.keep hO (by omega)); have A1 := Aside0.mk (A0.out.keep T1.out hO (by have := AL.out; omega)); have M1 := Aside0.mk ((hO.block _ (blk_lt M0.out) (by have := LL.out; omega)).trans M0.out); have BC := Aside0.mk (Only.below BB.out hO (by have := SZ.out; omega)); clear hA hO) | (go_at_call 94; refine (vendmeterbig_Int_Lsh.calls wd wc.heap.size (wc.heap.size + 1) _ lo T2d.out S1.out (lt1000 (m := 2) (by have h := (HOB.out).2; exact h) (by decide)) (by have := HN.out; omega)).mono ?_; rintro e we ⟨rfl, hA, hO⟩; have S2 := Aside0.mk hA; have A2 := Aside0.mk (A1.out.keep T2d.out hO (by have := AL.out; omega)); have M2 := Aside0.mk ((hO.block _ (blk_lt M1.out) (by have := LL.out; omega)).trans M1.out); have BD := Aside0.mk (Only.below BC.out hO (by have := SZ.out; omega)); clear hA hO) | (go_at_call 97; refine (vendmeterbig_Int_Sub.calls we g g wc.heap.size _ _ A2.out.isI A2.out S2.out (lt1000 HV.out.2 (by decide)) (lt1000 (Int.lt_of_le_of_lt HOL.out HV.out.2) (by decide)) HOL.out).mono ?_; rintro e wf ⟨rfl, hA, hO⟩; have A3 := Aside0.mk hA; have M3 := Aside0.mk ((hO.block _ (blk_lt M2.out) (by have := HGG.out; omega)).trans M2.out); have BE := Aside0.mk (Only.below BD.out hO (by have := HGG.out; omega)); clear hA hO))
    have A4 := Aside0.mk A3.out
    have M4 := Aside0.mk M3.out
    have BF := Aside0.mk BE.out
    clear T2 T1 BA A0 AL LL M0 BB SZ S1 T2d A1 M1 BC S2 A2 M2 BD A3 M3 BE
    have HV2 := Aside0.mk (show 0 ≤ old * 2 ^ lo from Int.mul_nonneg HOB.out.1 (Int.le_of_lt (Int.pow_pos (by decide))))
    have T2 := Aside0.mk ((IsI.new wf).below (below_alloc (Below.refl _ (wf.alloc (.cells #[.bool false, .slice none 0 0] 130))) (.cells #[.bool false, .slice none 0 0] 130)))
    have T1' := IsI.new (wf.alloc (.cells #[.bool false, .slice none 0 0] 130))
    rw [World.size_alloc] at T1'
    have T1 := Aside0.mk T1'
    clear T1'
    have BA := Aside0.mk (below_alloc (below_alloc (Below.refl _ wf) (.cells #[.bool false, .slice none 0 0] 130)) (.cells #[.bool false, .slice none 0 0] 130))
    have A0 := Aside0.mk (A4.out.below BA.out)
    have AL := Aside0.mk A4.out.lt
    have LL := Aside0.mk (blk_lt M4.out)
    have M0 := Aside0.mk (blk_below M4.out BA.out)
    have BB := Aside0.mk (below_then BF.out BF.out.size BA.out)
    have SZ := Aside0.mk BF.out.size
    go_upto_region 7 with (first | (go_at_call 98; refine (vendmeterbig_Int_SetUint64.calls _ (wf.heap.size + 1) _ T1.out HN.out.2.2.2).mono ?_; rintro e wd2 ⟨rfl, hA, hO⟩; have S1 := Aside0.mk hA; have T2d := Aside0.mk (T2.out.keep hO (by omega)); have A1 := Aside0.mk (A0.out.keep T1.out hO (by have := AL.out; omega)); have M1 := Aside0.mk ((hO.block _ (blk_lt M0.out) (by have := LL.out; omega)).trans M0.out); have BC := Aside0.mk (Only.below BB.out hO (by have := SZ.out; omega)); clear hA hO) | (go_at_call 94; refine (vendmeterbig_Int_Lsh.calls wd2 wf.heap.size (wf.heap.size + 1) _ lo T2d.out S1.out (lt1000 (m := 2) (by have h := (HN.out.2.2.2).2; exact h) (by decide)) (by have := HN.out; omega)).mono ?_; rintro e we2 ⟨rfl, hA, hO⟩; have S2 := Aside0.mk hA; have A2 := Aside0.mk (A1.out.keep T2d.out hO (by have := AL.out; omega)); have M2 := Aside0.mk ((hO.block _ (blk_lt M1.out) (by have := LL.out; omega)).trans M1.out); have BD := Aside0.mk (Only.below BC.out hO (by have := SZ.out; omega)); clear hA hO) | (go_at_call 79; refine (vendmeterbig_Int_Add.calls we2 g g wf.heap.size _ _ A2.out.isI A2.out S2.out (lt1000 (m := 4) (Int.lt_of_le_of_lt (Int.sub_le_self _ (HV2.out)) HV.out.2) (by decide)) (lt1000 HLT.out.1 (by decide))).mono ?_; rintro e wg ⟨rfl, hA, hO⟩; have A3 := Aside0.mk hA; have M3 := Aside0.mk ((hO.block _ (blk_lt M2.out) (by have := HGG.out; omega)).trans M2.out); have BE := Aside0.mk (Only.below BD.out hO (by have := HGG.out; omega)); clear hA hO))
    have A4 := A3.out
    rw [← HFE.out] at A4
    have A5 := Aside0.mk A4
    clear A4
    go_upto_region 8 with (first | (go_at_call 81; refine (vendmeterref_wide96.calls wg g _ A5.out HLT.out.2).mono ?_; rw [HQ.out.1, HQ.out.2.1, HQ.out.2.2]; rintro e wh ⟨rfl, hb⟩; have hba := below_alloc hb (.cells #[.int .u32 0, .int .u32 0, .int .u32 0] 63); have P8 := Aside0.mk (blk_below M3.out hba); have BG := Aside0.mk (below_then BE.out BE.out.size hba); have HBL := Aside0.mk (blk_lt (blk_below M3.out hb)); have H9n := Aside0.mk (blk_new wh (.cells #[.int .u32 0, .int .u32 0, .int .u32 0] 63)); clear hb hba) | ((with_reducible refine gate_store (t := 63) (p := 13) rfl ?_); refine seg.list rfl rfl 63 (.tmp 13) _ rfl 63 wh.heap.size 0 #[.int .u32 0, .int .u32 0, .int .u32 0] #[.int .u32 d0, .int .u32 d1, .int .u32 d2] [.int .u32 d0, .int .u32 d1, .int .u32 d2] rfl rfl (by kernel_rfl) (by simp [Value.oneCell']) H9n.out (by simp) rfl ?_; intro wi b9 hg9; have H9 := Aside0.mk b9; have P9 := Aside0.mk (seg.far P8.out hg9 (Nat.ne_of_lt HBL.out)); have BH := Aside0.mk (seg.below BG.out hg9 (by have := HBL.out; omega)); clear b9 hg9))
    have x0 : wi.cell? ⟨wh.heap.size, 0, none⟩ = some (.int .u32 d0) := (blk_cell H9.out 0).trans rfl
    have x1 : wi.cell? ⟨wh.heap.size, 1, none⟩ = some (.int .u32 d1) := (blk_cell H9.out 1).trans rfl
    have x2 : wi.cell? ⟨wh.heap.size, 2, none⟩ = some (.int .u32 d2) := (blk_cell H9.out 2).trans rfl
    go_wp2_with ((with_reducible refine gate_store (t := 63) (p := 8) rfl ?_); refine seg.list rfl rfl 63 (.tmp 8) _ rfl 63 (w.heap.size + 1) 0 #[.int .u32 0, .int .u32 0, .int .u32 0] #[.int .u32 d0, .int .u32 d1, .int .u32 d2] [.int .u32 d0, .int .u32 d1, .int .u32 d2] rfl rfl (by kernel_rfl) (by simp [Value.oneCell']) P9.out (by simp) rfl ?_; intro w9 bx hgr)
    refine bodyPost_ret (results_ct (p := 8) (u := 9) rfl _ w9 (w.heap.size + 1) 63 _ (0, 0) _ rfl bx Try.underlying63 rfl (by kernel_rfl)) rfl ?_
    exact ⟨rfl, seg.below BH.out hgr (Nat.le_succ _)⟩)

theorem len_tab : ∀ t : Fin 256, ∃ m : Fin 9, bt (⟨#[0, 1, 2, 2, 3, 3, 3, 3, 4, 4, 4, 4, 4, 4, 4, 4, 5, 5, 5, 5, 5, 5, 5, 5, 5, 5, 5, 5, 5, 5, 5, 5, 6, 6, 6, 6, 6, 6, 6, 6, 6, 6, 6, 6, 6, 6, 6, 6, 6, 6, 6, 6, 6, 6, 6, 6, 6, 6, 6, 6, 6, 6, 6, 6, 7, 7, 7, 7, 7, 7, 7, 7, 7, 7, 7, 7, 7, 7, 7, 7, 7, 7, 7, 7, 7, 7, 7, 7, 7, 7, 7, 7, 7, 7, 7, 7, 7, 7, 7, 7, 7, 7, 7, 7, 7, 7, 7, 7, 7, 7, 7, 7, 7, 7, 7, 7, 7, 7, 7, 7, 7, 7, 7, 7, 7, 7, 7, 7, 8, 8, 8, 8, 8, 8, 8, 8, 8, 8, 8, 8, 8, 8, 8, 8, 8, 8, 8, 8, 8, 8, 8, 8, 8, 8, 8, 8, 8, 8, 8, 8, 8, 8, 8, 8, 8, 8, 8, 8, 8, 8, 8, 8, 8, 8, 8, 8, 8, 8, 8, 8, 8, 8, 8, 8, 8, 8, 8, 8, 8, 8, 8, 8, 8, 8, 8, 8, 8, 8, 8, 8, 8, 8, 8, 8, 8, 8, 8, 8, 8, 8, 8, 8, 8, 8, 8, 8, 8, 8, 8, 8, 8, 8, 8, 8, 8, 8, 8, 8, 8, 8, 8, 8, 8, 8, 8, 8, 8, 8, 8, 8, 8, 8, 8, 8, 8, 8, 8, 8, 8, 8, 8, 8, 8, 8, 8, 8]⟩ : ByteArray) (t.val : Int) = (m.val : Int) ∧ t.val < 2 ^ m.val ∧ (0 < t.val → 2 ^ (m.val - 1) ≤ t.val ∧ 0 < m.val) ∧ (t.val = 0 → m.val = 0) := by decide +kernel
def LenP (a : Int) (r : Nat) : Prop := a < 2 ^ r ∧ (0 < a → 2 ^ (r - 1) ≤ a ∧ 0 < r) ∧ (a = 0 → r = 0)
set_option maxRecDepth 100000 in
theorem len_q (q : Int) (h : 0 ≤ q ∧ q < 256) : ∃ m : Nat, m ≤ 8 ∧ wrap64 (bt (⟨#[0, 1, 2, 2, 3, 3, 3, 3, 4, 4, 4, 4, 4, 4, 4, 4, 5, 5, 5, 5, 5, 5, 5, 5, 5, 5, 5, 5, 5, 5, 5, 5, 6, 6, 6, 6, 6, 6, 6, 6, 6, 6, 6, 6, 6, 6, 6, 6, 6, 6, 6, 6, 6, 6, 6, 6, 6, 6, 6, 6, 6, 6, 6, 6, 7, 7, 7, 7, 7, 7, 7, 7, 7, 7, 7, 7, 7, 7, 7, 7, 7, 7, 7, 7, 7, 7, 7, 7, 7, 7, 7, 7, 7, 7, 7, 7, 7, 7, 7, 7, 7, 7, 7, 7, 7, 7, 7, 7, 7, 7, 7, 7, 7, 7, 7, 7, 7, 7, 7, 7, 7, 7, 7, 7, 7, 7, 7, 7, 8, 8, 8, 8, 8, 8, 8, 8, 8, 8, 8, 8, 8, 8, 8, 8, 8, 8, 8, 8, 8, 8, 8, 8, 8, 8, 8, 8, 8, 8, 8, 8, 8, 8, 8, 8, 8, 8, 8, 8, 8, 8, 8, 8, 8, 8, 8, 8, 8, 8, 8, 8, 8, 8, 8, 8, 8, 8, 8, 8, 8, 8, 8, 8, 8, 8, 8, 8, 8, 8, 8, 8, 8, 8, 8, 8, 8, 8, 8, 8, 8, 8, 8, 8, 8, 8, 8, 8, 8, 8, 8, 8, 8, 8, 8, 8, 8, 8, 8, 8, 8, 8, 8, 8, 8, 8, 8, 8, 8, 8, 8, 8, 8, 8, 8, 8, 8, 8, 8, 8, 8, 8, 8, 8, 8, 8, 8, 8]⟩ : ByteArray) q) = (m : Int) ∧ LenP q m := by
  obtain ⟨Q, rfl⟩ : ∃ Q : Nat, q = (Q : Int) := ⟨q.toNat, by omega⟩
  obtain ⟨⟨m, hm⟩, h1, h2, h3, h4⟩ := len_tab ⟨Q, by omega⟩
  simp only at h1 h2 h3 h4
  refine ⟨m, by omega, by rw [h1]; unfold wrap64; omega, ?_, fun hq => ?_, fun hq => h4 (by omega)⟩
  · have := Int.ofNat_lt.2 h2; rw [Int.natCast_pow] at this; exact this
  · obtain ⟨a, b⟩ := h3 (by omega)
    have := Int.ofNat_le.2 a; rw [Int.natCast_pow] at this; exact ⟨this, b⟩
theorem LenP.up {a : Int} {m s : Nat} (hq : 1 ≤ a / 2 ^ s) (h : LenP (a / 2 ^ s) m) : LenP a (m + s) := by
  have hp : (0 : Int) < 2 ^ s := Int.pow_pos (by decide)
  obtain ⟨h1, h2, _⟩ := h
  obtain ⟨h2, h3⟩ := h2 (by omega)
  refine ⟨?_, fun _ => ⟨?_, by omega⟩, fun h0 => by rw [h0, Int.zero_ediv] at hq; omega⟩
  · rw [Int.pow_add]; exact (Int.ediv_lt_iff_lt_mul hp).1 h1
  · rw [show m + s - 1 = (m - 1) + s by omega, Int.pow_add]; exact (Int.le_ediv_iff_mul_le hp).1 h2
theorem len_w {a b : Int} (h : 0 ≤ a ∧ a ≤ 100 ∧ 0 ≤ b ∧ b ≤ 100) : wrap64 (a + b) = a + b := by unfold wrap64; omega
set_option maxRecDepth 100000 in
theorem len_j0 (x c : Int) (h : 0 ≤ x ∧ x < 4294967296) (hc : 0 ≤ c ∧ c ≤ 32) : ∃ m : Nat, m ≤ 32 ∧ bits_Len64.j0 1 x c = some (c + m) ∧ LenP x m := by
  simp only [bits_Len64.j0]
  have e8 : (2 : Int) ^ 8 = 256 := rfl
  have e16 : (2 : Int) ^ 16 = 65536 := rfl
  have e24 : (2 : Int) ^ 24 = 16777216 := rfl
  by_cases c1 : x ≥ 65536
  · rw [if_pos c1]
    by_cases c2 : x / 65536 ≥ 256
    · rw [if_pos c2, if_pos (by omega), if_pos (by omega), Int.emod_eq_of_lt (by omega) (by omega)]
      obtain ⟨m, hm, e, hp⟩ := len_q (x / 65536 / 256) ⟨by omega, by omega⟩
      rw [e, len_w (b := 16) ⟨by omega, by omega, by omega, by omega⟩, len_w (b := 8) ⟨by omega, by omega, by omega, by omega⟩, len_w ⟨by omega, by omega, by omega, by omega⟩]
      refine ⟨m + 24, by omega, congrArg some (by omega), LenP.up (by rw [e24]; omega) ?_⟩
      rw [e24, show x / 16777216 = x / 65536 / 256 by omega]; exact hp
    · rw [if_neg c2, if_pos (by omega), if_pos (by omega), Int.emod_eq_of_lt (by omega) (by omega)]
      obtain ⟨m, hm, e, hp⟩ := len_q (x / 65536) ⟨by omega, by omega⟩
      rw [e, len_w (b := 16) ⟨by omega, by omega, by omega, by omega⟩, len_w ⟨by omega, by omega, by omega, by omega⟩]
      refine ⟨m + 16, by omega, congrArg some (by omega), LenP.up (by rw [e16]; omega) ?_⟩
      rw [e16]; exact hp
  · rw [if_neg c1]
    by_cases c2 : x ≥ 256
    · rw [if_pos c2, if_pos (by omega), if_pos (by omega), Int.emod_eq_of_lt (by omega) (by omega)]
      obtain ⟨m, hm, e, hp⟩ := len_q (x / 256) ⟨by omega, by omega⟩
      rw [e, len_w (b := 8) ⟨by omega, by omega, by omega, by omega⟩, len_w ⟨by omega, by omega, by omega, by omega⟩]
      refine ⟨m + 8, by omega, congrArg some (by omega), LenP.up (by rw [e8]; omega) ?_⟩
      rw [e8]; exact hp
    · rw [if_neg c2, if_pos (by omega), if_pos (by omega), Int.emod_eq_of_lt (by omega) (by omega)]
      obtain ⟨m, hm, e, hp⟩ := len_q x ⟨by omega, by omega⟩
      rw [e, len_w ⟨by omega, by omega, by omega, by omega⟩]
      exact ⟨m, by omega, rfl, hp⟩
theorem len_f (a : Int) (h : 0 ≤ a ∧ a < 18446744073709551616) : ∃ m : Nat, m ≤ 64 ∧ bits_Len64.f 1 a = some (m : Int) ∧ LenP a m := by
  unfold bits_Len64.f
  have e32 : (2 : Int) ^ 32 = 4294967296 := rfl
  by_cases c : a ≥ 4294967296
  · rw [if_pos c]
    obtain ⟨m, hm, e, hp⟩ := len_j0 (a / 4294967296) 32 ⟨by omega, by omega⟩ ⟨by decide, by decide⟩
    refine ⟨m + 32, by omega, by rw [e]; exact congrArg some (by omega), LenP.up (by rw [e32]; omega) ?_⟩
    rw [e32]; exact hp
  · rw [if_neg c]
    obtain ⟨m, hm, e, hp⟩ := len_j0 a 0 ⟨by omega, by omega⟩ ⟨by decide, by decide⟩
    exact ⟨m, by omega, by rw [e]; exact congrArg some (by omega), hp⟩
theorem len_gt {a : Int} {m n : Nat} (h0 : 0 ≤ a) (h : LenP a m) : (n < m) = ((2 : Int) ^ n ≤ a) := by
  obtain ⟨h1, h2, h6⟩ := h
  refine propext ⟨fun hn => ?_, fun hn => ?_⟩
  · rcases Int.lt_or_le 0 a with hp | hp
    · obtain ⟨h3, h4⟩ := h2 hp
      have := Nat.pow_le_pow_right (n := 2) (by decide) (show n ≤ m - 1 by omega)
      have := Int.ofNat_le.2 this
      rw [Int.natCast_pow, Int.natCast_pow] at this
      exact Int.le_trans this h3
    · have ha : a = 0 := by omega
      have := h6 ha
      omega
  · rcases Nat.lt_or_ge n m with h | h
    · exact h
    · have := Nat.pow_le_pow_right (n := 2) (by decide) h
      have := Int.ofNat_le.2 this
      rw [Int.natCast_pow, Int.natCast_pow] at this
      have h3 : (2 : Int) ^ n ≤ a := hn
      have h4 : (((2 : Nat) : Int)) ^ m ≤ ((2 : Nat) : Int) ^ n := this
      have h5 : (((2 : Nat) : Int)) = 2 := rfl
      rw [h5] at h4
      omega

def puv (V v : Int) (L i : Nat) : Int := V - V / 2 ^ L % 2 ^ i * 2 ^ L + v % 2 ^ i * 2 ^ L
theorem pu_mod (A : Int) (i : Nat) : A % 2 ^ (i + 1) = A % 2 ^ i + A / 2 ^ i % 2 * 2 ^ i := by
  have hp : (0 : Int) < 2 ^ i := Int.pow_pos (by decide)
  rw [Int.pow_succ]
  generalize (2 : Int) ^ i = P at *
  have h := Int.mul_ediv_add_emod A P
  have h1 := Int.emod_nonneg A (show P ≠ 0 by omega)
  have h2 := Int.emod_lt_of_pos A hp
  have h3 := Int.mul_ediv_add_emod (A / P) 2
  have h4 : A / P % 2 = 0 ∨ A / P % 2 = 1 := by omega
  refine ((Int.ediv_emod_unique (a := A) (b := P * 2) (q := A / P / 2) (r := A % P + A / P % 2 * P) (by omega)).2 ⟨?_, ?_, ?_⟩).2
  · generalize A / P / 2 = q at *
    generalize A / P % 2 = c at *
    generalize A / P = Q at *
    generalize A % P = r at *
    subst h3
    subst h
    grind
  · rcases h4 with h4 | h4 <;> rw [h4] <;> omega
  · rcases h4 with h4 | h4 <;> rw [h4] <;> omega
theorem puv_zero (V v : Int) (L : Nat) : puv V v L 0 = V := by
  simp [puv]
theorem puv_step (V v : Int) (L i : Nat) : puv V v L (i + 1) = puv V v L i + (v / 2 ^ i % 2 - V / 2 ^ (L + i) % 2) * 2 ^ (L + i) := by
  unfold puv
  rw [pu_mod, pu_mod, Int.pow_add, ← Int.ediv_ediv_of_nonneg (Int.le_of_lt (Int.pow_pos (by decide)))]
  generalize V / 2 ^ L % 2 ^ i = m
  generalize V / 2 ^ L / 2 ^ i % 2 = c
  generalize v % 2 ^ i = u
  generalize v / 2 ^ i % 2 = b
  generalize (2 : Int) ^ L = P
  generalize (2 : Int) ^ i = Q
  grind
theorem puv_hi (V v : Int) (L i : Nat) : puv V v L i / 2 ^ (L + i) = V / 2 ^ (L + i) := by
  have hp : (0 : Int) < 2 ^ L := Int.pow_pos (by decide)
  have hq : (0 : Int) < 2 ^ i := Int.pow_pos (by decide)
  rw [Int.pow_add, ← Int.ediv_ediv_of_nonneg (Int.le_of_lt hp), ← Int.ediv_ediv_of_nonneg (Int.le_of_lt hp)]
  unfold puv
  generalize (2 : Int) ^ L = P at *
  generalize (2 : Int) ^ i = Q at *
  have h := Int.mul_ediv_add_emod V P
  have h1 := Int.emod_nonneg V (show P ≠ 0 by omega)
  have h2 := Int.emod_lt_of_pos V hp
  have h3 := Int.mul_ediv_add_emod (V / P) Q
  have h5 := Int.emod_nonneg v (show Q ≠ 0 by omega)
  have h6 := Int.emod_lt_of_pos v hq
  have e : (V - V / P % Q * P + v % Q * P) / P = Q * (V / P / Q) + v % Q := by
    refine ((Int.ediv_emod_unique (b := P) (r := V % P) hp).2 ⟨?_, h1, h2⟩).1
    generalize V / P / Q = H at *
    generalize V / P % Q = m at *
    generalize V / P = A at *
    generalize v % Q = u at *
    generalize V % P = r at *
    subst h3
    subst h
    grind
  rw [e]
  refine ((Int.ediv_emod_unique (b := Q) (r := v % Q) hq).2 ⟨?_, h5, h6⟩).1
  generalize V / P / Q = H
  omega
theorem nat_clear (x r : Nat) (hr : r < 32) (hx : x < 4294967296) : x &&& (4294967295 - 2 ^ r) = 2 ^ (r + 1) * (x / 2 ^ (r + 1)) + x % 2 ^ r := by
  apply Nat.eq_of_testBit_eq
  intro j
  have e : (4294967295 - 2 ^ r : Nat) = 2 ^ 32 - (2 ^ r + 1) := by omega
  have hl : x % 2 ^ r < 2 ^ (r + 1) := Nat.lt_trans (Nat.mod_lt _ (Nat.two_pow_pos r)) (Nat.pow_lt_pow_right (by decide) (Nat.lt_succ_self r))
  have h2 : 2 ^ r < 2 ^ 32 := Nat.pow_lt_pow_right (by decide) hr
  rw [Nat.testBit_and, e, Nat.testBit_two_pow_sub_succ h2, Nat.testBit_two_pow, Nat.testBit_two_pow_mul_add _ hl, Nat.testBit_mod_two_pow, Nat.testBit_div_two_pow]
  by_cases hj : j < r + 1
  · rw [if_pos hj]
    by_cases hjr : j = r
    · subst hjr; simp
    · have : j < r := by omega
      have h3 : j < 32 := by omega
      have h4 : ¬ r = j := by omega
      simp [this, h3, h4]
  · rw [if_neg hj]
    by_cases h3 : j < 32
    · have h4 : ¬ r = j := by omega
      have h5 : j - (r + 1) + (r + 1) = j := by omega
      simp [h3, h4, h5]
    · have h5 : j - (r + 1) + (r + 1) = j := by omega
      have h6 : x.testBit j = false := Nat.testBit_lt_two_pow (Nat.lt_of_lt_of_le hx (Nat.pow_le_pow_right (n := 2) (by decide) (show 32 ≤ j by omega)))
      simp [h3, h5, h6]
theorem nat_clear2 (x r : Nat) : 2 ^ (r + 1) * (x / 2 ^ (r + 1)) + x % 2 ^ r + x / 2 ^ r % 2 * 2 ^ r = x := by
  have h := Nat.div_add_mod x (2 ^ r)
  have h2 := Nat.div_add_mod (x / 2 ^ r) 2
  rw [Nat.pow_succ, ← Nat.div_div_eq_div_mul]
  generalize (2 : Nat) ^ r = P at *
  generalize x / P % 2 = c at *
  generalize x / P / 2 = q at *
  generalize x / P = Q at *
  generalize x % P = l at *
  subst h2
  subst h
  grind
theorem nat_set (h r l : Nat) (hl : l < 2 ^ r) : (2 ^ (r + 1) * h + l) ||| 2 ^ r = 2 ^ (r + 1) * h + l + 2 ^ r := by
  have h1 : l < 2 ^ (r + 1) := Nat.lt_trans hl (Nat.pow_lt_pow_right (by decide) (Nat.lt_succ_self r))
  have e1 := Nat.two_pow_add_eq_or_of_lt hl 1
  have h2 : 2 ^ r * 1 + l < 2 ^ (r + 1) := by rw [Nat.pow_succ]; omega
  have e2 := Nat.two_pow_add_eq_or_of_lt h2 h
  have e3 := Nat.two_pow_add_eq_or_of_lt h1 h
  rw [show 2 ^ (r + 1) * h + l + 2 ^ r = 2 ^ (r + 1) * h + (2 ^ r * 1 + l) by omega, e2, e1, e3, Nat.or_assoc, Nat.mul_one, Nat.or_comm l]
theorem put_bits {x : Int} {r : Nat} (hr : r < 32) (hx : 0 ≤ x ∧ x < 4294967296) : Go.bits .andNot .u32 x (2 ^ r) = x - x / 2 ^ r % 2 * 2 ^ r ∧ Go.bits .or .u32 (x - x / 2 ^ r % 2 * 2 ^ r) (2 ^ r) = x - x / 2 ^ r % 2 * 2 ^ r + 2 ^ r ∧ 0 ≤ x - x / 2 ^ r % 2 * 2 ^ r ∧ x - x / 2 ^ r % 2 * 2 ^ r + 2 ^ r < 4294967296 ∧ (2 : Int) ^ r < 4294967296 := by
  obtain ⟨X, rfl⟩ : ∃ X : Nat, x = (X : Int) := ⟨x.toNat, by omega⟩
  have hX : X < 4294967296 := by omega
  have hp : (2 : Nat) ^ r < 4294967296 := Nat.pow_lt_pow_right (a := 2) (by decide) hr
  have ep : ((2 : Int) ^ r) = ((2 ^ r : Nat) : Int) := by rw [Int.natCast_pow]; rfl
  have hc := nat_clear X r hr hX
  have hc2 := nat_clear2 X r
  have hl : X % 2 ^ r < 2 ^ r := Nat.mod_lt _ (Nat.two_pow_pos r)
  have hs := nat_set (X / 2 ^ (r + 1)) r (X % 2 ^ r) hl
  obtain ⟨y, hy⟩ : ∃ y, 2 ^ (r + 1) * (X / 2 ^ (r + 1)) + X % 2 ^ r = y := ⟨_, rfl⟩
  rw [hy] at hc hc2 hs
  have ey : (X : Int) - (X : Int) / 2 ^ r % 2 * 2 ^ r = (y : Int) := by
    rw [ep]
    have h := congrArg (Nat.cast : Nat → Int) hc2
    simp only [Int.natCast_add, Int.natCast_mul, Int.natCast_emod, Int.natCast_ediv] at h
    have h2 : (X : Int) / ((2 ^ r : Nat) : Int) % ((2 : Nat) : Int) = (X : Int) / ((2 ^ r : Nat) : Int) % 2 := rfl
    rw [h2] at h
    omega
  have hyl : y ||| 2 ^ r < 2 ^ 32 := Nat.or_lt_two_pow (by have : y ≤ X := by rw [← hc2]; exact Nat.le_add_right _ _
                                                           omega) hp
  rw [ey, ep, u32_andNot _ _ hx.1 hx.2 (by omega) (by omega), u32_or _ _ (by omega) (by omega) (by omega) (by omega)]
  simp only [Int.toNat_natCast]
  rw [hc, hs]
  rw [hs] at hyl
  refine ⟨rfl, by rw [Int.natCast_add], by omega, by omega, by omega⟩
def puw (w0 w1 w2 : Int) (q : Nat) (y : Int) : Array Value := #[.int .u32 (if q = 0 then y else w0), .int .u32 (if q = 1 then y else w1), .int .u32 (if q = 2 then y else w2)]
theorem puw_set (w0 w1 w2 y : Int) {q : Nat} (hq : q < 3) : (#[.int .u32 w0, .int .u32 w1, .int .u32 w2] : Array Value).setIfInBounds q (.int .u32 y) = puw w0 w1 w2 q y := by
  match q, hq with
  | 0, _ => rfl
  | 1, _ => rfl
  | 2, _ => rfl
theorem puw_set2 (w0 w1 w2 x y : Int) {q : Nat} (hq : q < 3) : (puw w0 w1 w2 q x).setIfInBounds q (.int .u32 y) = puw w0 w1 w2 q y := by
  match q, hq with
  | 0, _ => rfl
  | 1, _ => rfl
  | 2, _ => rfl
theorem puw_val (w0 w1 w2 y : Int) {q : Nat} (hq : q < 3) : wval [if q = 0 then y else w0, if q = 1 then y else w1, if q = 2 then y else w2] = wval [w0, w1, w2] + (y - btx w0 w1 w2 q) * 2 ^ (32 * q) := by
  match q, hq with
  | 0, _ => simp only [wval, btx, show (2 : Int) ^ (32 * 0) = 1 from rfl]; simp; omega
  | 1, _ => simp only [wval, btx, show (2 : Int) ^ (32 * 1) = 4294967296 by decide]; simp; omega
  | 2, _ => simp only [wval, btx, show (2 : Int) ^ (32 * 2) = 18446744073709551616 by decide]; simp; omega
theorem btx_bd {w0 w1 w2 : Int} (h0 : 0 ≤ w0 ∧ w0 < 4294967296) (h1 : 0 ≤ w1 ∧ w1 < 4294967296) (h2 : 0 ≤ w2 ∧ w2 < 4294967296) (q : Nat) : 0 ≤ btx w0 w1 w2 q ∧ btx w0 w1 w2 q < 4294967296 := by
  match q with
  | 0 => exact h0
  | 1 => exact h1
  | q + 2 => exact h2
theorem pu_round {V v w0 w1 w2 b : Int} {L i a q r : Nat} (hV : wval [w0, w1, w2] = puv V v L i) (h0 : 0 ≤ w0 ∧ w0 < 4294967296) (h1 : 0 ≤ w1 ∧ w1 < 4294967296) (h2 : 0 ≤ w2 ∧ w2 < 4294967296) (hl : L + i = a) (ha : a < 96) (hq : a / 32 = q) (hr : a % 32 = r) (hb : v / 2 ^ i % 2 = b) :
    wval [if q = 0 then btx w0 w1 w2 q - btx w0 w1 w2 q / 2 ^ r % 2 * 2 ^ r + b * 2 ^ r else w0, if q = 1 then btx w0 w1 w2 q - btx w0 w1 w2 q / 2 ^ r % 2 * 2 ^ r + b * 2 ^ r else w1, if q = 2 then btx w0 w1 w2 q - btx w0 w1 w2 q / 2 ^ r % 2 * 2 ^ r + b * 2 ^ r else w2] = puv V v L (i + 1) := by
  have hq3 : q < 3 := by omega
  have e := bit_at rfl h0 h1 h2 ha hq hr
  rw [puw_val _ _ _ _ hq3, puv_step, hb, e, hV, ← hl, puv_hi, hl]
  have ep : (2 : Int) ^ a = 2 ^ r * 2 ^ (32 * q) := by rw [← Int.pow_add]; congr 1; omega
  rw [ep]
  generalize (2 : Int) ^ r = P
  generalize (2 : Int) ^ (32 * q) = Q
  generalize V / (P * Q) % 2 = c
  generalize btx w0 w1 w2 q = x
  grind

set_option maxHeartbeats 4000000 in
set_option maxRecDepth 100000 in
theorem words_Put.bad (w : World) (w0 w1 w2 lo n v : Int) (h : ¬ (0 ≤ lo ∧ 1 ≤ n ∧ n ≤ 64 ∧ lo + n ≤ 96)) :
    Calls Try.prog 44 #[.agg #[.int .u32 w0, .int .u32 w1, .int .u32 w2], .int .i64 lo, .int .i64 n, .int .u64 v] w fun e w' => e = .returned (.tuple #[.agg #[.int .u32 0, .int .u32 0, .int .u32 0], .int .i64 2]) ∧ Below w.heap.size w w' := by
  have hu63 := Try.underlying63
  have HF := Aside0.mk (field_no h)
  clear h
  have B4 := blk_new (w.alloc (.cells #[.int .u32 w0, .int .u32 w1, .int .u32 w2] 63)) (.cells #[.int .u32 0, .int .u32 0, .int .u32 0] 63)
  have HB := Aside0.mk (below_alloc (below_alloc (Below.refl w.heap.size w) (.cells #[.int .u32 w0, .int .u32 w1, .int .u32 w2] 63)) (.cells #[.int .u32 0, .int .u32 0, .int .u32 0] 63))
  rw [World.size_alloc] at B4
  have HB4 := Aside0.mk B4
  clear B4
  go_enter Try.func44, Try.ntmps44
  go_wp2_with (first | (go_at_call 91; refine (words_field.calls _ _ _ _ HF.out).mono ?_; rintro e wa ⟨rfl, hd⟩; have HB1 := Aside0.mk (below_then HB.out HB.out.size hd.below); have HC1 := Aside0.mk (blk_below HB4.out hd.below); clear hd) | ((with_reducible refine gate_store (t := 63) (p := 8) rfl ?_); refine seg.list rfl rfl 63 (.tmp 8) _ rfl 63 (w.heap.size + 1) 0 #[.int .u32 0, .int .u32 0, .int .u32 0] #[.int .u32 0, .int .u32 0, .int .u32 0] [.int .u32 0, .int .u32 0, .int .u32 0] rfl rfl (by kernel_rfl) (by simp [Value.oneCell']) HC1.out (by simp) rfl ?_; intro w9 bx hgr))
  refine bodyPost_ret (results_ct (p := 8) (u := 9) rfl _ w9 (w.heap.size + 1) 63 _ (0, 0) _ rfl bx Try.underlying63 rfl (by kernel_rfl)) rfl ?_
  exact ⟨rfl, seg.below HB1.out hgr (Nat.le_succ _)⟩
set_option maxHeartbeats 4000000 in
set_option maxRecDepth 100000 in
theorem words_Put.over (w : World) (w0 w1 w2 v : Int) (lo n : Nat) (hn : 1 ≤ n) (hn2 : n ≤ 64) (hl : lo + n ≤ 96) (hv : 0 ≤ v ∧ v < 18446744073709551616) (hvn : 2 ^ n ≤ v) :
    Calls Try.prog 44 #[.agg #[.int .u32 w0, .int .u32 w1, .int .u32 w2], .int .i64 (lo : Int), .int .i64 (n : Int), .int .u64 v] w fun e w' => e = .returned (.tuple #[.agg #[.int .u32 0, .int .u32 0, .int .u32 0], .int .i64 2]) ∧ Below w.heap.size w w' := by
  have hu63 := Try.underlying63
  have HF := Aside0.mk (field_yes (lo := (lo : Int)) (n := (n : Int)) ⟨by omega, by omega, by omega, by omega⟩)
  obtain ⟨m, hm, hM, hP⟩ := len_f v hv
  have HM := Aside0.mk hM
  have hgt : decide (n < m) = true := decide_eq_true (by have := (len_gt (n := n) hv.1 hP).mpr hvn; omega)
  clear hn hn2 hl hv hvn hm hM hP
  have B4 := blk_new (w.alloc (.cells #[.int .u32 w0, .int .u32 w1, .int .u32 w2] 63)) (.cells #[.int .u32 0, .int .u32 0, .int .u32 0] 63)
  have HB := Aside0.mk (below_alloc (below_alloc (Below.refl w.heap.size w) (.cells #[.int .u32 w0, .int .u32 w1, .int .u32 w2] 63)) (.cells #[.int .u32 0, .int .u32 0, .int .u32 0] 63))
  rw [World.size_alloc] at B4
  have HB4 := Aside0.mk B4
  clear B4
  go_enter Try.func44, Try.ntmps44
  go_wp2_with (first | (go_at_call 91; refine (words_field.calls _ _ _ _ HF.out).mono ?_; rintro e wa ⟨rfl, hd⟩; have HB1 := Aside0.mk (below_then HB.out HB.out.size hd.below); have HC1 := Aside0.mk (blk_below HB4.out hd.below); clear hd) | (go_at_call 96; refine (bits_Len64.calls 1 _ _ _ HM.out).mono ?_; rintro e wb ⟨rfl, hd⟩; have HB2 := Aside0.mk (below_then HB1.out HB1.out.size hd.below); have HC2 := Aside0.mk (blk_below HC1.out hd.below); clear hd) | ((with_reducible refine gate_store (t := 63) (p := 8) rfl ?_); refine seg.list rfl rfl 63 (.tmp 8) _ rfl 63 (w.heap.size + 1) 0 #[.int .u32 0, .int .u32 0, .int .u32 0] #[.int .u32 0, .int .u32 0, .int .u32 0] [.int .u32 0, .int .u32 0, .int .u32 0] rfl rfl (by kernel_rfl) (by simp [Value.oneCell']) HC2.out (by simp) rfl ?_; intro w9 bx hgr))
  refine bodyPost_ret (results_ct (p := 8) (u := 9) rfl _ w9 (w.heap.size + 1) 63 _ (0, 0) _ rfl bx Try.underlying63 rfl (by kernel_rfl)) rfl ?_
  exact ⟨rfl, seg.below HB2.out hgr (Nat.le_succ _)⟩
set_option maxHeartbeats 8000000 in
set_option maxRecDepth 100000 in
theorem words_Put.calls (w : World) (w0 w1 w2 v : Int) (h0 : 0 ≤ w0 ∧ w0 < 4294967296) (h1 : 0 ≤ w1 ∧ w1 < 4294967296) (h2 : 0 ≤ w2 ∧ w2 < 4294967296) (lo n : Nat) (hn : 1 ≤ n) (hn2 : n ≤ 64) (hl : lo + n ≤ 96) (hv : 0 ≤ v ∧ v < 18446744073709551616) (hvn : v < 2 ^ n) :
    Calls Try.prog 44 #[.agg #[.int .u32 w0, .int .u32 w1, .int .u32 w2], .int .i64 (lo : Int), .int .i64 (n : Int), .int .u64 v] w fun e w' => e = .returned (.tuple #[.agg #[.int .u32 ((fpv (wval [w0, w1, w2]) v lo n) % 4294967296), .int .u32 ((fpv (wval [w0, w1, w2]) v lo n) / 4294967296 % 4294967296), .int .u32 ((fpv (wval [w0, w1, w2]) v lo n) / 18446744073709551616 % 4294967296)], .int .i64 0]) ∧ Below w.heap.size w w' := by
  have hu63 := Try.underlying63
  have HF := Aside0.mk (field_yes (lo := (lo : Int)) (n := (n : Int)) ⟨by omega, by omega, by omega, by omega⟩)
  have HN := Aside0.mk (And.intro hn (And.intro hn2 (And.intro hl (And.intro hv hvn))))
  have HX := Aside0.mk (And.intro h0 (And.intro h1 h2))
  obtain ⟨m, hm, hM, hP⟩ := len_f v hv
  have HM := Aside0.mk hM
  have hgt : decide (n < m) = false := decide_eq_false (by have := (len_gt (n := n) hv.1 hP).mp; intro hh; have := this (by omega); omega)
  clear hm hM hP hn hn2 hl hv hvn
  have B4 := blk_alloc (blk_new w (.cells #[.int .u32 w0, .int .u32 w1, .int .u32 w2] 63)) (.cells #[.int .u32 0, .int .u32 0, .int .u32 0] 63)
  have B8 := blk_new (w.alloc (.cells #[.int .u32 w0, .int .u32 w1, .int .u32 w2] 63)) (.cells #[.int .u32 0, .int .u32 0, .int .u32 0] 63)
  rw [World.size_alloc] at B8
  have HB := Aside0.mk (below_alloc (below_alloc (Below.refl w.heap.size w) (.cells #[.int .u32 w0, .int .u32 w1, .int .u32 w2] 63)) (.cells #[.int .u32 0, .int .u32 0, .int .u32 0] 63))
  have H4 := Aside0.mk B4
  have H8 := Aside0.mk B8
  obtain ⟨V, hVV⟩ : ∃ V, wval [w0, w1, w2] = V := ⟨_, rfl⟩
  rw [hVV]
  have HVV := Aside0.mk hVV
  clear h0 h1 h2 B4 B8 hVV
  go_enter Try.func44, Try.ntmps44
  go_wp2_with (first | (go_at_call 91; refine (words_field.calls _ _ _ _ HF.out).mono ?_; rintro e wa ⟨rfl, hd⟩; have HB1 := Aside0.mk (below_then HB.out HB.out.size hd.below); have J4 := Aside0.mk (blk_below H4.out hd.below); have J8 := Aside0.mk (blk_below H8.out hd.below); clear hd) | (go_at_call 96; refine (bits_Len64.calls 1 _ _ _ HM.out).mono ?_; rintro e wb ⟨rfl, hd⟩; have HB2 := Aside0.mk (below_then HB1.out HB1.out.size hd.below); have K4 := Aside0.mk (blk_below J4.out hd.below); have K8 := Aside0.mk (blk_below J8.out hd.below); clear hd))
  go_loopg [10, 11, 12, 25] n (fun kz v10 v11 v12 v25 w' => ∃ (i : Nat) (x0 x1 x2 : Int), v25 = .int .i64 (i : Int) ∧ Aside0 (i ≤ n ∧ kz = n - i) ∧ Aside0 (wval [x0, x1, x2] = puv V v lo i ∧ (0 ≤ x0 ∧ x0 < 4294967296) ∧ (0 ≤ x1 ∧ x1 < 4294967296) ∧ (0 ≤ x2 ∧ x2 < 4294967296)) ∧ Aside0 (w'.heap[w.heap.size]? = some (.cells #[.int .u32 x0, .int .u32 x1, .int .u32 x2] 63 (0, 0))) ∧ Aside0 (w'.heap[w.heap.size + 1]? = some (.cells #[.int .u32 0, .int .u32 0, .int .u32 0] 63 (0, 0))) ∧ Aside0 (Below w.heap.size w w'))
  case atStart => exact ⟨0, w0, w1, w2, rfl, ⟨by omega, by omega⟩, ⟨by rw [HVV.out, puv_zero], HX.out⟩, K4, K8, HB2⟩
  case round =>
    clear H4 H8 J4 J8 K4 K8 HB HB1 HB2 HX HVV HM HF hgt
    obtain ⟨i, x0, x1, x2, rfl, HI, HXX, B4, B8, HB⟩ := hrel
    by_cases hlt : i < n
    · have hltb : decide (i < n) = true := decide_eq_true hlt
      have hat : IntKind.i64.wrap ((lo : Int) + (i : Int)) = ((lo + i : Nat) : Int) := by rw [Go.IntKind.wrap_i64]; have := HN.out; omega
      obtain ⟨at_, hat_⟩ : ∃ at_, lo + i = at_ := ⟨_, rfl⟩
      rw [hat_] at hat
      have ha96 : at_ < 96 := by have := HN.out; omega
      obtain ⟨q, hq⟩ : ∃ q, at_ / 32 = q := ⟨_, rfl⟩
      obtain ⟨rr, hr⟩ : ∃ rr, at_ % 32 = rr := ⟨_, rfl⟩
      have eq_ : wrap64 ((at_ : Int) / 32) = (q : Int) := by rw [bt_wrap (by omega)]; omega
      have er_ : (at_ : Int) % 32 = (rr : Int) := by omega
      have er1_ : wrap64 (rr : Int) = (rr : Int) := bt_wrap (by omega)
      have hq3 : q < 3 := by omega
      have hcell : wr.cell? ⟨w.heap.size, q, none⟩ = some (.int .u32 (btx x0 x1 x2 q)) := by
        rw [blk_cell B4.out q]
        match q, hq3 with
        | 0, _ => rfl
        | 1, _ => rfl
        | 2, _ => rfl
      have hfz := blk_frozen B4.out q
      obtain ⟨x, hx⟩ : ∃ x, btx x0 x1 x2 q = x := ⟨_, rfl⟩
      rw [hx] at hcell
      have hr32 : rr < 32 := by omega
      have hxb : 0 ≤ x ∧ x < 4294967296 := by rw [← hx]; exact btx_bd HXX.out.2.1 HXX.out.2.2.1 HXX.out.2.2.2 q
      obtain ⟨p1, p2, p3, p4, p5⟩ := put_bits hr32 hxb
      have ePP : (2 : Int) ^ rr % 4294967296 = 2 ^ rr := Int.emod_eq_of_lt (Int.le_of_lt (Int.pow_pos (by decide))) p5
      obtain ⟨P, hP⟩ : ∃ P, (2 : Int) ^ rr % 4294967296 = P := ⟨_, rfl⟩
      have hPr : P = 2 ^ rr := by rw [← hP, ePP]
      obtain ⟨y, hy⟩ : ∃ y, x - x / 2 ^ rr % 2 * 2 ^ rr = y := ⟨_, rfl⟩
      rw [hy] at p1 p2 p3 p4
      rw [← hPr] at p1 p2
      have hv2 : 0 ≤ v / 2 ^ i ∧ v / 2 ^ i < 18446744073709551616 := ⟨Int.ediv_nonneg HN.out.2.2.2.1.1 (Int.le_of_lt (Int.pow_pos (by decide))), Int.lt_of_le_of_lt (Int.ediv_le_self _ HN.out.2.2.2.1.1) HN.out.2.2.2.1.2⟩
      have hmin : min i 64 = i := Nat.min_eq_left (by have := HN.out; omega)
      have hand : Go.bits .and .u64 (v / 2 ^ min i 64) 1 = v / 2 ^ i % 2 := by
        rw [hmin]
        exact bits_mask .u64 64 (by decide) (fun n a c => wu64 ⟨a, by have := c; omega⟩) 1 (by decide) _ hv2.1 (by have := hv2.2; omega)
      have HPU := Aside0.mk (fun b hb => pu_round (b := b) HXX.out.1 HXX.out.2.1 HXX.out.2.2.1 HXX.out.2.2.2 hat_ ha96 hq hr hb)
      rw [hx, hy] at HPU
      have HY := Aside0.mk (And.intro p3 (And.intro p4 (And.intro hPr (And.intro hlt hq3))))
      have hsw : wrap64 ((i : Int) + 1) = ((i + 1 : Nat) : Int) := by rw [bt_wrap (by have := HN.out; omega)]; omega
      have HBITS := Aside0.mk (And.intro HXX.out.2.1 (And.intro HXX.out.2.2.1 HXX.out.2.2.2))
      have HP0 := Aside0.mk (show (0 : Int) < 2 ^ rr from Int.pow_pos (by decide))
      have HSW := Aside0.mk hsw
      have HI2 := Aside0.mk HI.out
      rcases (show v / 2 ^ i % 2 = 0 ∨ v / 2 ^ i % 2 = 1 by omega) with hb | hb
      · have htest : (Go.bits .and .u64 (v / 2 ^ min i 64) 1 == 1) = false := by rw [hand, hb]; rfl
        have HW2 := Aside0.mk (HPU.out 0 hb)
        clear hat_ ha96 hq hr hx hlt hxb p3 p4 p5 ePP hPr hy hv2 hmin hand HPU hsw hb hr32
        go_wp2
        go_roundg (n - (i + 1))
        case measure => have := HI2.out; have := HY.out; omega
        case rel =>
          obtain ⟨q3, q4, qP, qlt, hq3'⟩ := HY.out
          refine ⟨i + 1, if q = 0 then y else x0, if q = 1 then y else x1, if q = 2 then y else x2, by rw [HSW.out], ⟨by omega, rfl⟩, ⟨?_, ?_, ?_, ?_⟩, ⟨?_⟩, ⟨blk_far B8.out (p := ⟨w.heap.size, q, none⟩) (by simp) _⟩, ⟨below_set HB.out (Nat.le_refl _)⟩⟩
          · have h := HW2.out; rw [Int.zero_mul, Int.add_zero] at h; exact h
          · have := HP0.out; split <;> first | exact HBITS.out.1 | exact ⟨q3, by omega⟩
          · have := HP0.out; split <;> first | exact HBITS.out.2.1 | exact ⟨q3, by omega⟩
          · have := HP0.out; split <;> first | exact HBITS.out.2.2 | exact ⟨q3, by omega⟩
          · have h := blk_set B4.out q (.int .u32 y); rw [puw_set _ _ _ _ hq3'] at h; exact h
      · have htest : (Go.bits .and .u64 (v / 2 ^ min i 64) 1 == 1) = true := by rw [hand, hb]; rfl
        obtain ⟨y2, hy2⟩ : ∃ y2, y + 2 ^ rr = y2 := ⟨_, rfl⟩
        have HW2 := Aside0.mk (HPU.out 1 hb)
        rw [Int.one_mul, hy2] at HW2
        replace p2 : Go.bits .or .u32 y P = y2 := by rw [p2, hPr]; exact hy2
        have HY2 := Aside0.mk (show 0 ≤ y2 ∧ y2 < 4294967296 by have := HP0.out; omega)
        clear hat_ ha96 hq hr hx hlt hxb p3 p4 p5 ePP hPr hy hv2 hmin hand HPU hsw hb hr32 hy2
        go_wp2
        go_roundg (n - (i + 1))
        case measure => have := HI2.out; have := HY.out; omega
        case rel =>
          obtain ⟨q3, q4, qP, qlt, hq3'⟩ := HY.out
          refine ⟨i + 1, if q = 0 then y2 else x0, if q = 1 then y2 else x1, if q = 2 then y2 else x2, by rw [HSW.out], ⟨by omega, rfl⟩, ⟨?_, ?_, ?_, ?_⟩, ⟨?_⟩, ⟨blk_far (blk_far B8.out (p := ⟨w.heap.size, q, none⟩) (by simp) _) (p := ⟨w.heap.size, q, none⟩) (by simp) _⟩, ⟨below_set (below_set HB.out (Nat.le_refl _)) (Nat.le_refl _)⟩⟩
          · exact HW2.out
          · split <;> first | exact HBITS.out.1 | exact HY2.out
          · split <;> first | exact HBITS.out.2.1 | exact HY2.out
          · split <;> first | exact HBITS.out.2.2 | exact HY2.out
          · have h := blk_set (blk_set B4.out q (.int .u32 y)) q (.int .u32 y2); rw [puw_set _ _ _ _ hq3', puw_set2 _ _ _ _ _ hq3'] at h; exact h
    · have hltb : decide (i < n) = false := decide_eq_false hlt
      obtain ⟨hi, _⟩ := HI.out
      obtain rfl : i = n := by omega
      have hfe : puv V v lo i = fpv V v lo i := by unfold puv fpv; rw [Int.emod_eq_of_lt HN.out.2.2.2.1.1 HN.out.2.2.2.2]
      obtain ⟨hw, b0, b1, b2⟩ := HXX.out
      rw [hfe] at hw
      have e0 : fpv V v lo i % 4294967296 = x0 := by rw [← hw]; simp only [wval]; omega
      have e1 : fpv V v lo i / 4294967296 % 4294967296 = x1 := by rw [← hw]; simp only [wval]; omega
      have e2 : fpv V v lo i / 18446744073709551616 % 4294967296 = x2 := by rw [← hw]; simp only [wval]; omega
      have HE := Aside0.mk (And.intro e0 (And.intro e1 e2))
      have c0 : wr.cell? ⟨w.heap.size, 0, none⟩ = some (.int .u32 x0) := (blk_cell B4.out 0).trans rfl
      have c1 : wr.cell? ⟨w.heap.size, 1, none⟩ = some (.int .u32 x1) := (blk_cell B4.out 1).trans rfl
      have c2 : wr.cell? ⟨w.heap.size, 2, none⟩ = some (.int .u32 x2) := (blk_cell B4.out 2).trans rfl
      clear hw b0 b1 b2 e0 e1 e2 hfe hi hlt
      go_wp2_with ((with_reducible refine gate_store (t := 63) (p := 8) rfl ?_); refine seg.list rfl rfl 63 (.tmp 8) _ rfl 63 (w.heap.size + 1) 0 #[.int .u32 0, .int .u32 0, .int .u32 0] #[.int .u32 x0, .int .u32 x1, .int .u32 x2] [.int .u32 x0, .int .u32 x1, .int .u32 x2] rfl rfl (by kernel_rfl) (by simp [Value.oneCell']) B8.out (by simp) rfl ?_; intro w9 bx hgr)
      refine bodyPost_ret (results_ct (p := 8) (u := 9) rfl _ w9 (w.heap.size + 1) 63 _ (0, 0) _ rfl bx Try.underlying63 rfl (by kernel_rfl)) rfl ?_
      exact ⟨by rw [HE.out.1, HE.out.2.1, HE.out.2.2]; rfl, seg.below HB.out hgr (Nat.le_succ _)⟩

attribute [local go_sem high] words_eq
set_option maxHeartbeats 4000000 in
set_option maxRecDepth 100000 in
theorem vendmeterref_FieldPut.over (w : World) (w0 w1 w2 v : Int) (lo n : Nat) (hn : 1 ≤ n) (hn2 : n ≤ 64) (hl : lo + n ≤ 96) (hv : 0 ≤ v ∧ v < 18446744073709551616) (hvn : 2 ^ n ≤ v) :
    Calls Try.prog 45 #[.agg #[.int .u32 w0, .int .u32 w1, .int .u32 w2], .int .i64 (lo : Int), .int .i64 (n : Int), .int .u64 v] w fun e w' => e = .returned (.tuple #[.agg #[.int .u32 0, .int .u32 0, .int .u32 0], .int .i64 2]) ∧ Below w.heap.size w w' := by
  have hu63 := Try.underlying63
  have HF := Aside0.mk (may_yes (lo := (lo : Int)) (n := (n : Int)) ⟨by omega, by omega, by omega, by omega⟩)
  have h64 : n < 64 := by
    rcases Nat.lt_or_ge n 64 with h | h
    · exact h
    · obtain rfl : n = 64 := by omega
      have e : (2 : Int) ^ 64 = 18446744073709551616 := rfl
      omega
  have hd64 : decide (n < 64) = true := decide_eq_true h64
  have hd64' : decide ((n : Int) < 64) = true := decide_eq_true (by omega)
  have en : IntKind.u64.wrap (n : Int) = (n : Int) := wu64 ⟨by omega, by omega⟩
  obtain ⟨x, hx⟩ : ∃ x, v / 2 ^ min n 64 = x := ⟨_, rfl⟩
  have hx0 : (x == 0) = false := by
    have h1 : 1 ≤ v / 2 ^ n := (Int.le_ediv_iff_mul_le (Int.pow_pos (by decide))).2 (by omega)
    rw [Nat.min_eq_left hn2] at hx
    simp
    omega
  clear h64 hn hn2 hl hv hvn
  have B4 := blk_new (w.alloc (.cells #[.int .u32 w0, .int .u32 w1, .int .u32 w2] 63)) (.cells #[.int .u32 0, .int .u32 0, .int .u32 0] 63)
  have HB := Aside0.mk (below_alloc (below_alloc (Below.refl w.heap.size w) (.cells #[.int .u32 w0, .int .u32 w1, .int .u32 w2] 63)) (.cells #[.int .u32 0, .int .u32 0, .int .u32 0] 63))
  rw [World.size_alloc] at B4
  have HB4 := Aside0.mk B4
  clear B4
  go_enter Try.func45, Try.ntmps45
  go_wp2_with (first | (go_at_call 92; refine (vendmeterref_fieldMay.calls _ _ _ _ HF.out).mono ?_; rintro e wa ⟨rfl, hd⟩; have HB1 := Aside0.mk (below_then HB.out HB.out.size hd.below); have HC1 := Aside0.mk (blk_below HB4.out hd.below); clear hd) | ((with_reducible refine gate_store (t := 63) (p := 8) rfl ?_); refine seg.list rfl rfl 63 (.tmp 8) _ rfl 63 (w.heap.size + 1) 0 #[.int .u32 0, .int .u32 0, .int .u32 0] #[.int .u32 0, .int .u32 0, .int .u32 0] [.int .u32 0, .int .u32 0, .int .u32 0] rfl rfl (by kernel_rfl) (by simp [Value.oneCell']) HC1.out (by simp) rfl ?_; intro w9 bx hgr))
  refine bodyPost_ret (results_ct (p := 8) (u := 9) rfl _ w9 (w.heap.size + 1) 63 _ (0, 0) _ rfl bx Try.underlying63 rfl (by kernel_rfl)) rfl ?_
  exact ⟨rfl, seg.below HB1.out hgr (Nat.le_succ _)⟩

theorem puts_both (w0 w1 w2 lo n v : Int) (h0 : 0 ≤ w0 ∧ w0 < 4294967296) (h1 : 0 ≤ w1 ∧ w1 < 4294967296) (h2 : 0 ≤ w2 ∧ w2 < 4294967296) (hv : 0 ≤ v ∧ v < 18446744073709551616) : ∃ d0 d1 d2 d4 : Int, (∀ W : World, Calls Try.prog 44 #[.agg #[.int .u32 w0, .int .u32 w1, .int .u32 w2], .int .i64 lo, .int .i64 n, .int .u64 v] W fun e w' => e = .returned (.tuple #[.agg #[.int .u32 d0, .int .u32 d1, .int .u32 d2], .int .i64 d4]) ∧ Below W.heap.size W w') ∧ (∀ W : World, Calls Try.prog 45 #[.agg #[.int .u32 w0, .int .u32 w1, .int .u32 w2], .int .i64 lo, .int .i64 n, .int .u64 v] W fun e w' => e = .returned (.tuple #[.agg #[.int .u32 d0, .int .u32 d1, .int .u32 d2], .int .i64 d4]) ∧ Below W.heap.size W w') := by
  by_cases h : 0 ≤ lo ∧ 1 ≤ n ∧ n ≤ 64 ∧ lo + n ≤ 96
  · obtain ⟨a, rfl⟩ := Int.eq_ofNat_of_zero_le h.1
    obtain ⟨b, rfl⟩ := Int.eq_ofNat_of_zero_le (show 0 ≤ n by omega)
    rcases Int.lt_or_le v (2 ^ b) with hvn | hvn
    · exact ⟨_, _, _, _, fun W => words_Put.calls W w0 w1 w2 v h0 h1 h2 a b (by omega) (by omega) (by omega) hv hvn, fun W => vendmeterref_FieldPut.calls W w0 w1 w2 v h0 h1 h2 a b (by omega) (by omega) (by omega) hv hvn⟩
    · exact ⟨_, _, _, _, fun W => words_Put.over W w0 w1 w2 v a b (by omega) (by omega) (by omega) hv hvn, fun W => vendmeterref_FieldPut.over W w0 w1 w2 v a b (by omega) (by omega) (by omega) hv hvn⟩
  · exact ⟨_, _, _, _, fun W => words_Put.bad W w0 w1 w2 lo n v h, fun W => vendmeterref_FieldPut.bad W w0 w1 w2 lo n v h⟩
set_option maxHeartbeats 4000000 in
set_option maxRecDepth 100000 in
theorem vendmeterlaw_WordsPuts.true_ (w : World) (w0 w1 w2 lo n v : Int) (h0 : 0 ≤ w0 ∧ w0 < 4294967296) (h1 : 0 ≤ w1 ∧ w1 < 4294967296) (h2 : 0 ≤ w2 ∧ w2 < 4294967296) (hv : 0 ≤ v ∧ v < 18446744073709551616) :
    Calls Try.prog 13 #[.agg #[.int .u32 w0, .int .u32 w1, .int .u32 w2], .int .i64 lo, .int .i64 n, .int .u64 v] w fun e w' => e = .returned (.bool true) ∧ Below w.heap.size w w' := by
  have hu63 := Try.underlying63
  obtain ⟨d0, d1, d2, d4, hC, hR⟩ := puts_both w0 w1 w2 lo n v h0 h1 h2 hv
  have HC := Aside0.mk hC
  have HR := Aside0.mk hR
  clear h0 h1 h2 hv hC hR
  have B0 := blk_new w (.cells #[.int .u32 w0, .int .u32 w1, .int .u32 w2] 63)
  have HB := Aside0.mk (below_alloc (Below.refl w.heap.size w) (.cells #[.int .u32 w0, .int .u32 w1, .int .u32 w2] 63))
  have HB0 := Aside0.mk B0
  clear B0
  go_enter Try.func13, Try.ntmps13
  go_upto_region 2 with (first | (go_at_call 44; refine (HC.out _).mono ?_; rintro e wa ⟨rfl, hb⟩; have HB1 := Aside0.mk (below_then HB.out HB.out.size hb); have HX1 := Aside0.mk (blk_below HB0.out hb); clear hb) | ((with_reducible refine gate_store (t := 63) (p := 9) rfl ?_); refine seg.list rfl rfl 63 (.tmp 9) _ rfl 63 wa.heap.size 0 #[.int .u32 0, .int .u32 0, .int .u32 0] #[.int .u32 d0, .int .u32 d1, .int .u32 d2] [.int .u32 d0, .int .u32 d1, .int .u32 d2] rfl rfl (by kernel_rfl) (by simp [Value.oneCell']) (blk_new wa _) (by simp) rfl ?_; intro wb bx hgr; have HY2 := Aside0.mk bx; have HB2 := Aside0.mk (seg.below (below_then HB1.out HB1.out.size (below_alloc (Below.refl _ _) _)) hgr HB1.out.size); have HX2 := Aside0.mk (seg.far (blk_alloc HX1.out _) hgr (Nat.ne_of_lt (blk_lt HX1.out))); clear bx hgr))
  have x0 : wb.cell? ⟨w.heap.size, 0, none⟩ = some (.int .u32 w0) := (blk_cell HX2.out 0).trans rfl
  have x1 : wb.cell? ⟨w.heap.size, 1, none⟩ = some (.int .u32 w1) := (blk_cell HX2.out 1).trans rfl
  have x2 : wb.cell? ⟨w.heap.size, 2, none⟩ = some (.int .u32 w2) := (blk_cell HX2.out 2).trans rfl
  go_upto_region 3 with (first | (go_at_call 45; refine (HR.out _).mono ?_; rintro e wc ⟨rfl, hb⟩; have HB3 := Aside0.mk (below_then HB2.out HB2.out.size hb); have HY3 := Aside0.mk (blk_below HY2.out hb); clear hb) | ((with_reducible refine gate_store (t := 63) (p := 11) rfl ?_); refine seg.list rfl rfl 63 (.tmp 11) _ rfl 63 wc.heap.size 0 #[.int .u32 0, .int .u32 0, .int .u32 0] #[.int .u32 d0, .int .u32 d1, .int .u32 d2] [.int .u32 d0, .int .u32 d1, .int .u32 d2] rfl rfl (by kernel_rfl) (by simp [Value.oneCell']) (blk_new wc _) (by simp) rfl ?_; intro wd bx hgr; have HZ4 := Aside0.mk bx; have HB4 := Aside0.mk (seg.below (below_then HB3.out HB3.out.size (below_alloc (Below.refl _ _) _)) hgr HB3.out.size); have HY4 := Aside0.mk (seg.far (blk_alloc HY3.out _) hgr (Nat.ne_of_lt (blk_lt HY3.out))); clear bx hgr))
  have y0 : wd.cell? ⟨wa.heap.size, 0, none⟩ = some (.int .u32 d0) := (blk_cell HY4.out 0).trans rfl
  have y1 : wd.cell? ⟨wa.heap.size, 1, none⟩ = some (.int .u32 d1) := (blk_cell HY4.out 1).trans rfl
  have y2 : wd.cell? ⟨wa.heap.size, 2, none⟩ = some (.int .u32 d2) := (blk_cell HY4.out 2).trans rfl
  have z0 : wd.cell? ⟨wc.heap.size, 0, none⟩ = some (.int .u32 d0) := (blk_cell HZ4.out 0).trans rfl
  have z1 : wd.cell? ⟨wc.heap.size, 1, none⟩ = some (.int .u32 d1) := (blk_cell HZ4.out 1).trans rfl
  have z2 : wd.cell? ⟨wc.heap.size, 2, none⟩ = some (.int .u32 d2) := (blk_cell HZ4.out 2).trans rfl
  clear x0 x1 x2
  go_wp2
  go_ret
  exact ⟨rfl, HB4.out⟩
def vendmeterlaw_WordsPuts.f (a0_0 : Int) (a0_1 : Int) (a0_2 : Int) (a1 : Int) (a2 : Int) (a3 : Int) : Option Bool := if (0 ≤ a0_0 ∧ a0_0 < 4294967296) ∧ (0 ≤ a0_1 ∧ a0_1 < 4294967296) ∧ (0 ≤ a0_2 ∧ a0_2 < 4294967296) ∧ (0 ≤ a3 ∧ a3 < 18446744073709551616) then some true else none
theorem vendmeterlaw_WordsPuts.calls (a0_0 : Int) (a0_1 : Int) (a0_2 : Int) (a1 : Int) (a2 : Int) (a3 : Int) (r : Bool) (w : World) (h : vendmeterlaw_WordsPuts.f a0_0 a0_1 a0_2 a1 a2 a3 = some r) : Calls Try.prog 13 #[.agg #[.int .u32 a0_0, .int .u32 a0_1, .int .u32 a0_2], .int .i64 a1, .int .i64 a2, .int .u64 a3] w fun e w' => e = .returned (.bool r) ∧ Below w.heap.size w w' := by
  unfold vendmeterlaw_WordsPuts.f at h
  split at h
  · rename_i hc
    obtain rfl := Option.some.inj h
    exact vendmeterlaw_WordsPuts.true_ w a0_0 a0_1 a0_2 a1 a2 a3 hc.1 hc.2.1 hc.2.2.1 hc.2.2.2
  · cases h

end Go.Proofs.Ytacgddnjlfkdmaa.PWordsPuts
