-- written by this session's program wip/xp/xprint.py (it drives the kit's print and adds to it)
import Derived.Test.YtacgddnjlfkdmaaPWordsOverx0
import Derived.Test.YtacgddnjlfkdmaaPWordsOverx2
import Derived.Test.YtacgddnjlfkdmaaPWordsOverx4
namespace Go.Proofs.Ytacgddnjlfkdmaa.PWordsOver
open Go.RowKit Go.Proofs.YtacgddnjlfkdmaaW.PrintWords Go.Proofs.YtacgddnjlfkdmaaW.PrintLast Go.Proofs.YtacgddnjlfkdmaaW.PrintMore
attribute [local go_sem] max2_int min2_int max_two min_two max_three min_three max_four min_four   -- for this text's walks alone
set_option linter.unusedVariables false
set_option linter.unusedSimpArgs false

-- NOT PRINTED: function 39 (vendmeterref_Divided)

theorem words_eq (d : Nat) (w : World) (x0 x1 x2 y0 y1 y2 : Int) : (Op.equalIn (d + 2) 63 (.agg #[.int .u32 x0, .int .u32 x1, .int .u32 x2]) (.agg #[.int .u32 y0, .int .u32 y1, .int .u32 y2])).run Try.prog w = .ok (x0 == y0 && (x1 == y1 && x2 == y2)) w := by
  obtain ⟨i61, hi⟩ : ∃ i, Try.prog.info? 61 = some i := by
    have h := winfo
    cases hh : Try.prog.info? 61 with
    | none => rw [hh] at h; cases h
    | some i => exact ⟨i, rfl⟩
  have hc : Try.prog.cellsOf 61 = 1 := by kernel_rfl
  rw [show d + 2 = (d + 1) + 1 from rfl, run_equalIn_array (P := Try.prog) w (d + 1) _ _ Try.underlying63 hi, hc]
  have h0 : (Op.equalIn (d + 1) 61 (.int .u32 x0) (.int .u32 y0)).run Try.prog w = .ok (x0 == y0) w := by go_simp
  have h1 : (Op.equalIn (d + 1) 61 (.int .u32 x1) (.int .u32 y1)).run Try.prog w = .ok (x1 == y1) w := by go_simp
  have h2 : (Op.equalIn (d + 1) 61 (.int .u32 x2) (.int .u32 y2)).run Try.prog w = .ok (x2 == y2) w := by go_simp
  have p0 : ∀ a b c : Int, (part 61 #[.int .u32 a, .int .u32 b, .int .u32 c] (0 * 1)).run Try.prog w = .ok (.int .u32 a) w := fun a b c => by go_simp
  have p1 : ∀ a b c : Int, (part 61 #[.int .u32 a, .int .u32 b, .int .u32 c] (1 * 1)).run Try.prog w = .ok (.int .u32 b) w := fun a b c => by go_simp
  have p2 : ∀ a b c : Int, (part 61 #[.int .u32 a, .int .u32 b, .int .u32 c] (2 * 1)).run Try.prog w = .ok (.int .u32 c) w := fun a b c => by go_simp
  simp only [show List.range 3 = [0, 1, 2] from rfl, Op.eqItems, Sem.run_bind, p0, p1, p2, h0, h1, h2, Result.andThen_ok]
  have q1 : ∀ a b c : Int, (part 61 #[.int .u32 a, .int .u32 b, .int .u32 c] 1).run Try.prog w = .ok (.int .u32 b) w := p1
  have q2 : ∀ a b c : Int, (part 61 #[.int .u32 a, .int .u32 b, .int .u32 c] 2).run Try.prog w = .ok (.int .u32 c) w := p2
  cases hx : (x0 == y0) <;> cases hy : (x1 == y1) <;> cases hz : (x2 == y2) <;> simp [hx, hy, hz, q1, q2, h1, h2]
attribute [local go_sem high] words_eq

set_option maxHeartbeats 4000000 in
theorem bits_Div32.calls (w : World) (hi lo y : Int) (hhi : 0 ≤ hi ∧ hi < y) (hlo : 0 ≤ lo ∧ lo < 4294967296) (hy : y < 4294967296) :
    Calls Try.prog 85 #[.int .u32 hi, .int .u32 lo, .int .u32 y] w fun e w' => e = .returned (.tuple #[.int .u32 ((hi * 4294967296 + lo) / y), .int .u32 ((hi * 4294967296 + lo) % y)]) ∧ ∃ n, w' = w.drewN n := by
  have y0 : ¬ y = 0 := by omega
  have y1 : decide (y ≤ hi) = false := decide_eq_false (by omega)
  have e1 : Go.bits .or .u64 (IntKind.u64.wrap (IntKind.u64.wrap hi * 4294967296)) (IntKind.u64.wrap lo) = hi * 4294967296 + lo := by
    rw [wu64 (a := hi) ⟨hhi.1, by omega⟩]; exact wor ⟨hhi.1, by omega⟩ hlo
  have e2 : IntKind.u64.wrap y = y := wu64 ⟨by omega, by omega⟩
  obtain ⟨q, hq⟩ : ∃ q, hi * 4294967296 + lo = q := ⟨_, rfl⟩
  have hb : 0 ≤ q ∧ q < y * 4294967296 := by omega
  rw [hq] at e1 ⊢
  have e3 : IntKind.u64.wrap (Int.tdiv q y) % 4294967296 = q / y := by
    rw [Int.tdiv_eq_ediv_of_nonneg hb.1]
    have h1 : 0 ≤ q / y := Int.ediv_nonneg hb.1 (by omega)
    have h2 : q / y < 4294967296 := Int.ediv_lt_of_lt_mul (by omega) (by rw [Int.mul_comm]; exact hb.2)
    first | (rw [wu64 ⟨h1, by omega⟩]; omega) | omega
  have e4 : Int.tmod q y % 4294967296 = q % y := by
    rw [Int.tmod_eq_emod_of_nonneg hb.1]
    have h1 : 0 ≤ q % y := Int.emod_nonneg _ (by omega)
    have h2 : q % y < y := Int.emod_lt_of_pos _ (by omega)
    first | (rw [wu64 ⟨h1, by omega⟩]; omega) | omega
  have E := Aside0.mk (And.intro e3 e4)
  clear hhi hlo hy hq hb e3 e4
  go_enter Try.func85, Try.ntmps85
  go_wp2
  go_quiet (fail)
  go_wp2
  go_ret2
  refine ⟨?_, _, rfl⟩
  obtain ⟨e3, e4⟩ := E.out

  simp [e3, e4]

theorem ov_drewN {B : Nat} {a w : World} (h : Below B a w) (n : Nat) : Below B a (w.drewN n) := h.trans ⟨rfl, rfl, rfl, Nat.le_refl _, fun _ _ => rfl⟩
def ovL (d w0 w1 w2 : Int) : Nat → Int
  | 0 => 0
  | 1 => w2 % d
  | 2 => (w2 % d * 4294967296 + w1) % d
  | _ => ((w2 % d * 4294967296 + w1) % d * 4294967296 + w0) % d
def ovB (d w0 w1 w2 : Int) : Nat → Array Value
  | 0 => #[.int .u32 w0, .int .u32 w1, .int .u32 w2]
  | 1 => #[.int .u32 w0, .int .u32 w1, .int .u32 (w2 / d)]
  | 2 => #[.int .u32 w0, .int .u32 ((w2 % d * 4294967296 + w1) / d), .int .u32 (w2 / d)]
  | _ => #[.int .u32 (((w2 % d * 4294967296 + w1) % d * 4294967296 + w0) / d), .int .u32 ((w2 % d * 4294967296 + w1) / d), .int .u32 (w2 / d)]
def ovW (w0 w1 w2 : Int) : Nat → Int
  | 0 => w2
  | 1 => w1
  | _ => w0
theorem ovL_step (d w0 w1 w2 : Int) (i : Nat) (hi : i < 3) : ovL d w0 w1 w2 (i + 1) = (ovL d w0 w1 w2 i * 4294967296 + ovW w0 w1 w2 i) % d := by
  match i, hi with
  | 0, _ => simp [ovL, ovW]
  | 1, _ => rfl
  | 2, _ => rfl
theorem ovB_at (d w0 w1 w2 : Int) (i : Nat) (hi : i < 3) : (ovB d w0 w1 w2 i)[2 - i]? = some (.int .u32 (ovW w0 w1 w2 i)) := by
  match i, hi with
  | 0, _ => rfl
  | 1, _ => rfl
  | 2, _ => rfl
theorem ovB_step (d w0 w1 w2 : Int) (i : Nat) (hi : i < 3) : (ovB d w0 w1 w2 i).setIfInBounds (2 - i) (.int .u32 ((ovL d w0 w1 w2 i * 4294967296 + ovW w0 w1 w2 i) / d)) = ovB d w0 w1 w2 (i + 1) := by
  match i, hi with
  | 0, _ => simp [ovB, ovL, ovW]
  | 1, _ => rfl
  | 2, _ => rfl
theorem ovL_bd {d w0 w1 w2 : Int} (hd : 0 < d) : ∀ i, 0 ≤ ovL d w0 w1 w2 i ∧ ovL d w0 w1 w2 i < d := by
  intro i
  match i with
  | 0 => exact ⟨Int.le_refl _, hd⟩
  | 1 => exact ⟨Int.emod_nonneg _ (by omega), Int.emod_lt_of_pos _ hd⟩
  | 2 => exact ⟨Int.emod_nonneg _ (by omega), Int.emod_lt_of_pos _ hd⟩
  | i + 3 => exact ⟨Int.emod_nonneg _ (by omega), Int.emod_lt_of_pos _ hd⟩
theorem ovW_bd {w0 w1 w2 : Int} (h0 : 0 ≤ w0 ∧ w0 < 4294967296) (h1 : 0 ≤ w1 ∧ w1 < 4294967296) (h2 : 0 ≤ w2 ∧ w2 < 4294967296) (i : Nat) : 0 ≤ ovW w0 w1 w2 i ∧ ovW w0 w1 w2 i < 4294967296 := by
  match i with
  | 0 => exact h2
  | 1 => exact h1
  | i + 2 => exact h0
theorem ov_step {d r w B : Int} (hd : 0 < d) (hr : 0 ≤ r ∧ r < d) (hB : B = 4294967296) (hw : 0 ≤ w ∧ w < B) : 0 ≤ (r * B + w) / d ∧ (r * B + w) / d < B := by
  subst hB
  exact ⟨Int.ediv_nonneg (by omega) (by omega), Int.ediv_lt_of_lt_mul hd (by omega)⟩
theorem ov_sum {d q2 q1 q0 r2 r1 r0 w0 w1 w2 : Int} (e2 : d * q2 + r2 = w2) (e1 : d * q1 + r1 = r2 * 4294967296 + w1) (e0 : d * q0 + r0 = r1 * 4294967296 + w0) : r0 + d * (q0 + 4294967296 * q1 + 18446744073709551616 * q2) = w0 + 4294967296 * (w1 + 4294967296 * (w2 + 4294967296 * 0)) := by grind
theorem over_eq (d w0 w1 w2 : Int) (h0 : 0 ≤ w0 ∧ w0 < 4294967296) (h1 : 0 ≤ w1 ∧ w1 < 4294967296) (h2 : 0 ≤ w2 ∧ w2 < 4294967296) (hd : 0 < d) (hd2 : d < 4294967296) : ovB d w0 w1 w2 3 = #[.int .u32 ((wval [w0, w1, w2] / d) % 4294967296), .int .u32 ((wval [w0, w1, w2] / d) / 4294967296 % 4294967296), .int .u32 ((wval [w0, w1, w2] / d) / 18446744073709551616 % 4294967296)] ∧ ovL d w0 w1 w2 3 = wval [w0, w1, w2] % d := by
  have a2 : 0 ≤ w2 / d ∧ w2 / d < 4294967296 := by have := ov_step (r := 0) hd ⟨Int.le_refl _, hd⟩ rfl h2; simpa using this
  have b2 : 0 ≤ w2 % d ∧ w2 % d < d := ⟨Int.emod_nonneg _ (by omega), Int.emod_lt_of_pos _ hd⟩
  have a1 := ov_step hd b2 rfl h1
  have b1 : 0 ≤ (w2 % d * 4294967296 + w1) % d ∧ (w2 % d * 4294967296 + w1) % d < d := ⟨Int.emod_nonneg _ (by omega), Int.emod_lt_of_pos _ hd⟩
  have a0 := ov_step hd b1 rfl h0
  have b0 : 0 ≤ ((w2 % d * 4294967296 + w1) % d * 4294967296 + w0) % d ∧ ((w2 % d * 4294967296 + w1) % d * 4294967296 + w0) % d < d := ⟨Int.emod_nonneg _ (by omega), Int.emod_lt_of_pos _ hd⟩
  have hs := ov_sum (Int.mul_ediv_add_emod w2 d) (Int.mul_ediv_add_emod (w2 % d * 4294967296 + w1) d) (Int.mul_ediv_add_emod ((w2 % d * 4294967296 + w1) % d * 4294967296 + w0) d)
  have e := (Int.ediv_emod_unique hd).2 ⟨hs, b0⟩
  have ev : wval [w0, w1, w2] = w0 + 4294967296 * (w1 + 4294967296 * (w2 + 4294967296 * 0)) := rfl
  rw [ev, e.1, e.2]
  generalize hq2 : w2 / d = q2 at *
  generalize hq1 : (w2 % d * 4294967296 + w1) / d = q1 at *
  generalize hq0 : ((w2 % d * 4294967296 + w1) % d * 4294967296 + w0) / d = q0 at *
  refine ⟨?_, rfl⟩
  rw [show ovB d w0 w1 w2 3 = #[.int .u32 (((w2 % d * 4294967296 + w1) % d * 4294967296 + w0) / d), .int .u32 ((w2 % d * 4294967296 + w1) / d), .int .u32 (w2 / d)] from rfl, hq0, hq1, hq2]
  rw [show (q0 + 4294967296 * q1 + 18446744073709551616 * q2) % 4294967296 = q0 by omega, show (q0 + 4294967296 * q1 + 18446744073709551616 * q2) / 4294967296 % 4294967296 = q1 by omega, show (q0 + 4294967296 * q1 + 18446744073709551616 * q2) / 18446744073709551616 % 4294967296 = q2 by omega]
set_option maxHeartbeats 4000000 in
set_option maxRecDepth 100000 in
theorem words_Over.zero (w : World) (w0 w1 w2 : Int) :
    Calls Try.prog 38 #[.agg #[.int .u32 w0, .int .u32 w1, .int .u32 w2], .int .u32 0] w fun e w' => e = .returned (.tuple #[.agg #[.int .u32 0, .int .u32 0, .int .u32 0], .int .u32 0, .int .i64 4]) ∧ Below w.heap.size w w' := by
  have hu63 := Try.underlying63
  have B4 := blk_new (w.alloc (.cells #[.int .u32 w0, .int .u32 w1, .int .u32 w2] 63)) (.cells #[.int .u32 0, .int .u32 0, .int .u32 0] 63)
  have hb2 := Aside0.mk (below_alloc (below_alloc (Below.refl w.heap.size w) (.cells #[.int .u32 w0, .int .u32 w1, .int .u32 w2] 63)) (.cells #[.int .u32 0, .int .u32 0, .int .u32 0] 63))
  rw [World.size_alloc] at B4
  have HB4 := Aside0.mk B4
  clear B4
  go_enter Try.func38, Try.ntmps38
  go_wp2_with ((with_reducible refine gate_store (t := 63) (p := 4) rfl ?_); refine seg.list rfl rfl 63 (.tmp 4) _ rfl 63 (w.heap.size + 1) 0 #[.int .u32 0, .int .u32 0, .int .u32 0] #[.int .u32 0, .int .u32 0, .int .u32 0] [.int .u32 0, .int .u32 0, .int .u32 0] rfl rfl (by kernel_rfl) (by simp [Value.oneCell']) HB4.out (by simp) rfl ?_; intro w9 bx hgr)
  refine bodyPost_ret (results_ctt (p := 4) (u := 5) (v := 6) rfl _ w9 (w.heap.size + 1) 63 _ (0, 0) _ rfl bx Try.underlying63 rfl (by kernel_rfl)) rfl ?_
  exact ⟨rfl, seg.below hb2.out hgr (Nat.le_succ _)⟩
set_option maxHeartbeats 8000000 in
set_option maxRecDepth 100000 in
theorem words_Over.calls (w : World) (w0 w1 w2 d : Int) (h0 : 0 ≤ w0 ∧ w0 < 4294967296) (h1 : 0 ≤ w1 ∧ w1 < 4294967296) (h2 : 0 ≤ w2 ∧ w2 < 4294967296) (hd : 0 < d) (hd2 : d < 4294967296) :
    Calls Try.prog 38 #[.agg #[.int .u32 w0, .int .u32 w1, .int .u32 w2], .int .u32 d] w fun e w' => e = .returned (.tuple #[.agg #[.int .u32 ((wval [w0, w1, w2] / d) % 4294967296), .int .u32 ((wval [w0, w1, w2] / d) / 4294967296 % 4294967296), .int .u32 ((wval [w0, w1, w2] / d) / 18446744073709551616 % 4294967296)], .int .u32 (wval [w0, w1, w2] % d), .int .i64 0]) ∧ Below w.heap.size w w' := by
  have hu63 := Try.underlying63
  have HE0 := Aside0.mk (over_eq d w0 w1 w2 h0 h1 h2 hd hd2)
  have HL := Aside0.mk (fun i => ovL_bd (w0 := w0) (w1 := w1) (w2 := w2) hd i)
  have HW := Aside0.mk (ovW_bd h0 h1 h2)
  have HD := Aside0.mk (And.intro hd hd2)
  have hd0 : (d == 0) = false := by simp; omega
  have B2 := blk_alloc (blk_new w (.cells #[.int .u32 w0, .int .u32 w1, .int .u32 w2] 63)) (.cells #[.int .u32 0, .int .u32 0, .int .u32 0] 63)
  have B4 := blk_new (w.alloc (.cells #[.int .u32 w0, .int .u32 w1, .int .u32 w2] 63)) (.cells #[.int .u32 0, .int .u32 0, .int .u32 0] 63)
  have hb2 := below_alloc (below_alloc (Below.refl w.heap.size w) (.cells #[.int .u32 w0, .int .u32 w1, .int .u32 w2] 63)) (.cells #[.int .u32 0, .int .u32 0, .int .u32 0] 63)
  rw [World.size_alloc] at B4
  clear h0 h1 h2 hd hd2
  go_enter Try.func38, Try.ntmps38
  go_wp2
  go_loopg [7, 8, 9, 13] 3 (fun kq v7 v8 v9 v13 w' => ∃ i : Nat, v7 = .int .u32 (ovL d w0 w1 w2 i) ∧ v13 = .int .i64 (i : Int) ∧ i ≤ 3 ∧ kq = 3 - i ∧ Aside0 (w'.heap[w.heap.size]? = some (.cells (ovB d w0 w1 w2 i) 63 (0, 0))) ∧ Aside0 (w'.heap[w.heap.size + 1]? = some (.cells #[.int .u32 0, .int .u32 0, .int .u32 0] 63 (0, 0))) ∧ Aside0 (Below w.heap.size w w'))
  case atStart => exact ⟨0, rfl, rfl, by decide, rfl, ⟨B2⟩, ⟨B4⟩, ⟨hb2⟩⟩
  case round =>
    clear B2 B4 hb2
    obtain ⟨i, rfl, rfl, hi, rfl, B2, B4, HB⟩ := hrel
    by_cases hlt : i < 3
    · have hltb : decide (i < 3) = true := decide_eq_true hlt
      obtain ⟨x, hx⟩ : ∃ x, ovW w0 w1 w2 i = x := ⟨_, rfl⟩
      obtain ⟨ci, hci⟩ : ∃ ci, ovL d w0 w1 w2 i = ci := ⟨_, rfl⟩
      obtain ⟨k, hk⟩ : ∃ k, 2 - i = k := ⟨_, rfl⟩
      have hkb : k < 3 := by omega
      have hwk : IntKind.i64.wrap (2 - (i : Int)) = (k : Int) := by rw [Go.IntKind.wrap_i64]; omega
      have hc3 : wr.cell? ⟨w.heap.size, k, none⟩ = some (.int .u32 x) := by rw [blk_cell B2.out k, ← hk, ovB_at _ _ _ _ i hlt, hx]
      have hf3 := blk_frozen B2.out k
      have HXC := Aside0.mk (And.intro hx (And.intro hci hk))
      have hwb := Aside0.mk (HW.out i)
      have hcb := Aside0.mk (HL.out i)
      rw [hx] at hwb
      rw [hci] at hcb ⊢
      clear hx hci hk hi
      go_wp2_with (go_at_call 85; refine (bits_Div32.calls _ ci x d hcb.out hwb.out HD.out.2).mono ?_; rintro e wq ⟨rfl, nq, rfl⟩)
      go_roundg (3 - (i + 1))
      case measure => omega
      case rel =>
        refine ⟨i + 1, by rw [ovL_step _ _ _ _ i hlt, HXC.out.1, HXC.out.2.1], by first | rfl | simp, by omega, rfl, ⟨?_⟩, ⟨blk_far (blk_drewN B4.out nq) (p := ⟨w.heap.size, k, none⟩) (by simp) _⟩, ⟨below_set (ov_drewN HB.out nq) (Nat.le_refl _)⟩⟩
        rw [← ovB_step _ _ _ _ i hlt, HXC.out.1, HXC.out.2.1, HXC.out.2.2]
        exact blk_set (blk_drewN B2.out nq) k _
    · have hltb : decide (i < 3) = false := decide_eq_false hlt
      obtain rfl : i = 3 := by omega
      obtain ⟨hE, hE2⟩ := HE0.out
      obtain ⟨e0, e1, e2, hF⟩ : ∃ e0 e1 e2 : Value, #[.int .u32 ((wval [w0, w1, w2] / d) % 4294967296), .int .u32 ((wval [w0, w1, w2] / d) / 4294967296 % 4294967296), .int .u32 ((wval [w0, w1, w2] / d) / 18446744073709551616 % 4294967296)] = #[e0, e1, e2] ∧ e0.oneCell' = true ∧ e1.oneCell' = true ∧ e2.oneCell' = true := ⟨_, _, _, rfl, rfl, rfl, rfl⟩
      obtain ⟨hF, o0, o1, o2⟩ := hF
      rw [hE2]
      rw [hE] at B2
      rw [hF] at B2
      have HF := Aside0.mk hF
      clear hE hE2 hF
      have x0 : wr.cell? ⟨w.heap.size, 0, none⟩ = some e0 := (blk_cell B2.out 0).trans rfl
      have x1 : wr.cell? ⟨w.heap.size, 1, none⟩ = some e1 := (blk_cell B2.out 1).trans rfl
      have x2 : wr.cell? ⟨w.heap.size, 2, none⟩ = some e2 := (blk_cell B2.out 2).trans rfl
      have O := Aside0.mk (And.intro o0 (And.intro o1 o2))
      clear o0 o1 o2
      go_wp2_with ((with_reducible refine gate_store (t := 63) (p := 4) rfl ?_); refine seg.list rfl rfl 63 (.tmp 4) _ rfl 63 (w.heap.size + 1) 0 #[.int .u32 0, .int .u32 0, .int .u32 0] #[e0, e1, e2] [e0, e1, e2] rfl rfl (by kernel_rfl) (by simp [O.out.1, O.out.2.1, O.out.2.2]) B4.out (by simp) rfl ?_; intro w9 bx hgr)
      refine bodyPost_ret (results_ctt (p := 4) (u := 5) (v := 6) rfl _ w9 (w.heap.size + 1) 63 _ (0, 0) _ rfl bx Try.underlying63 rfl (by kernel_rfl)) rfl ?_
      exact ⟨by rw [HF.out]; rfl, seg.below HB.out hgr (Nat.le_succ _)⟩

set_option maxHeartbeats 4000000 in
set_option maxRecDepth 100000 in
theorem vendmeterref_Divided.zero (w : World) (w0 w1 w2 : Int) :
    Calls Try.prog 39 #[.agg #[.int .u32 w0, .int .u32 w1, .int .u32 w2], .int .u32 0] w fun e w' => e = .returned (.tuple #[.agg #[.int .u32 0, .int .u32 0, .int .u32 0], .int .u32 0, .int .i64 4]) ∧ Below w.heap.size w w' := by
  have hu63 := Try.underlying63
  have B4 := blk_new (w.alloc (.cells #[.int .u32 w0, .int .u32 w1, .int .u32 w2] 63)) (.cells #[.int .u32 0, .int .u32 0, .int .u32 0] 63)
  have hb2 := Aside0.mk (below_alloc (below_alloc (Below.refl w.heap.size w) (.cells #[.int .u32 w0, .int .u32 w1, .int .u32 w2] 63)) (.cells #[.int .u32 0, .int .u32 0, .int .u32 0] 63))
  rw [World.size_alloc] at B4
  have HB4 := Aside0.mk B4
  clear B4
  go_enter Try.func39, Try.ntmps39
  go_wp2_with ((with_reducible refine gate_store (t := 63) (p := 4) rfl ?_); refine seg.list rfl rfl 63 (.tmp 4) _ rfl 63 (w.heap.size + 1) 0 #[.int .u32 0, .int .u32 0, .int .u32 0] #[.int .u32 0, .int .u32 0, .int .u32 0] [.int .u32 0, .int .u32 0, .int .u32 0] rfl rfl (by kernel_rfl) (by simp [Value.oneCell']) HB4.out (by simp) rfl ?_; intro w9 bx hgr)
  refine bodyPost_ret (results_ctt (p := 4) (u := 5) (v := 6) rfl _ w9 (w.heap.size + 1) 63 _ (0, 0) _ rfl bx Try.underlying63 rfl (by kernel_rfl)) rfl ?_
  exact ⟨rfl, seg.below hb2.out hgr (Nat.le_succ _)⟩
theorem dv_bd {a d : Int} (ha : 0 ≤ a) (hb : a < W32 4) (hd : 0 < d) (hd2 : d < 4294967296) : a / d < W32 10 ∧ 0 ≤ a % d ∧ a % d < 4294967296 := by
  refine ⟨Int.lt_of_le_of_lt (Int.ediv_le_self _ ha) (Int.lt_trans hb (by decide)), Int.emod_nonneg _ (by omega), ?_⟩
  have := Int.emod_lt_of_pos a hd
  omega
theorem dv_only {z r : Nat} {a b c : World} (h : Below a.heap.size a b) (k : Only2 z r b c) (hz : a.heap.size ≤ z) (hr : a.heap.size ≤ r) : Below a.heap.size a c :=
  ⟨k.os.trans h.os, k.tape.trans h.tape, k.output.trans h.output, Nat.le_trans h.size k.size, fun i hi => (k.block i (Nat.lt_of_lt_of_le hi h.size) (by omega) (by omega)).trans (h.block i hi)⟩
theorem dv_onlyg {W w1 : World} {g : Nat} (h : W.grownBy w1 (some g)) : Only g W w1 := ⟨h.os, h.tape, h.output, h.size, fun k hk hne => h.block k hk (fun e => hne (Option.some.inj e))⟩
set_option maxHeartbeats 8000000 in
set_option maxRecDepth 100000 in
theorem vendmeterref_Divided.calls (w : World) (w0 w1 w2 d : Int) (h0 : 0 ≤ w0 ∧ w0 < 4294967296) (h1 : 0 ≤ w1 ∧ w1 < 4294967296) (h2 : 0 ≤ w2 ∧ w2 < 4294967296) (hd : 0 < d) (hd2 : d < 4294967296) :
    Calls Try.prog 39 #[.agg #[.int .u32 w0, .int .u32 w1, .int .u32 w2], .int .u32 d] w fun e w' => e = .returned (.tuple #[.agg #[.int .u32 ((wval [w0, w1, w2] / d) % 4294967296), .int .u32 ((wval [w0, w1, w2] / d) / 4294967296 % 4294967296), .int .u32 ((wval [w0, w1, w2] / d) / 18446744073709551616 % 4294967296)], .int .u32 (wval [w0, w1, w2] % d), .int .i64 0]) ∧ Below w.heap.size w w' := by
  have hu63 := Try.underlying63
  have HD := Aside0.mk (And.intro hd hd2)
  have hd0 : (d == 0) = false := by simp; omega
  have B2 := blk_alloc (blk_new (w.alloc (.cells #[.int .u32 w0, .int .u32 w1, .int .u32 w2] 63)) (.cells #[.int .u32 0, .int .u32 0, .int .u32 0] 63)) (.cells #[.bool false, .slice none 0 0] 130)
  have B3 := IsI.new ((w.alloc (.cells #[.int .u32 w0, .int .u32 w1, .int .u32 w2] 63)).alloc (.cells #[.int .u32 0, .int .u32 0, .int .u32 0] 63))
  rw [World.size_alloc] at B2
  rw [World.size_alloc, World.size_alloc] at B3
  have HB := Aside0.mk (below_alloc (below_alloc (below_alloc (Below.refl w.heap.size w) (.cells #[.int .u32 w0, .int .u32 w1, .int .u32 w2] 63)) (.cells #[.int .u32 0, .int .u32 0, .int .u32 0] 63)) (.cells #[.bool false, .slice none 0 0] 130))
  have HB2 := Aside0.mk B2
  have HB3 := Aside0.mk B3
  have HS3 := Aside0.mk (show (((w.alloc (.cells #[.int .u32 w0, .int .u32 w1, .int .u32 w2] 63)).alloc (.cells #[.int .u32 0, .int .u32 0, .int .u32 0] 63)).alloc (.cells #[.bool false, .slice none 0 0] 130)).heap.size = w.heap.size + 1 + 1 + 1 by simp only [World.size_alloc])
  clear B2 B3
  have HV0 := Aside0.mk (show 0 ≤ wval [w0, w1, w2] ∧ wval [w0, w1, w2] < W32 4 from w3v_bd h0 h1 h2 0)
  have hvd := dv_bd (a := wval [w0, w1, w2]) HV0.out.1 HV0.out.2 hd hd2
  have HVD := Aside0.mk hvd
  have HU := Aside0.mk (vendmeterref_big96.calls (((w.alloc (.cells #[.int .u32 w0, .int .u32 w1, .int .u32 w2] 63)).alloc (.cells #[.int .u32 0, .int .u32 0, .int .u32 0] 63)).alloc (.cells #[.bool false, .slice none 0 0] 130)) w0 w1 w2 h0 h1 h2)
  have e5 : IntKind.u32.wrap (wval [w0, w1, w2] % d % 18446744073709551616) = wval [w0, w1, w2] % d := by rw [IntKind.wrap_u32']; omega
  have E5 := Aside0.mk e5
  have hd3 : 0 ≤ d := by omega
  have hd4 : d ≤ 4294967295 := by omega
  clear h0 h1 h2 hd hd2 hvd e5
  generalize hvv : wval [w0, w1, w2] = v at *
  clear hvv
  generalize hq0 : v / d % 4294967296 = d0
  generalize hq1 : v / d / 4294967296 % 4294967296 = d1
  generalize hq2 : v / d / 18446744073709551616 % 4294967296 = d2
  have HQ := Aside0.mk (And.intro hq0 (And.intro hq1 hq2))
  clear hq0 hq1 hq2
  go_enter Try.func39, Try.ntmps39
  go_upto_region 5 with (first | (go_at_call 78; refine HU.out.mono ?_; rintro e wa ⟨g, rfl, hg, hA, hb⟩; have HN := Aside0.mk hA; have HG := Aside0.mk hg; have HT1 := Aside0.mk (HB3.out.below hb); have HBR := Aside0.mk (blk_below HB2.out hb); have HBa := Aside0.mk (below_then HB.out HB.out.size hb); clear hg hA hb) | (go_at_call 80; refine (vendmeterbig_NewInt.calls wa d ⟨by have := HD.out; omega, by have := HD.out; omega⟩).mono ?_; rintro e wb ⟨gb, rfl, hgb, hA, hb⟩; have hba := below_alloc hb (.cells #[.bool false, .slice none 0 0] 130); have HP := Aside0.mk (hA.below (below_alloc (Below.refl _ wb) (.cells #[.bool false, .slice none 0 0] 130))); have HN2 := Aside0.mk (HN.out.below hba); have HT2 := Aside0.mk (HT1.out.below hba); have HBR2 := Aside0.mk (blk_below HBR.out hba); have HBb := Aside0.mk (below_then HBa.out HBa.out.size hba); have HR0 := Aside0.mk (IsI.new wb); have HTL := Aside0.mk (HT1.out.below hb).lt; clear hgb hA hb hba) | (go_at_call 86; refine (vendmeterbig_Int_QuoRem.calls _ (w.heap.size + 1 + 1) g gb wb.heap.size _ _ HT2.out HR0.out (Nat.ne_of_lt HTL.out) HN2.out HP.out (lt1000 HV0.out.2 (by decide)) (lt1000 (m := 1) (show d < W32 1 from HD.out.2) (by decide)) HD.out.1 (.inl HD.out.2)).mono ?_; rintro e wc ⟨rfl, hA, hA2, hO⟩; have HQ3 := Aside0.mk hA; have HR3 := Aside0.mk hA2; have HBR3 := Aside0.mk ((hO.block _ (blk_lt HBR2.out) (by omega) (by have := HTL.out; omega)).trans HBR2.out); have HBc := Aside0.mk (dv_only HBb.out hO (by omega) (by have := HTL.out; omega)); clear hA hA2 hO) | (go_at_call 81; refine (vendmeterref_wide96.calls wc (w.heap.size + 1 + 1) _ HQ3.out HVD.out.1).mono ?_; rw [HQ.out.1, HQ.out.2.1, HQ.out.2.2]; rintro e wd ⟨rfl, hb⟩; have hba := below_alloc hb (.cells #[.int .u32 0, .int .u32 0, .int .u32 0] 63); have HR4 := Aside0.mk (HR3.out.below hba); have HBR4 := Aside0.mk (blk_below HBR3.out hba); have HBd := Aside0.mk (below_then HBc.out HBc.out.size hba); have HBL := Aside0.mk (blk_lt (blk_below HBR3.out hb)); have H9n := Aside0.mk (blk_new wd (.cells #[.int .u32 0, .int .u32 0, .int .u32 0] 63)); have HR4L := Aside0.mk (HR3.out.below hb).lt; clear hb hba) | ((with_reducible refine gate_store (t := 63) (p := 9) rfl ?_); refine seg.list rfl rfl 63 (.tmp 9) _ rfl 63 wd.heap.size 0 #[.int .u32 0, .int .u32 0, .int .u32 0] #[.int .u32 d0, .int .u32 d1, .int .u32 d2] [.int .u32 d0, .int .u32 d1, .int .u32 d2] rfl rfl (by kernel_rfl) (by simp [Value.oneCell']) H9n.out (by simp) rfl ?_; intro we b9 hg9; have H9 := Aside0.mk b9; have H45 := Aside0.mk (seg.far HBR4.out hg9 (Nat.ne_of_lt HBL.out)); have HBe := Aside0.mk (seg.below HBd.out hg9 (by have := HBL.out; omega)); have HR5 := Aside0.mk (HR4.out.keepT H9n.out (by decide) (dv_onlyg hg9) (Nat.ne_of_lt HR4L.out)); clear b9 hg9))
  refine start_ (n := 7) (S := fun w' => w'.cell? ⟨wd.heap.size, 0, none⟩ = some (Value.int .u32 d0) ∧ w'.cell? ⟨wd.heap.size, 1, none⟩ = some (Value.int .u32 d1) ∧ w'.cell? ⟨wd.heap.size, 2, none⟩ = some (Value.int .u32 d2)) (ds := [4]) #[false, false, false, false, false, false, false] (by kernel_rfl) rfl rfl ⟨(blk_cell (blk_drew H9.out) 0).trans rfl, (blk_cell (blk_drew H9.out) 1).trans rfl, (blk_cell (blk_drew H9.out) 2).trans rfl⟩ (fun hHeld => ?_)
  refine pure_ (i := 1) (N := some 31) (v := ?_) (a' := ?_) #[false, true, false, false, false, false, false] rfl rfl (by kernel_rfl) (fun _ _ _ h => h) (Or.inl ⟨by rfl, ?_⟩) ?_ ?_
  rotate_left
  · intro w'
    go_simp
    with_reducible rfl
  rotate_left
  · simp only [Act.put, List.setIfInBounds_toArray, List.set_cons_zero, List.set_cons_succ, i64_w, i32_w]
    rfl
  refine take_ (i := 0) (N := some 30) (v := ?_) (a' := ?_) #[true, true, false, false, false, false, false] rfl rfl (by kernel_rfl) (fun _ _ _ h => h) (Or.inl ⟨by rfl, ?_⟩) hHeld ?_ ?_
  rotate_left
  · rintro w' ⟨s0, s1, s2⟩
    go_simp
    with_reducible rfl
  rotate_left
  · simp only [Act.put, List.setIfInBounds_toArray, List.set_cons_zero, List.set_cons_succ, i64_w, i32_w]
    rfl
  refine one_ (i := 2) (N := some 32) #[true, true, true, false, false, false, false] rfl rfl (by kernel_rfl) (by decide) (fun K hK => ?_)
  refine goes_ Try.func87 (by kernel_rfl) rfl #[.pointer (some ⟨wb.heap.size, 0, none⟩)] (by rfl) rfl rfl (by (try simp only [List.map_toArray, List.map_cons, List.map_nil]); first | done | rfl) ?_
  with_reducible refine (vendmeterbig_Int_Uint64.at_ we.drew wb.heap.size _ (HR5.out.below (below_drew1 (Below.refl _ _)))).mono ?_
  rintro e w3 ⟨rfl, rfl⟩
  refine ⟨_, rfl, ?_⟩
  refine hK.out _ _ ⟨(blk_cell (blk_drew H9.out) 0).trans rfl, (blk_cell (blk_drew H9.out) 1).trans rfl, (blk_cell (blk_drew H9.out) 2).trans rfl⟩ (fun hHeld => ?_)
  clear hK K
  refine norm_ (a' := ?_) ?_ ?_
  rotate_left
  · show Act.put _ (some 32) _ = _
    simp only [Act.put, List.setIfInBounds_toArray, List.set_cons_zero, List.set_cons_succ, i64_w, i32_w]
    rfl
  refine pure_ (i := 3) (N := some 33) (v := ?_) (a' := ?_) #[true, true, true, true, false, false, false] rfl rfl (by kernel_rfl) (fun _ _ _ h => h) (Or.inl ⟨by rfl, ?_⟩) ?_ ?_
  rotate_left
  · intro w'
    go_simp
    with_reducible rfl
  rotate_left
  · simp only [Act.put, List.setIfInBounds_toArray, List.set_cons_zero, List.set_cons_succ, i64_w, i32_w]
    rfl
  refine last_ (i := 4) (N := none) #[true, true, true, true, true, false, false] rfl rfl (by kernel_rfl) (by decide) (fun K hK => ?_)
  refine seg.step (by rfl) rfl 63 (.tmp 4) _ (by rfl) 63 (w.heap.size + 1) 0 #[.int .u32 0, .int .u32 0, .int .u32 0] #[.int .u32 d0, .int .u32 d1, .int .u32 d2] [.int .u32 d0, .int .u32 d1, .int .u32 d2] (by rfl) (by rfl) (by kernel_rfl) (by simp [Value.oneCell']) (blk_drew H45.out) (by simp) rfl ?_
  intro w4 bx hgr
  refine hK.out _ _ ?_
  clear hK K
  refine pure_ (i := 5) (N := some 5) (v := ?_) (a' := ?_) #[true, true, true, true, true, true, false] rfl rfl (by kernel_rfl) (fun _ _ _ h => h) (Or.inl ⟨by rfl, ?_⟩) ?_ ?_
  rotate_left
  · intro w'
    go_simp
    with_reducible rfl
  rotate_left
  · simp only [Act.put, List.setIfInBounds_toArray, List.set_cons_zero, List.set_cons_succ, i64_w, i32_w]
    rfl
  refine pure_ (i := 6) (N := some 6) (v := ?_) (a' := ?_) #[true, true, true, true, true, true, true] rfl rfl (by kernel_rfl) (fun _ _ _ h => h) (Or.inl ⟨by rfl, ?_⟩) ?_ ?_
  rotate_left
  · intro w'
    go_simp
    with_reducible rfl
  rotate_left
  · simp only [Act.put, List.setIfInBounds_toArray, List.set_cons_zero, List.set_cons_succ, i64_w, i32_w]
    rfl
  refine done_ (by kernel_rfl) ?_
  go_wp2
  rw [E5.out]
  refine bodyPost_ret (results_ctt (p := 4) (u := 5) (v := 6) rfl _ w4 (w.heap.size + 1) 63 _ (0, 0) _ rfl bx Try.underlying63 rfl (by kernel_rfl)) rfl ?_
  exact ⟨rfl, seg.below (below_drew1 HBe.out) hgr (Nat.le_succ _)⟩

theorem over_both (w0 w1 w2 d : Int) (h0 : 0 ≤ w0 ∧ w0 < 4294967296) (h1 : 0 ≤ w1 ∧ w1 < 4294967296) (h2 : 0 ≤ w2 ∧ w2 < 4294967296) (hd : 0 ≤ d ∧ d < 4294967296) : ∃ d0 d1 d2 d3 d4 : Int, (∀ W : World, Calls Try.prog 38 #[.agg #[.int .u32 w0, .int .u32 w1, .int .u32 w2], .int .u32 d] W fun e w' => e = .returned (.tuple #[.agg #[.int .u32 d0, .int .u32 d1, .int .u32 d2], .int .u32 d3, .int .i64 d4]) ∧ Below W.heap.size W w') ∧ (∀ W : World, Calls Try.prog 39 #[.agg #[.int .u32 w0, .int .u32 w1, .int .u32 w2], .int .u32 d] W fun e w' => e = .returned (.tuple #[.agg #[.int .u32 d0, .int .u32 d1, .int .u32 d2], .int .u32 d3, .int .i64 d4]) ∧ Below W.heap.size W w') := by
  by_cases h : d = 0
  · subst h
    exact ⟨0, 0, 0, 0, 4, fun W => words_Over.zero W w0 w1 w2, fun W => vendmeterref_Divided.zero W w0 w1 w2⟩
  · exact ⟨_, _, _, _, _, fun W => words_Over.calls W w0 w1 w2 d h0 h1 h2 (by omega) hd.2, fun W => vendmeterref_Divided.calls W w0 w1 w2 d h0 h1 h2 (by omega) hd.2⟩
set_option maxHeartbeats 4000000 in
set_option maxRecDepth 100000 in
theorem vendmeterlaw_WordsOver.true_ (w : World) (w0 w1 w2 a : Int) (h0 : 0 ≤ w0 ∧ w0 < 4294967296) (h1 : 0 ≤ w1 ∧ w1 < 4294967296) (h2 : 0 ≤ w2 ∧ w2 < 4294967296) (ha : 0 ≤ a ∧ a < 4294967296) :
    Calls Try.prog 10 #[.agg #[.int .u32 w0, .int .u32 w1, .int .u32 w2], .int .u32 a] w fun e w' => e = .returned (.bool true) ∧ Below w.heap.size w w' := by
  have hu63 := Try.underlying63
  obtain ⟨d0, d1, d2, d3, d4, hC, hR⟩ := over_both w0 w1 w2 a h0 h1 h2 ha
  have HC := Aside0.mk hC
  have HR := Aside0.mk hR
  clear h0 h1 h2 ha hC hR
  have B0 := blk_new w (.cells #[.int .u32 w0, .int .u32 w1, .int .u32 w2] 63)
  have HB := Aside0.mk (below_alloc (Below.refl w.heap.size w) (.cells #[.int .u32 w0, .int .u32 w1, .int .u32 w2] 63))
  have HB0 := Aside0.mk B0
  clear B0
  go_enter Try.func10, Try.ntmps10
  go_upto_region 2 with (first | (go_at_call 38; refine (HC.out _).mono ?_; rintro e wa ⟨rfl, hb⟩; have HB1 := Aside0.mk (below_then HB.out HB.out.size hb); have HX1 := Aside0.mk (blk_below HB0.out hb); clear hb) | ((with_reducible refine gate_store (t := 63) (p := 5) rfl ?_); refine seg.list rfl rfl 63 (.tmp 5) _ rfl 63 wa.heap.size 0 #[.int .u32 0, .int .u32 0, .int .u32 0] #[.int .u32 d0, .int .u32 d1, .int .u32 d2] [.int .u32 d0, .int .u32 d1, .int .u32 d2] rfl rfl (by kernel_rfl) (by simp [Value.oneCell']) (blk_new wa _) (by simp) rfl ?_; intro wb bx hgr; have HY2 := Aside0.mk bx; have HB2 := Aside0.mk (seg.below (below_then HB1.out HB1.out.size (below_alloc (Below.refl _ _) _)) hgr HB1.out.size); have HX2 := Aside0.mk (seg.far (blk_alloc HX1.out _) hgr (Nat.ne_of_lt (blk_lt HX1.out))); clear bx hgr))
  have x0 : wb.cell? ⟨w.heap.size, 0, none⟩ = some (.int .u32 w0) := (blk_cell HX2.out 0).trans rfl
  have x1 : wb.cell? ⟨w.heap.size, 1, none⟩ = some (.int .u32 w1) := (blk_cell HX2.out 1).trans rfl
  have x2 : wb.cell? ⟨w.heap.size, 2, none⟩ = some (.int .u32 w2) := (blk_cell HX2.out 2).trans rfl
  go_upto_region 3 with (first | (go_at_call 39; refine (HR.out _).mono ?_; rintro e wc ⟨rfl, hb⟩; have HB3 := Aside0.mk (below_then HB2.out HB2.out.size hb); have HY3 := Aside0.mk (blk_below HY2.out hb); clear hb) | ((with_reducible refine gate_store (t := 63) (p := 8) rfl ?_); refine seg.list rfl rfl 63 (.tmp 8) _ rfl 63 wc.heap.size 0 #[.int .u32 0, .int .u32 0, .int .u32 0] #[.int .u32 d0, .int .u32 d1, .int .u32 d2] [.int .u32 d0, .int .u32 d1, .int .u32 d2] rfl rfl (by kernel_rfl) (by simp [Value.oneCell']) (blk_new wc _) (by simp) rfl ?_; intro wd bx hgr; have HZ4 := Aside0.mk bx; have HB4 := Aside0.mk (seg.below (below_then HB3.out HB3.out.size (below_alloc (Below.refl _ _) _)) hgr HB3.out.size); have HY4 := Aside0.mk (seg.far (blk_alloc HY3.out _) hgr (Nat.ne_of_lt (blk_lt HY3.out))); clear bx hgr))
  have y0 : wd.cell? ⟨wa.heap.size, 0, none⟩ = some (.int .u32 d0) := (blk_cell HY4.out 0).trans rfl
  have y1 : wd.cell? ⟨wa.heap.size, 1, none⟩ = some (.int .u32 d1) := (blk_cell HY4.out 1).trans rfl
  have y2 : wd.cell? ⟨wa.heap.size, 2, none⟩ = some (.int .u32 d2) := (blk_cell HY4.out 2).trans rfl
  have z0 : wd.cell? ⟨wc.heap.size, 0, none⟩ = some (.int .u32 d0) := (blk_cell HZ4.out 0).trans rfl
  have z1 : wd.cell? ⟨wc.heap.size, 1, none⟩ = some (.int .u32 d1) := (blk_cell HZ4.out 1).trans rfl
  have z2 : wd.cell? ⟨wc.heap.size, 2, none⟩ = some (.int .u32 d2) := (blk_cell HZ4.out 2).trans rfl
  clear x0 x1 x2
  go_wp2
  go_ret
  exact ⟨rfl, HB4.out⟩
def vendmeterlaw_WordsOver.f (a0_0 : Int) (a0_1 : Int) (a0_2 : Int) (a1 : Int) : Option Bool := if (0 ≤ a0_0 ∧ a0_0 < 4294967296) ∧ (0 ≤ a0_1 ∧ a0_1 < 4294967296) ∧ (0 ≤ a0_2 ∧ a0_2 < 4294967296) ∧ (0 ≤ a1 ∧ a1 < 4294967296) then some true else none
theorem vendmeterlaw_WordsOver.calls (a0_0 : Int) (a0_1 : Int) (a0_2 : Int) (a1 : Int) (r : Bool) (w : World) (h : vendmeterlaw_WordsOver.f a0_0 a0_1 a0_2 a1 = some r) : Calls Try.prog 10 #[.agg #[.int .u32 a0_0, .int .u32 a0_1, .int .u32 a0_2], .int .u32 a1] w fun e w' => e = .returned (.bool r) ∧ Below w.heap.size w w' := by
  unfold vendmeterlaw_WordsOver.f at h
  split at h
  · rename_i hc
    obtain rfl := Option.some.inj h
    exact vendmeterlaw_WordsOver.true_ w a0_0 a0_1 a0_2 a1 hc.1 hc.2.1 hc.2.2.1 hc.2.2.2
  · cases h

end Go.Proofs.Ytacgddnjlfkdmaa.PWordsOver
