-- written by this session's program wip/xp/xprint.py (it drives the kit's print and adds to it)
import Derived.Test.YtacgddnjlfkdmaaPWordsTimesx0
import Derived.Test.YtacgddnjlfkdmaaPWordsTimesx2
import Derived.Test.YtacgddnjlfkdmaaPWordsTimesx4
namespace Go.Proofs.Ytacgddnjlfkdmaa.PWordsTimes
open Go.RowKit Go.Proofs.YtacgddnjlfkdmaaW.PrintWords Go.Proofs.YtacgddnjlfkdmaaW.PrintLast Go.Proofs.YtacgddnjlfkdmaaW.PrintMore
attribute [local go_sem] max2_int min2_int max_two min_two max_three min_three max_four min_four   -- for this text's walks alone
set_option linter.unusedVariables false
set_option linter.unusedSimpArgs false

-- NOT PRINTED: function 37 (vendmeterref_Multiplied)

theorem words_eq (d : Nat) (w : World) (x0 x1 x2 y0 y1 y2 : Int) : (Op.equalIn (d + 2) 63 (.agg #[.int .u32 x0, .int .u32 x1, .int .u32 x2]) (.agg #[.int .u32 y0, .int .u32 y1, .int .u32 y2])).run Try.prog w = .ok (x0 == y0 && (x1 == y1 && x2 == y2)) w := by
  obtain ⟨i61, hi⟩ : ∃ i, Try.prog.info? 61 = some i := by
    have h := winfo
    cases hh : Try.prog.info? 61 with
    | none => rw [hh] at h; cases h
    | some i => exact ⟨i, rfl⟩
  have hc : Try.prog.cellsOf 61 = 1 := by kernel_rfl
  rw [show d + 2 = (d + 1) + 1 from rfl, run_equalIn_array (P := Try.prog) w (d + 1) _ _ Try.underlying63 hi, hc]
  have h0 : (Op.equalIn (d + 1) 61 (.int .u32 x0) (.int .u32 y0)).run Try.prog w = .ok (x0 == y0) w := by go_simp
  have h1 : (Op.equalIn (d + 1) 61 (.int .u32 x1) (.int .u32 y1)).run Try.prog w = .ok (x1 == y1) w := by go_simp
  have h2 : (Op.equalIn (d + 1) 61 (.int .u32 x2) (.int .u32 y2)).run Try.prog w = .ok (x2 == y2) w := by go_simp
  have p0 : ∀ a b c : Int, (part 61 #[.int .u32 a, .int .u32 b, .int .u32 c] (0 * 1)).run Try.prog w = .ok (.int .u32 a) w := fun a b c => by go_simp
  have p1 : ∀ a b c : Int, (part 61 #[.int .u32 a, .int .u32 b, .int .u32 c] (1 * 1)).run Try.prog w = .ok (.int .u32 b) w := fun a b c => by go_simp
  have p2 : ∀ a b c : Int, (part 61 #[.int .u32 a, .int .u32 b, .int .u32 c] (2 * 1)).run Try.prog w = .ok (.int .u32 c) w := fun a b c => by go_simp
  simp only [show List.range 3 = [0, 1, 2] from rfl, Op.eqItems, Sem.run_bind, p0, p1, p2, h0, h1, h2, Result.andThen_ok]
  have q1 : ∀ a b c : Int, (part 61 #[.int .u32 a, .int .u32 b, .int .u32 c] 1).run Try.prog w = .ok (.int .u32 b) w := p1
  have q2 : ∀ a b c : Int, (part 61 #[.int .u32 a, .int .u32 b, .int .u32 c] 2).run Try.prog w = .ok (.int .u32 c) w := p2
  cases hx : (x0 == y0) <;> cases hy : (x1 == y1) <;> cases hz : (x2 == y2) <;> simp [hx, hy, hz, q1, q2, h1, h2]
attribute [local go_sem high] words_eq

theorem w32b {x : Int} (h : 0 ≤ x ∧ x < 4294967296) : x % 4294967296 = x := Int.emod_eq_of_lt h.1 h.2
theorem wmulb {x m : Int} (hx : 0 ≤ x ∧ x < 4294967296) (hm : 0 ≤ m ∧ m < 4294967296) : 0 ≤ x * m ∧ x * m ≤ 18446744065119617025 := ⟨Int.mul_nonneg hx.1 hm.1, Int.mul_le_mul (show x ≤ 4294967295 by omega) (show m ≤ 4294967295 by omega) hm.1 (by decide)⟩
def upC (f : Int → Int → Int) (w0 w1 w2 c : Int) : Nat → Int
  | 0 => c
  | 1 => f w0 c / 4294967296
  | 2 => f w1 (f w0 c / 4294967296) / 4294967296
  | _ => f w2 (f w1 (f w0 c / 4294967296) / 4294967296) / 4294967296
def upB (f : Int → Int → Int) (w0 w1 w2 c : Int) : Nat → Array Value
  | 0 => #[.int .u32 w0, .int .u32 w1, .int .u32 w2]
  | 1 => #[.int .u32 (f w0 c % 4294967296), .int .u32 w1, .int .u32 w2]
  | 2 => #[.int .u32 (f w0 c % 4294967296), .int .u32 (f w1 (upC f w0 w1 w2 c 1) % 4294967296), .int .u32 w2]
  | _ => #[.int .u32 (f w0 c % 4294967296), .int .u32 (f w1 (upC f w0 w1 w2 c 1) % 4294967296), .int .u32 (f w2 (upC f w0 w1 w2 c 2) % 4294967296)]
theorem upC_step (f : Int → Int → Int) (w0 w1 w2 c : Int) (i : Nat) (hi : i < 3) : upC f w0 w1 w2 c (i + 1) = f ([w0, w1, w2].getD i 0) (upC f w0 w1 w2 c i) / 4294967296 := by
  match i, hi with
  | 0, _ => rfl
  | 1, _ => rfl
  | 2, _ => rfl
theorem upB_at (f : Int → Int → Int) (w0 w1 w2 c : Int) (i : Nat) (hi : i < 3) : (upB f w0 w1 w2 c i)[i]? = some (.int .u32 ([w0, w1, w2].getD i 0)) := by
  match i, hi with
  | 0, _ => rfl
  | 1, _ => rfl
  | 2, _ => rfl
theorem upB_step (f : Int → Int → Int) (w0 w1 w2 c : Int) (i : Nat) (hi : i < 3) : (upB f w0 w1 w2 c i).setIfInBounds i (.int .u32 (f ([w0, w1, w2].getD i 0) (upC f w0 w1 w2 c i) % 4294967296)) = upB f w0 w1 w2 c (i + 1) := by
  match i, hi with
  | 0, _ => rfl
  | 1, _ => rfl
  | 2, _ => rfl
theorem w3_at {w0 w1 w2 : Int} (h0 : 0 ≤ w0 ∧ w0 < 4294967296) (h1 : 0 ≤ w1 ∧ w1 < 4294967296) (h2 : 0 ≤ w2 ∧ w2 < 4294967296) (i : Nat) (hi : i < 3) : 0 ≤ [w0, w1, w2].getD i 0 ∧ [w0, w1, w2].getD i 0 < 4294967296 := by
  match i, hi with
  | 0, _ => exact h0
  | 1, _ => exact h1
  | 2, _ => exact h2
theorem upC_bd (f : Int → Int → Int) (hf : ∀ x c, (0 ≤ x ∧ x < 4294967296) → (0 ≤ c ∧ c < 4294967296) → 0 ≤ f x c ∧ f x c < 18446744073709551616) {w0 w1 w2 c : Int} (h0 : 0 ≤ w0 ∧ w0 < 4294967296) (h1 : 0 ≤ w1 ∧ w1 < 4294967296) (h2 : 0 ≤ w2 ∧ w2 < 4294967296) (hc : 0 ≤ c ∧ c < 4294967296) : ∀ i, i ≤ 3 → 0 ≤ upC f w0 w1 w2 c i ∧ upC f w0 w1 w2 c i < 4294967296
  | 0, _ => hc
  | i + 1, hi => by
    rw [upC_step f w0 w1 w2 c i (by omega)]
    have := hf _ _ (w3_at h0 h1 h2 i (by omega)) (upC_bd f hf h0 h1 h2 hc i (by omega))
    omega

set_option maxHeartbeats 4000000 in
theorem words_Times1.calls (w : World) (x c m : Int) (g : Nat) (hg : w.cell? ⟨g, 0, none⟩ = some (.int .u32 m)) (hx : 0 ≤ x ∧ x < 4294967296) (hc : 0 ≤ c ∧ c < 4294967296) (hm : 0 ≤ m ∧ m < 4294967296) :
    Calls Try.prog 82 #[.int .u32 x, .int .u32 c, .pointer (some ⟨g, 0, none⟩)] w fun e w' => e = .returned (.tuple #[.int .u32 ((x * m + c) % 4294967296), .int .u32 ((x * m + c) / 4294967296)]) ∧ w' = w := by
  obtain ⟨b0, b1⟩ := wmulb hx hm
  obtain ⟨q, hq⟩ : ∃ q, x * m = q := ⟨_, rfl⟩
  rw [hq] at b0 b1 ⊢
  have e1 : IntKind.u64.wrap (IntKind.u64.wrap x * IntKind.u64.wrap m) = q := by rw [wu64 (a := x) ⟨hx.1, by omega⟩, wu64 (a := m) ⟨hm.1, by omega⟩, hq, wu64 ⟨b0, by omega⟩]
  have e2 : IntKind.u64.wrap (q % 4294967296 + IntKind.u64.wrap c) = q % 4294967296 + c := by rw [wu64 (a := c) ⟨hc.1, by omega⟩, wu64 ⟨by omega, by omega⟩]
  have HX := Aside0.mk (And.intro hc (And.intro b0 (And.intro b1 e2)))
  clear hx hc hm hq b0 b1 e2
  go_enter Try.func82, Try.ntmps82
  go_wp2
  go_ret2
  refine ⟨?_, rfl⟩
  obtain ⟨hc, b0, b1, e2⟩ := HX.out
  have z0 : IntKind.u64.wrap 0 = 0 := by decide
  have e3 : IntKind.u64.wrap (q % 4294967296 + c) = q % 4294967296 + c := wu64 ⟨by omega, by omega⟩
  have e4 : (q % 4294967296 + c) % 4294967296 = (q + c) % 4294967296 := by omega
  have e6 : (q / 4294967296 + (q % 4294967296 + c) / 4294967296) % 4294967296 = (q + c) / 4294967296 := by omega
  have e7 : q / 4294967296 % 4294967296 = q / 4294967296 := by omega
  have e8 : (q % 4294967296 + c) / 4294967296 % 4294967296 = (q % 4294967296 + c) / 4294967296 := by omega
  simp
  rw [e2, e3, e4]
  exact ⟨rfl, by first | exact e6 | (rw [e7, e8]; exact e6)⟩
set_option maxHeartbeats 8000000 in
set_option maxRecDepth 100000 in
theorem words_up.times (w : World) (w0 w1 w2 c m : Int) (gm : Nat) (hgm : w.heap[gm]? = some (.cells #[.int .u32 m] 61 (0, 0))) (h0 : 0 ≤ w0 ∧ w0 < 4294967296) (h1 : 0 ≤ w1 ∧ w1 < 4294967296) (h2 : 0 ≤ w2 ∧ w2 < 4294967296) (hc : 0 ≤ c ∧ c < 4294967296) (hm : 0 ≤ m ∧ m < 4294967296) :
    Calls Try.prog 75 #[.agg #[.int .u32 w0, .int .u32 w1, .int .u32 w2], .int .u32 c, .func (.func 82) #[] #[.pointer (some ⟨gm, 0, none⟩)]] w fun e w' => e = .returned (.tuple #[.agg (upB (fun x c => x * m + c) w0 w1 w2 c 3), .int .u32 (upC (fun x c => x * m + c) w0 w1 w2 c 3)]) ∧ Below w.heap.size w w' := by
  have hu63 := Try.underlying63
  have HCB := Aside0.mk (upC_bd (fun x c => x * m + c) (fun x c hx hc => ⟨by have := wmulb hx hm; omega, by have := wmulb hx hm; omega⟩) h0 h1 h2 hc)
  have HW := Aside0.mk (w3_at h0 h1 h2)
  have B2 := blk_alloc (blk_new w (.cells #[.int .u32 w0, .int .u32 w1, .int .u32 w2] 63)) (.cells #[.int .u32 0, .int .u32 0, .int .u32 0] 63)
  have B4 := blk_new (w.alloc (.cells #[.int .u32 w0, .int .u32 w1, .int .u32 w2] 63)) (.cells #[.int .u32 0, .int .u32 0, .int .u32 0] 63)
  have hb2 := below_alloc (below_alloc (Below.refl w.heap.size w) (.cells #[.int .u32 w0, .int .u32 w1, .int .u32 w2] 63)) (.cells #[.int .u32 0, .int .u32 0, .int .u32 0] 63)
  rw [World.size_alloc] at B4
  clear h0 h1 h2 hc
  go_enter Try.func75, Try.ntmps75
  go_wp2
  go_loopg [1, 9] 3 (fun kq v1 v9 w' => ∃ i : Nat, v1 = .int .u32 (upC (fun x c => x * m + c) w0 w1 w2 c i) ∧ v9 = .int .i64 (i : Int) ∧ i ≤ 3 ∧ kq = 3 - i ∧ Aside0 (w'.heap[w.heap.size]? = some (.cells (upB (fun x c => x * m + c) w0 w1 w2 c i) 63 (0, 0))) ∧ Aside0 (w'.heap[w.heap.size + 1]? = some (.cells #[.int .u32 0, .int .u32 0, .int .u32 0] 63 (0, 0))) ∧ Aside0 (Below w.heap.size w w'))
  case atStart => exact ⟨0, rfl, rfl, by decide, rfl, ⟨B2⟩, ⟨B4⟩, ⟨hb2⟩⟩
  case round =>
    clear B2 B4 hb2
    obtain ⟨i, rfl, rfl, hi, rfl, B2, B4, HB⟩ := hrel
    by_cases hlt : i < 3
    · have hltb : decide (i < 3) = true := decide_eq_true hlt
      have hcb := HCB.out i hi
      have hwb := HW.out i hlt
      obtain ⟨x, hx⟩ : ∃ x, [w0, w1, w2].getD i 0 = x := ⟨_, rfl⟩
      obtain ⟨ci, hci⟩ : ∃ ci, upC (fun x c => x * m + c) w0 w1 w2 c i = ci := ⟨_, rfl⟩
      have hc3 : wr.cell? ⟨w.heap.size, i, none⟩ = some (.int .u32 x) := by rw [blk_cell B2.out i, upB_at _ _ _ _ _ i hlt, hx]
      have hf3 := blk_frozen B2.out i
      rw [hx] at hwb
      rw [hci] at hcb ⊢
      have HXC := Aside0.mk (And.intro hx hci)
      have HBD := Aside0.mk (And.intro hwb hcb)
      clear hx hci hwb hcb
      go_wp2_with (go_at_call 82; refine (words_Times1.calls _ x ci m gm ((blk_cell (blk_below hgm HB.out) 0).trans rfl) HBD.out.1 HBD.out.2 hm).mono ?_; rintro e wq ⟨rfl, rfl⟩)
      go_roundg (3 - (i + 1))
      case measure => omega
      case rel =>
        refine ⟨i + 1, by rw [upC_step _ _ _ _ _ i hlt, HXC.out.1, HXC.out.2], by first | rfl | simp, by omega, rfl, ⟨?_⟩, ⟨blk_far B4.out (p := ⟨w.heap.size, i, none⟩) (by simp) _⟩, ⟨below_set HB.out (Nat.le_refl _)⟩⟩
        rw [← upB_step _ _ _ _ _ i hlt, HXC.out.1, HXC.out.2]
        exact blk_set B2.out i _
    · have hltb : decide (i < 3) = false := decide_eq_false hlt
      obtain rfl : i = 3 := by omega
      obtain ⟨e0, e1, e2, hE⟩ : ∃ e0 e1 e2, upB (fun x c => x * m + c) w0 w1 w2 c 3 = #[e0, e1, e2] ∧ e0.oneCell' = true ∧ e1.oneCell' = true ∧ e2.oneCell' = true := ⟨_, _, _, rfl, rfl, rfl, rfl⟩
      obtain ⟨hE, o0, o1, o2⟩ := hE
      rw [hE] at B2
      have HE := Aside0.mk hE
      have x0 : wr.cell? ⟨w.heap.size, 0, none⟩ = some e0 := (blk_cell B2.out 0).trans rfl
      have x1 : wr.cell? ⟨w.heap.size, 1, none⟩ = some e1 := (blk_cell B2.out 1).trans rfl
      have x2 : wr.cell? ⟨w.heap.size, 2, none⟩ = some e2 := (blk_cell B2.out 2).trans rfl
      have O := Aside0.mk (And.intro o0 (And.intro o1 o2))
      clear o0 o1 o2 hE
      go_wp2_with ((with_reducible refine gate_store (t := 63) (p := 6) rfl ?_); refine seg.list rfl rfl 63 (.tmp 6) _ rfl 63 (w.heap.size + 1) 0 #[.int .u32 0, .int .u32 0, .int .u32 0] #[e0, e1, e2] [e0, e1, e2] rfl rfl (by kernel_rfl) (by simp [O.out.1, O.out.2.1, O.out.2.2]) B4.out (by simp) rfl ?_; intro w9 bx hgr)
      refine bodyPost_ret (results_ct (p := 6) (u := 7) rfl _ w9 (w.heap.size + 1) 63 _ (0, 0) _ rfl bx Try.underlying63 rfl (by kernel_rfl)) rfl ?_
      exact ⟨by rw [HE.out]; rfl, seg.below HB.out hgr (Nat.le_succ _)⟩
theorem up_times (w0 w1 w2 m : Int) (h0 : 0 ≤ w0 ∧ w0 < 4294967296) (h1 : 0 ≤ w1 ∧ w1 < 4294967296) (h2 : 0 ≤ w2 ∧ w2 < 4294967296) (hm : 0 ≤ m ∧ m < 4294967296) : upB (fun x c => x * m + c) w0 w1 w2 0 3 = #[.int .u32 ((wval [w0, w1, w2] * m) % 4294967296), .int .u32 ((wval [w0, w1, w2] * m) / 4294967296 % 4294967296), .int .u32 ((wval [w0, w1, w2] * m) / 18446744073709551616 % 4294967296)] ∧ upC (fun x c => x * m + c) w0 w1 w2 0 3 = (wval [w0, w1, w2] * m) / 79228162514264337593543950336 % 4294967296 := by
  have b0 := wmulb h0 hm
  have b1 := wmulb h1 hm
  have b2 := wmulb h2 hm
  have e : wval [w0, w1, w2] * m = w0 * m + 4294967296 * (w1 * m) + 18446744073709551616 * (w2 * m) := by simp only [wval]; grind
  rw [e]
  simp only [upB, upC]
  generalize w0 * m = p0 at *
  generalize w1 * m = p1 at *
  generalize w2 * m = p2 at *
  rw [show (p0 + 0) % 4294967296 = (p0 + 4294967296 * p1 + 18446744073709551616 * p2) % 4294967296 by omega, show (p1 + (p0 + 0) / 4294967296) % 4294967296 = (p0 + 4294967296 * p1 + 18446744073709551616 * p2) / 4294967296 % 4294967296 by omega, show (p2 + (p1 + (p0 + 0) / 4294967296) / 4294967296) % 4294967296 = (p0 + 4294967296 * p1 + 18446744073709551616 * p2) / 18446744073709551616 % 4294967296 by omega]
  exact ⟨rfl, by omega⟩
set_option maxHeartbeats 4000000 in
set_option maxRecDepth 100000 in
theorem words_Times.calls (w : World) (w0 w1 w2 m : Int) (h0 : 0 ≤ w0 ∧ w0 < 4294967296) (h1 : 0 ≤ w1 ∧ w1 < 4294967296) (h2 : 0 ≤ w2 ∧ w2 < 4294967296) (hm : 0 ≤ m ∧ m < 4294967296) :
    Calls Try.prog 36 #[.agg #[.int .u32 w0, .int .u32 w1, .int .u32 w2], .int .u32 m] w fun e w' => e = .returned (.tuple #[.agg #[.int .u32 ((wval [w0, w1, w2] * m) % 4294967296), .int .u32 ((wval [w0, w1, w2] * m) / 4294967296 % 4294967296), .int .u32 ((wval [w0, w1, w2] * m) / 18446744073709551616 % 4294967296)], .int .u32 ((wval [w0, w1, w2] * m) / 79228162514264337593543950336 % 4294967296)]) ∧ Below w.heap.size w w' := by
  have hu63 := Try.underlying63
  obtain ⟨e1, e2⟩ := up_times w0 w1 w2 m h0 h1 h2 hm
  have B0 := blk_alloc (blk_alloc (blk_new w (.cells #[.int .u32 w0, .int .u32 w1, .int .u32 w2] 63)) (.cells #[.int .u32 m] 61)) (.cells #[.int .u32 0, .int .u32 0, .int .u32 0] 63)
  have B1 := blk_alloc (blk_new (w.alloc (.cells #[.int .u32 w0, .int .u32 w1, .int .u32 w2] 63)) (.cells #[.int .u32 m] 61)) (.cells #[.int .u32 0, .int .u32 0, .int .u32 0] 63)
  rw [World.size_alloc] at B1
  have B2 := blk_new ((w.alloc (.cells #[.int .u32 w0, .int .u32 w1, .int .u32 w2] 63)).alloc (.cells #[.int .u32 m] 61)) (.cells #[.int .u32 0, .int .u32 0, .int .u32 0] 63)
  rw [World.size_alloc, World.size_alloc] at B2
  have HB := Aside0.mk (below_alloc (below_alloc (below_alloc (Below.refl w.heap.size w) (.cells #[.int .u32 w0, .int .u32 w1, .int .u32 w2] 63)) (.cells #[.int .u32 m] 61)) (.cells #[.int .u32 0, .int .u32 0, .int .u32 0] 63))
  have HB0 := Aside0.mk B0
  have HB1 := Aside0.mk B1
  have HB2 := Aside0.mk B2
  clear B0 B1 B2
  have HU := Aside0.mk (words_up.times (((w.alloc (.cells #[.int .u32 w0, .int .u32 w1, .int .u32 w2] 63)).alloc (.cells #[.int .u32 m] 61)).alloc (.cells #[.int .u32 0, .int .u32 0, .int .u32 0] 63)) w0 w1 w2 0 m (w.heap.size + 1) HB1.out h0 h1 h2 (by decide) hm)
  rw [e1, e2] at HU
  clear h0 h1 h2 hm e1 e2
  go_enter Try.func36, Try.ntmps36
  go_wp2_with (first | (go_at_call 75; refine HU.out.mono ?_; rintro e wq ⟨rfl, hb⟩; have HBB := Aside0.mk (below_then HB.out HB.out.size hb); have HBR := Aside0.mk (blk_below HB2.out hb); clear hb) | ((with_reducible refine gate_store (t := 63) (p := 4) rfl ?_); refine seg.list rfl rfl 63 (.tmp 4) _ rfl 63 (w.heap.size + 1 + 1) 0 #[.int .u32 0, .int .u32 0, .int .u32 0] #[.int .u32 ((wval [w0, w1, w2] * m) % 4294967296), .int .u32 ((wval [w0, w1, w2] * m) / 4294967296 % 4294967296), .int .u32 ((wval [w0, w1, w2] * m) / 18446744073709551616 % 4294967296)] [.int .u32 ((wval [w0, w1, w2] * m) % 4294967296), .int .u32 ((wval [w0, w1, w2] * m) / 4294967296 % 4294967296), .int .u32 ((wval [w0, w1, w2] * m) / 18446744073709551616 % 4294967296)] rfl rfl (by kernel_rfl) (by simp [Value.oneCell']) HBR.out (by simp) rfl ?_; intro w9 bx hgr))
  refine bodyPost_ret (results_ct (p := 4) (u := 5) rfl _ w9 (w.heap.size + 1 + 1) 63 _ (0, 0) _ rfl bx Try.underlying63 rfl (by kernel_rfl)) rfl ?_
  exact ⟨rfl, seg.below HBB.out hgr (by omega)⟩

theorem Multiplied_bd (w0 w1 w2 a : Int) (h0 : 0 ≤ w0 ∧ w0 < 4294967296) (h1 : 0 ≤ w1 ∧ w1 < 4294967296) (h2 : 0 ≤ w2 ∧ w2 < 4294967296) (ha : 0 ≤ a ∧ a < 4294967296) : (wval [w0, w1, w2] * a) < W32 10 := by
  have e : wval [w0, w1, w2] < 79228162514264337593543950336 ∧ 0 ≤ wval [w0, w1, w2] := by simp only [wval]; omega
  have e2 := Int.mul_le_mul (show wval [w0, w1, w2] ≤ 79228162514264337593543950336 by omega) (show a ≤ 4294967296 by omega) ha.1 (by decide)
  have e3 : W32 10 = 2135987035920910082395021706169552114602704522356652769947041607822219725780640550022962086936576 := by decide
  rw [e3]
  generalize wval [w0, w1, w2] * a = z at *
  omega
set_option maxHeartbeats 4000000 in
set_option maxRecDepth 100000 in
theorem vendmeterref_Multiplied.calls (w : World) (w0 w1 w2 a : Int) (h0 : 0 ≤ w0 ∧ w0 < 4294967296) (h1 : 0 ≤ w1 ∧ w1 < 4294967296) (h2 : 0 ≤ w2 ∧ w2 < 4294967296) (ha : 0 ≤ a ∧ a < 4294967296) :
    Calls Try.prog 37 #[.agg #[.int .u32 w0, .int .u32 w1, .int .u32 w2], .int .u32 a] w fun e w' => e = .returned (.tuple #[.agg #[.int .u32 ((wval [w0, w1, w2] * a) % 4294967296), .int .u32 ((wval [w0, w1, w2] * a) / 4294967296 % 4294967296), .int .u32 ((wval [w0, w1, w2] * a) / 18446744073709551616 % 4294967296)], .int .u32 ((wval [w0, w1, w2] * a) / 79228162514264337593543950336 % 4294967296)]) ∧ Below w.heap.size w w' := by
  have hu63 := Try.underlying63
  have B0 := blk_alloc (blk_new w (.cells #[.int .u32 w0, .int .u32 w1, .int .u32 w2] 63)) (.cells #[.int .u32 0, .int .u32 0, .int .u32 0] 63)
  have B1 := blk_new (w.alloc (.cells #[.int .u32 w0, .int .u32 w1, .int .u32 w2] 63)) (.cells #[.int .u32 0, .int .u32 0, .int .u32 0] 63)
  rw [World.size_alloc] at B1
  have HB := Aside0.mk (below_alloc (below_alloc (Below.refl w.heap.size w) (.cells #[.int .u32 w0, .int .u32 w1, .int .u32 w2] 63)) (.cells #[.int .u32 0, .int .u32 0, .int .u32 0] 63))
  have HB0 := Aside0.mk B0
  have HB1 := Aside0.mk B1
  clear B0 B1
  have HV := Aside0.mk (Multiplied_bd w0 w1 w2 a h0 h1 h2 ha)
  have HV0 := Aside0.mk (show wval [w0, w1, w2] < W32 4 from (w3v_bd h0 h1 h2 0).2)
  have HU := Aside0.mk (vendmeterref_big96.calls ((w.alloc (.cells #[.int .u32 w0, .int .u32 w1, .int .u32 w2] 63)).alloc (.cells #[.int .u32 0, .int .u32 0, .int .u32 0] 63)) w0 w1 w2 h0 h1 h2)
  have HA := Aside0.mk ha
  have ha0 : 0 ≤ a := ha.1
  have ha1 : a ≤ 4294967295 := by omega
  clear h0 h1 h2 ha
  go_enter Try.func37, Try.ntmps37
  go_wp2_with (first | (go_at_call 78; refine HU.out.mono ?_; rintro e wa ⟨g, rfl, hg, hA, hb⟩; have HN := Aside0.mk hA; have HG := Aside0.mk hg; have HB2 := Aside0.mk (below_then HB.out HB.out.size hb); have HBR := Aside0.mk (blk_below HB1.out hb); clear hg hA hb) | (go_at_call 80; refine (vendmeterbig_NewInt.calls wa a ⟨HA.out.1, by have := HA.out.2; omega⟩).mono ?_; rintro e wb ⟨gb, rfl, hgb, hA, hb⟩; have HP := Aside0.mk hA; have HN2 := Aside0.mk (HN.out.below hb); have HBR2 := Aside0.mk (blk_below HBR.out hb); have HB3 := Aside0.mk (below_then HB2.out HB2.out.size hb); clear hgb hA hb) | (go_at_call 84; refine (vendmeterbig_Int_Mul.calls wb g g gb _ _ HN2.out.isI HN2.out HP.out (lt1000 HV0.out (by decide)) (lt1000 (m := 1) (show a < W32 1 from HA.out.2) (by decide))).mono ?_; rintro e wc ⟨rfl, hA, hO⟩; have HN3 := Aside0.mk hA; have hge := HG.out; rw [World.size_alloc, World.size_alloc] at hge; have HBR3 := Aside0.mk ((hO.block _ (blk_lt HBR2.out) (by omega)).trans HBR2.out); have HB4 := Aside0.mk (Only.below HB3.out hO (by omega)); clear hA hO hge) | (go_at_call 81; refine (vendmeterref_wide96.calls wc g _ HN3.out HV.out).mono ?_; rintro e wd ⟨rfl, hb⟩; have HBR4 := Aside0.mk (blk_below HBR3.out hb); have HB5 := Aside0.mk (below_then HB4.out HB4.out.size hb); clear hb) | ((with_reducible refine gate_store (t := 63) (p := 4) rfl ?_); refine seg.list rfl rfl 63 (.tmp 4) _ rfl 63 (w.heap.size + 1) 0 #[.int .u32 0, .int .u32 0, .int .u32 0] #[.int .u32 ((wval [w0, w1, w2] * a) % 4294967296), .int .u32 ((wval [w0, w1, w2] * a) / 4294967296 % 4294967296), .int .u32 ((wval [w0, w1, w2] * a) / 18446744073709551616 % 4294967296)] [.int .u32 ((wval [w0, w1, w2] * a) % 4294967296), .int .u32 ((wval [w0, w1, w2] * a) / 4294967296 % 4294967296), .int .u32 ((wval [w0, w1, w2] * a) / 18446744073709551616 % 4294967296)] rfl rfl (by kernel_rfl) (by simp [Value.oneCell']) HBR4.out (by simp) rfl ?_; intro w9 bx hgr))
  refine bodyPost_ret (results_ct (p := 4) (u := 5) rfl _ w9 (w.heap.size + 1) 63 _ (0, 0) _ rfl bx Try.underlying63 rfl (by kernel_rfl)) rfl ?_
  exact ⟨rfl, seg.below HB5.out hgr (by omega)⟩


set_option maxHeartbeats 4000000 in
set_option maxRecDepth 100000 in
theorem vendmeterlaw_WordsTimes.true_ (w : World) (w0 w1 w2 a : Int) (h0 : 0 ≤ w0 ∧ w0 < 4294967296) (h1 : 0 ≤ w1 ∧ w1 < 4294967296) (h2 : 0 ≤ w2 ∧ w2 < 4294967296) (ha : 0 ≤ a ∧ a < 4294967296) :
    Calls Try.prog 9 #[.agg #[.int .u32 w0, .int .u32 w1, .int .u32 w2], .int .u32 a] w fun e w' => e = .returned (.bool true) ∧ Below w.heap.size w w' := by
  have hu63 := Try.underlying63
  have HC := Aside0.mk (fun W : World => words_Times.calls W w0 w1 w2 a h0 h1 h2 ha)
  have HR := Aside0.mk (fun W : World => vendmeterref_Multiplied.calls W w0 w1 w2 a h0 h1 h2 ha)
  generalize (wval [w0, w1, w2] * a) % 4294967296 = d0 at HC HR
  generalize (wval [w0, w1, w2] * a) / 4294967296 % 4294967296 = d1 at HC HR
  generalize (wval [w0, w1, w2] * a) / 18446744073709551616 % 4294967296 = d2 at HC HR
  generalize (wval [w0, w1, w2] * a) / 79228162514264337593543950336 % 4294967296 = d3 at HC HR
  clear h0 h1 h2 ha
  have B0 := blk_new w (.cells #[.int .u32 w0, .int .u32 w1, .int .u32 w2] 63)
  have HB := Aside0.mk (below_alloc (Below.refl w.heap.size w) (.cells #[.int .u32 w0, .int .u32 w1, .int .u32 w2] 63))
  have HB0 := Aside0.mk B0
  clear B0
  go_enter Try.func9, Try.ntmps9
  go_upto_region 2 with (first | (go_at_call 36; refine (HC.out _).mono ?_; rintro e wa ⟨rfl, hb⟩; have HB1 := Aside0.mk (below_then HB.out HB.out.size hb); have HX1 := Aside0.mk (blk_below HB0.out hb); clear hb) | ((with_reducible refine gate_store (t := 63) (p := 5) rfl ?_); refine seg.list rfl rfl 63 (.tmp 5) _ rfl 63 wa.heap.size 0 #[.int .u32 0, .int .u32 0, .int .u32 0] #[.int .u32 d0, .int .u32 d1, .int .u32 d2] [.int .u32 d0, .int .u32 d1, .int .u32 d2] rfl rfl (by kernel_rfl) (by simp [Value.oneCell']) (blk_new wa _) (by simp) rfl ?_; intro wb bx hgr; have HY2 := Aside0.mk bx; have HB2 := Aside0.mk (seg.below (below_then HB1.out HB1.out.size (below_alloc (Below.refl _ _) _)) hgr HB1.out.size); have HX2 := Aside0.mk (seg.far (blk_alloc HX1.out _) hgr (Nat.ne_of_lt (blk_lt HX1.out))); clear bx hgr))
  have x0 : wb.cell? ⟨w.heap.size, 0, none⟩ = some (.int .u32 w0) := (blk_cell HX2.out 0).trans rfl
  have x1 : wb.cell? ⟨w.heap.size, 1, none⟩ = some (.int .u32 w1) := (blk_cell HX2.out 1).trans rfl
  have x2 : wb.cell? ⟨w.heap.size, 2, none⟩ = some (.int .u32 w2) := (blk_cell HX2.out 2).trans rfl
  go_upto_region 3 with (first | (go_at_call 37; refine (HR.out _).mono ?_; rintro e wc ⟨rfl, hb⟩; have HB3 := Aside0.mk (below_then HB2.out HB2.out.size hb); have HY3 := Aside0.mk (blk_below HY2.out hb); clear hb) | ((with_reducible refine gate_store (t := 63) (p := 7) rfl ?_); refine seg.list rfl rfl 63 (.tmp 7) _ rfl 63 wc.heap.size 0 #[.int .u32 0, .int .u32 0, .int .u32 0] #[.int .u32 d0, .int .u32 d1, .int .u32 d2] [.int .u32 d0, .int .u32 d1, .int .u32 d2] rfl rfl (by kernel_rfl) (by simp [Value.oneCell']) (blk_new wc _) (by simp) rfl ?_; intro wd bx hgr; have HZ4 := Aside0.mk bx; have HB4 := Aside0.mk (seg.below (below_then HB3.out HB3.out.size (below_alloc (Below.refl _ _) _)) hgr HB3.out.size); have HY4 := Aside0.mk (seg.far (blk_alloc HY3.out _) hgr (Nat.ne_of_lt (blk_lt HY3.out))); clear bx hgr))
  have y0 : wd.cell? ⟨wa.heap.size, 0, none⟩ = some (.int .u32 d0) := (blk_cell HY4.out 0).trans rfl
  have y1 : wd.cell? ⟨wa.heap.size, 1, none⟩ = some (.int .u32 d1) := (blk_cell HY4.out 1).trans rfl
  have y2 : wd.cell? ⟨wa.heap.size, 2, none⟩ = some (.int .u32 d2) := (blk_cell HY4.out 2).trans rfl
  have z0 : wd.cell? ⟨wc.heap.size, 0, none⟩ = some (.int .u32 d0) := (blk_cell HZ4.out 0).trans rfl
  have z1 : wd.cell? ⟨wc.heap.size, 1, none⟩ = some (.int .u32 d1) := (blk_cell HZ4.out 1).trans rfl
  have z2 : wd.cell? ⟨wc.heap.size, 2, none⟩ = some (.int .u32 d2) := (blk_cell HZ4.out 2).trans rfl
  clear x0 x1 x2
  go_wp2
  go_ret
  exact ⟨rfl, HB4.out⟩

def vendmeterlaw_WordsTimes.f (a0_0 : Int) (a0_1 : Int) (a0_2 : Int) (a1 : Int) : Option Bool := if (0 ≤ a0_0 ∧ a0_0 < 4294967296) ∧ (0 ≤ a0_1 ∧ a0_1 < 4294967296) ∧ (0 ≤ a0_2 ∧ a0_2 < 4294967296) ∧ (0 ≤ a1 ∧ a1 < 4294967296) then some true else none
theorem vendmeterlaw_WordsTimes.calls (a0_0 : Int) (a0_1 : Int) (a0_2 : Int) (a1 : Int) (r : Bool) (w : World) (h : vendmeterlaw_WordsTimes.f a0_0 a0_1 a0_2 a1 = some r) : Calls Try.prog 9 #[.agg #[.int .u32 a0_0, .int .u32 a0_1, .int .u32 a0_2], .int .u32 a1] w fun e w' => e = .returned (.bool r) ∧ Below w.heap.size w w' := by
  unfold vendmeterlaw_WordsTimes.f at h
  split at h
  · rename_i hc
    obtain rfl := Option.some.inj h
    exact vendmeterlaw_WordsTimes.true_ w a0_0 a0_1 a0_2 a1 hc.1 hc.2.1 hc.2.2.1 hc.2.2.2
  · cases h

end Go.Proofs.Ytacgddnjlfkdmaa.PWordsTimes
