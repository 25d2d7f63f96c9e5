-- written by this session's program wip/xp/xprint.py (it drives the kit's print and adds to it)
import Derived.Test.YtacgddnjlfkdmaaPWordsReadsx0
import Derived.Test.YtacgddnjlfkdmaaPWordsReadsx1
import Derived.Test.YtacgddnjlfkdmaaPWordsReadsx3
import Derived.Test.YtacgddnjlfkdmaaPWordsReadsx4
namespace Go.Proofs.Ytacgddnjlfkdmaa.PWordsReads
open Go.RowKit Go.Proofs.YtacgddnjlfkdmaaW.PrintWords Go.Proofs.YtacgddnjlfkdmaaW.PrintLast Go.Proofs.YtacgddnjlfkdmaaW.PrintMore
attribute [local go_sem] max2_int min2_int max_two min_two max_three min_three max_four min_four   -- for this text's walks alone
set_option linter.unusedVariables false
set_option linter.unusedSimpArgs false

theorem words_eq (d : Nat) (w : World) (x0 x1 x2 y0 y1 y2 : Int) : (Op.equalIn (d + 2) 63 (.agg #[.int .u32 x0, .int .u32 x1, .int .u32 x2]) (.agg #[.int .u32 y0, .int .u32 y1, .int .u32 y2])).run Try.prog w = .ok (x0 == y0 && (x1 == y1 && x2 == y2)) w := by
  obtain ⟨i61, hi⟩ : ∃ i, Try.prog.info? 61 = some i := by
    have h := winfo
    cases hh : Try.prog.info? 61 with
    | none => rw [hh] at h; cases h
    | some i => exact ⟨i, rfl⟩
  have hc : Try.prog.cellsOf 61 = 1 := by kernel_rfl
  rw [show d + 2 = (d + 1) + 1 from rfl, run_equalIn_array (P := Try.prog) w (d + 1) _ _ Try.underlying63 hi, hc]
  have h0 : (Op.equalIn (d + 1) 61 (.int .u32 x0) (.int .u32 y0)).run Try.prog w = .ok (x0 == y0) w := by go_simp
  have h1 : (Op.equalIn (d + 1) 61 (.int .u32 x1) (.int .u32 y1)).run Try.prog w = .ok (x1 == y1) w := by go_simp
  have h2 : (Op.equalIn (d + 1) 61 (.int .u32 x2) (.int .u32 y2)).run Try.prog w = .ok (x2 == y2) w := by go_simp
  have p0 : ∀ a b c : Int, (part 61 #[.int .u32 a, .int .u32 b, .int .u32 c] (0 * 1)).run Try.prog w = .ok (.int .u32 a) w := fun a b c => by go_simp
  have p1 : ∀ a b c : Int, (part 61 #[.int .u32 a, .int .u32 b, .int .u32 c] (1 * 1)).run Try.prog w = .ok (.int .u32 b) w := fun a b c => by go_simp
  have p2 : ∀ a b c : Int, (part 61 #[.int .u32 a, .int .u32 b, .int .u32 c] (2 * 1)).run Try.prog w = .ok (.int .u32 c) w := fun a b c => by go_simp
  simp only [show List.range 3 = [0, 1, 2] from rfl, Op.eqItems, Sem.run_bind, p0, p1, p2, h0, h1, h2, Result.andThen_ok]
  have q1 : ∀ a b c : Int, (part 61 #[.int .u32 a, .int .u32 b, .int .u32 c] 1).run Try.prog w = .ok (.int .u32 b) w := p1
  have q2 : ∀ a b c : Int, (part 61 #[.int .u32 a, .int .u32 b, .int .u32 c] 2).run Try.prog w = .ok (.int .u32 c) w := p2
  cases hx : (x0 == y0) <;> cases hy : (x1 == y1) <;> cases hz : (x2 == y2) <;> simp [hx, hy, hz, q1, q2, h1, h2]
attribute [local go_sem high] words_eq

set_option maxHeartbeats 4000000 in
theorem vendmeterbig_Int_BitLen.calls (w : World) (x : Nat) (a : Int) (hx : BigA w x a) (ha : a < W32 1000) :
    Calls Try.prog 100 #[.pointer (some ⟨x, 0, none⟩)] w fun e w' => (∃ r : Nat, e = .returned (.int .i64 (r : Int)) ∧ a < ((2 ^ r : Nat) : Int) ∧ (0 < a → ((2 ^ (r - 1) : Nat) : Int) ≤ a ∧ 0 < r)) ∧ Drawn0 w w' := by
  obtain ⟨Ax, cx, lx, hx1, hx2, hx3, hx4⟩ := hx
  have lbx := hx4.len_le ha
  obtain ⟨r, t1, t2, t3⟩ := wlength_ev hx4 (by omega)
  obtain ⟨kl, ht⟩ := Ev.rounds t1
  have HT := Aside0.mk ht
  have x1 : w.cell? ⟨x, 1, none⟩ = some (.slice Ax lx.length cx) := (blk_cell hx1 1).trans rfl
  have HCX := Aside0.mk hx2
  clear hx1 hx2 ht t1
  go_enter Try.func100, Try.ntmps100
  go_wp2_with (go_at_call 133; refine (vendmeterbig_length.calls kl _ _ lx _ _ (WC.c HCX.out) hx3 HT.out).mono ?_; rintro e w1 ⟨rfl, hd⟩; have HD := Aside0.mk hd; clear hd)
  go_ret
  exact ⟨⟨r, rfl, t2, t3⟩, HD.out⟩


theorem w32b {x : Int} (h : 0 ≤ x ∧ x < 4294967296) : x % 4294967296 = x := Int.emod_eq_of_lt h.1 h.2
theorem wmulb {x m : Int} (hx : 0 ≤ x ∧ x < 4294967296) (hm : 0 ≤ m ∧ m < 4294967296) : 0 ≤ x * m ∧ x * m ≤ 18446744065119617025 := ⟨Int.mul_nonneg hx.1 hm.1, Int.mul_le_mul (show x ≤ 4294967295 by omega) (show m ≤ 4294967295 by omega) hm.1 (by decide)⟩
def upC (f : Int → Int → Int) (w0 w1 w2 c : Int) : Nat → Int
  | 0 => c
  | 1 => f w0 c / 4294967296
  | 2 => f w1 (f w0 c / 4294967296) / 4294967296
  | _ => f w2 (f w1 (f w0 c / 4294967296) / 4294967296) / 4294967296
def upB (f : Int → Int → Int) (w0 w1 w2 c : Int) : Nat → Array Value
  | 0 => #[.int .u32 w0, .int .u32 w1, .int .u32 w2]
  | 1 => #[.int .u32 (f w0 c % 4294967296), .int .u32 w1, .int .u32 w2]
  | 2 => #[.int .u32 (f w0 c % 4294967296), .int .u32 (f w1 (upC f w0 w1 w2 c 1) % 4294967296), .int .u32 w2]
  | _ => #[.int .u32 (f w0 c % 4294967296), .int .u32 (f w1 (upC f w0 w1 w2 c 1) % 4294967296), .int .u32 (f w2 (upC f w0 w1 w2 c 2) % 4294967296)]
theorem upC_step (f : Int → Int → Int) (w0 w1 w2 c : Int) (i : Nat) (hi : i < 3) : upC f w0 w1 w2 c (i + 1) = f ([w0, w1, w2].getD i 0) (upC f w0 w1 w2 c i) / 4294967296 := by
  match i, hi with
  | 0, _ => rfl
  | 1, _ => rfl
  | 2, _ => rfl
theorem upB_at (f : Int → Int → Int) (w0 w1 w2 c : Int) (i : Nat) (hi : i < 3) : (upB f w0 w1 w2 c i)[i]? = some (.int .u32 ([w0, w1, w2].getD i 0)) := by
  match i, hi with
  | 0, _ => rfl
  | 1, _ => rfl
  | 2, _ => rfl
theorem upB_step (f : Int → Int → Int) (w0 w1 w2 c : Int) (i : Nat) (hi : i < 3) : (upB f w0 w1 w2 c i).setIfInBounds i (.int .u32 (f ([w0, w1, w2].getD i 0) (upC f w0 w1 w2 c i) % 4294967296)) = upB f w0 w1 w2 c (i + 1) := by
  match i, hi with
  | 0, _ => rfl
  | 1, _ => rfl
  | 2, _ => rfl
theorem w3_at {w0 w1 w2 : Int} (h0 : 0 ≤ w0 ∧ w0 < 4294967296) (h1 : 0 ≤ w1 ∧ w1 < 4294967296) (h2 : 0 ≤ w2 ∧ w2 < 4294967296) (i : Nat) (hi : i < 3) : 0 ≤ [w0, w1, w2].getD i 0 ∧ [w0, w1, w2].getD i 0 < 4294967296 := by
  match i, hi with
  | 0, _ => exact h0
  | 1, _ => exact h1
  | 2, _ => exact h2
theorem upC_bd (f : Int → Int → Int) (hf : ∀ x c, (0 ≤ x ∧ x < 4294967296) → (0 ≤ c ∧ c < 4294967296) → 0 ≤ f x c ∧ f x c < 18446744073709551616) {w0 w1 w2 c : Int} (h0 : 0 ≤ w0 ∧ w0 < 4294967296) (h1 : 0 ≤ w1 ∧ w1 < 4294967296) (h2 : 0 ≤ w2 ∧ w2 < 4294967296) (hc : 0 ≤ c ∧ c < 4294967296) : ∀ i, i ≤ 3 → 0 ≤ upC f w0 w1 w2 c i ∧ upC f w0 w1 w2 c i < 4294967296
  | 0, _ => hc
  | i + 1, hi => by
    rw [upC_step f w0 w1 w2 c i (by omega)]
    have := hf _ _ (w3_at h0 h1 h2 i (by omega)) (upC_bd f hf h0 h1 h2 hc i (by omega))
    omega

set_option maxHeartbeats 4000000 in
theorem words_Plus1.calls (w : World) (x c : Int) (hx : 0 ≤ x ∧ x < 4294967296) (hc : 0 ≤ c ∧ c < 4294967296) :
    Calls Try.prog 76 #[.int .u32 x, .int .u32 c] w fun e w' => e = .returned (.tuple #[.int .u32 ((x + c) % 4294967296), .int .u32 ((x + c) / 4294967296)]) ∧ w' = w := by
  have e1 : IntKind.u64.wrap (IntKind.u64.wrap x + IntKind.u64.wrap c) = x + c := by rw [wu64 (a := x) ⟨hx.1, by omega⟩, wu64 (a := c) ⟨hc.1, by omega⟩, wu64 ⟨by omega, by omega⟩]
  have E1 := Aside0.mk e1
  have HX := Aside0.mk (And.intro hx hc)
  clear e1 hx hc
  go_enter Try.func76, Try.ntmps76
  go_wp2
  go_ret2
  refine ⟨?_, rfl⟩
  obtain ⟨hx, hc⟩ := HX.out
  have e2 : (x + c) / 4294967296 % 4294967296 = (x + c) / 4294967296 := w32b ⟨by omega, by omega⟩
  have e1 := E1.out
  have z0 : IntKind.u64.wrap 0 = 0 := by decide
  have e3 : IntKind.u64.wrap (x + c) = x + c := wu64 ⟨by omega, by omega⟩
  simp [e1, e2, e3, z0]

set_option maxHeartbeats 8000000 in
set_option maxRecDepth 100000 in
theorem words_up.plus (w : World) (w0 w1 w2 c : Int) (h0 : 0 ≤ w0 ∧ w0 < 4294967296) (h1 : 0 ≤ w1 ∧ w1 < 4294967296) (h2 : 0 ≤ w2 ∧ w2 < 4294967296) (hc : 0 ≤ c ∧ c < 4294967296) :
    Calls Try.prog 75 #[.agg #[.int .u32 w0, .int .u32 w1, .int .u32 w2], .int .u32 c, .func (.func 76) #[] #[]] w fun e w' => e = .returned (.tuple #[.agg (upB (fun x c => x + c) w0 w1 w2 c 3), .int .u32 (upC (fun x c => x + c) w0 w1 w2 c 3)]) ∧ Below w.heap.size w w' := by
  have hu63 := Try.underlying63
  have HCB := Aside0.mk (upC_bd (fun x c => x + c) (fun x c hx hc => ⟨by omega, by omega⟩) h0 h1 h2 hc)
  have HW := Aside0.mk (w3_at h0 h1 h2)
  have B2 := blk_alloc (blk_new w (.cells #[.int .u32 w0, .int .u32 w1, .int .u32 w2] 63)) (.cells #[.int .u32 0, .int .u32 0, .int .u32 0] 63)
  have B4 := blk_new (w.alloc (.cells #[.int .u32 w0, .int .u32 w1, .int .u32 w2] 63)) (.cells #[.int .u32 0, .int .u32 0, .int .u32 0] 63)
  have hb2 := below_alloc (below_alloc (Below.refl w.heap.size w) (.cells #[.int .u32 w0, .int .u32 w1, .int .u32 w2] 63)) (.cells #[.int .u32 0, .int .u32 0, .int .u32 0] 63)
  rw [World.size_alloc] at B4
  clear h0 h1 h2 hc
  go_enter Try.func75, Try.ntmps75
  go_wp2
  go_loopg [1, 9] 3 (fun kq v1 v9 w' => ∃ i : Nat, v1 = .int .u32 (upC (fun x c => x + c) w0 w1 w2 c i) ∧ v9 = .int .i64 (i : Int) ∧ i ≤ 3 ∧ kq = 3 - i ∧ Aside0 (w'.heap[w.heap.size]? = some (.cells (upB (fun x c => x + c) w0 w1 w2 c i) 63 (0, 0))) ∧ Aside0 (w'.heap[w.heap.size + 1]? = some (.cells #[.int .u32 0, .int .u32 0, .int .u32 0] 63 (0, 0))) ∧ Aside0 (Below w.heap.size w w'))
  case atStart => exact ⟨0, rfl, rfl, by decide, rfl, ⟨B2⟩, ⟨B4⟩, ⟨hb2⟩⟩
  case round =>
    clear B2 B4 hb2
    obtain ⟨i, rfl, rfl, hi, rfl, B2, B4, HB⟩ := hrel
    by_cases hlt : i < 3
    · have hltb : decide (i < 3) = true := decide_eq_true hlt
      have hcb := HCB.out i hi
      have hwb := HW.out i hlt
      obtain ⟨x, hx⟩ : ∃ x, [w0, w1, w2].getD i 0 = x := ⟨_, rfl⟩
      obtain ⟨ci, hci⟩ : ∃ ci, upC (fun x c => x + c) w0 w1 w2 c i = ci := ⟨_, rfl⟩
      have hc3 : wr.cell? ⟨w.heap.size, i, none⟩ = some (.int .u32 x) := by rw [blk_cell B2.out i, upB_at _ _ _ _ _ i hlt, hx]
      have hf3 := blk_frozen B2.out i
      rw [hx] at hwb
      rw [hci] at hcb ⊢
      have HXC := Aside0.mk (And.intro hx hci)
      have HBD := Aside0.mk (And.intro hwb hcb)
      clear hx hci hwb hcb
      go_wp2_with (go_at_call 76; refine (words_Plus1.calls _ x ci HBD.out.1 HBD.out.2).mono ?_; rintro e wq ⟨rfl, rfl⟩)
      go_roundg (3 - (i + 1))
      case measure => omega
      case rel =>
        refine ⟨i + 1, by rw [upC_step _ _ _ _ _ i hlt, HXC.out.1, HXC.out.2], by first | rfl | simp, by omega, rfl, ⟨?_⟩, ⟨blk_far B4.out (p := ⟨w.heap.size, i, none⟩) (by simp) _⟩, ⟨below_set HB.out (Nat.le_refl _)⟩⟩
        rw [← upB_step _ _ _ _ _ i hlt, HXC.out.1, HXC.out.2]
        exact blk_set B2.out i _
    · have hltb : decide (i < 3) = false := decide_eq_false hlt
      obtain rfl : i = 3 := by omega
      obtain ⟨e0, e1, e2, hE⟩ : ∃ e0 e1 e2, upB (fun x c => x + c) w0 w1 w2 c 3 = #[e0, e1, e2] ∧ e0.oneCell' = true ∧ e1.oneCell' = true ∧ e2.oneCell' = true := ⟨_, _, _, rfl, rfl, rfl, rfl⟩
      obtain ⟨hE, o0, o1, o2⟩ := hE
      rw [hE] at B2
      have HE := Aside0.mk hE
      have x0 : wr.cell? ⟨w.heap.size, 0, none⟩ = some e0 := (blk_cell B2.out 0).trans rfl
      have x1 : wr.cell? ⟨w.heap.size, 1, none⟩ = some e1 := (blk_cell B2.out 1).trans rfl
      have x2 : wr.cell? ⟨w.heap.size, 2, none⟩ = some e2 := (blk_cell B2.out 2).trans rfl
      have O := Aside0.mk (And.intro o0 (And.intro o1 o2))
      clear o0 o1 o2 hE
      go_wp2_with ((with_reducible refine gate_store (t := 63) (p := 6) rfl ?_); refine seg.list rfl rfl 63 (.tmp 6) _ rfl 63 (w.heap.size + 1) 0 #[.int .u32 0, .int .u32 0, .int .u32 0] #[e0, e1, e2] [e0, e1, e2] rfl rfl (by kernel_rfl) (by simp [O.out.1, O.out.2.1, O.out.2.2]) B4.out (by simp) rfl ?_; intro w9 bx hgr)
      refine bodyPost_ret (results_ct (p := 6) (u := 7) rfl _ w9 (w.heap.size + 1) 63 _ (0, 0) _ rfl bx Try.underlying63 rfl (by kernel_rfl)) rfl ?_
      exact ⟨by rw [HE.out]; rfl, seg.below HB.out hgr (Nat.le_succ _)⟩
theorem up_plus (w0 w1 w2 a : Int) (h0 : 0 ≤ w0 ∧ w0 < 4294967296) (h1 : 0 ≤ w1 ∧ w1 < 4294967296) (h2 : 0 ≤ w2 ∧ w2 < 4294967296) (ha : 0 ≤ a ∧ a < 4294967296) : upB (fun x c => x + c) w0 w1 w2 a 3 = #[.int .u32 ((wval [w0, w1, w2] + a) % 4294967296), .int .u32 ((wval [w0, w1, w2] + a) / 4294967296 % 4294967296), .int .u32 ((wval [w0, w1, w2] + a) / 18446744073709551616 % 4294967296)] ∧ upC (fun x c => x + c) w0 w1 w2 a 3 = (wval [w0, w1, w2] + a) / 79228162514264337593543950336 % 4294967296 := by
  have e : wval [w0, w1, w2] + a = w0 + 4294967296 * w1 + 18446744073709551616 * w2 + a := by simp only [wval]; omega
  rw [e]
  simp only [upB, upC]
  rw [show (w0 + a) % 4294967296 = (w0 + 4294967296 * w1 + 18446744073709551616 * w2 + a) % 4294967296 by omega, show (w1 + (w0 + a) / 4294967296) % 4294967296 = (w0 + 4294967296 * w1 + 18446744073709551616 * w2 + a) / 4294967296 % 4294967296 by omega, show (w2 + (w1 + (w0 + a) / 4294967296) / 4294967296) % 4294967296 = (w0 + 4294967296 * w1 + 18446744073709551616 * w2 + a) / 18446744073709551616 % 4294967296 by omega]
  exact ⟨rfl, by omega⟩
set_option maxHeartbeats 4000000 in
set_option maxRecDepth 100000 in
theorem words_Plus.calls (w : World) (w0 w1 w2 a : Int) (h0 : 0 ≤ w0 ∧ w0 < 4294967296) (h1 : 0 ≤ w1 ∧ w1 < 4294967296) (h2 : 0 ≤ w2 ∧ w2 < 4294967296) (ha : 0 ≤ a ∧ a < 4294967296) :
    Calls Try.prog 34 #[.agg #[.int .u32 w0, .int .u32 w1, .int .u32 w2], .int .u32 a] w fun e w' => e = .returned (.tuple #[.agg #[.int .u32 ((wval [w0, w1, w2] + a) % 4294967296), .int .u32 ((wval [w0, w1, w2] + a) / 4294967296 % 4294967296), .int .u32 ((wval [w0, w1, w2] + a) / 18446744073709551616 % 4294967296)], .int .u32 ((wval [w0, w1, w2] + a) / 79228162514264337593543950336 % 4294967296)]) ∧ Below w.heap.size w w' := by
  have hu63 := Try.underlying63
  obtain ⟨e1, e2⟩ := up_plus w0 w1 w2 a h0 h1 h2 ha
  have B0 := blk_alloc (blk_new w (.cells #[.int .u32 w0, .int .u32 w1, .int .u32 w2] 63)) (.cells #[.int .u32 0, .int .u32 0, .int .u32 0] 63)
  have B1 := blk_new (w.alloc (.cells #[.int .u32 w0, .int .u32 w1, .int .u32 w2] 63)) (.cells #[.int .u32 0, .int .u32 0, .int .u32 0] 63)
  rw [World.size_alloc] at B1
  have HB := Aside0.mk (below_alloc (below_alloc (Below.refl w.heap.size w) (.cells #[.int .u32 w0, .int .u32 w1, .int .u32 w2] 63)) (.cells #[.int .u32 0, .int .u32 0, .int .u32 0] 63))
  have HB0 := Aside0.mk B0
  have HB1 := Aside0.mk B1
  clear B0 B1
  have HU := Aside0.mk (words_up.plus ((w.alloc (.cells #[.int .u32 w0, .int .u32 w1, .int .u32 w2] 63)).alloc (.cells #[.int .u32 0, .int .u32 0, .int .u32 0] 63)) w0 w1 w2 a h0 h1 h2 ha)
  rw [e1, e2] at HU
  clear h0 h1 h2 ha e1 e2
  go_enter Try.func34, Try.ntmps34
  go_wp2_with (first | (go_at_call 75; refine HU.out.mono ?_; rintro e wq ⟨rfl, hb⟩; have HB2 := Aside0.mk (below_then HB.out HB.out.size hb); have HBR := Aside0.mk (blk_below HB1.out hb); clear hb) | ((with_reducible refine gate_store (t := 63) (p := 4) rfl ?_); refine seg.list rfl rfl 63 (.tmp 4) _ rfl 63 (w.heap.size + 1) 0 #[.int .u32 0, .int .u32 0, .int .u32 0] #[.int .u32 ((wval [w0, w1, w2] + a) % 4294967296), .int .u32 ((wval [w0, w1, w2] + a) / 4294967296 % 4294967296), .int .u32 ((wval [w0, w1, w2] + a) / 18446744073709551616 % 4294967296)] [.int .u32 ((wval [w0, w1, w2] + a) % 4294967296), .int .u32 ((wval [w0, w1, w2] + a) / 4294967296 % 4294967296), .int .u32 ((wval [w0, w1, w2] + a) / 18446744073709551616 % 4294967296)] rfl rfl (by kernel_rfl) (by simp [Value.oneCell']) HBR.out (by simp) rfl ?_; intro w9 bx hgr))
  refine bodyPost_ret (results_ct (p := 4) (u := 5) rfl _ w9 (w.heap.size + 1) 63 _ (0, 0) _ rfl bx Try.underlying63 rfl (by kernel_rfl)) rfl ?_
  exact ⟨rfl, seg.below HB2.out hgr (by omega)⟩

set_option maxHeartbeats 4000000 in
theorem words_Times1.calls (w : World) (x c m : Int) (g : Nat) (hg : w.cell? ⟨g, 0, none⟩ = some (.int .u32 m)) (hx : 0 ≤ x ∧ x < 4294967296) (hc : 0 ≤ c ∧ c < 4294967296) (hm : 0 ≤ m ∧ m < 4294967296) :
    Calls Try.prog 82 #[.int .u32 x, .int .u32 c, .pointer (some ⟨g, 0, none⟩)] w fun e w' => e = .returned (.tuple #[.int .u32 ((x * m + c) % 4294967296), .int .u32 ((x * m + c) / 4294967296)]) ∧ w' = w := by
  obtain ⟨b0, b1⟩ := wmulb hx hm
  obtain ⟨q, hq⟩ : ∃ q, x * m = q := ⟨_, rfl⟩
  rw [hq] at b0 b1 ⊢
  have e1 : IntKind.u64.wrap (IntKind.u64.wrap x * IntKind.u64.wrap m) = q := by rw [wu64 (a := x) ⟨hx.1, by omega⟩, wu64 (a := m) ⟨hm.1, by omega⟩, hq, wu64 ⟨b0, by omega⟩]
  have e2 : IntKind.u64.wrap (q % 4294967296 + IntKind.u64.wrap c) = q % 4294967296 + c := by rw [wu64 (a := c) ⟨hc.1, by omega⟩, wu64 ⟨by omega, by omega⟩]
  have HX := Aside0.mk (And.intro hc (And.intro b0 (And.intro b1 e2)))
  clear hx hc hm hq b0 b1 e2
  go_enter Try.func82, Try.ntmps82
  go_wp2
  go_ret2
  refine ⟨?_, rfl⟩
  obtain ⟨hc, b0, b1, e2⟩ := HX.out
  have z0 : IntKind.u64.wrap 0 = 0 := by decide
  have e3 : IntKind.u64.wrap (q % 4294967296 + c) = q % 4294967296 + c := wu64 ⟨by omega, by omega⟩
  have e4 : (q % 4294967296 + c) % 4294967296 = (q + c) % 4294967296 := by omega
  have e6 : (q / 4294967296 + (q % 4294967296 + c) / 4294967296) % 4294967296 = (q + c) / 4294967296 := by omega
  have e7 : q / 4294967296 % 4294967296 = q / 4294967296 := by omega
  have e8 : (q % 4294967296 + c) / 4294967296 % 4294967296 = (q % 4294967296 + c) / 4294967296 := by omega
  simp
  rw [e2, e3, e4]
  exact ⟨rfl, by first | exact e6 | (rw [e7, e8]; exact e6)⟩
set_option maxHeartbeats 8000000 in
set_option maxRecDepth 100000 in
theorem words_up.times (w : World) (w0 w1 w2 c m : Int) (gm : Nat) (hgm : w.heap[gm]? = some (.cells #[.int .u32 m] 61 (0, 0))) (h0 : 0 ≤ w0 ∧ w0 < 4294967296) (h1 : 0 ≤ w1 ∧ w1 < 4294967296) (h2 : 0 ≤ w2 ∧ w2 < 4294967296) (hc : 0 ≤ c ∧ c < 4294967296) (hm : 0 ≤ m ∧ m < 4294967296) :
    Calls Try.prog 75 #[.agg #[.int .u32 w0, .int .u32 w1, .int .u32 w2], .int .u32 c, .func (.func 82) #[] #[.pointer (some ⟨gm, 0, none⟩)]] w fun e w' => e = .returned (.tuple #[.agg (upB (fun x c => x * m + c) w0 w1 w2 c 3), .int .u32 (upC (fun x c => x * m + c) w0 w1 w2 c 3)]) ∧ Below w.heap.size w w' := by
  have hu63 := Try.underlying63
  have HCB := Aside0.mk (upC_bd (fun x c => x * m + c) (fun x c hx hc => ⟨by have := wmulb hx hm; omega, by have := wmulb hx hm; omega⟩) h0 h1 h2 hc)
  have HW := Aside0.mk (w3_at h0 h1 h2)
  have B2 := blk_alloc (blk_new w (.cells #[.int .u32 w0, .int .u32 w1, .int .u32 w2] 63)) (.cells #[.int .u32 0, .int .u32 0, .int .u32 0] 63)
  have B4 := blk_new (w.alloc (.cells #[.int .u32 w0, .int .u32 w1, .int .u32 w2] 63)) (.cells #[.int .u32 0, .int .u32 0, .int .u32 0] 63)
  have hb2 := below_alloc (below_alloc (Below.refl w.heap.size w) (.cells #[.int .u32 w0, .int .u32 w1, .int .u32 w2] 63)) (.cells #[.int .u32 0, .int .u32 0, .int .u32 0] 63)
  rw [World.size_alloc] at B4
  clear h0 h1 h2 hc
  go_enter Try.func75, Try.ntmps75
  go_wp2
  go_loopg [1, 9] 3 (fun kq v1 v9 w' => ∃ i : Nat, v1 = .int .u32 (upC (fun x c => x * m + c) w0 w1 w2 c i) ∧ v9 = .int .i64 (i : Int) ∧ i ≤ 3 ∧ kq = 3 - i ∧ Aside0 (w'.heap[w.heap.size]? = some (.cells (upB (fun x c => x * m + c) w0 w1 w2 c i) 63 (0, 0))) ∧ Aside0 (w'.heap[w.heap.size + 1]? = some (.cells #[.int .u32 0, .int .u32 0, .int .u32 0] 63 (0, 0))) ∧ Aside0 (Below w.heap.size w w'))
  case atStart => exact ⟨0, rfl, rfl, by decide, rfl, ⟨B2⟩, ⟨B4⟩, ⟨hb2⟩⟩
  case round =>
    clear B2 B4 hb2
    obtain ⟨i, rfl, rfl, hi, rfl, B2, B4, HB⟩ := hrel
    by_cases hlt : i < 3
    · have hltb : decide (i < 3) = true := decide_eq_true hlt
      have hcb := HCB.out i hi
      have hwb := HW.out i hlt
      obtain ⟨x, hx⟩ : ∃ x, [w0, w1, w2].getD i 0 = x := ⟨_, rfl⟩
      obtain ⟨ci, hci⟩ : ∃ ci, upC (fun x c => x * m + c) w0 w1 w2 c i = ci := ⟨_, rfl⟩
      have hc3 : wr.cell? ⟨w.heap.size, i, none⟩ = some (.int .u32 x) := by rw [blk_cell B2.out i, upB_at _ _ _ _ _ i hlt, hx]
      have hf3 := blk_frozen B2.out i
      rw [hx] at hwb
      rw [hci] at hcb ⊢
      have HXC := Aside0.mk (And.intro hx hci)
      have HBD := Aside0.mk (And.intro hwb hcb)
      clear hx hci hwb hcb
      go_wp2_with (go_at_call 82; refine (words_Times1.calls _ x ci m gm ((blk_cell (blk_below hgm HB.out) 0).trans rfl) HBD.out.1 HBD.out.2 hm).mono ?_; rintro e wq ⟨rfl, rfl⟩)
      go_roundg (3 - (i + 1))
      case measure => omega
      case rel =>
        refine ⟨i + 1, by rw [upC_step _ _ _ _ _ i hlt, HXC.out.1, HXC.out.2], by first | rfl | simp, by omega, rfl, ⟨?_⟩, ⟨blk_far B4.out (p := ⟨w.heap.size, i, none⟩) (by simp) _⟩, ⟨below_set HB.out (Nat.le_refl _)⟩⟩
        rw [← upB_step _ _ _ _ _ i hlt, HXC.out.1, HXC.out.2]
        exact blk_set B2.out i _
    · have hltb : decide (i < 3) = false := decide_eq_false hlt
      obtain rfl : i = 3 := by omega
      obtain ⟨e0, e1, e2, hE⟩ : ∃ e0 e1 e2, upB (fun x c => x * m + c) w0 w1 w2 c 3 = #[e0, e1, e2] ∧ e0.oneCell' = true ∧ e1.oneCell' = true ∧ e2.oneCell' = true := ⟨_, _, _, rfl, rfl, rfl, rfl⟩
      obtain ⟨hE, o0, o1, o2⟩ := hE
      rw [hE] at B2
      have HE := Aside0.mk hE
      have x0 : wr.cell? ⟨w.heap.size, 0, none⟩ = some e0 := (blk_cell B2.out 0).trans rfl
      have x1 : wr.cell? ⟨w.heap.size, 1, none⟩ = some e1 := (blk_cell B2.out 1).trans rfl
      have x2 : wr.cell? ⟨w.heap.size, 2, none⟩ = some e2 := (blk_cell B2.out 2).trans rfl
      have O := Aside0.mk (And.intro o0 (And.intro o1 o2))
      clear o0 o1 o2 hE
      go_wp2_with ((with_reducible refine gate_store (t := 63) (p := 6) rfl ?_); refine seg.list rfl rfl 63 (.tmp 6) _ rfl 63 (w.heap.size + 1) 0 #[.int .u32 0, .int .u32 0, .int .u32 0] #[e0, e1, e2] [e0, e1, e2] rfl rfl (by kernel_rfl) (by simp [O.out.1, O.out.2.1, O.out.2.2]) B4.out (by simp) rfl ?_; intro w9 bx hgr)
      refine bodyPost_ret (results_ct (p := 6) (u := 7) rfl _ w9 (w.heap.size + 1) 63 _ (0, 0) _ rfl bx Try.underlying63 rfl (by kernel_rfl)) rfl ?_
      exact ⟨by rw [HE.out]; rfl, seg.below HB.out hgr (Nat.le_succ _)⟩
theorem up_times (w0 w1 w2 m : Int) (h0 : 0 ≤ w0 ∧ w0 < 4294967296) (h1 : 0 ≤ w1 ∧ w1 < 4294967296) (h2 : 0 ≤ w2 ∧ w2 < 4294967296) (hm : 0 ≤ m ∧ m < 4294967296) : upB (fun x c => x * m + c) w0 w1 w2 0 3 = #[.int .u32 ((wval [w0, w1, w2] * m) % 4294967296), .int .u32 ((wval [w0, w1, w2] * m) / 4294967296 % 4294967296), .int .u32 ((wval [w0, w1, w2] * m) / 18446744073709551616 % 4294967296)] ∧ upC (fun x c => x * m + c) w0 w1 w2 0 3 = (wval [w0, w1, w2] * m) / 79228162514264337593543950336 % 4294967296 := by
  have b0 := wmulb h0 hm
  have b1 := wmulb h1 hm
  have b2 := wmulb h2 hm
  have e : wval [w0, w1, w2] * m = w0 * m + 4294967296 * (w1 * m) + 18446744073709551616 * (w2 * m) := by simp only [wval]; grind
  rw [e]
  simp only [upB, upC]
  generalize w0 * m = p0 at *
  generalize w1 * m = p1 at *
  generalize w2 * m = p2 at *
  rw [show (p0 + 0) % 4294967296 = (p0 + 4294967296 * p1 + 18446744073709551616 * p2) % 4294967296 by omega, show (p1 + (p0 + 0) / 4294967296) % 4294967296 = (p0 + 4294967296 * p1 + 18446744073709551616 * p2) / 4294967296 % 4294967296 by omega, show (p2 + (p1 + (p0 + 0) / 4294967296) / 4294967296) % 4294967296 = (p0 + 4294967296 * p1 + 18446744073709551616 * p2) / 18446744073709551616 % 4294967296 by omega]
  exact ⟨rfl, by omega⟩
set_option maxHeartbeats 4000000 in
set_option maxRecDepth 100000 in
theorem words_Times.calls (w : World) (w0 w1 w2 m : Int) (h0 : 0 ≤ w0 ∧ w0 < 4294967296) (h1 : 0 ≤ w1 ∧ w1 < 4294967296) (h2 : 0 ≤ w2 ∧ w2 < 4294967296) (hm : 0 ≤ m ∧ m < 4294967296) :
    Calls Try.prog 36 #[.agg #[.int .u32 w0, .int .u32 w1, .int .u32 w2], .int .u32 m] w fun e w' => e = .returned (.tuple #[.agg #[.int .u32 ((wval [w0, w1, w2] * m) % 4294967296), .int .u32 ((wval [w0, w1, w2] * m) / 4294967296 % 4294967296), .int .u32 ((wval [w0, w1, w2] * m) / 18446744073709551616 % 4294967296)], .int .u32 ((wval [w0, w1, w2] * m) / 79228162514264337593543950336 % 4294967296)]) ∧ Below w.heap.size w w' := by
  have hu63 := Try.underlying63
  obtain ⟨e1, e2⟩ := up_times w0 w1 w2 m h0 h1 h2 hm
  have B0 := blk_alloc (blk_alloc (blk_new w (.cells #[.int .u32 w0, .int .u32 w1, .int .u32 w2] 63)) (.cells #[.int .u32 m] 61)) (.cells #[.int .u32 0, .int .u32 0, .int .u32 0] 63)
  have B1 := blk_alloc (blk_new (w.alloc (.cells #[.int .u32 w0, .int .u32 w1, .int .u32 w2] 63)) (.cells #[.int .u32 m] 61)) (.cells #[.int .u32 0, .int .u32 0, .int .u32 0] 63)
  rw [World.size_alloc] at B1
  have B2 := blk_new ((w.alloc (.cells #[.int .u32 w0, .int .u32 w1, .int .u32 w2] 63)).alloc (.cells #[.int .u32 m] 61)) (.cells #[.int .u32 0, .int .u32 0, .int .u32 0] 63)
  rw [World.size_alloc, World.size_alloc] at B2
  have HB := Aside0.mk (below_alloc (below_alloc (below_alloc (Below.refl w.heap.size w) (.cells #[.int .u32 w0, .int .u32 w1, .int .u32 w2] 63)) (.cells #[.int .u32 m] 61)) (.cells #[.int .u32 0, .int .u32 0, .int .u32 0] 63))
  have HB0 := Aside0.mk B0
  have HB1 := Aside0.mk B1
  have HB2 := Aside0.mk B2
  clear B0 B1 B2
  have HU := Aside0.mk (words_up.times (((w.alloc (.cells #[.int .u32 w0, .int .u32 w1, .int .u32 w2] 63)).alloc (.cells #[.int .u32 m] 61)).alloc (.cells #[.int .u32 0, .int .u32 0, .int .u32 0] 63)) w0 w1 w2 0 m (w.heap.size + 1) HB1.out h0 h1 h2 (by decide) hm)
  rw [e1, e2] at HU
  clear h0 h1 h2 hm e1 e2
  go_enter Try.func36, Try.ntmps36
  go_wp2_with (first | (go_at_call 75; refine HU.out.mono ?_; rintro e wq ⟨rfl, hb⟩; have HBB := Aside0.mk (below_then HB.out HB.out.size hb); have HBR := Aside0.mk (blk_below HB2.out hb); clear hb) | ((with_reducible refine gate_store (t := 63) (p := 4) rfl ?_); refine seg.list rfl rfl 63 (.tmp 4) _ rfl 63 (w.heap.size + 1 + 1) 0 #[.int .u32 0, .int .u32 0, .int .u32 0] #[.int .u32 ((wval [w0, w1, w2] * m) % 4294967296), .int .u32 ((wval [w0, w1, w2] * m) / 4294967296 % 4294967296), .int .u32 ((wval [w0, w1, w2] * m) / 18446744073709551616 % 4294967296)] [.int .u32 ((wval [w0, w1, w2] * m) % 4294967296), .int .u32 ((wval [w0, w1, w2] * m) / 4294967296 % 4294967296), .int .u32 ((wval [w0, w1, w2] * m) / 18446744073709551616 % 4294967296)] rfl rfl (by kernel_rfl) (by simp [Value.oneCell']) HBR.out (by simp) rfl ?_; intro w9 bx hgr))
  refine bodyPost_ret (results_ct (p := 4) (u := 5) rfl _ w9 (w.heap.size + 1 + 1) 63 _ (0, 0) _ rfl bx Try.underlying63 rfl (by kernel_rfl)) rfl ?_
  exact ⟨rfl, seg.below HBB.out hgr (by omega)⟩

def rdOk (s : ByteArray) (p : Nat) : Prop := 48 ≤ bt s (p : Int) ∧ bt s (p : Int) ≤ 57
def rdV (s : ByteArray) : Nat → Int
  | 0 => 0
  | i + 1 => rdV s i * 10 + (bt s (i : Int) - 48)
theorem rd_nat (s : ByteArray) (p : Nat) (h : p < s.size) : bt s (p : Int) = ((s[p]'h).toNat : Int) := by
  unfold bt
  rw [dif_pos (show (p : Int).toNat < s.size by simpa using h)]
  simp
theorem rd_ok (s : ByteArray) (p : Nat) (h : p < s.size) (hk : rdOk s p) : Utf8.decode s p = ((bt s (p : Int)).toNat, 1) := by
  unfold rdOk at hk
  rw [rd_nat s p h] at hk
  rw [decode_ascii s p h (by omega), rd_nat s p h]
  simp
theorem rd_no (s : ByteArray) (p : Nat) (h : p < s.size) (hk : ¬ rdOk s p) : ((Utf8.decode s p).1 : Int) < 48 ∨ ((Utf8.decode s p).1 : Int) > 57 := by
  unfold rdOk at hk
  rw [rd_nat s p h] at hk
  by_cases h8 : (s[p]'h).toNat < 128
  · rw [decode_ascii s p h h8]
    dsimp only
    omega
  · have := (decode_high s p h (by omega)).1
    omega
theorem rd_empty (s : ByteArray) : s.toList.isEmpty = decide (s.size = 0) := by
  rw [ByteArray.toList_eq]
  cases h : s.data.toList with
  | nil => have : s.size = 0 := by show s.data.size = 0; rw [← Array.length_toList, h]; rfl
           simp [this]
  | cons a l => have : ¬ s.size = 0 := by intro e; have e2 : s.data.size = 0 := e; rw [← Array.length_toList, h] at e2; simp at e2
                simp [this]
theorem rdV_pos {s : ByteArray} : ∀ {m : Nat}, (∀ j, j < m → rdOk s j) → 0 ≤ rdV s m
  | 0, _ => Int.le_refl _
  | m + 1, h => by
    have h1 := rdV_pos (m := m) (fun j hj => h j (by omega))
    have h2 := h m (by omega)
    unfold rdOk at h2
    simp only [rdV]
    omega
theorem rdV_lt {s : ByteArray} : ∀ {m : Nat}, (∀ j, j < m → rdOk s j) → rdV s m < 10 ^ m
  | 0, _ => by simp [rdV]
  | m + 1, h => by
    have h1 := rdV_lt (m := m) (fun j hj => h j (by omega))
    have h2 := h m (by omega)
    unfold rdOk at h2
    simp only [rdV]
    rw [Int.pow_succ]
    generalize (10 : Int) ^ m = P at *
    omega
theorem rdV_bd {s : ByteArray} {m : Nat} (hm : m ≤ 40) (h : ∀ j, j < m → rdOk s j) : rdV s m < W32 10 := by
  have h1 := rdV_lt h
  have h2 := Nat.pow_le_pow_right (n := 10) (by decide) hm
  have h3 := Int.ofNat_le.2 h2
  rw [Int.natCast_pow, Int.natCast_pow] at h3
  have h4 : (10 : Int) ^ m ≤ 10 ^ 40 := h3
  exact Int.lt_of_lt_of_le h1 (Int.le_trans h4 (by decide))
theorem rd_div2 {x B : Int} (hB : 0 < B) (h : x / B % 4294967296 ≠ 0) (h0 : 0 ≤ x) : B ≤ x := by
  rcases Int.lt_or_le x B with g | g
  · rw [Int.ediv_eq_zero_of_lt h0 g] at h; exact absurd rfl h
  · exact g
theorem rd_div3 {x B : Int} (hB : B = 79228162514264337593543950336) (h0 : B ≤ x) (h1 : x < 1000 * B) : x / B % 4294967296 ≠ 0 := by
  have hp : 0 < B := by omega
  have a : 1 ≤ x / B := (Int.le_ediv_iff_mul_le hp).2 (by omega)
  have b : x / B < 1000 := (Int.ediv_lt_iff_lt_mul hp).2 h1
  omega
theorem rd_overB {U V c B : Int} (hB : B = 79228162514264337593543950336) {ov : Bool} (hV : 0 ≤ V) (hc : 0 ≤ c ∧ c ≤ 9) (hov : ov = decide (B ≤ V)) (hU : ov = false → U = V) (hb : 0 ≤ U ∧ U < B) :
    (ov = true ∨ U * 10 / B % 4294967296 ≠ 0 ∨ (U * 10 % B + c) / B % 4294967296 ≠ 0) = (B ≤ V * 10 + c) := by
  have hp : 0 < B := by omega
  have hm := Int.emod_nonneg (U * 10) (show B ≠ 0 by omega)
  have hm2 := Int.emod_lt_of_pos (U * 10) hp
  refine propext ⟨fun h => ?_, fun h => ?_⟩
  · cases ov with
    | true => have := of_decide_eq_true hov.symm; omega
    | false =>
      have := hU rfl
      subst this
      rcases h with h | h | h
      · cases h
      · have := rd_div2 hp h (by omega); omega
      · have h2 := rd_div2 hp h (by omega)
        rcases Int.lt_or_le (U * 10) B with g | g
        · rw [Int.emod_eq_of_lt (by omega) g] at h2; omega
        · omega
  · cases ov with
    | true => exact .inl rfl
    | false =>
      have := hU rfl
      subst this
      rcases Int.lt_or_le (U * 10) B with g | g
      · rw [Int.emod_eq_of_lt (by omega) g]
        exact .inr (.inr (rd_div3 hB h (by omega)))
      · exact .inr (.inl (rd_div3 hB g (by omega)))
theorem rd_over {U V c : Int} {ov : Bool} (hV : 0 ≤ V) (hc : 0 ≤ c ∧ c ≤ 9) (hov : ov = decide (79228162514264337593543950336 ≤ V)) (hU : ov = false → U = V) (hb : 0 ≤ U ∧ U < 79228162514264337593543950336) :
    (ov = true ∨ U * 10 / 79228162514264337593543950336 % 4294967296 ≠ 0 ∨ (U * 10 % 79228162514264337593543950336 + c) / 79228162514264337593543950336 % 4294967296 ≠ 0) = (79228162514264337593543950336 ≤ V * 10 + c) := rd_overB rfl hV hc hov hU hb
theorem rd_val {v : Int} (h : 0 ≤ v) : wval [v % 4294967296, v / 4294967296 % 4294967296, v / 18446744073709551616 % 4294967296] = v % 79228162514264337593543950336 := by
  simp only [wval]
  omega
set_option maxHeartbeats 4000000 in
set_option maxRecDepth 100000 in
theorem vendmeterbig_Int_BitLen.zero (w : World) (x : Nat) (hx : BigA w x 0) :
    Calls Try.prog 100 #[.pointer (some ⟨x, 0, none⟩)] w fun e w' => e = .returned (.int .i64 0) ∧ Drawn0 w w' := by
  obtain ⟨Ax, cx, lx, hx1, hx2, hx3, hx4⟩ := hx
  have hl : lx.length = 0 := hx4.nil_iff.2 rfl
  have ht : vendmeterbig_length.f 0 lx = some 0 := by unfold vendmeterbig_length.f; rw [if_pos (by omega)]
  have HT := Aside0.mk ht
  have x1 : w.cell? ⟨x, 1, none⟩ = some (.slice Ax lx.length cx) := (blk_cell hx1 1).trans rfl
  have HCX := Aside0.mk hx2
  clear hx1 hx2 ht hl
  go_enter Try.func100, Try.ntmps100
  go_wp2_with (go_at_call 133; refine (vendmeterbig_length.calls 0 _ _ lx _ _ (WC.c HCX.out) hx3 HT.out).mono ?_; rintro e w1 ⟨rfl, hd⟩; have HD := Aside0.mk hd; clear hd)
  go_ret
  exact ⟨rfl, HD.out⟩
theorem rd_bitlen (w : World) (x : Nat) (a : Int) (hx : BigA w x a) (ha : a < W32 1000) :
    Calls Try.prog 100 #[.pointer (some ⟨x, 0, none⟩)] w fun e w' => (∃ r : Nat, e = .returned (.int .i64 (r : Int)) ∧ (96 < r) = (79228162514264337593543950336 ≤ a)) ∧ Drawn0 w w' := by
  have h0 := hx.pos
  rcases Int.lt_or_le 0 a with hp | hp
  · refine (vendmeterbig_Int_BitLen.calls w x a hx ha).mono ?_
    rintro e w1 ⟨⟨r, rfl, h1, h2⟩, hd⟩
    obtain ⟨h3, h4⟩ := h2 hp
    refine ⟨⟨r, rfl, propext ⟨fun h => ?_, fun h => ?_⟩⟩, hd⟩
    · have h5 := Nat.pow_le_pow_right (n := 2) (by decide) (show 96 ≤ r - 1 by omega)
      have h6 := Int.ofNat_le.2 h5
      have e2 : ((2 ^ 96 : Nat) : Int) = 79228162514264337593543950336 := by decide
      omega
    · rcases Nat.lt_or_ge 96 r with g | g
      · exact g
      · have h5 := Nat.pow_le_pow_right (n := 2) (by decide) g
        have h6 := Int.ofNat_le.2 h5
        have e2 : ((2 ^ 96 : Nat) : Int) = 79228162514264337593543950336 := by decide
        omega
  · obtain rfl : a = 0 := by omega
    refine (vendmeterbig_Int_BitLen.zero w x hx).mono ?_
    rintro e w1 ⟨rfl, hd⟩
    exact ⟨⟨0, rfl, propext ⟨fun h => by omega, fun h => by omega⟩⟩, hd⟩
set_option maxHeartbeats 8000000 in
set_option maxRecDepth 100000 in
theorem words_Read.long (w : World) (s : ByteArray) (h : 40 < s.size) :
    Calls Try.prog 46 #[.string s] w fun e w' => e = .returned (.tuple #[.agg #[.int .u32 0, .int .u32 0, .int .u32 0], .int .i64 1]) ∧ Below w.heap.size w w' := by
  have hu63 := Try.underlying63
  have c2b : decide ((s.size : Int) > 40) = true := decide_eq_true (by omega)
  have c2c : decide (s.size > 40) = true := decide_eq_true (by omega)
  have c2d : decide (40 < s.size) = true := decide_eq_true (by omega)
  have HB := Aside0.mk (below_alloc (Below.refl w.heap.size w) (.cells #[.int .u32 0, .int .u32 0, .int .u32 0] 63))
  have HC := Aside0.mk (blk_new w (.cells #[.int .u32 0, .int .u32 0, .int .u32 0] 63))
  clear h
  go_enter Try.func46, Try.ntmps46
  go_wp2_with ((with_reducible refine gate_store (t := 63) (p := 2) rfl ?_); refine seg.list rfl rfl 63 (.tmp 2) _ rfl 63 w.heap.size 0 #[.int .u32 0, .int .u32 0, .int .u32 0] #[.int .u32 0, .int .u32 0, .int .u32 0] [.int .u32 0, .int .u32 0, .int .u32 0] rfl rfl (by kernel_rfl) (by simp [Value.oneCell']) HC.out (by simp) rfl ?_; intro w9 bx hgr)
  refine bodyPost_ret (results_ct (p := 2) (u := 3) rfl _ w9 w.heap.size 63 _ (0, 0) _ rfl bx Try.underlying63 rfl (by kernel_rfl)) rfl ?_
  exact ⟨rfl, seg.below HB.out hgr (Nat.le_refl _)⟩
set_option maxHeartbeats 8000000 in
set_option maxRecDepth 100000 in
theorem words_Read.empty (w : World) (s : ByteArray) (h : s.size = 0) :
    Calls Try.prog 46 #[.string s] w fun e w' => e = .returned (.tuple #[.agg #[.int .u32 0, .int .u32 0, .int .u32 0], .int .i64 3]) ∧ Below w.heap.size w w' := by
  have hu63 := Try.underlying63
  have c2b : decide ((s.size : Int) > 40) = false := decide_eq_false (by omega)
  have c2c : decide (s.size > 40) = false := decide_eq_false (by omega)
  have c2d : decide (40 < s.size) = false := decide_eq_false (by omega)
  have ce : s.toList.isEmpty = true := by rw [rd_empty]; exact decide_eq_true h
  have ce2 : ((s.size : Int) == 0) = true := beq_iff_eq.mpr (by omega)
  have ce3 : (s.size == 0) = true := beq_iff_eq.mpr h
  have HB := Aside0.mk (below_alloc (Below.refl w.heap.size w) (.cells #[.int .u32 0, .int .u32 0, .int .u32 0] 63))
  have HC := Aside0.mk (blk_new w (.cells #[.int .u32 0, .int .u32 0, .int .u32 0] 63))
  clear h
  go_enter Try.func46, Try.ntmps46
  go_wp2_with ((with_reducible refine gate_store (t := 63) (p := 2) rfl ?_); refine seg.list rfl rfl 63 (.tmp 2) _ rfl 63 w.heap.size 0 #[.int .u32 0, .int .u32 0, .int .u32 0] #[.int .u32 0, .int .u32 0, .int .u32 0] [.int .u32 0, .int .u32 0, .int .u32 0] rfl rfl (by kernel_rfl) (by simp [Value.oneCell']) HC.out (by simp) rfl ?_; intro w9 bx hgr)
  refine bodyPost_ret (results_ct (p := 2) (u := 3) rfl _ w9 w.heap.size 63 _ (0, 0) _ rfl bx Try.underlying63 rfl (by kernel_rfl)) rfl ?_
  exact ⟨rfl, seg.below HB.out hgr (Nat.le_refl _)⟩
set_option maxHeartbeats 8000000 in
set_option maxRecDepth 100000 in
theorem words_Read.nought (w : World) (s : ByteArray) (h : s.size ≤ 40) (h1 : 1 < s.size) (h0 : bt s 0 = 48) :
    Calls Try.prog 46 #[.string s] w fun e w' => e = .returned (.tuple #[.agg #[.int .u32 0, .int .u32 0, .int .u32 0], .int .i64 3]) ∧ Below w.heap.size w w' := by
  have hu63 := Try.underlying63
  have c2b : decide ((s.size : Int) > 40) = false := decide_eq_false (by omega)
  have c2c : decide (s.size > 40) = false := decide_eq_false (by omega)
  have c2d : decide (40 < s.size) = false := decide_eq_false (by omega)
  have ce : s.toList.isEmpty = false := by rw [rd_empty]; exact decide_eq_false (by omega)
  have ce2 : ((s.size : Int) == 0) = false := beq_eq_false_iff_ne.mpr (by omega)
  have ce3 : (s.size == 0) = false := beq_eq_false_iff_ne.mpr (by omega)
  have p0 : (0 ≤ (0 : Int)) = True := eq_true (Int.le_refl _)
  have q0 : ((0 : Int) < (s.size : Int)) = True := eq_true (by omega)
  have q1 : (0 < s.size) = True := eq_true (by omega)
  have hs0 : 0 < s.size := by omega
  have hx0 : ((s[0]'hs0).toNat : Int) = bt s 0 := bt_at s 0 hs0
  have d0 : (bt s 0 == 48) = true := by simp [h0]
  have c1 : decide ((s.size : Int) > 1) = true := decide_eq_true (by omega)
  have c1b : decide (1 < s.size) = true := decide_eq_true (by omega)
  have HB := Aside0.mk (below_alloc (Below.refl w.heap.size w) (.cells #[.int .u32 0, .int .u32 0, .int .u32 0] 63))
  have HC := Aside0.mk (blk_new w (.cells #[.int .u32 0, .int .u32 0, .int .u32 0] 63))
  clear h h1 h0
  go_enter Try.func46, Try.ntmps46
  go_wp2_with ((with_reducible refine gate_store (t := 63) (p := 2) rfl ?_); refine seg.list rfl rfl 63 (.tmp 2) _ rfl 63 w.heap.size 0 #[.int .u32 0, .int .u32 0, .int .u32 0] #[.int .u32 0, .int .u32 0, .int .u32 0] [.int .u32 0, .int .u32 0, .int .u32 0] rfl rfl (by kernel_rfl) (by simp [Value.oneCell']) HC.out (by simp) rfl ?_; intro w9 bx hgr)
  refine bodyPost_ret (results_ct (p := 2) (u := 3) rfl _ w9 w.heap.size 63 _ (0, 0) _ rfl bx Try.underlying63 rfl (by kernel_rfl)) rfl ?_
  exact ⟨rfl, seg.below HB.out hgr (Nat.le_refl _)⟩
set_option maxHeartbeats 8000000 in
set_option maxRecDepth 100000 in
theorem vendmeterref_WideRead.long (w : World) (s : ByteArray) (h : 40 < s.size) :
    Calls Try.prog 47 #[.string s] w fun e w' => e = .returned (.tuple #[.agg #[.int .u32 0, .int .u32 0, .int .u32 0], .int .i64 1]) ∧ Below w.heap.size w w' := by
  have hu63 := Try.underlying63
  have c2b : decide ((s.size : Int) > 40) = true := decide_eq_true (by omega)
  have c2c : decide (s.size > 40) = true := decide_eq_true (by omega)
  have c2d : decide (40 < s.size) = true := decide_eq_true (by omega)
  have HB := Aside0.mk (below_alloc (Below.refl w.heap.size w) (.cells #[.int .u32 0, .int .u32 0, .int .u32 0] 63))
  have HC := Aside0.mk (blk_new w (.cells #[.int .u32 0, .int .u32 0, .int .u32 0] 63))
  clear h
  go_enter Try.func47, Try.ntmps47
  go_wp2_with ((with_reducible refine gate_store (t := 63) (p := 2) rfl ?_); refine seg.list rfl rfl 63 (.tmp 2) _ rfl 63 w.heap.size 0 #[.int .u32 0, .int .u32 0, .int .u32 0] #[.int .u32 0, .int .u32 0, .int .u32 0] [.int .u32 0, .int .u32 0, .int .u32 0] rfl rfl (by kernel_rfl) (by simp [Value.oneCell']) HC.out (by simp) rfl ?_; intro w9 bx hgr)
  refine bodyPost_ret (results_ct (p := 2) (u := 3) rfl _ w9 w.heap.size 63 _ (0, 0) _ rfl bx Try.underlying63 rfl (by kernel_rfl)) rfl ?_
  exact ⟨rfl, seg.below HB.out hgr (Nat.le_refl _)⟩
set_option maxHeartbeats 8000000 in
set_option maxRecDepth 100000 in
theorem vendmeterref_WideRead.empty (w : World) (s : ByteArray) (h : s.size = 0) :
    Calls Try.prog 47 #[.string s] w fun e w' => e = .returned (.tuple #[.agg #[.int .u32 0, .int .u32 0, .int .u32 0], .int .i64 3]) ∧ Below w.heap.size w w' := by
  have hu63 := Try.underlying63
  have c2b : decide ((s.size : Int) > 40) = false := decide_eq_false (by omega)
  have c2c : decide (s.size > 40) = false := decide_eq_false (by omega)
  have c2d : decide (40 < s.size) = false := decide_eq_false (by omega)
  have ce : s.toList.isEmpty = true := by rw [rd_empty]; exact decide_eq_true h
  have ce2 : ((s.size : Int) == 0) = true := beq_iff_eq.mpr (by omega)
  have ce3 : (s.size == 0) = true := beq_iff_eq.mpr h
  have HB := Aside0.mk (below_alloc (Below.refl w.heap.size w) (.cells #[.int .u32 0, .int .u32 0, .int .u32 0] 63))
  have HC := Aside0.mk (blk_new w (.cells #[.int .u32 0, .int .u32 0, .int .u32 0] 63))
  clear h
  go_enter Try.func47, Try.ntmps47
  go_wp2_with ((with_reducible refine gate_store (t := 63) (p := 2) rfl ?_); refine seg.list rfl rfl 63 (.tmp 2) _ rfl 63 w.heap.size 0 #[.int .u32 0, .int .u32 0, .int .u32 0] #[.int .u32 0, .int .u32 0, .int .u32 0] [.int .u32 0, .int .u32 0, .int .u32 0] rfl rfl (by kernel_rfl) (by simp [Value.oneCell']) HC.out (by simp) rfl ?_; intro w9 bx hgr)
  refine bodyPost_ret (results_ct (p := 2) (u := 3) rfl _ w9 w.heap.size 63 _ (0, 0) _ rfl bx Try.underlying63 rfl (by kernel_rfl)) rfl ?_
  exact ⟨rfl, seg.below HB.out hgr (Nat.le_refl _)⟩
set_option maxHeartbeats 8000000 in
set_option maxRecDepth 100000 in
theorem vendmeterref_WideRead.nought (w : World) (s : ByteArray) (h : s.size ≤ 40) (h1 : 1 < s.size) (h0 : bt s 0 = 48) :
    Calls Try.prog 47 #[.string s] w fun e w' => e = .returned (.tuple #[.agg #[.int .u32 0, .int .u32 0, .int .u32 0], .int .i64 3]) ∧ Below w.heap.size w w' := by
  have hu63 := Try.underlying63
  have c2b : decide ((s.size : Int) > 40) = false := decide_eq_false (by omega)
  have c2c : decide (s.size > 40) = false := decide_eq_false (by omega)
  have c2d : decide (40 < s.size) = false := decide_eq_false (by omega)
  have ce : s.toList.isEmpty = false := by rw [rd_empty]; exact decide_eq_false (by omega)
  have ce2 : ((s.size : Int) == 0) = false := beq_eq_false_iff_ne.mpr (by omega)
  have ce3 : (s.size == 0) = false := beq_eq_false_iff_ne.mpr (by omega)
  have p0 : (0 ≤ (0 : Int)) = True := eq_true (Int.le_refl _)
  have q0 : ((0 : Int) < (s.size : Int)) = True := eq_true (by omega)
  have q1 : (0 < s.size) = True := eq_true (by omega)
  have hs0 : 0 < s.size := by omega
  have hx0 : ((s[0]'hs0).toNat : Int) = bt s 0 := bt_at s 0 hs0
  have d0 : (bt s 0 == 48) = true := by simp [h0]
  have c1 : decide ((s.size : Int) > 1) = true := decide_eq_true (by omega)
  have c1b : decide (1 < s.size) = true := decide_eq_true (by omega)
  have HB := Aside0.mk (below_alloc (Below.refl w.heap.size w) (.cells #[.int .u32 0, .int .u32 0, .int .u32 0] 63))
  have HC := Aside0.mk (blk_new w (.cells #[.int .u32 0, .int .u32 0, .int .u32 0] 63))
  clear h h1 h0
  go_enter Try.func47, Try.ntmps47
  go_wp2_with ((with_reducible refine gate_store (t := 63) (p := 2) rfl ?_); refine seg.list rfl rfl 63 (.tmp 2) _ rfl 63 w.heap.size 0 #[.int .u32 0, .int .u32 0, .int .u32 0] #[.int .u32 0, .int .u32 0, .int .u32 0] [.int .u32 0, .int .u32 0, .int .u32 0] rfl rfl (by kernel_rfl) (by simp [Value.oneCell']) HC.out (by simp) rfl ?_; intro w9 bx hgr)
  refine bodyPost_ret (results_ct (p := 2) (u := 3) rfl _ w9 w.heap.size 63 _ (0, 0) _ rfl bx Try.underlying63 rfl (by kernel_rfl)) rfl ?_
  exact ⟨rfl, seg.below HB.out hgr (Nat.le_refl _)⟩

def RdEnd (s : ByteArray) (m : Nat) (d0 d1 d2 er : Int) : Prop := (m < s.size → d0 = 0 ∧ d1 = 0 ∧ d2 = 0 ∧ er = 3) ∧ (m = s.size → 79228162514264337593543950336 ≤ rdV s m → d0 = 0 ∧ d1 = 0 ∧ d2 = 0 ∧ er = 2) ∧ (m = s.size → rdV s m < 79228162514264337593543950336 → d0 = rdV s m % 4294967296 ∧ d1 = rdV s m / 4294967296 % 4294967296 ∧ d2 = rdV s m / 18446744073709551616 % 4294967296 ∧ er = 0)

set_option maxHeartbeats 8000000 in
set_option maxRecDepth 100000 in
theorem words_Read.loop (w : World) (s : ByteArray) (h : s.size ≤ 40) (hp : 0 < s.size) (h0 : ¬ (1 < s.size ∧ bt s 0 = 48)) (m : Nat) (hm : m ≤ s.size) (hok : ∀ j, j < m → rdOk s j) (hend : m = s.size ∨ (m < s.size ∧ ¬ rdOk s m)) (d0 d1 d2 er : Int) (hd : RdEnd s m d0 d1 d2 er) :
    Calls Try.prog 46 #[.string s] w fun e w' => e = .returned (.tuple #[.agg #[.int .u32 d0, .int .u32 d1, .int .u32 d2], .int .i64 er]) ∧ Below w.heap.size w w' := by
  have hu63 := Try.underlying63
  have c2b : decide ((s.size : Int) > 40) = false := decide_eq_false (by omega)
  have c2c : decide (s.size > 40) = false := decide_eq_false (by omega)
  have c2d : decide (40 < s.size) = false := decide_eq_false (by omega)
  have ce : s.toList.isEmpty = false := by rw [rd_empty]; exact decide_eq_false (by omega)
  have ce2 : ((s.size : Int) == 0) = false := beq_eq_false_iff_ne.mpr (by omega)
  have ce3 : (s.size == 0) = false := beq_eq_false_iff_ne.mpr (by omega)
  have p0 : (0 ≤ (0 : Int)) = True := eq_true (Int.le_refl _)
  have q0 : ((0 : Int) < (s.size : Int)) = True := eq_true (by omega)
  have q1 : (0 < s.size) = True := eq_true (by omega)
  have hs0 : 0 < s.size := by omega
  have hx0 : ((s[0]'hs0).toNat : Int) = bt s 0 := bt_at s 0 hs0
  have c1 : ((bt s 0 == 48) = false) ∨ ((bt s 0 == 48) = true ∧ decide ((s.size : Int) > 1) = false ∧ decide (1 < s.size) = false) := by
    cases hb : (bt s 0 == 48)
    · exact .inl rfl
    · have : bt s 0 = 48 := by simpa using hb
      have : ¬ 1 < s.size := fun g => h0 ⟨g, this⟩
      exact .inr ⟨rfl, decide_eq_false (by omega), decide_eq_false this⟩
  have HB := Aside0.mk (below_alloc (below_alloc (Below.refl w.heap.size w) (.cells #[.int .u32 0, .int .u32 0, .int .u32 0] 63)) (.cells #[.int .u32 0, .int .u32 0, .int .u32 0] 63))
  have B2 := blk_alloc (blk_new w (.cells #[.int .u32 0, .int .u32 0, .int .u32 0] 63)) (.cells #[.int .u32 0, .int .u32 0, .int .u32 0] 63)
  have B4 := blk_new (w.alloc (.cells #[.int .u32 0, .int .u32 0, .int .u32 0] 63)) (.cells #[.int .u32 0, .int .u32 0, .int .u32 0] 63)
  rw [World.size_alloc] at B4
  have HMM := Aside0.mk (And.intro hp (And.intro h (And.intro hm (And.intro hok (And.intro hend hd)))))
  have HB1 := Aside0.mk ((HB.out).alloc (HB.out.size) (.stringIter s 0))
  have J2 := Aside0.mk (blk_alloc B2 (.stringIter s 0))
  have J4 := Aside0.mk (blk_alloc B4 (.stringIter s 0))
  have hit := World.iter_heap ((w.alloc (.cells #[.int .u32 0, .int .u32 0, .int .u32 0] 63)).alloc (.cells #[.int .u32 0, .int .u32 0, .int .u32 0] 63)) s 0
  rw [World.size_alloc, World.size_alloc] at hit
  have HIT := Aside0.mk hit
  clear h hp h0 hm hok hend hd B2 B4 hit
  go_enter Try.func46, Try.ntmps46
  rcases c1 with c1 | ⟨c1, c1y, c1z⟩
  all_goals (
    go_wp2
    go_loopg [5, 7, 8, 9, 10] m (fun kq v5 v7 v8 v9 v10 w' => ∃ (p : Nat) (x0 x1 x2 : Int) (ov : Bool), v5 = .bool ov ∧ Aside0 (p ≤ m ∧ kq = m - p) ∧ Aside0 ((0 ≤ x0 ∧ x0 < 4294967296) ∧ (0 ≤ x1 ∧ x1 < 4294967296) ∧ (0 ≤ x2 ∧ x2 < 4294967296)) ∧ Aside0 (ov = decide (79228162514264337593543950336 ≤ rdV s p) ∧ (ov = false → wval [x0, x1, x2] = rdV s p)) ∧ w'.heap[w.heap.size + 1 + 1]? = some (.stringIter s p) ∧ Aside0 (w'.heap[w.heap.size + 1]? = some (.cells #[.int .u32 x0, .int .u32 x1, .int .u32 x2] 63 (0, 0))) ∧ Aside0 (w'.heap[w.heap.size]? = some (.cells #[.int .u32 0, .int .u32 0, .int .u32 0] 63 (0, 0))) ∧ Aside0 (Below w.heap.size w w'))
    case atStart => exact ⟨0, 0, 0, 0, false, rfl, ⟨Nat.zero_le _, by omega⟩, ⟨by omega, by omega, by omega⟩, ⟨rfl, fun _ => rfl⟩, HIT.out, J4, J2, HB1⟩
    case round =>
      clear HIT J4 J2 HB1
      obtain ⟨p, x0, x1, x2, ov, rfl, HP, HX, HV, hit, J4, J2, HB⟩ := hrel
      by_cases hpm : p < m
      · have hps : p < s.size := by have := HMM.out.2.2.1; omega
        have hk : rdOk s p := HMM.out.2.2.2.1 p hpm
        have hdc := rd_ok s p hps hk
        have hcc : ((bt s (p : Int)).toNat : Int) = bt s (p : Int) := Int.toNat_of_nonneg (bt_range s p).1
        have hnx : ∀ ty, (Instr.next (.pointer (some ⟨w.heap.size + 1 + 1, 0, none⟩)) true ty).run Try.prog wr = _ := fun ty => Lib.run_next_any_at wr (w.heap.size + 1 + 1) s p ty hit hps
        have hit2 := Lib.iterAt_heap wr (w.heap.size + 1 + 1) s p (p + (Utf8.decode s p).2) hit
        have NB' := Lib.below_iterAt HB.out (k := w.heap.size + 1 + 1) (by omega) s (p + (Utf8.decode s p).2)
        have N4' := (Lib.iterAt_other wr (w.heap.size + 1 + 1) (w.heap.size + 1) s (p + (Utf8.decode s p).2) (by omega)).trans J4.out
        have N2' := (Lib.iterAt_other wr (w.heap.size + 1 + 1) w.heap.size s (p + (Utf8.decode s p).2) (by omega)).trans J2.out
        rw [hdc] at hnx hit2 NB' N4' N2'
        simp only at hnx hit2 NB' N4' N2'
        obtain ⟨W1, hW1⟩ : ∃ W1, W1 = wr.iterAt (w.heap.size + 1 + 1) s (p + 1) := ⟨_, rfl⟩
        rw [← hW1] at hnx hit2 NB' N4' N2'
        obtain ⟨c, hc⟩ : ∃ c, (bt s (p : Int)).toNat = c := ⟨_, rfl⟩
        rw [hc] at hnx hcc
        have hcb : 48 ≤ c ∧ c ≤ 57 := by have := hk.1; have := hk.2; omega
        have t1 : decide ((c : Int) < 48) = false := decide_eq_false (by omega)
        have t2 : decide ((c : Int) > 57) = false := decide_eq_false (by omega)
        have t1n : decide (c < 48) = false := decide_eq_false (by omega)
        have t2n : decide (57 < c) = false := decide_eq_false (by omega)
        have N4 := Aside0.mk N4'
        have N2 := Aside0.mk N2'
        have NB := Aside0.mk NB'
        have HCB := Aside0.mk (And.intro hcb hcc)
        have x0_ : W1.cell? ⟨w.heap.size + 1, 0, none⟩ = some (.int .u32 x0) := (blk_cell N4.out 0).trans rfl
        have x1_ : W1.cell? ⟨w.heap.size + 1, 1, none⟩ = some (.int .u32 x1) := (blk_cell N4.out 1).trans rfl
        have x2_ : W1.cell? ⟨w.heap.size + 1, 2, none⟩ = some (.int .u32 x2) := (blk_cell N4.out 2).trans rfl
        have hU : 0 ≤ wval [x0, x1, x2] ∧ wval [x0, x1, x2] < 79228162514264337593543950336 := by have := HX.out; simp only [wval]; omega
        have hV0 : 0 ≤ rdV s p := rdV_pos (fun j hj => HMM.out.2.2.2.1 j (by have := HP.out.1; omega))
        have hov := rd_over (c := (c : Int) - 48) hV0 (by omega) HV.out.1 HV.out.2 hU
        have hvs : rdV s (p + 1) = rdV s p * 10 + ((c : Int) - 48) := by simp only [rdV]; rw [hcc]
        rw [← hvs] at hov
        have hU0 : 0 ≤ wval [x0, x1, x2] * 10 := by have := hU.1; omega
        obtain ⟨U, hUe⟩ : ∃ U, wval [x0, x1, x2] = U := ⟨_, rfl⟩
        rw [hUe] at hov hU0 hU
        have hvy := rd_val hU0
        obtain ⟨y0, hy0⟩ : ∃ y0, U * 10 % 4294967296 = y0 := ⟨_, rfl⟩
        obtain ⟨y1, hy1⟩ : ∃ y1, U * 10 / 4294967296 % 4294967296 = y1 := ⟨_, rfl⟩
        obtain ⟨y2, hy2⟩ : ∃ y2, U * 10 / 18446744073709551616 % 4294967296 = y2 := ⟨_, rfl⟩
        obtain ⟨k1, hk1⟩ : ∃ k1, U * 10 / 79228162514264337593543950336 % 4294967296 = k1 := ⟨_, rfl⟩
        rw [hy0, hy1, hy2] at hvy
        rw [hk1] at hov
        have HYB := Aside0.mk (show (0 ≤ y0 ∧ y0 < 4294967296) ∧ (0 ≤ y1 ∧ y1 < 4294967296) ∧ (0 ≤ y2 ∧ y2 < 4294967296) by omega)
        have HY := Aside0.mk (And.intro hy0 (And.intro hy1 (And.intro hy2 hk1)))
        obtain ⟨dg, hdg⟩ : ∃ dg : Int, (c : Int) - 48 = dg := ⟨_, rfl⟩
        have hdw : IntKind.i32.wrap ((c : Int) - 48) = dg := by rw [← hdg, IntKind.wrap_i32]; omega
        have hdw2 : wrap32 ((c : Int) - 48) = dg := by rw [← hdg]; exact IntWalk.wrap32_in _ ⟨by omega, by omega⟩
        have hdb : 0 ≤ dg ∧ dg ≤ 9 := by omega
        have hdw3 : IntKind.u32.wrap dg = dg := by rw [IntKind.wrap_u32']; exact Int.emod_eq_of_lt (by omega) (by omega)
        have hdw4 : dg % 4294967296 = dg := Int.emod_eq_of_lt (by omega) (by omega)
        have HDG := Aside0.mk (show 0 ≤ dg ∧ dg < 4294967296 by omega)
        rw [hdg] at hov hvs
        have hz0 := rd_val (v := wval [y0, y1, y2] + dg) (by rw [hvy]; have := Int.emod_nonneg (U * 10) (show (79228162514264337593543950336 : Int) ≠ 0 by decide); omega)
        obtain ⟨Y, hYe⟩ : ∃ Y, wval [y0, y1, y2] = Y := ⟨_, rfl⟩
        rw [hYe] at hz0 hvy
        have hov2 := hov
        rw [← hvy] at hov2
        obtain ⟨z0, hzz0⟩ : ∃ z0, (Y + dg) % 4294967296 = z0 := ⟨_, rfl⟩
        obtain ⟨z1, hzz1⟩ : ∃ z1, (Y + dg) / 4294967296 % 4294967296 = z1 := ⟨_, rfl⟩
        obtain ⟨z2, hzz2⟩ : ∃ z2, (Y + dg) / 18446744073709551616 % 4294967296 = z2 := ⟨_, rfl⟩
        obtain ⟨k2, hk2⟩ : ∃ k2, (Y + dg) / 79228162514264337593543950336 % 4294967296 = k2 := ⟨_, rfl⟩
        rw [hzz0, hzz1, hzz2] at hz0
        rw [hk2] at hov2
        have HZB := Aside0.mk (show (0 ≤ z0 ∧ z0 < 4294967296) ∧ (0 ≤ z1 ∧ z1 < 4294967296) ∧ (0 ≤ z2 ∧ z2 < 4294967296) by omega)
        have HZ := Aside0.mk (And.intro hzz0 (And.intro hzz1 (And.intro hzz2 hk2)))
        have HYE := Aside0.mk hYe
        have HUE := Aside0.mk hUe
        -- where nothing ran over, the words are the number
        have HVAL := Aside0.mk (show ¬ (79228162514264337593543950336 ≤ rdV s (p + 1)) → wval [z0, z1, z2] = rdV s (p + 1) by
          intro hn
          have hf : ov = false := by
            cases ov with
            | true => exact absurd ((congrArg id hov).mp (.inl rfl)) hn
            | false => rfl
          have hUV : U = rdV s p := by rw [← hUe]; exact HV.out.2 hf
          rw [hz0, hvy, hUV, hvs]
          rw [hvs] at hn
          rw [hUV] at hU0
          omega)
        have HPM := Aside0.mk (show p < m ∧ p + 1 ≤ m from ⟨hpm, hpm⟩)
        have HOV := Aside0.mk hov2
        have HKP := Aside0.mk (And.intro HP.out HV.out)
        clear hU hV0 hov hvs hU0 hvy hy0 hy1 hy2 hk1 hz0 hov2 hzz0 hzz1 hzz2 hk2 hYe hUe hdb hdg
        clear hW1 hit hps hk hdc hcc hcb hc NB' N4' N2' J4 J2 HB hpm
        rcases hob : ov with _ | _
        · rcases hkb : (k1 == 0) with _ | _
          · have hkb2 : (k1 != 0) = true := by rw [bne, hkb]; rfl
            subst hob
            have HK1 := Aside0.mk hkb
            go_upto_region 13 with (first | (go_at_call 36; refine (words_Times.calls _ x0 x1 x2 10 HX.out.1 HX.out.2.1 HX.out.2.2 ⟨by decide, by decide⟩).mono ?_; rw [HUE.out, HY.out.1, HY.out.2.1, HY.out.2.2.1, HY.out.2.2.2]; rintro e wa ⟨rfl, hb⟩; have P2 := Aside0.mk (blk_below N2.out hb); have P4 := Aside0.mk (blk_below N4.out hb); have PI := Aside0.mk (blk_below hit2 hb); have PB := Aside0.mk (below_then NB.out NB.out.size hb); have PL2 := Aside0.mk (blk_lt (blk_below N2.out hb)); have PL4 := Aside0.mk (blk_lt (blk_below N4.out hb)); have PLI := Aside0.mk (blk_lt (blk_below hit2 hb)); clear hb) | ((with_reducible refine gate_store (t := 63) (p := 8) rfl ?_); refine seg.list rfl rfl 63 (.tmp 8) _ rfl 63 wa.heap.size 0 #[.int .u32 0, .int .u32 0, .int .u32 0] #[.int .u32 y0, .int .u32 y1, .int .u32 y2] [.int .u32 y0, .int .u32 y1, .int .u32 y2] rfl rfl (by kernel_rfl) (by simp [Value.oneCell']) (blk_new wa _) (by simp) rfl ?_; intro wb b8 hg; have Q8 := Aside0.mk b8; have Q2 := Aside0.mk (seg.far (blk_alloc P2.out _) hg (Nat.ne_of_lt PL2.out)); have Q4 := Aside0.mk (seg.far (blk_alloc P4.out _) hg (Nat.ne_of_lt PL4.out)); have QI := Aside0.mk (seg.far (blk_alloc PI.out _) hg (Nat.ne_of_lt PLI.out)); have QB := Aside0.mk (seg.below (below_alloc PB.out _) hg PB.out.size); clear b8 hg))
            clear x0_ x1_ x2_
            have y0_ : wb.cell? ⟨wa.heap.size, 0, none⟩ = some (.int .u32 y0) := (blk_cell Q8.out 0).trans rfl
            have y1_ : wb.cell? ⟨wa.heap.size, 1, none⟩ = some (.int .u32 y1) := (blk_cell Q8.out 1).trans rfl
            have y2_ : wb.cell? ⟨wa.heap.size, 2, none⟩ = some (.int .u32 y2) := (blk_cell Q8.out 2).trans rfl
            go_upto_region 14 with (first | (go_at_call 34; refine (words_Plus.calls _ y0 y1 y2 dg HYB.out.1 HYB.out.2.1 HYB.out.2.2 HDG.out).mono ?_; rw [HYE.out, HZ.out.1, HZ.out.2.1, HZ.out.2.2.1, HZ.out.2.2.2]; rintro e wc ⟨rfl, hb⟩; have R2 := Aside0.mk (blk_below Q2.out hb); have R4 := Aside0.mk (blk_below Q4.out hb); have RI := Aside0.mk (blk_below QI.out hb); have R8 := Aside0.mk (blk_below Q8.out hb); have RB := Aside0.mk (below_then QB.out QB.out.size hb); clear hb) | ((with_reducible refine gate_store (t := 63) (p := 8) rfl ?_); refine seg.list rfl rfl 63 (.tmp 8) _ rfl 63 wa.heap.size 0 #[.int .u32 y0, .int .u32 y1, .int .u32 y2] #[.int .u32 z0, .int .u32 z1, .int .u32 z2] [.int .u32 z0, .int .u32 z1, .int .u32 z2] rfl rfl (by kernel_rfl) (by simp [Value.oneCell']) R8.out (by simp) rfl ?_; intro wd b8 hg; have S8 := Aside0.mk b8; have S2 := Aside0.mk (seg.far R2.out hg (Nat.ne_of_lt PL2.out)); have S4 := Aside0.mk (seg.far R4.out hg (Nat.ne_of_lt PL4.out)); have SI := Aside0.mk (seg.far RI.out hg (Nat.ne_of_lt PLI.out)); have SB := Aside0.mk (seg.below RB.out hg PB.out.size); clear b8 hg))
            clear y0_ y1_ y2_
            have z0_ : wd.cell? ⟨wa.heap.size, 0, none⟩ = some (.int .u32 z0) := (blk_cell S8.out 0).trans rfl
            have z1_ : wd.cell? ⟨wa.heap.size, 1, none⟩ = some (.int .u32 z1) := (blk_cell S8.out 1).trans rfl
            have z2_ : wd.cell? ⟨wa.heap.size, 2, none⟩ = some (.int .u32 z2) := (blk_cell S8.out 2).trans rfl
            go_wp2_with ((with_reducible refine gate_store (t := 63) (p := 4) rfl ?_); refine seg.list rfl rfl 63 (.tmp 4) _ rfl 63 (w.heap.size + 1) 0 #[.int .u32 x0, .int .u32 x1, .int .u32 x2] #[.int .u32 z0, .int .u32 z1, .int .u32 z2] [.int .u32 z0, .int .u32 z1, .int .u32 z2] rfl rfl (by kernel_rfl) (by simp [Value.oneCell']) S4.out (by simp) rfl ?_; intro we b4 hg; have T4 := Aside0.mk b4; have T2 := Aside0.mk (seg.far S2.out hg (by omega)); have TI := Aside0.mk (seg.far SI.out hg (by omega)); have TB := Aside0.mk (seg.below SB.out hg (by omega)); clear b4 hg)
            clear z0_ z1_ z2_
            go_roundg (m - (p + 1))
            case measure => have := HPM.out; have := HKP.out.1; omega
            case rel =>
              exact ⟨p + 1, z0, z1, z2, true, by first | rfl | simp [hkb2], ⟨HPM.out.2, rfl⟩, HZB, ⟨(decide_eq_true (show 79228162514264337593543950336 ≤ rdV s (p + 1) by rw [← HOV.out]; exact .inr (.inl (by have := HK1.out; simpa using this)))).symm, fun h => by cases h⟩, TI.out, T4, T2, TB⟩
          · have hkb2 : (k1 != 0) = false := by rw [bne, hkb]; rfl
            obtain ⟨b2, hb2⟩ : ∃ b2, (k2 != 0) = b2 := ⟨_, rfl⟩
            subst hob
            have RVP := Aside0.mk (show b2 = decide (79228162514264337593543950336 ≤ rdV s (p + 1)) ∧ (b2 = false → wval [z0, z1, z2] = rdV s (p + 1)) by
              have e : b2 = decide (79228162514264337593543950336 ≤ rdV s (p + 1)) := by
                have h1 : k1 = 0 := by simpa using hkb
                rw [← hb2]
                by_cases h2 : k2 = 0
                · have h3 : ¬ (79228162514264337593543950336 ≤ rdV s (p + 1)) := by
                    rw [← HOV.out]
                    rintro (h | h | h)
                    · cases h
                    · exact h h1
                    · exact h h2
                  rw [decide_eq_false h3]
                  simp [h2]
                · have h3 : 79228162514264337593543950336 ≤ rdV s (p + 1) := by rw [← HOV.out]; exact .inr (.inr h2)
                  rw [decide_eq_true h3]
                  simp [h2]
              exact ⟨e, fun h => HVAL.out (of_decide_eq_false (e.symm.trans h))⟩)
            go_upto_region 13 with (first | (go_at_call 36; refine (words_Times.calls _ x0 x1 x2 10 HX.out.1 HX.out.2.1 HX.out.2.2 ⟨by decide, by decide⟩).mono ?_; rw [HUE.out, HY.out.1, HY.out.2.1, HY.out.2.2.1, HY.out.2.2.2]; rintro e wa ⟨rfl, hb⟩; have P2 := Aside0.mk (blk_below N2.out hb); have P4 := Aside0.mk (blk_below N4.out hb); have PI := Aside0.mk (blk_below hit2 hb); have PB := Aside0.mk (below_then NB.out NB.out.size hb); have PL2 := Aside0.mk (blk_lt (blk_below N2.out hb)); have PL4 := Aside0.mk (blk_lt (blk_below N4.out hb)); have PLI := Aside0.mk (blk_lt (blk_below hit2 hb)); clear hb) | ((with_reducible refine gate_store (t := 63) (p := 8) rfl ?_); refine seg.list rfl rfl 63 (.tmp 8) _ rfl 63 wa.heap.size 0 #[.int .u32 0, .int .u32 0, .int .u32 0] #[.int .u32 y0, .int .u32 y1, .int .u32 y2] [.int .u32 y0, .int .u32 y1, .int .u32 y2] rfl rfl (by kernel_rfl) (by simp [Value.oneCell']) (blk_new wa _) (by simp) rfl ?_; intro wb b8 hg; have Q8 := Aside0.mk b8; have Q2 := Aside0.mk (seg.far (blk_alloc P2.out _) hg (Nat.ne_of_lt PL2.out)); have Q4 := Aside0.mk (seg.far (blk_alloc P4.out _) hg (Nat.ne_of_lt PL4.out)); have QI := Aside0.mk (seg.far (blk_alloc PI.out _) hg (Nat.ne_of_lt PLI.out)); have QB := Aside0.mk (seg.below (below_alloc PB.out _) hg PB.out.size); clear b8 hg))
            clear x0_ x1_ x2_
            have y0_ : wb.cell? ⟨wa.heap.size, 0, none⟩ = some (.int .u32 y0) := (blk_cell Q8.out 0).trans rfl
            have y1_ : wb.cell? ⟨wa.heap.size, 1, none⟩ = some (.int .u32 y1) := (blk_cell Q8.out 1).trans rfl
            have y2_ : wb.cell? ⟨wa.heap.size, 2, none⟩ = some (.int .u32 y2) := (blk_cell Q8.out 2).trans rfl
            go_upto_region 14 with (first | (go_at_call 34; refine (words_Plus.calls _ y0 y1 y2 dg HYB.out.1 HYB.out.2.1 HYB.out.2.2 HDG.out).mono ?_; rw [HYE.out, HZ.out.1, HZ.out.2.1, HZ.out.2.2.1, HZ.out.2.2.2]; rintro e wc ⟨rfl, hb⟩; have R2 := Aside0.mk (blk_below Q2.out hb); have R4 := Aside0.mk (blk_below Q4.out hb); have RI := Aside0.mk (blk_below QI.out hb); have R8 := Aside0.mk (blk_below Q8.out hb); have RB := Aside0.mk (below_then QB.out QB.out.size hb); clear hb) | ((with_reducible refine gate_store (t := 63) (p := 8) rfl ?_); refine seg.list rfl rfl 63 (.tmp 8) _ rfl 63 wa.heap.size 0 #[.int .u32 y0, .int .u32 y1, .int .u32 y2] #[.int .u32 z0, .int .u32 z1, .int .u32 z2] [.int .u32 z0, .int .u32 z1, .int .u32 z2] rfl rfl (by kernel_rfl) (by simp [Value.oneCell']) R8.out (by simp) rfl ?_; intro wd b8 hg; have S8 := Aside0.mk b8; have S2 := Aside0.mk (seg.far R2.out hg (Nat.ne_of_lt PL2.out)); have S4 := Aside0.mk (seg.far R4.out hg (Nat.ne_of_lt PL4.out)); have SI := Aside0.mk (seg.far RI.out hg (Nat.ne_of_lt PLI.out)); have SB := Aside0.mk (seg.below RB.out hg PB.out.size); clear b8 hg))
            clear y0_ y1_ y2_
            have z0_ : wd.cell? ⟨wa.heap.size, 0, none⟩ = some (.int .u32 z0) := (blk_cell S8.out 0).trans rfl
            have z1_ : wd.cell? ⟨wa.heap.size, 1, none⟩ = some (.int .u32 z1) := (blk_cell S8.out 1).trans rfl
            have z2_ : wd.cell? ⟨wa.heap.size, 2, none⟩ = some (.int .u32 z2) := (blk_cell S8.out 2).trans rfl
            go_wp2_with ((with_reducible refine gate_store (t := 63) (p := 4) rfl ?_); refine seg.list rfl rfl 63 (.tmp 4) _ rfl 63 (w.heap.size + 1) 0 #[.int .u32 x0, .int .u32 x1, .int .u32 x2] #[.int .u32 z0, .int .u32 z1, .int .u32 z2] [.int .u32 z0, .int .u32 z1, .int .u32 z2] rfl rfl (by kernel_rfl) (by simp [Value.oneCell']) S4.out (by simp) rfl ?_; intro we b4 hg; have T4 := Aside0.mk b4; have T2 := Aside0.mk (seg.far S2.out hg (by omega)); have TI := Aside0.mk (seg.far SI.out hg (by omega)); have TB := Aside0.mk (seg.below SB.out hg (by omega)); clear b4 hg)
            clear z0_ z1_ z2_
            go_roundg (m - (p + 1))
            case measure => have := HPM.out; have := HKP.out.1; omega
            case rel =>
              exact ⟨p + 1, z0, z1, z2, b2, by first | rfl | simp [hb2], ⟨HPM.out.2, rfl⟩, HZB, ⟨RVP.out.1, RVP.out.2⟩, TI.out, T4, T2, TB⟩
        · subst hob
          go_upto_region 13 with (first | (go_at_call 36; refine (words_Times.calls _ x0 x1 x2 10 HX.out.1 HX.out.2.1 HX.out.2.2 ⟨by decide, by decide⟩).mono ?_; rw [HUE.out, HY.out.1, HY.out.2.1, HY.out.2.2.1, HY.out.2.2.2]; rintro e wa ⟨rfl, hb⟩; have P2 := Aside0.mk (blk_below N2.out hb); have P4 := Aside0.mk (blk_below N4.out hb); have PI := Aside0.mk (blk_below hit2 hb); have PB := Aside0.mk (below_then NB.out NB.out.size hb); have PL2 := Aside0.mk (blk_lt (blk_below N2.out hb)); have PL4 := Aside0.mk (blk_lt (blk_below N4.out hb)); have PLI := Aside0.mk (blk_lt (blk_below hit2 hb)); clear hb) | ((with_reducible refine gate_store (t := 63) (p := 8) rfl ?_); refine seg.list rfl rfl 63 (.tmp 8) _ rfl 63 wa.heap.size 0 #[.int .u32 0, .int .u32 0, .int .u32 0] #[.int .u32 y0, .int .u32 y1, .int .u32 y2] [.int .u32 y0, .int .u32 y1, .int .u32 y2] rfl rfl (by kernel_rfl) (by simp [Value.oneCell']) (blk_new wa _) (by simp) rfl ?_; intro wb b8 hg; have Q8 := Aside0.mk b8; have Q2 := Aside0.mk (seg.far (blk_alloc P2.out _) hg (Nat.ne_of_lt PL2.out)); have Q4 := Aside0.mk (seg.far (blk_alloc P4.out _) hg (Nat.ne_of_lt PL4.out)); have QI := Aside0.mk (seg.far (blk_alloc PI.out _) hg (Nat.ne_of_lt PLI.out)); have QB := Aside0.mk (seg.below (below_alloc PB.out _) hg PB.out.size); clear b8 hg))
          clear x0_ x1_ x2_
          have y0_ : wb.cell? ⟨wa.heap.size, 0, none⟩ = some (.int .u32 y0) := (blk_cell Q8.out 0).trans rfl
          have y1_ : wb.cell? ⟨wa.heap.size, 1, none⟩ = some (.int .u32 y1) := (blk_cell Q8.out 1).trans rfl
          have y2_ : wb.cell? ⟨wa.heap.size, 2, none⟩ = some (.int .u32 y2) := (blk_cell Q8.out 2).trans rfl
          go_upto_region 14 with (first | (go_at_call 34; refine (words_Plus.calls _ y0 y1 y2 dg HYB.out.1 HYB.out.2.1 HYB.out.2.2 HDG.out).mono ?_; rw [HYE.out, HZ.out.1, HZ.out.2.1, HZ.out.2.2.1, HZ.out.2.2.2]; rintro e wc ⟨rfl, hb⟩; have R2 := Aside0.mk (blk_below Q2.out hb); have R4 := Aside0.mk (blk_below Q4.out hb); have RI := Aside0.mk (blk_below QI.out hb); have R8 := Aside0.mk (blk_below Q8.out hb); have RB := Aside0.mk (below_then QB.out QB.out.size hb); clear hb) | ((with_reducible refine gate_store (t := 63) (p := 8) rfl ?_); refine seg.list rfl rfl 63 (.tmp 8) _ rfl 63 wa.heap.size 0 #[.int .u32 y0, .int .u32 y1, .int .u32 y2] #[.int .u32 z0, .int .u32 z1, .int .u32 z2] [.int .u32 z0, .int .u32 z1, .int .u32 z2] rfl rfl (by kernel_rfl) (by simp [Value.oneCell']) R8.out (by simp) rfl ?_; intro wd b8 hg; have S8 := Aside0.mk b8; have S2 := Aside0.mk (seg.far R2.out hg (Nat.ne_of_lt PL2.out)); have S4 := Aside0.mk (seg.far R4.out hg (Nat.ne_of_lt PL4.out)); have SI := Aside0.mk (seg.far RI.out hg (Nat.ne_of_lt PLI.out)); have SB := Aside0.mk (seg.below RB.out hg PB.out.size); clear b8 hg))
          clear y0_ y1_ y2_
          have z0_ : wd.cell? ⟨wa.heap.size, 0, none⟩ = some (.int .u32 z0) := (blk_cell S8.out 0).trans rfl
          have z1_ : wd.cell? ⟨wa.heap.size, 1, none⟩ = some (.int .u32 z1) := (blk_cell S8.out 1).trans rfl
          have z2_ : wd.cell? ⟨wa.heap.size, 2, none⟩ = some (.int .u32 z2) := (blk_cell S8.out 2).trans rfl
          go_wp2_with ((with_reducible refine gate_store (t := 63) (p := 4) rfl ?_); refine seg.list rfl rfl 63 (.tmp 4) _ rfl 63 (w.heap.size + 1) 0 #[.int .u32 x0, .int .u32 x1, .int .u32 x2] #[.int .u32 z0, .int .u32 z1, .int .u32 z2] [.int .u32 z0, .int .u32 z1, .int .u32 z2] rfl rfl (by kernel_rfl) (by simp [Value.oneCell']) S4.out (by simp) rfl ?_; intro we b4 hg; have T4 := Aside0.mk b4; have T2 := Aside0.mk (seg.far S2.out hg (by omega)); have TI := Aside0.mk (seg.far SI.out hg (by omega)); have TB := Aside0.mk (seg.below SB.out hg (by omega)); clear b4 hg)
          clear z0_ z1_ z2_
          go_roundg (m - (p + 1))
          case measure => have := HPM.out; have := HKP.out.1; omega
          case rel =>
            exact ⟨p + 1, z0, z1, z2, true, by first | rfl | simp [], ⟨HPM.out.2, rfl⟩, HZB, ⟨(decide_eq_true (show 79228162514264337593543950336 ≤ rdV s (p + 1) by rw [← HOV.out]; first | exact .inl rfl | exact .inl trivial)).symm, fun h => by cases h⟩, TI.out, T4, T2, TB⟩
      · obtain rfl : p = m := by have := HP.out.1; omega
        rcases HMM.out.2.2.2.2.1 with he | ⟨hlt, hbad⟩
        · have hnx : ∀ ty, (Instr.next (.pointer (some ⟨w.heap.size + 1 + 1, 0, none⟩)) true ty).run Try.prog wr = _ := fun ty => Lib.run_next_end_at wr (w.heap.size + 1 + 1) s p ty hit (by omega)
          obtain ⟨hd1, hd2, hd3⟩ := HMM.out.2.2.2.2.2
          rcases hob : ov with _ | _
          · have hlt : rdV s p < 79228162514264337593543950336 := by
              have h1 := HV.out.1
              rw [hob] at h1
              have := of_decide_eq_false h1.symm
              omega
            have hv := HV.out.2 hob
            have hx := HX.out
            obtain ⟨a0, a1, a2, a3⟩ := hd3 he hlt
            have e0 : d0 = x0 := by rw [a0, ← hv]; simp only [wval]; omega
            have e1 : d1 = x1 := by rw [a1, ← hv]; simp only [wval]; omega
            have e2 : d2 = x2 := by rw [a2, ← hv]; simp only [wval]; omega
            have hx0_ : wr.cell? ⟨w.heap.size + 1, 0, none⟩ = some (.int .u32 x0) := (blk_cell J4.out 0).trans rfl
            have hx1_ : wr.cell? ⟨w.heap.size + 1, 1, none⟩ = some (.int .u32 x1) := (blk_cell J4.out 1).trans rfl
            have hx2_ : wr.cell? ⟨w.heap.size + 1, 2, none⟩ = some (.int .u32 x2) := (blk_cell J4.out 2).trans rfl
            have HE := Aside0.mk (And.intro e0 (And.intro e1 (And.intro e2 a3)))
            subst hob
            clear e0 e1 e2 a0 a1 a2 a3 hx hv hlt hd1 hd2 hd3 he hit hpm
            go_wp2_with ((with_reducible refine gate_store (t := 63) (p := 2) rfl ?_); refine seg.list rfl rfl 63 (.tmp 2) _ rfl 63 w.heap.size 0 #[.int .u32 0, .int .u32 0, .int .u32 0] #[.int .u32 x0, .int .u32 x1, .int .u32 x2] [.int .u32 x0, .int .u32 x1, .int .u32 x2] rfl rfl (by kernel_rfl) (by simp [Value.oneCell']) J2.out (by simp) rfl ?_; intro w9 bx hgr)
            refine bodyPost_ret (results_ct (p := 2) (u := 3) rfl _ w9 w.heap.size 63 _ (0, 0) _ rfl bx Try.underlying63 rfl (by kernel_rfl)) rfl ?_
            exact ⟨by rw [HE.out.1, HE.out.2.1, HE.out.2.2.1, HE.out.2.2.2]; rfl, seg.below HB.out hgr (Nat.le_refl _)⟩
          · have hge : 79228162514264337593543950336 ≤ rdV s p := by
              have h1 := HV.out.1
              rw [hob] at h1
              exact of_decide_eq_true h1.symm
            have HE := Aside0.mk (hd2 he hge)
            subst hob
            clear hge hd1 hd2 hd3 he hit hpm
            go_wp2_with ((with_reducible refine gate_store (t := 63) (p := 2) rfl ?_); refine seg.list rfl rfl 63 (.tmp 2) _ rfl 63 w.heap.size 0 #[.int .u32 0, .int .u32 0, .int .u32 0] #[.int .u32 0, .int .u32 0, .int .u32 0] [.int .u32 0, .int .u32 0, .int .u32 0] rfl rfl (by kernel_rfl) (by simp [Value.oneCell']) J2.out (by simp) rfl ?_; intro w9 bx hgr)
            refine bodyPost_ret (results_ct (p := 2) (u := 3) rfl _ w9 w.heap.size 63 _ (0, 0) _ rfl bx Try.underlying63 rfl (by kernel_rfl)) rfl ?_
            exact ⟨by rw [HE.out.1, HE.out.2.1, HE.out.2.2.1, HE.out.2.2.2]; rfl, seg.below HB.out hgr (Nat.le_refl _)⟩
        · have hnx : ∀ ty, (Instr.next (.pointer (some ⟨w.heap.size + 1 + 1, 0, none⟩)) true ty).run Try.prog wr = _ := fun ty => Lib.run_next_any_at wr (w.heap.size + 1 + 1) s p ty hit hlt
          have hit2 := Lib.iterAt_heap wr (w.heap.size + 1 + 1) s p (p + (Utf8.decode s p).2) hit
          have NB' := Lib.below_iterAt HB.out (k := w.heap.size + 1 + 1) (by omega) s (p + (Utf8.decode s p).2)
          have N4' := (Lib.iterAt_other wr (w.heap.size + 1 + 1) (w.heap.size + 1) s (p + (Utf8.decode s p).2) (by omega)).trans J4.out
          have N2' := (Lib.iterAt_other wr (w.heap.size + 1 + 1) w.heap.size s (p + (Utf8.decode s p).2) (by omega)).trans J2.out
          have hrn := rd_no s p hlt hbad
          have HE := Aside0.mk (HMM.out.2.2.2.2.2.1 hlt)
          obtain ⟨W1, hW1⟩ : ∃ W1, W1 = wr.iterAt (w.heap.size + 1 + 1) s (p + (Utf8.decode s p).2) := ⟨_, rfl⟩
          rw [← hW1] at hnx hit2 NB' N4' N2'
          obtain ⟨c, hc⟩ : ∃ c, (Utf8.decode s p).1 = c := ⟨_, rfl⟩
          rw [hc] at hnx hrn
          have N2 := Aside0.mk N2'
          have NB := Aside0.mk NB'
          rcases hrn with hr | hr
          · have t1 : decide ((c : Int) < 48) = true := decide_eq_true hr
            have t1n : decide (c < 48) = true := decide_eq_true (by omega)
            clear hr hc hW1 hit hlt hbad NB' N4' N2' hpm
            go_wp2_with ((with_reducible refine gate_store (t := 63) (p := 2) rfl ?_); refine seg.list rfl rfl 63 (.tmp 2) _ rfl 63 w.heap.size 0 #[.int .u32 0, .int .u32 0, .int .u32 0] #[.int .u32 0, .int .u32 0, .int .u32 0] [.int .u32 0, .int .u32 0, .int .u32 0] rfl rfl (by kernel_rfl) (by simp [Value.oneCell']) N2.out (by simp) rfl ?_; intro w9 bx hgr)
            refine bodyPost_ret (results_ct (p := 2) (u := 3) rfl _ w9 w.heap.size 63 _ (0, 0) _ rfl bx Try.underlying63 rfl (by kernel_rfl)) rfl ?_
            exact ⟨by rw [HE.out.1, HE.out.2.1, HE.out.2.2.1, HE.out.2.2.2]; rfl, seg.below NB.out hgr (Nat.le_refl _)⟩
          · have t1 : decide ((c : Int) < 48) = false := decide_eq_false (by omega)
            have t1n : decide (c < 48) = false := decide_eq_false (by omega)
            have t2 : decide ((c : Int) > 57) = true := decide_eq_true hr
            have t2n : decide (57 < c) = true := decide_eq_true (by omega)
            clear hr hc hW1 hit hlt hbad NB' N4' N2' hpm
            go_wp2_with ((with_reducible refine gate_store (t := 63) (p := 2) rfl ?_); refine seg.list rfl rfl 63 (.tmp 2) _ rfl 63 w.heap.size 0 #[.int .u32 0, .int .u32 0, .int .u32 0] #[.int .u32 0, .int .u32 0, .int .u32 0] [.int .u32 0, .int .u32 0, .int .u32 0] rfl rfl (by kernel_rfl) (by simp [Value.oneCell']) N2.out (by simp) rfl ?_; intro w9 bx hgr)
            refine bodyPost_ret (results_ct (p := 2) (u := 3) rfl _ w9 w.heap.size 63 _ (0, 0) _ rfl bx Try.underlying63 rfl (by kernel_rfl)) rfl ?_
            exact ⟨by rw [HE.out.1, HE.out.2.1, HE.out.2.2.1, HE.out.2.2.2]; rfl, seg.below NB.out hgr (Nat.le_refl _)⟩
    )

theorem bt_wrapR {n : Int} (h : -9223372036854775808 ≤ n ∧ n ≤ 9223372036854775807) : wrap64 n = n := by unfold wrap64; omega
set_option maxHeartbeats 8000000 in
set_option maxRecDepth 100000 in
theorem vendmeterref_WideRead.loop (w : World) (s : ByteArray) (h : s.size ≤ 40) (hp : 0 < s.size) (h0 : ¬ (1 < s.size ∧ bt s 0 = 48)) (m : Nat) (hm : m ≤ s.size) (hok : ∀ j, j < m → rdOk s j) (hend : m = s.size ∨ (m < s.size ∧ ¬ rdOk s m)) (d0 d1 d2 er : Int) (hd : RdEnd s m d0 d1 d2 er) :
    Calls Try.prog 47 #[.string s] w fun e w' => e = .returned (.tuple #[.agg #[.int .u32 d0, .int .u32 d1, .int .u32 d2], .int .i64 er]) ∧ Below w.heap.size w w' := by
  have hu63 := Try.underlying63
  have c2b : decide ((s.size : Int) > 40) = false := decide_eq_false (by omega)
  have c2c : decide (s.size > 40) = false := decide_eq_false (by omega)
  have c2d : decide (40 < s.size) = false := decide_eq_false (by omega)
  have ce : s.toList.isEmpty = false := by rw [rd_empty]; exact decide_eq_false (by omega)
  have ce2 : ((s.size : Int) == 0) = false := beq_eq_false_iff_ne.mpr (by omega)
  have ce3 : (s.size == 0) = false := beq_eq_false_iff_ne.mpr (by omega)
  have p0 : (0 ≤ (0 : Int)) = True := eq_true (Int.le_refl _)
  have q0 : ((0 : Int) < (s.size : Int)) = True := eq_true (by omega)
  have q1 : (0 < s.size) = True := eq_true (by omega)
  have hs0 : 0 < s.size := by omega
  have hx0 : ((s[0]'hs0).toNat : Int) = bt s 0 := bt_at s 0 hs0
  have c1 : decide ((s.size : Int) > 1) = false ∧ decide (1 < s.size) = false ∨ decide ((s.size : Int) > 1) = true ∧ decide (1 < s.size) = true ∧ (bt s 0 == 48) = false := by
    by_cases h1 : 1 < s.size
    · refine .inr ⟨decide_eq_true (by omega), decide_eq_true h1, ?_⟩
      cases hb : (bt s 0 == 48)
      · rfl
      · exact absurd ⟨h1, by simpa using hb⟩ h0
    · exact .inl ⟨decide_eq_false (by omega), decide_eq_false h1⟩
  have HB := Aside0.mk (below_alloc (below_alloc (Below.refl w.heap.size w) (.cells #[.int .u32 0, .int .u32 0, .int .u32 0] 63)) (.cells #[.bool false, .slice none 0 0] 130))
  have B2 := blk_alloc (blk_new w (.cells #[.int .u32 0, .int .u32 0, .int .u32 0] 63)) (.cells #[.bool false, .slice none 0 0] 130)
  have B4 := blk_new (w.alloc (.cells #[.int .u32 0, .int .u32 0, .int .u32 0] 63)) (.cells #[.bool false, .slice none 0 0] 130)
  rw [World.size_alloc] at B4
  have A4 := Aside0.mk (show BigA ((w.alloc (.cells #[.int .u32 0, .int .u32 0, .int .u32 0] 63)).alloc (.cells #[.bool false, .slice none 0 0] 130)) (w.heap.size + 1) (rdV s 0) from ⟨none, 0, [], B4, WC.nil _ _, Nat.le_refl _, Wd.zero⟩)
  have HMM := Aside0.mk (And.intro hp (And.intro h (And.intro hm (And.intro hok (And.intro hend hd)))))
  have J2 := Aside0.mk B2
  clear h hp h0 hm hok hend hd B2 B4
  go_enter Try.func47, Try.ntmps47
  rcases c1 with ⟨c1, c1y⟩ | ⟨c1, c1y, c1z⟩
  all_goals (
    go_wp2
    go_loopg [5] m (fun kq v5 w' => ∃ p : Nat, v5 = .int .i64 (p : Int) ∧ Aside0 (p ≤ m ∧ kq = m - p) ∧ Aside0 (BigA w' (w.heap.size + 1) (rdV s p)) ∧ Aside0 (w'.heap[w.heap.size]? = some (.cells #[.int .u32 0, .int .u32 0, .int .u32 0] 63 (0, 0))) ∧ Aside0 (Below w.heap.size w w'))
    case atStart => exact ⟨0, rfl, ⟨Nat.zero_le _, by omega⟩, A4, J2, HB⟩
    case round =>
      clear A4 J2 HB
      obtain ⟨p, rfl, HP, A4, J2, HB⟩ := hrel
      by_cases hpm : p < m
      · have hps : p < s.size := by have := HMM.out.2.2.1; omega
        have hk : rdOk s p := HMM.out.2.2.2.1 p hpm
        have t1 : decide ((p : Int) < (s.size : Int)) = true := decide_eq_true (by omega)
        have t1n : decide (p < s.size) = true := decide_eq_true hps
        have p7 : (0 ≤ (p : Int)) = True := eq_true (by omega)
        have q7 : ((p : Int) < (s.size : Int)) = True := eq_true (by omega)
        have hx7 : ((s[p]'hps).toNat : Int) = bt s (p : Int) := (rd_nat s p hps).symm
        have hdg0 : 0 ≤ bt s (p : Int) - 48 ∧ bt s (p : Int) - 48 ≤ 9 := by have := hk.1; have := hk.2; omega
        have hdi : vendmeterref_Digit.f (bt s (p : Int)) = some true := by unfold vendmeterref_Digit.f; rw [if_pos hk.1, decide_eq_true hk.2]
        have HDI := Aside0.mk hdi
        have hvs : rdV s (p + 1) = rdV s p * 10 + (bt s (p : Int) - 48) := rfl
        obtain ⟨b, hb⟩ : ∃ b, bt s (p : Int) = b := ⟨_, rfl⟩
        rw [hb] at hx7 hdg0 HDI hvs
        obtain ⟨dg, hdg⟩ : ∃ dg : Int, b - 48 = dg := ⟨_, rfl⟩
        have hdw : (b - 48) % 256 = dg := by rw [← hdg]; exact Int.emod_eq_of_lt hdg0.1 (by omega)
        have hdw2 : IntKind.u8.wrap (b - 48) = dg := by rw [IntKind.wrap_u8]; exact hdw
        rw [hdg] at hdg0 hvs
        have hdw3 : wrap64 dg = dg := by unfold wrap64; omega
        have hdw4 : IntKind.i64.wrap dg = dg := by rw [Go.IntKind.wrap_i64]; omega
        have HDG := Aside0.mk (show 0 ≤ dg ∧ dg ≤ 9223372036854775807 by omega)
        have hV0 : 0 ≤ rdV s p := A4.out.pos
        have hVb := rdV_bd (s := s) (m := p) (by have := HMM.out.2.1; omega) (fun j hj => HMM.out.2.2.2.1 j (by omega))
        have hVb2 : rdV s p * 10 < W32 1000 := lt1000 (m := 11) (Int.lt_of_le_of_lt (show rdV s p * 10 ≤ W32 10 * 10 by omega) (by decide)) (by decide)
        have HVB := Aside0.mk (And.intro (lt1000 hVb (by decide)) hVb2)
        have HVS := Aside0.mk hvs
        have HD2 := Aside0.mk (show dg < W32 1000 from lt1000 (m := 1) (Int.lt_of_le_of_lt (show dg ≤ 9 by omega) (by decide)) (by decide))
        have HW := Aside0.mk (show wrap64 ((p : Int) + 1) = ((p + 1 : Nat) : Int) by rw [bt_wrapR (by have := HMM.out.2.1; omega)]; omega)
        have HPM := Aside0.mk (show p < m ∧ p + 1 ≤ m from ⟨hpm, hpm⟩)
        clear hpm hk hdi hb hdg hdg0 hvs hV0 hVb hVb2
        go_upto_region 12 with (first | (go_at_call 99; refine (vendmeterref_Digit.calls _ _ _ HDI.out).mono ?_; rintro e wa ⟨rfl, hd⟩; have A5 := Aside0.mk (A4.out.below hd.below); have P2 := Aside0.mk (blk_below J2.out hd.below); have PB := Aside0.mk (below_then HB.out HB.out.size hd.below); clear hd) | (go_at_call 80; refine (vendmeterbig_NewInt.calls _ 10 ⟨by decide, by decide⟩).mono ?_; rintro e wb ⟨g, rfl, hg, hA, hb⟩; have HT := Aside0.mk hA; have A6 := Aside0.mk (A5.out.below hb); have Q2 := Aside0.mk (blk_below P2.out hb); have QB := Aside0.mk (below_then PB.out PB.out.size hb); clear hg hA hb) | (go_at_call 84; refine (vendmeterbig_Int_Mul.calls wb (w.heap.size + 1) (w.heap.size + 1) g _ _ A6.out.isI A6.out HT.out HVB.out.1 (lt1000 (m := 1) (by decide) (by decide))).mono ?_; rintro e wc ⟨rfl, hA, hO⟩; have A7 := Aside0.mk hA; have R2 := Aside0.mk ((hO.block _ (blk_lt Q2.out) (by omega)).trans Q2.out); have RB := Aside0.mk (Only.below QB.out hO (by omega)); clear hA hO))
        go_wp2_with (first | (go_at_call 80; refine (vendmeterbig_NewInt.calls _ dg HDG.out).mono ?_; rintro e wd ⟨g2, rfl, hg, hA, hb⟩; have HT2 := Aside0.mk hA; have A8 := Aside0.mk (A7.out.below hb); have S2 := Aside0.mk (blk_below R2.out hb); have SB := Aside0.mk (below_then RB.out RB.out.size hb); clear hg hA hb) | (go_at_call 79; refine (vendmeterbig_Int_Add.calls wd (w.heap.size + 1) (w.heap.size + 1) g2 _ _ A8.out.isI A8.out HT2.out HVB.out.2 HD2.out).mono ?_; rintro e we ⟨rfl, hA, hO⟩; rw [← HVS.out] at hA; have A9 := Aside0.mk hA; have T2 := Aside0.mk ((hO.block _ (blk_lt S2.out) (by omega)).trans S2.out); have TB := Aside0.mk (Only.below SB.out hO (by omega)); clear hA hO))
        go_roundg (m - (p + 1))
        case measure => have := HPM.out; have := HP.out; omega
        case rel => exact ⟨p + 1, by rw [HW.out], ⟨HPM.out.2, rfl⟩, A9, T2, TB⟩
      · obtain rfl : p = m := by have := HP.out.1; omega
        rcases HMM.out.2.2.2.2.1 with he | ⟨hlt, hbad⟩
        · have t1 : decide ((p : Int) < (s.size : Int)) = false := decide_eq_false (by omega)
          have t1n : decide (p < s.size) = false := decide_eq_false (by omega)
          obtain ⟨hd1, hd2, hd3⟩ := HMM.out.2.2.2.2.2
          have hVb := rdV_bd (s := s) (m := p) (by have := HMM.out.2.1; omega) HMM.out.2.2.2.1
          have HVB := Aside0.mk hVb
          by_cases hov : 79228162514264337593543950336 ≤ rdV s p
          · have HE := Aside0.mk (hd2 he hov)
            have HOV := Aside0.mk hov
            clear hd1 hd2 hd3 he hVb hpm hov
            go_upto_region 14 with (first | (go_at_call 100; refine (rd_bitlen _ _ _ A4.out (lt1000 HVB.out (by decide))).mono ?_; rintro e wa ⟨⟨r, rfl, hr⟩, hd⟩; have hrt : decide (96 < r) = true := decide_eq_true (by rw [hr]; exact HOV.out); have hrt2 : decide ((r : Int) > 96) = true := decide_eq_true (by have := of_decide_eq_true hrt; omega); have P2 := Aside0.mk (blk_below J2.out hd.below); have PB := Aside0.mk (below_then HB.out HB.out.size hd.below); clear hd hr))
            go_wp2_with ((with_reducible refine gate_store (t := 63) (p := 2) rfl ?_); refine seg.list rfl rfl 63 (.tmp 2) _ rfl 63 w.heap.size 0 #[.int .u32 0, .int .u32 0, .int .u32 0] #[.int .u32 0, .int .u32 0, .int .u32 0] [.int .u32 0, .int .u32 0, .int .u32 0] rfl rfl (by kernel_rfl) (by simp [Value.oneCell']) P2.out (by simp) rfl ?_; intro w9 bx hgr)
            refine bodyPost_ret (results_ct (p := 2) (u := 3) rfl _ w9 w.heap.size 63 _ (0, 0) _ rfl bx Try.underlying63 rfl (by kernel_rfl)) rfl ?_
            exact ⟨by rw [HE.out.1, HE.out.2.1, HE.out.2.2.1, HE.out.2.2.2]; rfl, seg.below PB.out hgr (Nat.le_refl _)⟩
          · have HE := Aside0.mk (hd3 he (by omega))
            have HOV := Aside0.mk hov
            obtain ⟨x0, hx0_⟩ : ∃ x0, rdV s p % 4294967296 = x0 := ⟨_, rfl⟩
            obtain ⟨x1, hx1_⟩ : ∃ x1, rdV s p / 4294967296 % 4294967296 = x1 := ⟨_, rfl⟩
            obtain ⟨x2, hx2_⟩ : ∃ x2, rdV s p / 18446744073709551616 % 4294967296 = x2 := ⟨_, rfl⟩
            rw [hx0_, hx1_, hx2_] at HE
            have HQ := Aside0.mk (And.intro hx0_ (And.intro hx1_ hx2_))
            clear hd1 hd2 hd3 he hVb hpm hov hx0_ hx1_ hx2_
            go_upto_region 15 with (first | (go_at_call 100; refine (rd_bitlen _ _ _ A4.out (lt1000 HVB.out (by decide))).mono ?_; rintro e wa ⟨⟨r, rfl, hr⟩, hd⟩; have hrt : decide (96 < r) = false := decide_eq_false (by rw [hr]; exact HOV.out); have hrt2 : decide ((r : Int) > 96) = false := decide_eq_false (by have := of_decide_eq_false hrt; omega); have A5 := Aside0.mk (A4.out.below hd.below); have P2 := Aside0.mk (blk_below J2.out hd.below); have PB := Aside0.mk (below_then HB.out HB.out.size hd.below); clear hd hr))
            go_upto_region 16 with (first | (go_at_call 81; refine (vendmeterref_wide96.calls _ (w.heap.size + 1) _ A5.out HVB.out).mono ?_; rw [HQ.out.1, HQ.out.2.1, HQ.out.2.2]; rintro e wh ⟨rfl, hb⟩; have hba := below_alloc hb (.cells #[.int .u32 0, .int .u32 0, .int .u32 0] 63); have Q2 := Aside0.mk (blk_below P2.out hba); have QB := Aside0.mk (below_then PB.out PB.out.size hba); have QL := Aside0.mk (blk_lt (blk_below P2.out hb)); have H9n := Aside0.mk (blk_new wh (.cells #[.int .u32 0, .int .u32 0, .int .u32 0] 63)); clear hb hba) | ((with_reducible refine gate_store (t := 63) (p := 6) rfl ?_); refine seg.list rfl rfl 63 (.tmp 6) _ rfl 63 wh.heap.size 0 #[.int .u32 0, .int .u32 0, .int .u32 0] #[.int .u32 x0, .int .u32 x1, .int .u32 x2] [.int .u32 x0, .int .u32 x1, .int .u32 x2] rfl rfl (by kernel_rfl) (by simp [Value.oneCell']) H9n.out (by simp) rfl ?_; intro wi b9 hg9; have H9 := Aside0.mk b9; have R2 := Aside0.mk (seg.far Q2.out hg9 (Nat.ne_of_lt QL.out)); have RB := Aside0.mk (seg.below QB.out hg9 (by have := QL.out; omega)); clear b9 hg9))
            have c0_ : wi.cell? ⟨wh.heap.size, 0, none⟩ = some (.int .u32 x0) := (blk_cell H9.out 0).trans rfl
            have c1_ : wi.cell? ⟨wh.heap.size, 1, none⟩ = some (.int .u32 x1) := (blk_cell H9.out 1).trans rfl
            have c2_ : wi.cell? ⟨wh.heap.size, 2, none⟩ = some (.int .u32 x2) := (blk_cell H9.out 2).trans rfl
            go_wp2_with ((with_reducible refine gate_store (t := 63) (p := 2) rfl ?_); refine seg.list rfl rfl 63 (.tmp 2) _ rfl 63 w.heap.size 0 #[.int .u32 0, .int .u32 0, .int .u32 0] #[.int .u32 x0, .int .u32 x1, .int .u32 x2] [.int .u32 x0, .int .u32 x1, .int .u32 x2] rfl rfl (by kernel_rfl) (by simp [Value.oneCell']) R2.out (by simp) rfl ?_; intro w9 bx hgr)
            refine bodyPost_ret (results_ct (p := 2) (u := 3) rfl _ w9 w.heap.size 63 _ (0, 0) _ rfl bx Try.underlying63 rfl (by kernel_rfl)) rfl ?_
            exact ⟨by rw [HE.out.1, HE.out.2.1, HE.out.2.2.1, HE.out.2.2.2]; rfl, seg.below RB.out hgr (Nat.le_refl _)⟩
        · have t1 : decide ((p : Int) < (s.size : Int)) = true := decide_eq_true (by omega)
          have t1n : decide (p < s.size) = true := decide_eq_true hlt
          have p7 : (0 ≤ (p : Int)) = True := eq_true (by omega)
          have q7 : ((p : Int) < (s.size : Int)) = True := eq_true (by omega)
          have hx7 : ((s[p]'hlt).toNat : Int) = bt s (p : Int) := (rd_nat s p hlt).symm
          have hdi : vendmeterref_Digit.f (bt s (p : Int)) = some false := by
            unfold vendmeterref_Digit.f
            by_cases h48 : 48 ≤ bt s (p : Int)
            · have h57 : ¬ bt s (p : Int) ≤ 57 := fun h => hbad ⟨h48, h⟩
              rw [if_pos h48, decide_eq_false h57]
            · rw [if_neg h48]
          have HDI := Aside0.mk hdi
          have HE := Aside0.mk (HMM.out.2.2.2.2.2.1 hlt)
          clear hdi hbad hpm
          go_wp2_with (first | (go_at_call 99; refine (vendmeterref_Digit.calls _ _ _ HDI.out).mono ?_; rintro e wa ⟨rfl, hd⟩; have P2 := Aside0.mk (blk_below J2.out hd.below); have PB := Aside0.mk (below_then HB.out HB.out.size hd.below); clear hd) | ((with_reducible refine gate_store (t := 63) (p := 2) rfl ?_); refine seg.list rfl rfl 63 (.tmp 2) _ rfl 63 w.heap.size 0 #[.int .u32 0, .int .u32 0, .int .u32 0] #[.int .u32 0, .int .u32 0, .int .u32 0] [.int .u32 0, .int .u32 0, .int .u32 0] rfl rfl (by kernel_rfl) (by simp [Value.oneCell']) P2.out (by simp) rfl ?_; intro w9 bx hgr))
          refine bodyPost_ret (results_ct (p := 2) (u := 3) rfl _ w9 w.heap.size 63 _ (0, 0) _ rfl bx Try.underlying63 rfl (by kernel_rfl)) rfl ?_
          exact ⟨by rw [HE.out.1, HE.out.2.1, HE.out.2.2.1, HE.out.2.2.2]; rfl, seg.below PB.out hgr (Nat.le_refl _)⟩
    )

def vendmeterlaw_WordsReads.f (a0 : ByteArray) : Option Bool := some true
attribute [local go_sem high] words_eq
theorem rd_first (s : ByteArray) : ∀ n, ∃ m, m ≤ n ∧ (∀ j, j < m → rdOk s j) ∧ (m = n ∨ (m < n ∧ ¬ rdOk s m))
  | 0 => ⟨0, Nat.le_refl _, fun j h => by omega, .inl rfl⟩
  | n + 1 => by
    obtain ⟨m, h1, h2, h3⟩ := rd_first s n
    rcases h3 with h3 | ⟨h3, h4⟩
    · subst h3
      by_cases hk : rdOk s m
      · exact ⟨m + 1, Nat.le_refl _, fun j hj => by rcases Nat.lt_or_eq_of_le (Nat.le_of_lt_succ hj) with g | g; exact h2 j g; exact g ▸ hk, .inl rfl⟩
      · exact ⟨m, by omega, h2, .inr ⟨by omega, hk⟩⟩
    · exact ⟨m, by omega, h2, .inr ⟨by omega, h4⟩⟩
theorem rd_end (s : ByteArray) (m : Nat) (hm : m ≤ s.size) : ∃ d0 d1 d2 er : Int, RdEnd s m d0 d1 d2 er := by
  by_cases h : m < s.size
  · exact ⟨0, 0, 0, 3, fun _ => ⟨rfl, rfl, rfl, rfl⟩, fun h2 => by omega, fun h2 => by omega⟩
  · by_cases h2 : 79228162514264337593543950336 ≤ rdV s m
    · exact ⟨0, 0, 0, 2, fun h3 => absurd h3 h, fun _ _ => ⟨rfl, rfl, rfl, rfl⟩, fun _ h3 => by omega⟩
    · exact ⟨_, _, _, 0, fun h3 => absurd h3 h, fun _ h3 => absurd h3 h2, fun _ _ => ⟨rfl, rfl, rfl, rfl⟩⟩
theorem reads_both (s : ByteArray) : ∃ d0 d1 d2 d4 : Int, (∀ W : World, Calls Try.prog 46 #[.string s] W fun e w' => e = .returned (.tuple #[.agg #[.int .u32 d0, .int .u32 d1, .int .u32 d2], .int .i64 d4]) ∧ Below W.heap.size W w') ∧ (∀ W : World, Calls Try.prog 47 #[.string s] W fun e w' => e = .returned (.tuple #[.agg #[.int .u32 d0, .int .u32 d1, .int .u32 d2], .int .i64 d4]) ∧ Below W.heap.size W w') := by
  by_cases h : 40 < s.size
  · exact ⟨_, _, _, _, fun W => words_Read.long W s h, fun W => vendmeterref_WideRead.long W s h⟩
  · by_cases he : s.size = 0
    · exact ⟨_, _, _, _, fun W => words_Read.empty W s he, fun W => vendmeterref_WideRead.empty W s he⟩
    · by_cases hn : 1 < s.size ∧ bt s 0 = 48
      · exact ⟨_, _, _, _, fun W => words_Read.nought W s (by omega) hn.1 hn.2, fun W => vendmeterref_WideRead.nought W s (by omega) hn.1 hn.2⟩
      · obtain ⟨m, hm, hok, hend⟩ := rd_first s s.size
        obtain ⟨d0, d1, d2, er, hd⟩ := rd_end s m hm
        exact ⟨d0, d1, d2, er, fun W => words_Read.loop W s (by omega) (by omega) hn m hm hok hend d0 d1 d2 er hd, fun W => vendmeterref_WideRead.loop W s (by omega) (by omega) hn m hm hok hend d0 d1 d2 er hd⟩
set_option maxHeartbeats 8000000 in
set_option maxRecDepth 100000 in
theorem vendmeterlaw_WordsReads.calls (a0 : ByteArray) (r : Bool) (w : World) (h : vendmeterlaw_WordsReads.f a0 = some r) : Calls Try.prog 14 #[.string a0] w fun e w' => e = .returned (.bool r) ∧ Below w.heap.size w w' := by
  obtain rfl := Option.some.inj h
  clear h
  have hu63 := Try.underlying63
  obtain ⟨d0, d1, d2, d4, hC, hR⟩ := reads_both a0
  have HC := Aside0.mk hC
  have HR := Aside0.mk hR
  clear hC hR
  go_enter Try.func14, Try.ntmps14
  go_upto_region 2 with (first | (go_at_call 46; refine (HC.out _).mono ?_; rintro e wa ⟨rfl, hb⟩; have HB1 := Aside0.mk hb; clear hb) | ((with_reducible refine gate_store (t := 63) (p := 3) rfl ?_); refine seg.list rfl rfl 63 (.tmp 3) _ rfl 63 wa.heap.size 0 #[.int .u32 0, .int .u32 0, .int .u32 0] #[.int .u32 d0, .int .u32 d1, .int .u32 d2] [.int .u32 d0, .int .u32 d1, .int .u32 d2] rfl rfl (by kernel_rfl) (by simp [Value.oneCell']) (blk_new wa _) (by simp) rfl ?_; intro wb bx hgr; have HY2 := Aside0.mk bx; have HB2 := Aside0.mk (seg.below (below_alloc HB1.out _) hgr HB1.out.size); clear bx hgr))
  go_upto_region 3 with (first | (go_at_call 47; refine (HR.out _).mono ?_; rintro e wc ⟨rfl, hb⟩; have HB3 := Aside0.mk (below_then HB2.out HB2.out.size hb); have HY3 := Aside0.mk (blk_below HY2.out hb); clear hb) | ((with_reducible refine gate_store (t := 63) (p := 5) rfl ?_); refine seg.list rfl rfl 63 (.tmp 5) _ rfl 63 wc.heap.size 0 #[.int .u32 0, .int .u32 0, .int .u32 0] #[.int .u32 d0, .int .u32 d1, .int .u32 d2] [.int .u32 d0, .int .u32 d1, .int .u32 d2] rfl rfl (by kernel_rfl) (by simp [Value.oneCell']) (blk_new wc _) (by simp) rfl ?_; intro wd bx hgr; have HZ4 := Aside0.mk bx; have HB4 := Aside0.mk (seg.below (below_alloc HB3.out _) hgr HB3.out.size); have HY4 := Aside0.mk (seg.far (blk_alloc HY3.out _) hgr (Nat.ne_of_lt (blk_lt HY3.out))); clear bx hgr))
  have y0 : wd.cell? ⟨wa.heap.size, 0, none⟩ = some (.int .u32 d0) := (blk_cell HY4.out 0).trans rfl
  have y1 : wd.cell? ⟨wa.heap.size, 1, none⟩ = some (.int .u32 d1) := (blk_cell HY4.out 1).trans rfl
  have y2 : wd.cell? ⟨wa.heap.size, 2, none⟩ = some (.int .u32 d2) := (blk_cell HY4.out 2).trans rfl
  have z0 : wd.cell? ⟨wc.heap.size, 0, none⟩ = some (.int .u32 d0) := (blk_cell HZ4.out 0).trans rfl
  have z1 : wd.cell? ⟨wc.heap.size, 1, none⟩ = some (.int .u32 d1) := (blk_cell HZ4.out 1).trans rfl
  have z2 : wd.cell? ⟨wc.heap.size, 2, none⟩ = some (.int .u32 d2) := (blk_cell HZ4.out 2).trans rfl
  go_wp2
  go_ret
  exact ⟨rfl, HB4.out⟩

end Go.Proofs.Ytacgddnjlfkdmaa.PWordsReads
