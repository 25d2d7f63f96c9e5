-- written by this session's program wip/xp/xprint.py (it drives the kit's print and adds to it)
import Derived.Test.YtocolmpfpbclbaaGreatDoorPReceiptShowsx0
import Derived.Test.YtocolmpfpbclbaaGreatDoorPReceiptShowsx1
namespace Go.Proofs.YtocolmpfpbclbaaGreatDoor.PReceiptShows
open Go.RowKit Go.Proofs.YtocolmpfpbclbaaGreatDoorW.PrintWords Go.Proofs.YtocolmpfpbclbaaGreatDoorW.PrintLast Go.Proofs.YtocolmpfpbclbaaGreatDoorW.PrintMore
attribute [local go_sem] max2_int min2_int max_two min_two max_three min_three max_four min_four
set_option linter.unusedVariables false
set_option linter.unusedSimpArgs false
set_option maxHeartbeats 8000000
set_option maxRecDepth 100000

theorem bt_wrap {n : Int} (h : -9223372036854775808 ≤ n ∧ n ≤ 9223372036854775807) : wrap64 n = n := by unfold wrap64; omega
theorem field_no {lo n : Int} (h : ¬ (0 ≤ lo ∧ 1 ≤ n ∧ n ≤ 64 ∧ lo + n ≤ 96)) : words_field.f lo n = some false := by
 unfold words_field.f
 split
 ·
  split
  ·
   split
   ·
    split
    ·
     rw [bt_wrap (by omega)]; simp only [Option.some.injEq, decide_eq_false_iff_not]; omega
    ·
     rfl
   ·
    rfl
  ·
   rfl
 ·
  rfl
theorem field_yes {lo n : Int} (h : 0 ≤ lo ∧ 1 ≤ n ∧ n ≤ 64 ∧ lo + n ≤ 96) : words_field.f lo n = some true := by
 unfold words_field.f
 rw [if_pos (by omega), if_pos (by omega), if_pos (by omega), if_pos (by omega), bt_wrap (by omega)]
 simp only [Option.some.injEq, decide_eq_true_eq]; omega
def btx (w0 w1 w2 : Int) : Nat → Int
 | 0 => w0
 | 1 => w1
 | _ => w2
theorem bit_low (a U : Int) {rr : Nat} (hr : rr < 32) : (a + 4294967296 * U) / 2 ^ rr % 2 = a / 2 ^ rr % 2 := by
 have e : (4294967296 : Int) = 2 ^ rr * (2 ^ (31 - rr) * 2) := by
  rw [← Int.pow_succ, ← Int.pow_add, show rr + (31 - rr + 1) = 32 by omega]; rfl
 have hp : (2 : Int) ^ rr ≠ 0 := Int.ne_of_gt (Int.pow_pos (by decide))
 rw [e, Int.mul_assoc, Int.add_mul_ediv_left _ _ hp, Int.mul_comm (2 ^ (31 - rr)) 2, Int.mul_assoc]
 omega
theorem bit_at {V w0 w1 w2 : Int} (hV : wval [w0, w1, w2] = V) (h0 : 0 ≤ w0 ∧ w0 < 4294967296) (h1 : 0 ≤ w1 ∧ w1 < 4294967296) (h2 : 0 ≤ w2 ∧ w2 < 4294967296) {a q rr : Nat} (ha : a < 96) (hq : a / 32 = q) (hr : a % 32 = rr) : btx w0 w1 w2 q / 2 ^ rr % 2 = V / 2 ^ a % 2 := by
 have hr2 : rr < 32 := by omega
 have ev : V = w0 + 4294967296 * (w1 + 4294967296 * w2) := by rw [← hV]; simp only [wval]; omega
 have hq3 : q < 3 := by omega
 have ea : a = 32 * q + rr := by omega
 have ed : V / 2 ^ a = V / 2 ^ (32 * q) / 2 ^ rr := by rw [ea, Int.pow_add, Int.ediv_ediv_of_nonneg (Int.le_of_lt (Int.pow_pos (by decide)))]
 rw [ed]
 match q, hq3 with
 | 0, _ =>
  rw [show V / 2 ^ (32 * 0) = w0 + 4294967296 * (w1 + 4294967296 * w2) by rw [show (2 : Int) ^ (32 * 0) = 1 from rfl, Int.ediv_one, ev], bit_low _ _ hr2]; rfl
 | 1, _ =>
  rw [show V / 2 ^ (32 * 1) = w1 + 4294967296 * w2 by rw [show (2 : Int) ^ (32 * 1) = 4294967296 by decide]; omega, bit_low _ _ hr2]; rfl
 | 2, _ =>
  rw [show V / 2 ^ (32 * 2) = w2 by rw [show (2 : Int) ^ (32 * 2) = 18446744073709551616 by decide]; omega]; rfl
theorem bit_mod (A : Int) (m : Nat) : A % 2 ^ (m + 1) = A / 2 % 2 ^ m * 2 + A % 2 := by
 have hP : (0 : Int) < 2 ^ m := Int.pow_pos (by decide)
 rw [Int.pow_succ, Int.mul_comm (2 ^ m) 2]
 generalize (2 : Int) ^ m = P at *
 have h := Int.mul_ediv_add_emod (A / 2) P
 have h1 := Int.emod_nonneg (A / 2) (show P ≠ 0 by omega)
 have h2 := Int.emod_lt_of_pos (A / 2) hP
 refine ((Int.ediv_emod_unique (a := A) (b := 2 * P) (q := A / 2 / P) (r := A / 2 % P * 2 + A % 2) (by omega)).2 ⟨?_, by omega, by omega⟩).2
 rw [Int.mul_assoc]
 generalize P * (A / 2 / P) = t at *
 omega
theorem bit_next {V : Int} {L n k : Nat} (hk : k + 1 ≤ n) : V / 2 ^ (L + k) % 2 ^ (n - k) = V / 2 ^ (L + (k + 1)) % 2 ^ (n - (k + 1)) * 2 + V / 2 ^ (L + k) % 2 := by
 have e : V / 2 ^ (L + (k + 1)) = V / 2 ^ (L + k) / 2 := by
  rw [show L + (k + 1) = (L + k) + 1 by omega, Int.pow_succ, Int.ediv_ediv_of_nonneg (Int.le_of_lt (Int.pow_pos (by decide)))]
 rw [e, show n - k = (n - (k + 1)) + 1 by omega, bit_mod]
theorem bit_or {v b : Int} (hv : 0 ≤ v ∧ v * 2 + b < 18446744073709551616) (hb : 0 ≤ b ∧ b < 2) : Go.bits .or .u64 (IntKind.u64.wrap (v * 2)) (IntKind.u64.wrap b) = v * 2 + b := by
 rw [wu64 (a := v * 2) ⟨by omega, by omega⟩, wu64 (a := b) ⟨hb.1, by omega⟩]
 exact bits_join .u64 64 (by decide) (fun n a c => wu64 ⟨a, by have := c; omega⟩) 1 (v * 2) b (by omega) (by omega) (by omega) hb.1 (by omega) (by omega)
theorem bit_and {x : Int} (hx : 0 ≤ x ∧ x < 4294967296) (rr : Nat) : Go.bits .and .u32 (x / 2 ^ rr) 1 = x / 2 ^ rr % 2 := by
 have h0 : 0 ≤ x / 2 ^ rr := Int.ediv_nonneg hx.1 (Int.le_of_lt (Int.pow_pos (by decide)))
 have h1 : x / 2 ^ rr ≤ x := Int.ediv_le_self _ hx.1
 exact bits_mask .u32 32 (by decide) (fun n a c => by rw [IntKind.wrap_u32']; exact Int.emod_eq_of_lt a (by omega)) 1 (by decide) _ h0 (by omega)
theorem bit_new {V w0 w1 w2 x v : Int} {L n k a q rr : Nat} (hV : wval [w0, w1, w2] = V) (h0 : 0 ≤ w0 ∧ w0 < 4294967296) (h1 : 0 ≤ w1 ∧ w1 < 4294967296) (h2 : 0 ≤ w2 ∧ w2 < 4294967296) (hk : k + 1 ≤ n) (hn : n ≤ 64) (hl : L + k = a) (ha : a < 96) (hq : a / 32 = q) (hr : a % 32 = rr) (hx : btx w0 w1 w2 q = x) (hv : V / 2 ^ (L + (k + 1)) % 2 ^ (n - (k + 1)) = v) :
  Go.bits .or .u64 (IntKind.u64.wrap (v * 2)) (IntKind.u64.wrap (Go.bits .and .u32 (x / 2 ^ rr) 1)) = V / 2 ^ (L + k) % 2 ^ (n - k) := by
 have hxb : 0 ≤ x ∧ x < 4294967296 := by
  rw [← hx]
  match q with
  | 0 => exact h0
  | 1 => exact h1
  | q + 2 => exact h2
 have e1 := bit_at hV h0 h1 h2 ha hq hr
 rw [hx] at e1
 rw [bit_and hxb, e1, bit_next hk, hv, hl]
 have hp : (0 : Int) < 2 ^ (n - (k + 1)) ∧ (2 : Int) ^ (n - (k + 1)) ≤ 9223372036854775808 := by
  refine ⟨Int.pow_pos (by decide), ?_⟩
  have h := Nat.pow_le_pow_right (n := 2) (by decide) (show n - (k + 1) ≤ 31 + 32 by omega)
  have h2 : ((2 ^ (n - (k + 1)) : Nat) : Int) ≤ ((2 ^ (31 + 32) : Nat) : Int) := Int.ofNat_le.2 h
  rw [Int.natCast_pow] at h2
  exact h2
 have v0 : 0 ≤ v := by rw [← hv]; exact Int.emod_nonneg _ (by omega)
 have v1 : v < 2 ^ (n - (k + 1)) := by rw [← hv]; exact Int.emod_lt_of_pos _ hp.1
 exact bit_or ⟨v0, by omega⟩ ⟨by omega, by omega⟩

set_option maxHeartbeats 4000000 in
set_option maxRecDepth 100000 in
theorem words_Bits.bad (w : World) (w0 w1 w2 lo n : Int) (h : ¬ (0 ≤ lo ∧ 1 ≤ n ∧ n ≤ 64 ∧ lo + n ≤ 96)) :
  Calls Tryz.prog 57 #[.agg #[.int .u32 w0, .int .u32 w1, .int .u32 w2], .int .i64 lo, .int .i64 n] w fun e w' => e = .returned (.tuple #[.int .u64 0, .int .i64 2]) ∧ Below w.heap.size w w' := by
 have hu63 := Tryz.underlying86
 have HF := am (field_no h)
 have HB := am (below_alloc (Below.refl w.heap.size w) (.cells #[.int .u32 w0, .int .u32 w1, .int .u32 w2] 86))
 clear h
 go_enter Tryz.func57, Tryz.ntmps57
 go_wp2_with (go_at_call 92; refine (words_field.calls _ _ _ _ HF.out).mono ?_; rintro e wa ⟨rfl, hd⟩; have HB1 := am (below_then HB.out HB.out.size hd.below); clear hd)
 go_ret2
 exact ⟨rfl, HB1.out⟩
theorem words_Bits.at_ (w : World) (w0 w1 w2 : Int) (h0 : 0 ≤ w0 ∧ w0 < 4294967296) (h1 : 0 ≤ w1 ∧ w1 < 4294967296) (h2 : 0 ≤ w2 ∧ w2 < 4294967296) (lo n : Nat) (hn : 1 ≤ n) (hn2 : n ≤ 64) (hl : lo + n ≤ 96) :
  Calls Tryz.prog 57 #[.agg #[.int .u32 w0, .int .u32 w1, .int .u32 w2], .int .i64 (lo : Int), .int .i64 (n : Int)] w fun e w' => e = .returned (.tuple #[.int .u64 (wval [w0, w1, w2] / 2 ^ lo % 2 ^ n), .int .i64 0]) ∧ Below w.heap.size w w' := by
 have hu63 := Tryz.underlying86
 have HF := am (field_yes (lo := (lo : Int)) (n := (n : Int)) ⟨by omega, by omega, by omega, by omega⟩)
 have HX := am (And.intro h0 (And.intro h1 h2))
 have HN := am (And.intro hn (And.intro hn2 hl))
 obtain ⟨j0, hj0⟩ : ∃ j0, (n : Int) - 1 = j0 := ⟨_, rfl⟩
 have ej0 : IntKind.i64.wrap ((n : Int) - 1) = j0 := by rw [Go.IntKind.wrap_i64]; omega
 have HJ := am hj0
 have B3 := blk_new w (.cells #[.int .u32 w0, .int .u32 w1, .int .u32 w2] 86)
 have HB3 := am B3
 have HB := am (below_alloc (Below.refl w.heap.size w) (.cells #[.int .u32 w0, .int .u32 w1, .int .u32 w2] 86))
 obtain ⟨V, hV⟩ : ∃ V, wval [w0, w1, w2] = V := ⟨_, rfl⟩
 rw [hV]
 have HVV := am hV
 clear h0 h1 h2 hn hn2 hl B3 hj0 hV
 go_enter Tryz.func57, Tryz.ntmps57
 go_wp2_with (go_at_call 92; refine (words_field.calls _ _ _ _ HF.out).mono ?_; rintro e wa ⟨rfl, hd⟩; have HB1 := am (below_then HB.out HB.out.size hd.below); have HC1 := am (blk_below HB3.out hd.below); clear hd)
 go_loopg [8, 9, 10] n (fun kz v8 v9 v10 w' => ∃ jj : Int, v8 = .int .u64 (V / 2 ^ (lo + kz) % 2 ^ (n - kz)) ∧ v9 = .int .i64 jj ∧ Aside0 (jj = (kz : Int) - 1 ∧ kz ≤ n) ∧ Aside0 (w'.heap[w.heap.size]? = some (.cells #[.int .u32 w0, .int .u32 w1, .int .u32 w2] 86 (0, 0))) ∧ Aside0 (Below w.heap.size w w'))
 case atStart => exact ⟨_, by simp, rfl, ⟨HJ.out.symm, Nat.le_refl _⟩, HC1, HB1⟩
 case round =>
  clear ej0 HB3 HB1 HC1 HB
  obtain ⟨jj, rfl, rfl, HK, B3, HB⟩ := hrel
  obtain ⟨hjj, hkn⟩ := HK.out
  rcases Nat.eq_zero_or_pos gk with hk0 | hk0
  ·
   subst hk0
   have hneg : decide (0 ≤ jj) = false := decide_eq_false (by omega)
   clear hjj hkn
   go_wp2
   go_ret2
   exact ⟨by simp, HB.out⟩
  ·
   obtain ⟨k, rfl⟩ : ∃ k, gk = k + 1 := ⟨gk - 1, by omega⟩
   obtain rfl : jj = (k : Int) := by omega
   have hnn : decide ((0 : Int) ≤ (k : Int)) = true := decide_eq_true (by omega)
   have hat : IntKind.i64.wrap ((lo : Int) + (k : Int)) = ((lo + k : Nat) : Int) := by rw [Go.IntKind.wrap_i64]; have := HN.out; omega
   obtain ⟨at_, hat_⟩ : ∃ at_, lo + k = at_ := ⟨_, rfl⟩
   rw [hat_] at hat
   have hlt : at_ < 96 := by have := HN.out; omega
   obtain ⟨q, hq⟩ : ∃ q, at_ / 32 = q := ⟨_, rfl⟩
   obtain ⟨rr, hr⟩ : ∃ rr, at_ % 32 = rr := ⟨_, rfl⟩
   have eq_ : wrap64 ((at_ : Int) / 32) = (q : Int) := by rw [bt_wrap (by omega)]; omega
   have er_ : (at_ : Int) % 32 = (rr : Int) := by omega
   have er1_ : wrap64 (rr : Int) = (rr : Int) := bt_wrap (by omega)
   have hq3 : q < 3 := by omega
   have hcell : wr.cell? ⟨w.heap.size, q, none⟩ = some (.int .u32 (btx w0 w1 w2 q)) := by
    rw [blk_cell B3.out q]
    match q, hq3 with
    | 0, _ => rfl
    | 1, _ => rfl
    | 2, _ => rfl
   obtain ⟨x, hx⟩ : ∃ x, btx w0 w1 w2 q = x := ⟨_, rfl⟩
   rw [hx] at hcell
   obtain ⟨v, hv⟩ : ∃ v, V / 2 ^ (lo + (k + 1)) % 2 ^ (n - (k + 1)) = v := ⟨_, rfl⟩
   rw [hv]
   have HALL := am (And.intro hat_ (And.intro hlt (And.intro hq (And.intro hr (And.intro hx hv)))))
   clear hjj hkn hat_ hlt hq hr hx hv hk0
   go_wp2
   go_roundg k
   case measure => omega
   case rel =>
    obtain ⟨a1, a2, a3, a4, a5, a6⟩ := HALL.out
    obtain ⟨b0, b1, b2⟩ := HX.out
    have hkn := HK.out.2
    exact ⟨wrap64 ((k : Int) - 1), by rw [bit_new HVV.out b0 b1 b2 hkn HN.out.2.1 a1 a2 a3 a4 a5 a6], rfl, ⟨bt_wrap (by omega), by omega⟩, B3, HB⟩

/-! ### words_Bits: function 57 (by hand) -/
def words_Bits.f (a0_0 : Int) (a0_1 : Int) (a0_2 : Int) (a1 : Int) (a2 : Int) : Option (Int × Int) := if (0 ≤ a0_0 ∧ a0_0 < 4294967296) ∧ (0 ≤ a0_1 ∧ a0_1 < 4294967296) ∧ (0 ≤ a0_2 ∧ a0_2 < 4294967296) then (if 0 ≤ a1 ∧ 1 ≤ a2 ∧ a2 ≤ 64 ∧ a1 + a2 ≤ 96 then some (wval [a0_0, a0_1, a0_2] / 2 ^ a1.toNat % 2 ^ a2.toNat, 0) else some (0, 2)) else none
theorem words_Bits.calls (a0_0 : Int) (a0_1 : Int) (a0_2 : Int) (a1 : Int) (a2 : Int) (r1 : Int) (r2 : Int) (w : World) (h : words_Bits.f a0_0 a0_1 a0_2 a1 a2 = some (r1, r2)) :
  Calls Tryz.prog 57 #[.agg #[.int .u32 a0_0, .int .u32 a0_1, .int .u32 a0_2], .int .i64 a1, .int .i64 a2] w fun e w' => e = .returned (.tuple #[.int .u64 r1, .int .i64 r2]) ∧ Below w.heap.size w w' := by
 unfold words_Bits.f at h
 split at h
 ·
  rename_i hc
  split at h
  ·
   rename_i h0
   simp only [Option.some.injEq, Prod.mk.injEq] at h
   obtain ⟨rfl, rfl⟩ := h
   have e1 : ((a1.toNat : Nat) : Int) = a1 := Int.toNat_of_nonneg h0.1
   have e2 : ((a2.toNat : Nat) : Int) = a2 := Int.toNat_of_nonneg (by omega)
   have := words_Bits.at_ w a0_0 a0_1 a0_2 hc.1 hc.2.1 hc.2.2 a1.toNat a2.toNat (by omega) (by omega) (by omega)
   rw [e1, e2] at this
   exact this
  ·
   rename_i h0
   simp only [Option.some.injEq, Prod.mk.injEq] at h
   obtain ⟨rfl, rfl⟩ := h
   exact words_Bits.bad w a0_0 a0_1 a0_2 a1 a2 h0
 ·
  cases h

-- NOT PRINTED: function 56 (token_field)

/-! ### token_bounds: function 93 -/
def token_bounds.f (a0 : Int) : Option (Int × Int × Bool) := if a0 = 0 then (some (1, 2097151, true)) else (if a0 = 2 then (some (1, 15, true)) else (if a0 = 1 then (some (0, 0, true)) else (if a0 = 3 then (some (0, 0, true)) else (some (0, 0, false)))))
theorem token_bounds.calls (a0 : Int) (r1 : Int) (r2 : Int) (r3 : Bool) (w : World) (h : token_bounds.f a0 = some (r1, r2, r3)) :
  Calls Tryz.prog 93 #[.int .i64 a0] w fun e w' => e = .returned (.tuple #[.int .i64 r1, .int .i64 r2, .bool r3]) ∧ Drawn0 w w' := by
 have H : (if a0 = 0 then (some (1, 2097151, true)) else (if a0 = 2 then (some (1, 15, true)) else (if a0 = 1 then (some (0, 0, true)) else (if a0 = 3 then (some (0, 0, true)) else (some (0, 0, false)))))) = some (r1, r2, r3) := h
 clear h
 revert H
 refine czei (fun c2b0 c2b1 H => ?_) (fun c2 c2b0 c2b1 H => ?_)
 ·
  simp only [Option.some.injEq, Prod.mk.injEq] at H
  obtain ⟨rfl, rfl, rfl⟩ := H
  go_enter Tryz.func93, Tryz.ntmps93
  go_wp2
  go_ret3
  exact ⟨by first | rfl | (simp; done) | (simp [*]; done), by repeat (first | exact Drawn0.refl _ | apply Drawn0.step)⟩
 ·
  revert H
  refine czei (fun c3b0 c3b1 H => ?_) (fun c3 c3b0 c3b1 H => ?_)
  ·
   simp only [Option.some.injEq, Prod.mk.injEq] at H
   obtain ⟨rfl, rfl, rfl⟩ := H
   go_enter Tryz.func93, Tryz.ntmps93
   go_wp2
   go_ret3
   exact ⟨by first | rfl | (simp; done) | (simp [*]; done), by repeat (first | exact Drawn0.refl _ | apply Drawn0.step)⟩
  ·
   revert H
   refine czei (fun c4b0 c4b1 H => ?_) (fun c4 c4b0 c4b1 H => ?_)
   ·
    simp only [Option.some.injEq, Prod.mk.injEq] at H
    obtain ⟨rfl, rfl, rfl⟩ := H
    go_enter Tryz.func93, Tryz.ntmps93
    go_wp2
    go_ret3
    exact ⟨by first | rfl | (simp; done) | (simp [*]; done), by repeat (first | exact Drawn0.refl _ | apply Drawn0.step)⟩
   ·
    revert H
    refine czei (fun c5b0 c5b1 H => ?_) (fun c5 c5b0 c5b1 H => ?_)
    ·
     simp only [Option.some.injEq, Prod.mk.injEq] at H
     obtain ⟨rfl, rfl, rfl⟩ := H
     go_enter Tryz.func93, Tryz.ntmps93
     go_wp2
     go_ret3
     exact ⟨by first | rfl | (simp; done) | (simp [*]; done), by repeat (first | exact Drawn0.refl _ | apply Drawn0.step)⟩
    ·
     simp only [Option.some.injEq, Prod.mk.injEq] at H
     obtain ⟨rfl, rfl, rfl⟩ := H
     go_enter Tryz.func93, Tryz.ntmps93
     go_wp2
     go_ret3
     exact ⟨by first | rfl | (simp; done) | (simp [*]; done), by repeat (first | exact Drawn0.refl _ | apply Drawn0.step)⟩

/-! ### token_fault: function 58 -/
def token_fault.f (a0_0 : Int) (a0_1 : Int) (a0_2 : Int) (a0_3 : Int) : Option (Int) := (token_bounds.f a0_0).bind fun bt104 => (if bt104.2.2 = true then (if a0_1 < 1 then (some 2) else (if a0_1 > 1048575 then (some 2) else (if a0_2 < bt104.1 then (some 2) else (if a0_2 > bt104.2.1 then (some 2) else (if a0_3 < 0 then (some 2) else (if a0_3 > 65535 then (some 2) else (some 0))))))) else (some 9))
theorem token_fault.calls (a0_0 : Int) (a0_1 : Int) (a0_2 : Int) (a0_3 : Int) (r : Int) (w : World) (h : token_fault.f a0_0 a0_1 a0_2 a0_3 = some r) :
  Calls Tryz.prog 58 #[.agg #[.int .i64 a0_0, .int .i64 a0_1, .int .i64 a0_2, .int .i64 a0_3]] w fun e w' => e = .returned (.int .i64 r) ∧ Below w.heap.size w w' := by
 have hu67 := Tryz.underlying67
 have HB := am (Below.refl w.heap.size w)
 have H : ((token_bounds.f a0_0).bind fun bt104 => (if bt104.2.2 = true then (if a0_1 < 1 then (some 2) else (if a0_1 > 1048575 then (some 2) else (if a0_2 < bt104.1 then (some 2) else (if a0_2 > bt104.2.1 then (some 2) else (if a0_3 < 0 then (some 2) else (if a0_3 > 65535 then (some 2) else (some 0))))))) else (some 9))) = some r := h
 clear h
 replace H := Option.bind_eq_some_iff.mp H
 obtain ⟨⟨t104, t105, t106⟩, A20, H⟩ := H
 (try dsimp only at H)
 have A2 := am A20
 clear A20
 by_cases c3 : t106 = true
 ·
  subst c3
  have H1 : (if a0_1 < 1 then (some 2) else (if a0_1 > 1048575 then (some 2) else (if a0_2 < t104 then (some 2) else (if a0_2 > t105 then (some 2) else (if a0_3 < 0 then (some 2) else (if a0_3 > 65535 then (some 2) else (some 0))))))) = some r := by rw [if_pos rfl] at H; exact H
  clear H
  have H := H1
  clear H1
  have HC4 := am H
  clear H
  go_enter Tryz.func58, Tryz.ntmps58
  go_upto_region 4 with (first | ((with_reducible refine gate_dst (N := 1) rfl ?_); refine czbox 1 #[.int .i64 a0_0, .int .i64 a0_1, .int .i64 a0_2, .int .i64 a0_3] 67 ?_; intro gb103 hg w5 hbox hb; have BK103 := am (hbox); have GW103 := czsz hg (czbl HB); have GE103 := czsz hg (czbl HB); replace HB := am (below_step (czbl HB) hb); clear hb hbox hg; obtain ⟨hcz6_0, hcz6_1, hcz6_2, hcz6_3⟩ := czc4 BK103.1) | ((with_reducible refine gate_callee (f := 93) rfl ?_); refine czgo (some 9) Tryz.func93 #[.int .i64 a0_0] ?_; (with_reducible refine (token_bounds.calls a0_0 t104 t105 true _ A2.out).mono ?_); rintro e w' ⟨rfl, ⟨nd, rfl⟩⟩; refine ⟨_, rfl, ?_⟩))
  have H := HC4.out
  clear HC4
  revert H
  refine czif (fun c7b0 H => ?_) (fun c7b0 H => ?_)
  ·
   obtain rfl := Option.some.inj H
   obtain ⟨hcz8_0, hcz8_1, hcz8_2, hcz8_3⟩ := czc4 BK103.1
   go_wp2
   go_ret
   exact ⟨czeq, czbl1 HB GE103⟩
  ·
   by_cases c9 : a0_1 > 1048575
   ·
    rw [if_pos c9] at H
    have c9b0 : decide (1048575 < a0_1) = true := decide_eq_true c9
    clear c9
    obtain rfl := Option.some.inj H
    obtain ⟨hcz10_0, hcz10_1, hcz10_2, hcz10_3⟩ := czc4 BK103.1
    go_wp2
    go_ret
    exact ⟨czeq, czbl1 HB GE103⟩
   ·
    rw [if_neg c9] at H
    have c9b0 : decide (1048575 < a0_1) = false := decide_eq_false c9
    clear c9
    revert H
    refine czif (fun c11b0 H => ?_) (fun c11b0 H => ?_)
    ·
     obtain rfl := Option.some.inj H
     obtain ⟨hcz12_0, hcz12_1, hcz12_2, hcz12_3⟩ := czc4 BK103.1
     go_wp2
     go_ret
     exact ⟨czeq, czbl1 HB GE103⟩
    ·
     by_cases c13 : a0_2 > t105
     ·
      rw [if_pos c13] at H
      have c13b0 : decide (t105 < a0_2) = true := decide_eq_true c13
      clear c13
      obtain rfl := Option.some.inj H
      obtain ⟨hcz14_0, hcz14_1, hcz14_2, hcz14_3⟩ := czc4 BK103.1
      go_wp2
      go_ret
      exact ⟨czeq, czbl1 HB GE103⟩
     ·
      rw [if_neg c13] at H
      have c13b0 : decide (t105 < a0_2) = false := decide_eq_false c13
      clear c13
      revert H
      refine czif (fun c15b0 H => ?_) (fun c15b0 H => ?_)
      ·
       obtain rfl := Option.some.inj H
       obtain ⟨hcz16_0, hcz16_1, hcz16_2, hcz16_3⟩ := czc4 BK103.1
       go_wp2
       go_ret
       exact ⟨czeq, czbl1 HB GE103⟩
      ·
       by_cases c17 : a0_3 > 65535
       ·
        rw [if_pos c17] at H
        have c17b0 : decide (65535 < a0_3) = true := decide_eq_true c17
        clear c17
        obtain rfl := Option.some.inj H
        obtain ⟨hcz18_0, hcz18_1, hcz18_2, hcz18_3⟩ := czc4 BK103.1
        go_wp2
        go_ret
        exact ⟨czeq, czbl1 HB GE103⟩
       ·
        rw [if_neg c17] at H
        have c17b0 : decide (65535 < a0_3) = false := decide_eq_false c17
        clear c17
        obtain rfl := Option.some.inj H
        obtain ⟨hcz19_0, hcz19_1, hcz19_2, hcz19_3⟩ := czc4 BK103.1
        go_wp2
        go_ret
        exact ⟨czeq, czbl1 HB GE103⟩
 ·
  replace c3 := Bool.eq_false_iff.mpr c3
  subst c3
  have H1 : (some 9) = some r := by rw [if_neg (show ¬ (false = true) by decide)] at H; exact H
  clear H
  have H := H1
  clear H1
  obtain rfl := Option.some.inj H
  go_enter Tryz.func58, Tryz.ntmps58
  go_wp2_with (first | ((with_reducible refine gate_dst (N := 1) rfl ?_); refine czbox 1 #[.int .i64 a0_0, .int .i64 a0_1, .int .i64 a0_2, .int .i64 a0_3] 67 ?_; intro gb103 hg w20 hbox hb; have BK103 := am (hbox); have GW103 := czsz hg (czbl HB); have GE103 := czsz hg (czbl HB); replace HB := am (below_step (czbl HB) hb); clear hb hbox hg; obtain ⟨hcz21_0, hcz21_1, hcz21_2, hcz21_3⟩ := czc4 BK103.1) | ((with_reducible refine gate_callee (f := 93) rfl ?_); refine czgo (some 9) Tryz.func93 #[.int .i64 a0_0] ?_; (with_reducible refine (token_bounds.calls a0_0 t104 t105 false _ A2.out).mono ?_); rintro e w' ⟨rfl, ⟨nd, rfl⟩⟩; refine ⟨_, rfl, ?_⟩))
  go_ret
  exact ⟨czeq, czbl1 HB GE103⟩

end Go.Proofs.YtocolmpfpbclbaaGreatDoor.PReceiptShows
