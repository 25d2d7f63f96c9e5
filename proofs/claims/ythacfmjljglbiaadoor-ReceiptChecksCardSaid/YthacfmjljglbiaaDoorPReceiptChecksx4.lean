-- written by this session's program wip/xp/xprint.py (it drives the kit's print and adds to it)
import Derived.Test.YthacfmjljglbiaaDoorPReceiptChecksx0
import Derived.Test.YthacfmjljglbiaaDoorPReceiptChecksx3
namespace Go.Proofs.YthacfmjljglbiaaDoor.PReceiptChecks
open Go.RowKit Go.Proofs.YthacfmjljglbiaaDoorW.PrintWords Go.Proofs.YthacfmjljglbiaaDoorW.PrintLast Go.Proofs.YthacfmjljglbiaaDoorW.PrintMore
attribute [local go_sem] max2_int min2_int max_two min_two max_three min_three max_four min_four   -- for this text's walks alone
set_option linter.unusedVariables false
set_option linter.unusedSimpArgs false

def rcV (b c d e f : Int) : Nat → Int
  | 0 => b
  | 1 => c
  | 2 => d
  | 3 => e
  | _ => f
theorem rc_ix (W : World) (b c d e f : Int) (i : Nat) (h : i < 5) : (Instr.index 45 (.agg #[.int .i64 b, .int .i64 c, .int .i64 d, .int .i64 e, .int .i64 f]) (.int .i64 (i : Int))).run Tryd.prog W = .ok (.int .i64 (rcV b c d e f i)) W := by
  have : i = 0 ∨ i = 1 ∨ i = 2 ∨ i = 3 ∨ i = 4 := by omega
  rcases this with rfl | rfl | rfl | rfl | rfl <;> simp [Instr.index, run_underlying Tryd.underlying45, asIntOf, go_sem, rcV]
set_option maxHeartbeats 8000000 in
set_option maxRecDepth 100000 in
theorem receipt_Check.meter (w : World) (a0 a1 a2 a3 a4 a5 a6 a7 : Int) (s : ByteArray) (h : a0 < 0 ∨ 50 ≤ a0) :
    Calls Tryd.prog 9 #[.agg #[.int .i64 a0, .int .i64 a1, .int .i64 a2, .int .i64 a3, .int .i64 a4, .int .i64 a5, .int .i64 a6, .int .i64 a7, .string s]] w fun e w' => e = .returned (.int .i64 18) ∧ Below w.heap.size w w' := by
  have hu29 := Tryd.underlying29
  have hu27 := Tryd.underlying27
  have hu45 := Tryd.underlying45
  have HB := Aside0.mk (below_alloc (Below.refl w.heap.size w) (.cells #[.int .i64 a0, .int .i64 a1, .int .i64 a2, .int .i64 a3, .int .i64 a4, .int .i64 a5, .int .i64 a6, .int .i64 a7, .string s] 29))
  have t1 : decide (a0 < 0) = true ∨ (decide (a0 < 0) = false ∧ decide (a0 ≥ 50) = true ∧ decide (50 ≤ a0) = true) := by
    by_cases g : a0 < 0
    · exact .inl (decide_eq_true g)
    · exact .inr ⟨decide_eq_false g, decide_eq_true (by omega), decide_eq_true (by omega)⟩
  clear h
  go_enter Tryd.func9, Tryd.ntmps9
  rcases t1 with t1 | ⟨t1, t2, t3⟩
  all_goals (
    go_wp2
    go_ret
    exact ⟨rfl, HB.out⟩)
set_option maxHeartbeats 8000000 in
set_option maxRecDepth 100000 in
theorem receipt_Check.range (w : World) (a0 a1 a2 a3 a4 a5 a6 a7 : Int) (s : ByteArray) (h0 : 0 ≤ a0 ∧ a0 < 50) (m : Nat) (hm : m < 5) (hok : ∀ j, j < m → 0 ≤ rcV a2 a3 a4 a5 a6 j ∧ rcV a2 a3 a4 a5 a6 j ≤ 100000000) (hbad : rcV a2 a3 a4 a5 a6 m < 0 ∨ 100000000 < rcV a2 a3 a4 a5 a6 m) :
    Calls Tryd.prog 9 #[.agg #[.int .i64 a0, .int .i64 a1, .int .i64 a2, .int .i64 a3, .int .i64 a4, .int .i64 a5, .int .i64 a6, .int .i64 a7, .string s]] w fun e w' => e = .returned (.int .i64 2) ∧ Below w.heap.size w w' := by
  have hu29 := Tryd.underlying29
  have hu27 := Tryd.underlying27
  have hu45 := Tryd.underlying45
  have HB := Aside0.mk (below_alloc (below_alloc (Below.refl w.heap.size w) (.cells #[.int .i64 a0, .int .i64 a1, .int .i64 a2, .int .i64 a3, .int .i64 a4, .int .i64 a5, .int .i64 a6, .int .i64 a7, .string s] 29)) (.cells #[.int .i64 a1, .int .i64 a2, .int .i64 a3, .int .i64 a4, .int .i64 a5, .int .i64 a6, .int .i64 a7] 27))
  have t1 : decide (a0 < 0) = false := decide_eq_false (by omega)
  have t2 : decide (a0 ≥ 50) = false := decide_eq_false (by omega)
  have t3 : decide (50 ≤ a0) = false := decide_eq_false (by omega)
  have HM := Aside0.mk (And.intro (Nat.le_of_lt hm) hok)
  have HBAD := Aside0.mk (And.intro hm hbad)
  clear h0 hm hok hbad
  go_enter Tryd.func9, Tryd.ntmps9
  go_wp2
  go_loopg [5, 30] 5 (fun kq v5 v30 w' => ∃ i : Nat, v30 = .int .i64 (i : Int) ∧ Aside0 (i ≤ m ∧ kq = 5 - i) ∧ w' = ((w.alloc (.cells #[.int .i64 a0, .int .i64 a1, .int .i64 a2, .int .i64 a3, .int .i64 a4, .int .i64 a5, .int .i64 a6, .int .i64 a7, .string s] 29)).alloc (.cells #[.int .i64 a1, .int .i64 a2, .int .i64 a3, .int .i64 a4, .int .i64 a5, .int .i64 a6, .int .i64 a7] 27)))
  case atStart => exact ⟨0, rfl, ⟨Nat.zero_le _, by omega⟩, by first | rfl | trivial⟩
  case round =>
    obtain ⟨i, rfl, HI, hbw⟩ := hrel
    obtain ⟨z, hz⟩ : ∃ z, rcV a2 a3 a4 a5 a6 i = z := ⟨_, rfl⟩
    by_cases him : i < m
    · have h5 : i < 5 := Nat.lt_of_lt_of_le him HM.out.1
      have hzb := HM.out.2 i him
      rw [hz] at hzb
      have s1 : decide ((i : Int) < 5) = true := decide_eq_true (by omega)
      have s1n : decide (i < 5) = true := decide_eq_true h5
      have hix : ∀ W, (Instr.index 45 (.agg #[.int .i64 a2, .int .i64 a3, .int .i64 a4, .int .i64 a5, .int .i64 a6]) (.int .i64 (i : Int))).run Tryd.prog W = .ok (.int .i64 z) W := fun W => hz ▸ rc_ix W a2 a3 a4 a5 a6 i h5
      have e2 : wrap64 ((i : Int) + 1) = ((i + 1 : Nat) : Int) := by rw [IntWalk.wrap64_in _ ⟨by omega, by omega⟩]; rfl
      have u1 : decide (z < 0) = false := decide_eq_false (by omega)
      have u2 : decide (z > 100000000) = false := decide_eq_false (by omega)
      have u3 : decide (100000000 < z) = false := decide_eq_false (by omega)
      have HJ := Aside0.mk (show i + 1 ≤ m ∧ i < 5 from ⟨him, h5⟩)
      have HBW := Aside0.mk hbw
      clear hz hzb him h5 hbw
      go_wp2
      go_roundg (5 - (i + 1))
      case measure => have := HJ.out; have := HI.out; omega
      case rel => exact ⟨i + 1, by first | rfl | rw [e2], ⟨HJ.out.1, rfl⟩, HBW.out⟩
    · obtain rfl : i = m := by have := HI.out.1; omega
      have h5 := HBAD.out.1
      have hbad := HBAD.out.2
      rw [hz] at hbad
      have s1 : decide ((i : Int) < 5) = true := decide_eq_true (by omega)
      have s1n : decide (i < 5) = true := decide_eq_true h5
      have hix : ∀ W, (Instr.index 45 (.agg #[.int .i64 a2, .int .i64 a3, .int .i64 a4, .int .i64 a5, .int .i64 a6]) (.int .i64 (i : Int))).run Tryd.prog W = .ok (.int .i64 z) W := fun W => hz ▸ rc_ix W a2 a3 a4 a5 a6 i h5
      have u1 : decide (z < 0) = true ∨ (decide (z < 0) = false ∧ decide (z > 100000000) = true ∧ decide (100000000 < z) = true) := by
        by_cases g : z < 0
        · exact .inl (decide_eq_true g)
        · exact .inr ⟨decide_eq_false g, decide_eq_true (by omega), decide_eq_true (by omega)⟩
      have HBW := Aside0.mk hbw
      clear hz hbad him h5 hbw
      rcases u1 with u1 | ⟨u1, u2, u3⟩
      all_goals (
        go_wp2
        go_ret
        exact ⟨rfl, by rw [HBW.out]; exact HB.out⟩)
def RcEnd (a1 a2 a3 a4 a5 a6 a7 : Int) (tp : Option (Int × Int × Int × Int × Int)) (r : Int) : Prop :=
  (¬ ((1 ≤ a1 ∧ a1 ≤ 1048575) ∧ (0 ≤ a7 ∧ a7 ≤ 2097151)) → r = 2) ∧
  ((1 ≤ a1 ∧ a1 ≤ 1048575) ∧ (0 ≤ a7 ∧ a7 ≤ 2097151) → a2 ≠ a3 + a4 + a5 + a6 → r = 19) ∧
  ((1 ≤ a1 ∧ a1 ≤ 1048575) ∧ (0 ≤ a7 ∧ a7 ≤ 2097151) → a2 = a3 + a4 + a5 + a6 → ∃ c i a g er, tp = some (c, i, a, g, er) ∧ (er ≠ 0 → r = er) ∧ (er = 0 → r = if i = a1 ∧ (if c = 0 then a else 0) = a7 then 0 else 8))
set_option maxHeartbeats 8000000 in
set_option maxRecDepth 100000 in
theorem receipt_Check.good (w : World) (a0 a1 a2 a3 a4 a5 a6 a7 : Int) (s : ByteArray) (r : Int) (h0 : 0 ≤ a0 ∧ a0 < 50) (hok : ∀ j, j < 5 → 0 ≤ rcV a2 a3 a4 a5 a6 j ∧ rcV a2 a3 a4 a5 a6 j ≤ 100000000) (hd : RcEnd a1 a2 a3 a4 a5 a6 a7 (token_Parse.f s) r) :
    Calls Tryd.prog 9 #[.agg #[.int .i64 a0, .int .i64 a1, .int .i64 a2, .int .i64 a3, .int .i64 a4, .int .i64 a5, .int .i64 a6, .int .i64 a7, .string s]] w fun e w' => e = .returned (.int .i64 r) ∧ Below w.heap.size w w' := by
  have hu29 := Tryd.underlying29
  have hu27 := Tryd.underlying27
  have hu45 := Tryd.underlying45
  have hu47 := Tryd.underlying47
  have HB := Aside0.mk (below_alloc (below_alloc (Below.refl w.heap.size w) (.cells #[.int .i64 a0, .int .i64 a1, .int .i64 a2, .int .i64 a3, .int .i64 a4, .int .i64 a5, .int .i64 a6, .int .i64 a7, .string s] 29)) (.cells #[.int .i64 a1, .int .i64 a2, .int .i64 a3, .int .i64 a4, .int .i64 a5, .int .i64 a6, .int .i64 a7] 27))
  have t1 : decide (a0 < 0) = false := decide_eq_false (by omega)
  have t2 : decide (a0 ≥ 50) = false := decide_eq_false (by omega)
  have t3 : decide (50 ≤ a0) = false := decide_eq_false (by omega)
  have HM := Aside0.mk (And.intro (Nat.le_refl 5) hok)
  have HD := Aside0.mk hd
  clear h0 hok hd
  go_enter Tryd.func9, Tryd.ntmps9
  go_wp2
  go_loopg [5, 30] 5 (fun kq v5 v30 w' => ∃ i : Nat, v30 = .int .i64 (i : Int) ∧ Aside0 (i ≤ 5 ∧ kq = 5 - i) ∧ w' = ((w.alloc (.cells #[.int .i64 a0, .int .i64 a1, .int .i64 a2, .int .i64 a3, .int .i64 a4, .int .i64 a5, .int .i64 a6, .int .i64 a7, .string s] 29)).alloc (.cells #[.int .i64 a1, .int .i64 a2, .int .i64 a3, .int .i64 a4, .int .i64 a5, .int .i64 a6, .int .i64 a7] 27)))
  case atStart => exact ⟨0, rfl, ⟨Nat.zero_le _, by omega⟩, by first | rfl | trivial⟩
  case round =>
    obtain ⟨i, rfl, HI, hbw⟩ := hrel
    obtain ⟨z, hz⟩ : ∃ z, rcV a2 a3 a4 a5 a6 i = z := ⟨_, rfl⟩
    by_cases him : i < 5
    · have h5 : i < 5 := Nat.lt_of_lt_of_le him HM.out.1
      have hzb := HM.out.2 i him
      rw [hz] at hzb
      have s1 : decide ((i : Int) < 5) = true := decide_eq_true (by omega)
      have s1n : decide (i < 5) = true := decide_eq_true h5
      have hix : ∀ W, (Instr.index 45 (.agg #[.int .i64 a2, .int .i64 a3, .int .i64 a4, .int .i64 a5, .int .i64 a6]) (.int .i64 (i : Int))).run Tryd.prog W = .ok (.int .i64 z) W := fun W => hz ▸ rc_ix W a2 a3 a4 a5 a6 i h5
      have e2 : wrap64 ((i : Int) + 1) = ((i + 1 : Nat) : Int) := by rw [IntWalk.wrap64_in _ ⟨by omega, by omega⟩]; rfl
      have u1 : decide (z < 0) = false := decide_eq_false (by omega)
      have u2 : decide (z > 100000000) = false := decide_eq_false (by omega)
      have u3 : decide (100000000 < z) = false := decide_eq_false (by omega)
      have HJ := Aside0.mk (show i + 1 ≤ 5 ∧ i < 5 from ⟨him, h5⟩)
      have HBW := Aside0.mk hbw
      clear hz hzb him h5 hbw
      go_wp2
      go_roundg (5 - (i + 1))
      case measure => have := HJ.out; have := HI.out; omega
      case rel => exact ⟨i + 1, by first | rfl | rw [e2], ⟨HJ.out.1, rfl⟩, HBW.out⟩
    · obtain rfl : i = 5 := by have := HI.out.1; omega
      have HBW := Aside0.mk hbw
      have b0 : 0 ≤ a2 ∧ a2 ≤ 100000000 := HM.out.2 0 (by decide)
      have b1 : 0 ≤ a3 ∧ a3 ≤ 100000000 := HM.out.2 1 (by decide)
      have b2 : 0 ≤ a4 ∧ a4 ≤ 100000000 := HM.out.2 2 (by decide)
      have b3 : 0 ≤ a5 ∧ a5 ≤ 100000000 := HM.out.2 3 (by decide)
      have b4 : 0 ≤ a6 ∧ a6 ≤ 100000000 := HM.out.2 4 (by decide)
      have w1 : wrap64 (a3 + a4) = a3 + a4 := IntWalk.wrap64_in _ ⟨by omega, by omega⟩
      have w2 : wrap64 (a3 + a4 + a5) = a3 + a4 + a5 := IntWalk.wrap64_in _ ⟨by omega, by omega⟩
      have w3 : wrap64 (a3 + a4 + a5 + a6) = a3 + a4 + a5 + a6 := IntWalk.wrap64_in _ ⟨by omega, by omega⟩
      clear hz him b0 b1 b2 b3 b4
      subst hbw
      obtain ⟨WX, hWX⟩ : ∃ W : World, W = ((w.alloc (.cells #[.int .i64 a0, .int .i64 a1, .int .i64 a2, .int .i64 a3, .int .i64 a4, .int .i64 a5, .int .i64 a6, .int .i64 a7, .string s] 29)).alloc (.cells #[.int .i64 a1, .int .i64 a2, .int .i64 a3, .int .i64 a4, .int .i64 a5, .int .i64 a6, .int .i64 a7] 27)) := ⟨_, rfl⟩
      rw [← hWX]
      have B1 := Aside0.mk (show WX.heap[w.heap.size]? = some (.cells #[.int .i64 a0, .int .i64 a1, .int .i64 a2, .int .i64 a3, .int .i64 a4, .int .i64 a5, .int .i64 a6, .int .i64 a7, .string s] 29 (0, 0)) from hWX ▸ blk_alloc (blk_new w _) _)
      have B2 := Aside0.mk (show WX.heap[w.heap.size + 1]? = some (.cells #[.int .i64 a1, .int .i64 a2, .int .i64 a3, .int .i64 a4, .int .i64 a5, .int .i64 a6, .int .i64 a7] 27 (0, 0)) from hWX ▸ by have h := blk_new (w.alloc (.cells #[.int .i64 a0, .int .i64 a1, .int .i64 a2, .int .i64 a3, .int .i64 a4, .int .i64 a5, .int .i64 a6, .int .i64 a7, .string s] 29)) (.cells #[.int .i64 a1, .int .i64 a2, .int .i64 a3, .int .i64 a4, .int .i64 a5, .int .i64 a6, .int .i64 a7] 27); rw [World.size_alloc] at h; exact h)
      have HX := Aside0.mk (show Below w.heap.size w WX from hWX ▸ HB.out)
      clear hWX HBW
      have x0 : WX.cell? ⟨w.heap.size + 1, 0, none⟩ = some (.int .i64 a1) := (blk_cell B2.out 0).trans rfl
      have x1 : WX.cell? ⟨w.heap.size + 1, 1, none⟩ = some (.int .i64 a2) := (blk_cell B2.out 1).trans rfl
      have x2 : WX.cell? ⟨w.heap.size + 1, 2, none⟩ = some (.int .i64 a3) := (blk_cell B2.out 2).trans rfl
      have x3 : WX.cell? ⟨w.heap.size + 1, 3, none⟩ = some (.int .i64 a4) := (blk_cell B2.out 3).trans rfl
      have x4 : WX.cell? ⟨w.heap.size + 1, 4, none⟩ = some (.int .i64 a5) := (blk_cell B2.out 4).trans rfl
      have x5 : WX.cell? ⟨w.heap.size + 1, 5, none⟩ = some (.int .i64 a6) := (blk_cell B2.out 5).trans rfl
      have x6 : WX.cell? ⟨w.heap.size + 1, 6, none⟩ = some (.int .i64 a7) := (blk_cell B2.out 6).trans rfl
      have y8 : WX.cell? ⟨w.heap.size, 8, none⟩ = some (.string s) := (blk_cell B1.out 8).trans rfl
      by_cases g1 : (1 ≤ a1 ∧ a1 ≤ 1048575) ∧ (0 ≤ a7 ∧ a7 ≤ 2097151)
      · have v1 : decide (a1 < 1) = false := decide_eq_false (by omega)
        have v2 : decide (a1 > 1048575) = false := decide_eq_false (by omega)
        have v2n : decide (1048575 < a1) = false := decide_eq_false (by omega)
        have v3 : decide (a7 < 0) = false := decide_eq_false (by omega)
        have v4 : decide (a7 > 2097151) = false := decide_eq_false (by omega)
        have v4n : decide (2097151 < a7) = false := decide_eq_false (by omega)
        by_cases g2 : a2 = a3 + a4 + a5 + a6
        · have v5 : (a2 == a3 + a4 + a5 + a6) = true := beq_iff_eq.mpr g2
          have v6 : (a2 != a3 + a4 + a5 + a6) = false := by rw [bne, v5]; rfl
          obtain ⟨c, i, a, g, er, htp, hE1, hE2⟩ := HD.out.2.2 g1 g2
          have HTP := Aside0.mk htp
          have HE := Aside0.mk (And.intro hE1 hE2)
          have HC := Aside0.mk (below_alloc HX.out (.cells #[.int .i64 0, .int .i64 0, .int .i64 0, .int .i64 0] 47))
          clear g1 g2 htp hE1 hE2
          go_upto_region 15 with (first | (go_at_call 21; refine (token_Parse.calls s _ _ _ _ _ _ HTP.out).mono ?_; rintro e wa ⟨rfl, hb⟩; have J2 := Aside0.mk (blk_below B2.out hb); have JB := Aside0.mk (below_then HX.out HX.out.size hb); clear hb))
          obtain ⟨wb, hwb⟩ : ∃ W : World, W = wa.alloc (.cells #[.int .i64 c, .int .i64 i, .int .i64 a, .int .i64 g] 47) := ⟨_, rfl⟩
          rw [← hwb]
          have K2 := Aside0.mk (show wb.heap[w.heap.size + 1]? = _ from hwb ▸ blk_alloc J2.out _)
          have KT := Aside0.mk (show wb.heap[wa.heap.size]? = some (.cells #[.int .i64 c, .int .i64 i, .int .i64 a, .int .i64 g] 47 (0, 0)) from hwb ▸ blk_new wa _)
          have KB := Aside0.mk (show Below w.heap.size w wb from hwb ▸ below_alloc JB.out _)
          clear hwb x0 x1 x2 x3 x4 x5 x6 y8
          have m0 : wb.cell? ⟨wa.heap.size, 0, none⟩ = some (.int .i64 c) := (blk_cell KT.out 0).trans rfl
          have m1 : wb.cell? ⟨wa.heap.size, 1, none⟩ = some (.int .i64 i) := (blk_cell KT.out 1).trans rfl
          have m2 : wb.cell? ⟨wa.heap.size, 2, none⟩ = some (.int .i64 a) := (blk_cell KT.out 2).trans rfl
          have x0 : wb.cell? ⟨w.heap.size + 1, 0, none⟩ = some (.int .i64 a1) := (blk_cell K2.out 0).trans rfl
          have x6 : wb.cell? ⟨w.heap.size + 1, 6, none⟩ = some (.int .i64 a7) := (blk_cell K2.out 6).trans rfl
          by_cases he : er = 0
          · have z1 : (er == 0) = true := beq_iff_eq.mpr he
            have z2 : (er != 0) = false := by rw [bne, z1]; rfl
            have HR := Aside0.mk (HE.out.2 he)
            clear he
            have d1 : ((i == a1) = false ∧ (i != a1) = true ∧ i ≠ a1) ∨ ((i == a1) = true ∧ (i != a1) = false ∧ i = a1) := by
              by_cases q : i = a1
              · exact .inr ⟨beq_iff_eq.mpr q, by rw [bne, beq_iff_eq.mpr q]; rfl, q⟩
              · exact .inl ⟨beq_eq_false_iff_ne.mpr q, bne_iff_ne.mpr q, q⟩
            have d2 : ((c == 0) = false ∧ ¬ c = 0) ∨ ((c == 0) = true ∧ c = 0) := by
              by_cases q : c = 0
              · exact .inr ⟨beq_iff_eq.mpr q, q⟩
              · exact .inl ⟨beq_eq_false_iff_ne.mpr q, q⟩
            rcases d2 with ⟨d2, e2⟩ | ⟨d2, e2⟩
            · rw [if_neg e2] at HR
              have d3 : ((0 == a7) = false ∧ (0 != a7) = true ∧ ¬ (0 = a7)) ∨ ((0 == a7) = true ∧ (0 != a7) = false ∧ 0 = a7) := by
                by_cases q : 0 = a7
                · exact .inr ⟨beq_iff_eq.mpr q, by rw [bne, beq_iff_eq.mpr q]; rfl, q⟩
                · exact .inl ⟨beq_eq_false_iff_ne.mpr q, bne_iff_ne.mpr q, q⟩
              rcases d1 with ⟨d1, d1b, e1⟩ | ⟨d1, d1b, e1⟩
              · rw [if_neg (fun h => e1 h.1)] at HR
                clear e1 e2 d3
                go_wp2
                go_ret
                exact ⟨by rw [HR.out]; rfl, KB.out⟩
              · rcases d3 with ⟨d3, d3b, e3⟩ | ⟨d3, d3b, e3⟩
                · rw [if_neg (fun h => e3 h.2)] at HR
                  clear e1 e2 e3
                  go_wp2
                  go_ret
                  exact ⟨by rw [HR.out]; rfl, KB.out⟩
                · rw [if_pos ⟨e1, e3⟩] at HR
                  clear e1 e2 e3
                  go_wp2
                  go_ret
                  exact ⟨by rw [HR.out]; rfl, KB.out⟩
            · rw [if_pos e2] at HR
              have d3 : ((a == a7) = false ∧ (a != a7) = true ∧ ¬ (a = a7)) ∨ ((a == a7) = true ∧ (a != a7) = false ∧ a = a7) := by
                by_cases q : a = a7
                · exact .inr ⟨beq_iff_eq.mpr q, by rw [bne, beq_iff_eq.mpr q]; rfl, q⟩
                · exact .inl ⟨beq_eq_false_iff_ne.mpr q, bne_iff_ne.mpr q, q⟩
              rcases d1 with ⟨d1, d1b, e1⟩ | ⟨d1, d1b, e1⟩
              · rw [if_neg (fun h => e1 h.1)] at HR
                clear e1 e2 d3
                go_wp2
                go_ret
                exact ⟨by rw [HR.out]; rfl, KB.out⟩
              · rcases d3 with ⟨d3, d3b, e3⟩ | ⟨d3, d3b, e3⟩
                · rw [if_neg (fun h => e3 h.2)] at HR
                  clear e1 e2 e3
                  go_wp2
                  go_ret
                  exact ⟨by rw [HR.out]; rfl, KB.out⟩
                · rw [if_pos ⟨e1, e3⟩] at HR
                  clear e1 e2 e3
                  go_wp2
                  go_ret
                  exact ⟨by rw [HR.out]; rfl, KB.out⟩
          · have z1 : (er == 0) = false := beq_eq_false_iff_ne.mpr he
            have z2 : (er != 0) = true := bne_iff_ne.mpr he
            have HR := Aside0.mk (HE.out.1 he)
            clear he
            go_wp2
            go_ret
            exact ⟨by rw [HR.out]; rfl, KB.out⟩
        · have v5 : (a2 == a3 + a4 + a5 + a6) = false := beq_eq_false_iff_ne.mpr g2
          have v6 : (a2 != a3 + a4 + a5 + a6) = true := bne_iff_ne.mpr g2
          have HR := Aside0.mk (HD.out.2.1 g1 g2)
          clear g1 g2
          go_wp2
          go_ret
          exact ⟨by rw [HR.out]; rfl, HX.out⟩
      · have HR := Aside0.mk (HD.out.1 g1)
        have v0 : decide (a1 < 1) = true ∨ (decide (a1 < 1) = false ∧ decide (a1 > 1048575) = true ∧ decide (1048575 < a1) = true) ∨ (decide (a1 < 1) = false ∧ decide (a1 > 1048575) = false ∧ decide (1048575 < a1) = false ∧ decide (a7 < 0) = true) ∨ (decide (a1 < 1) = false ∧ decide (a1 > 1048575) = false ∧ decide (1048575 < a1) = false ∧ decide (a7 < 0) = false ∧ decide (a7 > 2097151) = true ∧ decide (2097151 < a7) = true) := by
          simp only [decide_eq_true_eq, decide_eq_false_iff_not]; omega
        clear g1
        rcases v0 with v1 | ⟨v1, v2, v3⟩ | ⟨v1, v2, v3, v4⟩ | ⟨v1, v2, v3, v4, v5, v6⟩
        all_goals (
          go_wp2
          go_ret
          exact ⟨by rw [HR.out]; rfl, HX.out⟩)
/-! ### receipt_Check: function 9 (by hand) -/
def receipt_Check.f (a0_0 : Int) (a0_1 : Int) (a0_2 : Int) (a0_3 : Int) (a0_4 : Int) (a0_5 : Int) (a0_6 : Int) (a0_7 : Int) (a0_8 : ByteArray) : Option (Int) :=
  if 0 ≤ a0_0 ∧ a0_0 < 50 then (if (0 ≤ a0_2 ∧ a0_2 ≤ 100000000) ∧ (0 ≤ a0_3 ∧ a0_3 ≤ 100000000) ∧ (0 ≤ a0_4 ∧ a0_4 ≤ 100000000) ∧ (0 ≤ a0_5 ∧ a0_5 ≤ 100000000) ∧ (0 ≤ a0_6 ∧ a0_6 ≤ 100000000) then
    (if (1 ≤ a0_1 ∧ a0_1 ≤ 1048575) ∧ (0 ≤ a0_7 ∧ a0_7 ≤ 2097151) then (if a0_2 = a0_3 + a0_4 + a0_5 + a0_6 then
      (token_Parse.f a0_8).bind fun t => if t.2.2.2.2 = 0 then (if t.2.1 = a0_1 ∧ (if t.1 = 0 then t.2.2.1 else 0) = a0_7 then some 0 else some 8) else some t.2.2.2.2
      else some 19) else some 2) else some 2) else some 18
theorem receipt_Check.calls (a0_0 : Int) (a0_1 : Int) (a0_2 : Int) (a0_3 : Int) (a0_4 : Int) (a0_5 : Int) (a0_6 : Int) (a0_7 : Int) (a0_8 : ByteArray) (r : Int) (w : World) (h : receipt_Check.f a0_0 a0_1 a0_2 a0_3 a0_4 a0_5 a0_6 a0_7 a0_8 = some r) :
    Calls Tryd.prog 9 #[.agg #[.int .i64 a0_0, .int .i64 a0_1, .int .i64 a0_2, .int .i64 a0_3, .int .i64 a0_4, .int .i64 a0_5, .int .i64 a0_6, .int .i64 a0_7, .string a0_8]] w fun e w' => e = .returned (.int .i64 r) ∧ Below w.heap.size w w' := by
  unfold receipt_Check.f at h
  split at h
  · rename_i h0
    split at h
    · rename_i hr
      refine receipt_Check.good w a0_0 a0_1 a0_2 a0_3 a0_4 a0_5 a0_6 a0_7 a0_8 r h0 (fun j hj => ?_) ⟨fun g1 => ?_, fun g1 g2 => ?_, fun g1 g2 => ?_⟩
      · rcases (show j = 0 ∨ j = 1 ∨ j = 2 ∨ j = 3 ∨ j = 4 by omega) with rfl | rfl | rfl | rfl | rfl <;> simp only [rcV] <;> omega
      · rw [if_neg g1] at h; exact (Option.some.inj h).symm
      · rw [if_pos g1, if_neg g2] at h; exact (Option.some.inj h).symm
      · rw [if_pos g1, if_pos g2] at h
        obtain ⟨⟨c, i, a, g, er⟩, ht, h⟩ := Option.bind_eq_some_iff.mp h
        refine ⟨c, i, a, g, er, ht, fun he => ?_, fun he => ?_⟩
        · rw [if_neg he] at h; exact (Option.some.inj h).symm
        · rw [if_pos he] at h
          by_cases q : i = a0_1 ∧ (if c = 0 then a else 0) = a0_7
          · rw [if_pos q] at h ⊢; exact (Option.some.inj h).symm
          · rw [if_neg q] at h ⊢; exact (Option.some.inj h).symm
    · rename_i hr
      obtain rfl := Option.some.inj h
      have hm : ∃ m, m < 5 ∧ (∀ j, j < m → 0 ≤ rcV a0_2 a0_3 a0_4 a0_5 a0_6 j ∧ rcV a0_2 a0_3 a0_4 a0_5 a0_6 j ≤ 100000000) ∧ (rcV a0_2 a0_3 a0_4 a0_5 a0_6 m < 0 ∨ 100000000 < rcV a0_2 a0_3 a0_4 a0_5 a0_6 m) := by
        have key : ∀ j, j < 5 → (j = 0 ∧ rcV a0_2 a0_3 a0_4 a0_5 a0_6 j = a0_2) ∨ (j = 1 ∧ rcV a0_2 a0_3 a0_4 a0_5 a0_6 j = a0_3) ∨ (j = 2 ∧ rcV a0_2 a0_3 a0_4 a0_5 a0_6 j = a0_4) ∨ (j = 3 ∧ rcV a0_2 a0_3 a0_4 a0_5 a0_6 j = a0_5) ∨ (j = 4 ∧ rcV a0_2 a0_3 a0_4 a0_5 a0_6 j = a0_6) := by
          intro j hj
          rcases (show j = 0 ∨ j = 1 ∨ j = 2 ∨ j = 3 ∨ j = 4 by omega) with rfl | rfl | rfl | rfl | rfl <;> simp [rcV]
        by_cases q2 : 0 ≤ a0_2 ∧ a0_2 ≤ 100000000
        · by_cases q3 : 0 ≤ a0_3 ∧ a0_3 ≤ 100000000
          · by_cases q4 : 0 ≤ a0_4 ∧ a0_4 ≤ 100000000
            · by_cases q5 : 0 ≤ a0_5 ∧ a0_5 ≤ 100000000
              · exact ⟨4, by decide, fun j hj => by have := key j (by omega); omega, by have := key 4 (by decide); omega⟩
              · exact ⟨3, by decide, fun j hj => by have := key j (by omega); omega, by have := key 3 (by decide); omega⟩
            · exact ⟨2, by decide, fun j hj => by have := key j (by omega); omega, by have := key 2 (by decide); omega⟩
          · exact ⟨1, by decide, fun j hj => by have := key j (by omega); omega, by have := key 1 (by decide); omega⟩
        · exact ⟨0, by decide, fun j hj => absurd hj (Nat.not_lt_zero _), by have := key 0 (by decide); omega⟩
      obtain ⟨m, h1, h2, h3⟩ := hm
      exact receipt_Check.range w a0_0 a0_1 a0_2 a0_3 a0_4 a0_5 a0_6 a0_7 a0_8 h0 m h1 h2 h3
  · rename_i h0
    obtain rfl := Option.some.inj h
    exact receipt_Check.meter w a0_0 a0_1 a0_2 a0_3 a0_4 a0_5 a0_6 a0_7 a0_8 (by omega)

/-! ### vendmeterref_In: function 22 -/
def vendmeterref_In.f (a0 : Int) (a1 : Int) (a2 : Int) : Option (Bool) := if a0 ≥ a1 then (some (decide (a0 ≤ a2))) else (some false)
set_option maxHeartbeats 8000000 in
set_option maxRecDepth 100000 in
theorem vendmeterref_In.calls (a0 : Int) (a1 : Int) (a2 : Int) (r : Bool) (w : World) (h : vendmeterref_In.f a0 a1 a2 = some r) :
    Calls Tryd.prog 22 #[.int .i64 a0, .int .i64 a1, .int .i64 a2] w fun e w' => e = .returned (.bool r) ∧ Drawn0 w w' := by
  have H : (if a0 ≥ a1 then (some (decide (a0 ≤ a2))) else (some false)) = some r := h
  clear h
  by_cases c4 : a0 ≥ a1
  · rw [if_pos c4] at H
    have c4b0 : decide (a1 ≤ a0) = true := decide_eq_true c4
    clear c4
    obtain rfl := Option.some.inj H
    go_enter Tryd.func22, Tryd.ntmps22
    go_wp2
    go_ret
    exact ⟨by first | rfl | (simp; done) | (simp [*]; done), by repeat (first | exact Drawn0.refl _ | apply Drawn0.step)⟩
  · rw [if_neg c4] at H
    have c4b0 : decide (a1 ≤ a0) = false := decide_eq_false c4
    clear c4
    obtain rfl := Option.some.inj H
    go_enter Tryd.func22, Tryd.ntmps22
    go_wp2
    go_ret
    exact ⟨by first | rfl | (simp; done) | (simp [*]; done), by repeat (first | exact Drawn0.refl _ | apply Drawn0.step)⟩

/-! ### vendmeterref_Digit: function 43 -/
def vendmeterref_Digit.f (a0 : Int) : Option (Bool) := if a0 ≥ 48 then (some (decide (a0 ≤ 57))) else (some false)
set_option maxHeartbeats 8000000 in
set_option maxRecDepth 100000 in
theorem vendmeterref_Digit.calls (a0 : Int) (r : Bool) (w : World) (h : vendmeterref_Digit.f a0 = some r) :
    Calls Tryd.prog 43 #[.int .u8 a0] w fun e w' => e = .returned (.bool r) ∧ Drawn0 w w' := by
  have H : (if a0 ≥ 48 then (some (decide (a0 ≤ 57))) else (some false)) = some r := h
  clear h
  by_cases c2 : a0 ≥ 48
  · rw [if_pos c2] at H
    have c2b0 : decide (48 ≤ a0) = true := decide_eq_true c2
    clear c2
    obtain rfl := Option.some.inj H
    go_enter Tryd.func43, Tryd.ntmps43
    go_wp2
    go_ret
    exact ⟨by first | rfl | (simp; done) | (simp [*]; done), by repeat (first | exact Drawn0.refl _ | apply Drawn0.step)⟩
  · rw [if_neg c2] at H
    have c2b0 : decide (48 ≤ a0) = false := decide_eq_false c2
    clear c2
    obtain rfl := Option.some.inj H
    go_enter Tryd.func43, Tryd.ntmps43
    go_wp2
    go_ret
    exact ⟨by first | rfl | (simp; done) | (simp [*]; done), by repeat (first | exact Drawn0.refl _ | apply Drawn0.step)⟩

-- NOT PRINTED: function 86 (vendmeterbig_Int_give)

/-! ### vendmeterbig_trim: function 110 -/
theorem xa110 {w : World} {g : Nat} {o : Obj} (h : w.heap[g]? = some o) (o' : Obj) : (w.alloc o').heap[g]? = some o := blk_alloc h o'
theorem xd110 {w : World} {g : Nat} {o : Obj} (h : w.heap[g]? = some o) : w.drew.heap[g]? = some o := blk_drew h
theorem xn110 {w : World} {g : Nat} {o : Obj} (h : w.heap[g]? = some o) (n : Nat) : (w.drewN n).heap[g]? = some o := blk_drewN h n
def vendmeterbig_trim.l0 : Nat → List Int → Int → Option (List Int)
  | 0, _, _ => none
  | k + 1, x0, x3 => if x3 > 0 then (if 0 ≤ (wrap64 (x3 - 1)) then (if (wrap64 (x3 - 1)) < (x0.length : Int) then (if (rd x0 (wrap64 (x3 - 1))) = 0 then (vendmeterbig_trim.l0 k x0 (wrap64 (x3 - 1))) else (if 0 ≤ x3 then (if x3 ≤ (x0.length : Int) then (some (x0.take (x3 : Int).toNat)) else (none)) else (none))) else (none)) else (none)) else (if 0 ≤ x3 then (if x3 ≤ (x0.length : Int) then (some (x0.take (x3 : Int).toNat)) else (none)) else (none))
def vendmeterbig_trim.f (k : Nat) (l0 : List Int) : Option (List Int) := vendmeterbig_trim.l0 k l0 (l0.length : Int)
theorem vendmeterbig_trim.mono_l : ∀ k, (∀ y0 y1, LeO (vendmeterbig_trim.l0 k y0 y1) (vendmeterbig_trim.l0 (k + 1) y0 y1))
  | 0 => fun _ _ r h => by simp [vendmeterbig_trim.l0] at h
  | k + 1 => by
    have ih0 := vendmeterbig_trim.mono_l k
    · intro y0 y1
      unfold vendmeterbig_trim.l0
      repeat' first
      | (with_reducible exact ih0 _ _)
      | (with_reducible exact LeO.refl _)
      | (with_reducible exact LeO.none _)
      | (with_reducible refine LeO.ite ?_ ?_)
      | (with_reducible refine LeO.bind ?_ (fun _ => ?_))
      | exact ih0 _ _
      | exact LeO.none _
      | refine LeO.ite ?_ ?_
      | refine LeO.bind ?_ (fun _ => ?_)
theorem vendmeterbig_trim.mono : ∀ a0 k, LeO (vendmeterbig_trim.f k a0) (vendmeterbig_trim.f (k + 1) a0) := by
  intro a0 k
  have ih0 := vendmeterbig_trim.mono_l k
  unfold vendmeterbig_trim.f
  repeat' first
      | (with_reducible exact ih0 _ _)
      | (with_reducible exact LeO.refl _)
      | (with_reducible exact LeO.none _)
      | (with_reducible refine LeO.ite ?_ ?_)
      | (with_reducible refine LeO.bind ?_ (fun _ => ?_))
      | exact ih0 _ _
      | exact LeO.none _
      | refine LeO.ite ?_ ?_
      | refine LeO.bind ?_ (fun _ => ?_)
set_option maxHeartbeats 8000000 in
set_option maxRecDepth 100000 in
theorem vendmeterbig_trim.calls (k : Nat) (P0_ : Nat → Prop) (u9000_ : Value) (l0 : List Int) (r : List Int) (w0 w : World) (hB : Below w0.heap.size w0 w) (ho0 : Kd.R (Kd.int .u32) 87 w w0.heap.size P0_ u9000_ l0) (h : vendmeterbig_trim.f k l0 = some r) :
    Calls Tryd.prog 110 #[u9000_] w fun e w' => ∃ v0_ : Value, e = .returned (v0_) ∧ Kd.R (Kd.int .u32) 87 w' w0.heap.size (fun k_ => (P0_ k_ ∨ w.heap.size ≤ k_)) v0_ r ∧ Below w0.heap.size w0 w' ∧ Kept w w' (fun k_ => P0_ k_) := by
  have HO0 := Aside0.mk (show Kd.R (Kd.int .u32) 87 w w0.heap.size (fun k_ => (P0_ k_ ∨ w.heap.size ≤ k_)) u9000_ l0 from Kd.R_mono ho0 (fun k_ hk => (.inl hk)))
  have HK := Aside0.mk (Kept.refl w (fun k_ => P0_ k_))
  have HW0 := Aside0.mk hB.size
  have HB := Aside0.mk hB
  clear hB
  have H : (vendmeterbig_trim.l0 k l0 (l0.length : Int)) = some r := h
  clear h
  have H' := Aside0.mk H
  clear H
  obtain ⟨Ao2, co2, eo2⟩ := Kd.R_slice HO0.1
  subst eo2
  go_enter Tryd.func110, Tryd.ntmps110
  go_wp2
  go_loopg [3] k (fun kq v3 w' => ∃ (x3_1 : Int), v3 = .int .i64 x3_1 ∧ Aside0 (vendmeterbig_trim.l0 kq l0 x3_1 = some r) ∧ Aside0 (kq ≤ k) ∧ Aside0 (Kd.R (Kd.int .u32) 87 w' w0.heap.size (fun k_ => (P0_ k_ ∨ w.heap.size ≤ k_)) (.slice Ao2 l0.length co2) l0) ∧ Aside0 (Kept w w' (fun k_ => P0_ k_)) ∧ Aside0 (Below w0.heap.size w0 w'))
  case atStart => exact ⟨((l0.length : Int)), (by first | rfl | (simp; done) | (simp [*]; done)), H', ⟨Nat.le_refl _⟩, ⟨by (with_reducible repeat (first | apply Kd.R_alloc | apply Kd.R_drewN | apply Kd.R_drew)); exact HO0.1⟩, ⟨by repeat (first | (with_reducible first | exact HK.out | apply Kept.alloc | apply Kept.drewN | apply Kept.drew) | exact HK.out)⟩, ⟨by repeat (first | (with_reducible first | exact HB.1 | apply below_alloc | apply pw_below_drewN | apply below_drew1) | exact HB.1)⟩⟩
  case round =>
    clear H'
    try clear c1
    try clear p2
    obtain ⟨x3_1, rfl, HA, HK1, HO_0, HK, HB⟩ := hrel
    cases gk with
    | zero => exact absurd HA.out (by simp [vendmeterbig_trim.l0])
    | succ k1 =>
      have H := HA.out
      clear HA
      simp only [vendmeterbig_trim.l0] at H
      by_cases c3 : x3_1 > 0
      · rw [if_pos c3] at H
        have c3b0 : decide (0 < x3_1) = true := decide_eq_true c3
        clear c3
        obtain ⟨ji4, hji4⟩ : ∃ j_ : Int, (wrap64 (x3_1 - 1)) = j_ := ⟨_, rfl⟩
        replace H : (if 0 ≤ (ji4) then (if (ji4) < (l0.length : Int) then (if (rd l0 (ji4)) = 0 then (vendmeterbig_trim.l0 k1 l0 ji4) else (if 0 ≤ x3_1 then (if x3_1 ≤ (l0.length : Int) then (some (l0.take (x3_1 : Int).toNat)) else (none)) else (none))) else (none)) else (none)) = some r := by first | (rw [hji4] at H; exact H) | (simp only [hji4] at H ⊢; exact H)
        have hji4w : (IntKind.i64.wrap (x3_1 - 1)) = ji4 := (i64_w _).trans hji4
        by_cases c5 : 0 ≤ (ji4)
        · rw [if_pos c5] at H
          have c5b0 : decide (0 ≤ (ji4)) = true := decide_eq_true c5
          clear c5
          by_cases c6 : (ji4) < (l0.length : Int)
          · rw [if_pos c6] at H
            have c6b0 : decide ((ji4) < (l0.length : Int)) = true := decide_eq_true c6
            clear c6
            by_cases c7 : (rd l0 (ji4)) = 0
            · rw [if_pos c7] at H
              have c7b0 : ((rd l0 (ji4)) == 0) = true := beq_iff_eq.mpr c7
              have c7b1 : ((rd l0 (ji4)) != 0) = false := bne_eq_false_iff_eq.mpr c7
              clear c7
              have H' := Aside0.mk H
              clear H
              have p107 : 0 ≤ ((ji4) : Int) := of_decide_eq_true (by first | (with_reducible assumption) | assumption)
              have q107 : (ji4) < (l0.length : Int) := of_decide_eq_true (by first | (with_reducible assumption) | assumption)
              obtain ⟨ad107, e107, hx107_0⟩ := Kd.at_int (Kd.R_reads' HO_0.out).2.2 (ji4) p107 q107
              cases e107
              replace p107 := eq_true p107
              replace q107 := eq_true q107
              go_wp2
              go_roundg k1
              case measure => have := HK1.out; omega
              case rel => exact ⟨(ji4), (by first | rfl | (simp; done) | (simp only [← hji4] <;> (first | rfl | simp)) | (simp [*]; done)), H', ⟨by have := HK1.out; omega⟩, ⟨by (with_reducible repeat (first | apply Kd.R_alloc | apply Kd.R_drewN | apply Kd.R_drew)); exact HO_0.out⟩, ⟨by repeat (first | (with_reducible first | exact HK.out | apply Kept.alloc | apply Kept.drewN | apply Kept.drew) | exact HK.out)⟩, ⟨by repeat (first | (with_reducible first | exact HB.1 | apply below_alloc | apply pw_below_drewN | apply below_drew1) | exact HB.1)⟩⟩
            · rw [if_neg c7] at H
              have c7b0 : ((rd l0 (ji4)) == 0) = false := beq_eq_false_iff_ne.mpr c7
              have c7b1 : ((rd l0 (ji4)) != 0) = true := bne_iff_ne.mpr c7
              by_cases c8 : 0 ≤ x3_1
              · rw [if_pos c8] at H
                have c8b0 := eq_true c8
                have c8b1 : decide (0 ≤ x3_1) = true := decide_eq_true c8
                clear c8
                by_cases c9 : x3_1 ≤ (l0.length : Int)
                · rw [if_pos c9] at H
                  have c9b0 := eq_true c9
                  have c9b1 : decide (x3_1 ≤ (l0.length : Int)) = true := decide_eq_true c9
                  clear c9
                  obtain ⟨y108, hy108⟩ : ∃ y_ : List Int, y_ = (l0.take (x3_1 : Int).toNat) := ⟨_, rfl⟩
                  replace H : (some y108) = some r := by first | (rw [hy108]; with_reducible exact H) | (have H2_ := (Option.bind_some _ _).symm.trans H; rw [hy108]; with_reducible exact H2_) | (have H2_ := (Option.bind_some _ _).symm.trans H; with_reducible exact H2_) | with_reducible exact H | (rw [hy108]; exact H) | exact H
                  have Ny108 := Aside0.mk hy108
                  clear hy108
                  obtain rfl := Option.some.inj H
                  have p107 : 0 ≤ ((ji4) : Int) := of_decide_eq_true (by first | (with_reducible assumption) | assumption)
                  have q107 : (ji4) < (l0.length : Int) := of_decide_eq_true (by first | (with_reducible assumption) | assumption)
                  obtain ⟨ad107, e107, hx107_0⟩ := Kd.at_int (Kd.R_reads' HO_0.out).2.2 (ji4) p107 q107
                  cases e107
                  replace p107 := eq_true p107
                  replace q107 := eq_true q107
                  have q10 : (x3_1 : Int) ≤ ((l0.length : Int) : Int) := of_decide_eq_true (by first | (with_reducible assumption) | assumption)
                  obtain ⟨i010, hi010, _, hsz10, _⟩ := info_parts info87
                  have hcut10 := cut_to (P := Tryd.prog) 100 87 .i64 Tryd.underlying100 hi010 (some ad107) l0.length co2 x3_1 (of_decide_eq_true (by first | (with_reducible assumption) | assumption)) q10 (Kd.R_reads' HO_0.out).2.1
                  have hr10 := Kd.R_take (m := (x3_1 : Int).toNat) HO_0.out (by omega)
                  have hy10 : y108.length = (x3_1 : Int).toNat := (by rw [Ny108.out, List.length_take]; omega)
                  rw [← Ny108.out] at hr10
                  rw [← hy10] at hr10 hcut10
                  clear hy10 hi010 hsz10 HO_0
                  have HO110 := Aside0.mk hr10
                  clear hr10
                  replace q10 := eq_true q10
                  go_wp2
                  go_ret
                  exact ⟨_, by first | rfl | (simp [errW_none, errW_some] <;> rfl) | (simp only [← hji4]; first | rfl | (simp [errW_none, errW_some] <;> rfl)) | (simp [*, errW_none, errW_some] <;> rfl), by (with_reducible repeat (first | apply Kd.R_alloc | apply Kd.R_drewN | apply Kd.R_drew)); exact HO110.1, by repeat (first | (with_reducible first | exact HB.1 | apply below_alloc | apply pw_below_drewN | apply below_drew1) | exact HB.1), by repeat (first | (with_reducible first | exact HK.out | apply Kept.alloc | apply Kept.drewN | apply Kept.drew) | exact HK.out)⟩
                · rw [if_neg c9] at H
                  exact absurd H (by simp)
              · rw [if_neg c8] at H
                exact absurd H (by simp)
          · rw [if_neg c6] at H
            exact absurd H (by simp)
        · rw [if_neg c5] at H
          exact absurd H (by simp)
      · rw [if_neg c3] at H
        have c3b0 : decide (0 < x3_1) = false := decide_eq_false c3
        clear c3
        by_cases c11 : 0 ≤ x3_1
        · rw [if_pos c11] at H
          have c11b0 := eq_true c11
          have c11b1 : decide (0 ≤ x3_1) = true := decide_eq_true c11
          clear c11
          by_cases c12 : x3_1 ≤ (l0.length : Int)
          · rw [if_pos c12] at H
            have c12b0 := eq_true c12
            have c12b1 : decide (x3_1 ≤ (l0.length : Int)) = true := decide_eq_true c12
            clear c12
            obtain ⟨y111, hy111⟩ : ∃ y_ : List Int, y_ = (l0.take (x3_1 : Int).toNat) := ⟨_, rfl⟩
            replace H : (some y111) = some r := by first | (rw [hy111]; with_reducible exact H) | (have H2_ := (Option.bind_some _ _).symm.trans H; rw [hy111]; with_reducible exact H2_) | (have H2_ := (Option.bind_some _ _).symm.trans H; with_reducible exact H2_) | with_reducible exact H | (rw [hy111]; exact H) | exact H
            have Ny111 := Aside0.mk hy111
            clear hy111
            obtain rfl := Option.some.inj H
            have q13 : (x3_1 : Int) ≤ ((l0.length : Int) : Int) := of_decide_eq_true (by first | (with_reducible assumption) | assumption)
            obtain ⟨i013, hi013, _, hsz13, _⟩ := info_parts info87
            have hcut13 := cut_to (P := Tryd.prog) 100 87 .i64 Tryd.underlying100 hi013 Ao2 l0.length co2 x3_1 (of_decide_eq_true (by first | (with_reducible assumption) | assumption)) q13 (Kd.R_reads' HO_0.out).2.1
            have hr13 := Kd.R_take (m := (x3_1 : Int).toNat) HO_0.out (by omega)
            have hy13 : y111.length = (x3_1 : Int).toNat := (by rw [Ny111.out, List.length_take]; omega)
            rw [← Ny111.out] at hr13
            rw [← hy13] at hr13 hcut13
            clear hy13 hi013 hsz13 HO_0
            have HO113 := Aside0.mk hr13
            clear hr13
            replace q13 := eq_true q13
            go_wp2
            go_ret
            exact ⟨_, by first | rfl | (simp [errW_none, errW_some] <;> rfl) | (simp [*, errW_none, errW_some] <;> rfl), by (with_reducible repeat (first | apply Kd.R_alloc | apply Kd.R_drewN | apply Kd.R_drew)); exact HO113.1, by repeat (first | (with_reducible first | exact HB.1 | apply below_alloc | apply pw_below_drewN | apply below_drew1) | exact HB.1), by repeat (first | (with_reducible first | exact HK.out | apply Kept.alloc | apply Kept.drewN | apply Kept.drew) | exact HK.out)⟩
          · rw [if_neg c12] at H
            exact absurd H (by simp)
        · rw [if_neg c11] at H
          exact absurd H (by simp)

/-! ### vendmeterbig_mul stands in bw.A, bw.B -/

-- NOT PRINTED: function 53 (vendmeterbig_Int_Mul)

/-! ### vendmeterbig_words: function 111 -/
theorem xa111 {w : World} {g : Nat} {o : Obj} (h : w.heap[g]? = some o) (o' : Obj) : (w.alloc o').heap[g]? = some o := blk_alloc h o'
theorem xd111 {w : World} {g : Nat} {o : Obj} (h : w.heap[g]? = some o) : w.drew.heap[g]? = some o := blk_drew h
theorem xn111 {w : World} {g : Nat} {o : Obj} (h : w.heap[g]? = some o) (n : Nat) : (w.drewN n).heap[g]? = some o := blk_drewN h n
theorem ya111 {w W : World} (h : Below w.heap.size w W) (o : Obj) : Below w.heap.size w (W.alloc o) := below_alloc h o
theorem yn111 {B : Nat} {w W : World} (h : Below B w W) (n : Nat) : Below B w (W.drewN n) := pw_below_drewN h n
theorem yd111 {B : Nat} {w W : World} (h : Below B w W) : Below B w W.drew := below_drew1 h
def vendmeterbig_words.f (k : Nat) (a0 : Int) : Option (List Int) := (vendmeterbig_trim.f k (([(a0) % 4294967296, (a0 / 4294967296) % 4294967296] : List Int))).bind fun t117 => (some t117)
theorem vendmeterbig_words.mono : ∀ a0 k, LeO (vendmeterbig_words.f k a0) (vendmeterbig_words.f (k + 1) a0) := by
  intro a0 k
  unfold vendmeterbig_words.f
  repeat' first
      | (with_reducible exact vendmeterbig_trim.mono _ _)
      | (with_reducible exact LeO.refl _)
      | (with_reducible exact LeO.none _)
      | (with_reducible refine LeO.ite ?_ ?_)
      | (with_reducible refine LeO.bind ?_ (fun _ => ?_))
      | exact vendmeterbig_trim.mono _ _
      | exact LeO.none _
      | refine LeO.ite ?_ ?_
      | refine LeO.bind ?_ (fun _ => ?_)
set_option maxHeartbeats 8000000 in
set_option maxRecDepth 100000 in
theorem vendmeterbig_words.calls (k : Nat) (a0 : Int) (r : List Int) (w : World) (h : vendmeterbig_words.f k a0 = some r) :
    Calls Tryd.prog 111 #[.int .u64 a0] w fun e w' => ∃ v0_ : Value, e = .returned (v0_) ∧ Kd.R (Kd.int .u32) 87 w' w.heap.size (fun _ => True) v0_ r ∧ Below w.heap.size w w' := by
  have HB := Aside0.mk (Below.refl w.heap.size w)
  have H : ((vendmeterbig_trim.f k (([(a0) % 4294967296, (a0 / 4294967296) % 4294967296] : List Int))).bind fun t117 => (some t117)) = some r := h
  clear h
  obtain ⟨y114, hy114⟩ : ∃ y_ : List Int, y_ = (([(a0) % 4294967296, (a0 / 4294967296) % 4294967296] : List Int)) := ⟨_, rfl⟩
  replace H : ((vendmeterbig_trim.f k y114).bind fun t117 => (some t117)) = some r := by first | (rw [hy114]; with_reducible exact H) | (have H2_ := (Option.bind_some _ _).symm.trans H; rw [hy114]; with_reducible exact H2_) | (have H2_ := (Option.bind_some _ _).symm.trans H; with_reducible exact H2_) | with_reducible exact H | (rw [hy114]; exact H) | exact H
  have Ny114 := Aside0.mk hy114
  clear hy114
  replace H := Option.bind_eq_some_iff.mp H
  obtain ⟨t117, A20, H⟩ := H
  replace H : (some t117) = some r := H
  have A2 := Aside0.mk A20
  clear A20
  obtain rfl := Option.some.inj H
  go_enter Tryd.func111, Tryd.ntmps111
  go_wp2_with (first | ((with_reducible refine gate_dst (N := 8) rfl ?_); refine Kd.R_lit (Kd.int .u32) _ 87 ?hg (N := 8) ?hd (xs := ([(a0) % 4294967296, (a0 / 4294967296) % 4294967296] : List Int)) (inner := [.int .u32 ((a0) % 4294967296), .int .u32 ((a0 / 4294967296) % 4294967296)]) (ok := fun _ => True) (okp := fun _ => True) ?hr ?hp (fun _ hk => hk) trivial (Below.refl _ _) (Nat.le_refl _) (by simp) ?_; (case hd => rfl); (case hg => rfl); (case hr => first | (go_simp; done) | (go_simp; rfl)); (case hp => exact (Reps.one (show Kd.M (Kd.int .u32) _ _ _ ((a0) % 4294967296) [.int .u32 ((a0) % 4294967296)] from rfl) (Reps.one (show Kd.M (Kd.int .u32) _ _ _ ((a0 / 4294967296) % 4294967296) [.int .u32 ((a0 / 4294967296) % 4294967296)] from rfl) (Reps.none _ _)))); intro v115 w3 ho4 hb hg_ hnew_; clear hg_ hnew_; (first | rw [← Ny114.out] at ho4 | (simp only [Int.reduceToNat] at ho4; rw [← Ny114.out] at ho4)); have n0_ := Aside0.mk (Kd.R_lower ho4 (below_size (by with_reducible repeat (first | exact HB.1 | apply ya111 | apply yn111 | apply yd111)))); have n1_ := Aside0.mk (below_step (by with_reducible repeat (first | exact HB.1 | apply ya111 | apply yn111 | apply yd111)) hb); clear HB; have HO116 := n0_; have HB := n1_; clear n0_ n1_; clear hb ho4; obtain ⟨Ao5, co5, eo5⟩ := Kd.R_slice HO116.1; subst eo5) | ((with_reducible refine gate_callee (f := 110) rfl ?_); refine goesL_ (some 9) rfl rfl Tryd.func110 (by kernel_rfl) rfl #[.slice Ao5 y114.length co5] rfl (by (try simp only [List.map_toArray, List.map_cons, List.map_nil]); first | done | rfl | (simp only [List.length_drop, List.length_take]; rfl)) ?_; (with_reducible refine (vendmeterbig_trim.calls k (fun k_ => some k_ = (.slice Ao5 y114.length co5 : Value).ownBlock) (.slice Ao5 y114.length co5) y114 t117 w _ ?side1 ?side2 A2.out).mono ?_); (case side1 => repeat (first | (with_reducible first | exact HB.1 | apply below_alloc | apply pw_below_drewN | apply below_drew1) | exact HB.1)); (case side2 => exact Kd.R_tight rfl HO116.1); rintro e w6 ⟨v118, rfl, ho0, hb, hkp⟩; refine ⟨_, rfl, ?_⟩; have n0_ := Aside0.mk (Kd.R_mono (ok' := fun k_ => True) ho0 (fun k_ hk_ => trivial)); have n1_ := Aside0.mk (hb); clear HB; clear HO116; have HO119 := n0_; have HB := n1_; clear n0_ n1_; (try clear hb); (try clear hkp); (try clear ho0)))
  go_ret
  exact ⟨_, by first | rfl | (simp [errW_none, errW_some] <;> rfl) | (simp [*, errW_none, errW_some] <;> rfl), by (with_reducible repeat (first | apply Kd.R_alloc | apply Kd.R_drewN | apply Kd.R_drew)); exact HO119.1, by repeat (first | (with_reducible first | exact HB.1 | apply below_alloc | apply pw_below_drewN | apply below_drew1) | exact HB.1)⟩

-- NOT PRINTED: function 88 (vendmeterbig_Int_SetInt64)

-- NOT PRINTED: function 54 (vendmeterbig_NewInt)

-- NOT PRINTED: function 112 (vendmeterbig_add)

/-! ### vendmeterbig_cmp: function 113 -/
theorem xa113 {w : World} {g : Nat} {o : Obj} (h : w.heap[g]? = some o) (o' : Obj) : (w.alloc o').heap[g]? = some o := blk_alloc h o'
theorem xd113 {w : World} {g : Nat} {o : Obj} (h : w.heap[g]? = some o) : w.drew.heap[g]? = some o := blk_drew h
theorem xn113 {w : World} {g : Nat} {o : Obj} (h : w.heap[g]? = some o) (n : Nat) : (w.drewN n).heap[g]? = some o := blk_drewN h n
def vendmeterbig_cmp.l0 : Nat → List Int → List Int → Int → Option (Int)
  | 0, _, _, _ => none
  | k + 1, x0, x1, x5 => if x5 ≥ 0 then (if 0 ≤ x5 then (if x5 < (x0.length : Int) then (if x5 < (x1.length : Int) then (if (rd x0 x5) = (rd x1 x5) then (vendmeterbig_cmp.l0 k x0 x1 (wrap64 (x5 - 1))) else (if (rd x0 x5) < (rd x1 x5) then (some (-1)) else (some 1))) else (none)) else (none)) else (none)) else (some 0)
def vendmeterbig_cmp.f (k : Nat) (l0 : List Int) (l1 : List Int) : Option (Int) := if (l0.length : Int) = (l1.length : Int) then (vendmeterbig_cmp.l0 k l0 l1 (wrap64 ((l0.length : Int) - 1))) else (if (l0.length : Int) < (l1.length : Int) then (some (-1)) else (some 1))
theorem vendmeterbig_cmp.mono_l : ∀ k, (∀ y0 y1 y2, LeO (vendmeterbig_cmp.l0 k y0 y1 y2) (vendmeterbig_cmp.l0 (k + 1) y0 y1 y2))
  | 0 => fun _ _ _ r h => by simp [vendmeterbig_cmp.l0] at h
  | k + 1 => by
    have ih0 := vendmeterbig_cmp.mono_l k
    · intro y0 y1 y2
      unfold vendmeterbig_cmp.l0
      repeat' first
      | (with_reducible exact ih0 _ _ _)
      | (with_reducible exact LeO.refl _)
      | (with_reducible exact LeO.none _)
      | (with_reducible refine LeO.ite ?_ ?_)
      | (with_reducible refine LeO.bind ?_ (fun _ => ?_))
      | exact ih0 _ _ _
      | exact LeO.none _
      | refine LeO.ite ?_ ?_
      | refine LeO.bind ?_ (fun _ => ?_)
theorem vendmeterbig_cmp.mono : ∀ a0 a1 k, LeO (vendmeterbig_cmp.f k a0 a1) (vendmeterbig_cmp.f (k + 1) a0 a1) := by
  intro a0 a1 k
  have ih0 := vendmeterbig_cmp.mono_l k
  unfold vendmeterbig_cmp.f
  repeat' first
      | (with_reducible exact ih0 _ _ _)
      | (with_reducible exact LeO.refl _)
      | (with_reducible exact LeO.none _)
      | (with_reducible refine LeO.ite ?_ ?_)
      | (with_reducible refine LeO.bind ?_ (fun _ => ?_))
      | exact ih0 _ _ _
      | exact LeO.none _
      | refine LeO.ite ?_ ?_
      | refine LeO.bind ?_ (fun _ => ?_)
set_option maxHeartbeats 8000000 in
set_option maxRecDepth 100000 in
theorem vendmeterbig_cmp.calls (k : Nat) (A0 : Option Addr) (c0 : Nat) (l0 : List Int) (A1 : Option Addr) (c1 : Nat) (l1 : List Int) (r : Int) (w : World) (hr0 : Kd.C (Kd.int .u32) w A0 l0.length l0) (hc0 : l0.length ≤ c0) (hr1 : Kd.C (Kd.int .u32) w A1 l1.length l1) (hc1 : l1.length ≤ c1) (h : vendmeterbig_cmp.f k l0 l1 = some r) :
    Calls Tryd.prog 113 #[.slice A0 l0.length c0, .slice A1 l1.length c1] w fun e w' => e = .returned (.int .i64 r) ∧ Drawn0 w w' := by
  have HR0 := Aside0.mk hr0
  have HC0 := Aside0.mk hc0
  clear hr0 hc0
  have HR1 := Aside0.mk hr1
  have HC1 := Aside0.mk hc1
  clear hr1 hc1
  have H : (if (l0.length : Int) = (l1.length : Int) then (vendmeterbig_cmp.l0 k l0 l1 (wrap64 ((l0.length : Int) - 1))) else (if (l0.length : Int) < (l1.length : Int) then (some (-1)) else (some 1))) = some r := h
  clear h
  by_cases c3 : (l0.length : Int) = (l1.length : Int)
  · rw [if_pos c3] at H
    have c3b0 : ((l0.length : Int) == (l1.length : Int)) = true := beq_iff_eq.mpr c3
    have c3b1 : ((l0.length : Int) != (l1.length : Int)) = false := bne_eq_false_iff_eq.mpr c3
    have c3b2 : (l0.length == l1.length) = true := by first | simpa using c3 | (simp at c3 ⊢; omega)
    clear c3
    have H' := Aside0.mk H
    clear H
    go_enter Tryd.func113, Tryd.ntmps113
    go_wp2
    repeat (go_quiet (fail); try go_wp2)
    go_loopg [5] k (fun kq v5 w' => ∃ (x5_1 : Int), v5 = .int .i64 x5_1 ∧ Aside0 (vendmeterbig_cmp.l0 kq l0 l1 x5_1 = some r) ∧ Aside0 (kq ≤ k) ∧ Drawn0 w w')
    case atStart => exact ⟨(wrap64 ((l0.length : Int) - 1)), (by first | rfl | (simp; done) | (simp [*]; done)), H', ⟨Nat.le_refl _⟩, by repeat (first | exact Drawn0.refl _ | apply Drawn0.step)⟩
    case round =>
      clear H'
      try clear c1
      try clear p2
      try clear c3
      try clear c3b0
      try clear c3b1
      try clear c3b2
      obtain ⟨x5_1, rfl, HA, HK1, ⟨m1, rfl⟩⟩ := hrel
      cases gk with
      | zero => exact absurd HA.out (by simp [vendmeterbig_cmp.l0])
      | succ k1 =>
        have H := HA.out
        clear HA
        simp only [vendmeterbig_cmp.l0] at H
        by_cases c4 : x5_1 ≥ 0
        · rw [if_pos c4] at H
          have c4b0 : decide (0 ≤ x5_1) = true := decide_eq_true c4
          clear c4
          by_cases c5 : 0 ≤ x5_1
          · rw [if_pos c5] at H
            have c5b0 : decide (0 ≤ x5_1) = true := decide_eq_true c5
            clear c5
            by_cases c6 : x5_1 < (l0.length : Int)
            · rw [if_pos c6] at H
              have c6b0 : decide (x5_1 < (l0.length : Int)) = true := decide_eq_true c6
              clear c6
              by_cases c7 : x5_1 < (l1.length : Int)
              · rw [if_pos c7] at H
                have c7b0 : decide (x5_1 < (l1.length : Int)) = true := decide_eq_true c7
                clear c7
                by_cases c8 : (rd l0 x5_1) = (rd l1 x5_1)
                · rw [if_pos c8] at H
                  have c8b0 : ((rd l0 x5_1) == (rd l1 x5_1)) = true := beq_iff_eq.mpr c8
                  have c8b1 : ((rd l0 x5_1) != (rd l1 x5_1)) = false := bne_eq_false_iff_eq.mpr c8
                  clear c8
                  have H' := Aside0.mk H
                  clear H
                  have p121 : 0 ≤ (x5_1 : Int) := of_decide_eq_true (by first | (with_reducible assumption) | assumption)
                  have q121 : x5_1 < (l0.length : Int) := of_decide_eq_true (by first | (with_reducible assumption) | assumption)
                  obtain ⟨ad121, e121, hx121_0⟩ := Kd.at_int HR0.out x5_1 p121 q121
                  cases e121
                  replace p121 := eq_true p121
                  replace q121 := eq_true q121
                  have p122 : 0 ≤ (x5_1 : Int) := of_decide_eq_true (by first | (with_reducible assumption) | assumption)
                  have q122 : x5_1 < (l1.length : Int) := of_decide_eq_true (by first | (with_reducible assumption) | assumption)
                  obtain ⟨ad122, e122, hx122_0⟩ := Kd.at_int HR1.out x5_1 p122 q122
                  cases e122
                  replace p122 := eq_true p122
                  replace q122 := eq_true q122
                  go_wp2
                  repeat (go_quiet (fail); try go_wp2)
                  go_roundg k1
                  case measure => have := HK1.out; omega
                  case rel => exact ⟨(wrap64 (x5_1 - 1)), (by first | rfl | (simp; done) | (simp [*]; done)), H', ⟨by have := HK1.out; omega⟩, by repeat (first | exact Drawn0.refl _ | apply Drawn0.step)⟩
                · rw [if_neg c8] at H
                  have c8b0 : ((rd l0 x5_1) == (rd l1 x5_1)) = false := beq_eq_false_iff_ne.mpr c8
                  have c8b1 : ((rd l0 x5_1) != (rd l1 x5_1)) = true := bne_iff_ne.mpr c8
                  by_cases c9 : (rd l0 x5_1) < (rd l1 x5_1)
                  · rw [if_pos c9] at H
                    have c9b0 : decide ((rd l0 x5_1) < (rd l1 x5_1)) = true := decide_eq_true c9
                    clear c9
                    obtain rfl := Option.some.inj H
                    have p121 : 0 ≤ (x5_1 : Int) := of_decide_eq_true (by first | (with_reducible assumption) | assumption)
                    have q121 : x5_1 < (l0.length : Int) := of_decide_eq_true (by first | (with_reducible assumption) | assumption)
                    obtain ⟨ad121, e121, hx121_0⟩ := Kd.at_int HR0.out x5_1 p121 q121
                    cases e121
                    replace p121 := eq_true p121
                    replace q121 := eq_true q121
                    have p122 : 0 ≤ (x5_1 : Int) := of_decide_eq_true (by first | (with_reducible assumption) | assumption)
                    have q122 : x5_1 < (l1.length : Int) := of_decide_eq_true (by first | (with_reducible assumption) | assumption)
                    obtain ⟨ad122, e122, hx122_0⟩ := Kd.at_int HR1.out x5_1 p122 q122
                    cases e122
                    replace p122 := eq_true p122
                    replace q122 := eq_true q122
                    have p123 : 0 ≤ (x5_1 : Int) := of_decide_eq_true (by first | (with_reducible assumption) | assumption)
                    have q123 : x5_1 < (l0.length : Int) := of_decide_eq_true (by first | (with_reducible assumption) | assumption)
                    obtain ⟨ad123, e123, hx123_0⟩ := Kd.at_int HR0.out x5_1 p123 q123
                    obtain rfl : ad121 = ad123 := (by injection e123)
                    replace p123 := eq_true p123
                    replace q123 := eq_true q123
                    have p124 : 0 ≤ (x5_1 : Int) := of_decide_eq_true (by first | (with_reducible assumption) | assumption)
                    have q124 : x5_1 < (l1.length : Int) := of_decide_eq_true (by first | (with_reducible assumption) | assumption)
                    obtain ⟨ad124, e124, hx124_0⟩ := Kd.at_int HR1.out x5_1 p124 q124
                    obtain rfl : ad122 = ad124 := (by injection e124)
                    replace p124 := eq_true p124
                    replace q124 := eq_true q124
                    go_wp2
                    repeat (go_quiet (fail); try go_wp2)
                    go_ret
                    exact ⟨by first | rfl | (simp; done) | (simp [*]; done), by repeat (first | exact Drawn0.refl _ | apply Drawn0.step)⟩
                  · rw [if_neg c9] at H
                    have c9b0 : decide ((rd l0 x5_1) < (rd l1 x5_1)) = false := decide_eq_false c9
                    clear c9
                    obtain rfl := Option.some.inj H
                    have p121 : 0 ≤ (x5_1 : Int) := of_decide_eq_true (by first | (with_reducible assumption) | assumption)
                    have q121 : x5_1 < (l0.length : Int) := of_decide_eq_true (by first | (with_reducible assumption) | assumption)
                    obtain ⟨ad121, e121, hx121_0⟩ := Kd.at_int HR0.out x5_1 p121 q121
                    cases e121
                    replace p121 := eq_true p121
                    replace q121 := eq_true q121
                    have p122 : 0 ≤ (x5_1 : Int) := of_decide_eq_true (by first | (with_reducible assumption) | assumption)
                    have q122 : x5_1 < (l1.length : Int) := of_decide_eq_true (by first | (with_reducible assumption) | assumption)
                    obtain ⟨ad122, e122, hx122_0⟩ := Kd.at_int HR1.out x5_1 p122 q122
                    cases e122
                    replace p122 := eq_true p122
                    replace q122 := eq_true q122
                    have p123 : 0 ≤ (x5_1 : Int) := of_decide_eq_true (by first | (with_reducible assumption) | assumption)
                    have q123 : x5_1 < (l0.length : Int) := of_decide_eq_true (by first | (with_reducible assumption) | assumption)
                    obtain ⟨ad123, e123, hx123_0⟩ := Kd.at_int HR0.out x5_1 p123 q123
                    obtain rfl : ad121 = ad123 := (by injection e123)
                    replace p123 := eq_true p123
                    replace q123 := eq_true q123
                    have p124 : 0 ≤ (x5_1 : Int) := of_decide_eq_true (by first | (with_reducible assumption) | assumption)
                    have q124 : x5_1 < (l1.length : Int) := of_decide_eq_true (by first | (with_reducible assumption) | assumption)
                    obtain ⟨ad124, e124, hx124_0⟩ := Kd.at_int HR1.out x5_1 p124 q124
                    obtain rfl : ad122 = ad124 := (by injection e124)
                    replace p124 := eq_true p124
                    replace q124 := eq_true q124
                    go_wp2
                    repeat (go_quiet (fail); try go_wp2)
                    go_ret
                    exact ⟨by first | rfl | (simp; done) | (simp [*]; done), by repeat (first | exact Drawn0.refl _ | apply Drawn0.step)⟩
              · rw [if_neg c7] at H
                exact absurd H (by simp)
            · rw [if_neg c6] at H
              exact absurd H (by simp)
          · rw [if_neg c5] at H
            exact absurd H (by simp)
        · rw [if_neg c4] at H
          have c4b0 : decide (0 ≤ x5_1) = false := decide_eq_false c4
          clear c4
          obtain rfl := Option.some.inj H
          go_wp2
          repeat (go_quiet (fail); try go_wp2)
          go_ret
          exact ⟨by first | rfl | (simp; done) | (simp [*]; done), by repeat (first | exact Drawn0.refl _ | apply Drawn0.step)⟩
  · rw [if_neg c3] at H
    have c3b0 : ((l0.length : Int) == (l1.length : Int)) = false := beq_eq_false_iff_ne.mpr c3
    have c3b1 : ((l0.length : Int) != (l1.length : Int)) = true := bne_iff_ne.mpr c3
    have c3b2 : (l0.length == l1.length) = false := by first | simpa using c3 | (simp at c3 ⊢; omega)
    by_cases c10 : (l0.length : Int) < (l1.length : Int)
    · rw [if_pos c10] at H
      have c10b0 : decide ((l0.length : Int) < (l1.length : Int)) = true := decide_eq_true c10
      have c10b1 : decide (l0.length < l1.length) = true := decide_eq_true (Int.ofNat_lt.mp c10)
      clear c10
      obtain rfl := Option.some.inj H
      go_enter Tryd.func113, Tryd.ntmps113
      go_wp2
      repeat (go_quiet (fail); try go_wp2)
      go_ret
      exact ⟨by first | rfl | (simp; done) | (simp [*]; done), by repeat (first | exact Drawn0.refl _ | apply Drawn0.step)⟩
    · rw [if_neg c10] at H
      have c10b0 : decide ((l0.length : Int) < (l1.length : Int)) = false := decide_eq_false c10
      have c10b1 : decide (l0.length < l1.length) = false := decide_eq_false (fun h => c10 (Int.ofNat_lt.mpr h))
      clear c10
      obtain rfl := Option.some.inj H
      go_enter Tryd.func113, Tryd.ntmps113
      go_wp2
      repeat (go_quiet (fail); try go_wp2)
      go_ret
      exact ⟨by first | rfl | (simp; done) | (simp [*]; done), by repeat (first | exact Drawn0.refl _ | apply Drawn0.step)⟩

end Go.Proofs.YthacfmjljglbiaaDoor.PReceiptChecks
