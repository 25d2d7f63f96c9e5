-- written by this session's program wip/xp/xprint.py (it drives the kit's print and adds to it)
import Derived.Test.YtocolmpfpbclbaaGreatDoorPReceiptShowsx0
import Derived.Test.YtocolmpfpbclbaaGreatDoorPReceiptShowsx3
namespace Go.Proofs.YtocolmpfpbclbaaGreatDoor.PReceiptShows
open Go.RowKit Go.Proofs.YtocolmpfpbclbaaGreatDoorW.PrintWords Go.Proofs.YtocolmpfpbclbaaGreatDoorW.PrintLast Go.Proofs.YtocolmpfpbclbaaGreatDoorW.PrintMore
attribute [local go_sem] max2_int min2_int max_two min_two max_three min_three max_four min_four
set_option linter.unusedVariables false
set_option linter.unusedSimpArgs false
set_option maxHeartbeats 8000000
set_option maxRecDepth 100000

def rcV (b c d e f : Int) : Nat → Int
 | 0 => b
 | 1 => c
 | 2 => d
 | 3 => e
 | _ => f
theorem rc_ix (W : World) (b c d e f : Int) (i : Nat) (h : i < 5) : (Instr.index 65 (.agg #[.int .i64 b, .int .i64 c, .int .i64 d, .int .i64 e, .int .i64 f]) (.int .i64 (i : Int))).run Tryz.prog W = .ok (.int .i64 (rcV b c d e f i)) W := by
 have : i = 0 ∨ i = 1 ∨ i = 2 ∨ i = 3 ∨ i = 4 := by omega
 rcases this with rfl | rfl | rfl | rfl | rfl <;> simp [Instr.index, run_underlying Tryz.underlying65, asIntOf, go_sem, rcV]
theorem receipt_Check.meter (w : World) (a0 a1 a2 a3 a4 a5 a6 a7 : Int) (s : ByteArray) (h : a0 < 0 ∨ 50 ≤ a0) :
  Calls Tryz.prog 9 #[.agg #[.int .i64 a0, .int .i64 a1, .int .i64 a2, .int .i64 a3, .int .i64 a4, .int .i64 a5, .int .i64 a6, .int .i64 a7, .string s]] w fun e w' => e = .returned (.int .i64 18) ∧ Below w.heap.size w w' := by
 have hu29 := Tryz.underlying25
 have hu27 := Tryz.underlying23
 have hu45 := Tryz.underlying65
 have HB := am (below_alloc (Below.refl w.heap.size w) (.cells #[.int .i64 a0, .int .i64 a1, .int .i64 a2, .int .i64 a3, .int .i64 a4, .int .i64 a5, .int .i64 a6, .int .i64 a7, .string s] 25))
 have t1 : decide (a0 < 0) = true ∨ (decide (a0 < 0) = false ∧ decide (a0 ≥ 50) = true ∧ decide (50 ≤ a0) = true) := by
  by_cases g : a0 < 0
  ·
   exact .inl (decide_eq_true g)
  ·
   exact .inr ⟨decide_eq_false g, decide_eq_true (by omega), decide_eq_true (by omega)⟩
 clear h
 go_enter Tryz.func9, Tryz.ntmps9
 rcases t1 with t1 | ⟨t1, t2, t3⟩
 all_goals (
  go_wp2
  go_ret
  exact ⟨rfl, HB.out⟩)
theorem receipt_Check.range (w : World) (a0 a1 a2 a3 a4 a5 a6 a7 : Int) (s : ByteArray) (h0 : 0 ≤ a0 ∧ a0 < 50) (m : Nat) (hm : m < 5) (hok : ∀ j, j < m → 0 ≤ rcV a2 a3 a4 a5 a6 j ∧ rcV a2 a3 a4 a5 a6 j ≤ 100000000) (hbad : rcV a2 a3 a4 a5 a6 m < 0 ∨ 100000000 < rcV a2 a3 a4 a5 a6 m) :
  Calls Tryz.prog 9 #[.agg #[.int .i64 a0, .int .i64 a1, .int .i64 a2, .int .i64 a3, .int .i64 a4, .int .i64 a5, .int .i64 a6, .int .i64 a7, .string s]] w fun e w' => e = .returned (.int .i64 2) ∧ Below w.heap.size w w' := by
 have hu29 := Tryz.underlying25
 have hu27 := Tryz.underlying23
 have hu45 := Tryz.underlying65
 have HB := am (below_alloc (below_alloc (Below.refl w.heap.size w) (.cells #[.int .i64 a0, .int .i64 a1, .int .i64 a2, .int .i64 a3, .int .i64 a4, .int .i64 a5, .int .i64 a6, .int .i64 a7, .string s] 25)) (.cells #[.int .i64 a1, .int .i64 a2, .int .i64 a3, .int .i64 a4, .int .i64 a5, .int .i64 a6, .int .i64 a7] 23))
 have t1 : decide (a0 < 0) = false := decide_eq_false (by omega)
 have t2 : decide (a0 ≥ 50) = false := decide_eq_false (by omega)
 have t3 : decide (50 ≤ a0) = false := decide_eq_false (by omega)
 have HM := am (And.intro (Nat.le_of_lt hm) hok)
 have HBAD := am (And.intro hm hbad)
 clear h0 hm hok hbad
 go_enter Tryz.func9, Tryz.ntmps9
 go_wp2
 go_loopg [5, 30] 5 (fun kq v5 v30 w' => ∃ i : Nat, v30 = .int .i64 (i : Int) ∧ Aside0 (i ≤ m ∧ kq = 5 - i) ∧ w' = ((w.alloc (.cells #[.int .i64 a0, .int .i64 a1, .int .i64 a2, .int .i64 a3, .int .i64 a4, .int .i64 a5, .int .i64 a6, .int .i64 a7, .string s] 25)).alloc (.cells #[.int .i64 a1, .int .i64 a2, .int .i64 a3, .int .i64 a4, .int .i64 a5, .int .i64 a6, .int .i64 a7] 23)))
 case atStart => exact ⟨0, rfl, ⟨Nat.zero_le _, by omega⟩, by first | rfl | trivial⟩
 case round =>
  obtain ⟨i, rfl, HI, hbw⟩ := hrel
  obtain ⟨z, hz⟩ : ∃ z, rcV a2 a3 a4 a5 a6 i = z := ⟨_, rfl⟩
  by_cases him : i < m
  ·
   have h5 : i < 5 := Nat.lt_of_lt_of_le him HM.out.1
   have hzb := HM.out.2 i him
   rw [hz] at hzb
   have s1 : decide ((i : Int) < 5) = true := decide_eq_true (by omega)
   have s1n : decide (i < 5) = true := decide_eq_true h5
   have hix : ∀ W, (Instr.index 65 (.agg #[.int .i64 a2, .int .i64 a3, .int .i64 a4, .int .i64 a5, .int .i64 a6]) (.int .i64 (i : Int))).run Tryz.prog W = .ok (.int .i64 z) W := fun W => hz ▸ rc_ix W a2 a3 a4 a5 a6 i h5
   have e2 : wrap64 ((i : Int) + 1) = ((i + 1 : Nat) : Int) := by rw [IntWalk.wrap64_in _ ⟨by omega, by omega⟩]; rfl
   have u1 : decide (z < 0) = false := decide_eq_false (by omega)
   have u2 : decide (z > 100000000) = false := decide_eq_false (by omega)
   have u3 : decide (100000000 < z) = false := decide_eq_false (by omega)
   have HJ := am (show i + 1 ≤ m ∧ i < 5 from ⟨him, h5⟩)
   have HBW := am hbw
   clear hz hzb him h5 hbw
   go_wp2
   go_roundg (5 - (i + 1))
   case measure => have := HJ.out; have := HI.out; omega
   case rel => exact ⟨i + 1, by first | rfl | rw [e2], ⟨HJ.out.1, rfl⟩, HBW.out⟩
  ·
   obtain rfl : i = m := by have := HI.out.1; omega
   have h5 := HBAD.out.1
   have hbad := HBAD.out.2
   rw [hz] at hbad
   have s1 : decide ((i : Int) < 5) = true := decide_eq_true (by omega)
   have s1n : decide (i < 5) = true := decide_eq_true h5
   have hix : ∀ W, (Instr.index 65 (.agg #[.int .i64 a2, .int .i64 a3, .int .i64 a4, .int .i64 a5, .int .i64 a6]) (.int .i64 (i : Int))).run Tryz.prog W = .ok (.int .i64 z) W := fun W => hz ▸ rc_ix W a2 a3 a4 a5 a6 i h5
   have u1 : decide (z < 0) = true ∨ (decide (z < 0) = false ∧ decide (z > 100000000) = true ∧ decide (100000000 < z) = true) := by
    by_cases g : z < 0
    ·
     exact .inl (decide_eq_true g)
    ·
     exact .inr ⟨decide_eq_false g, decide_eq_true (by omega), decide_eq_true (by omega)⟩
   have HBW := am hbw
   clear hz hbad him h5 hbw
   rcases u1 with u1 | ⟨u1, u2, u3⟩
   all_goals (
    go_wp2
    go_ret
    exact ⟨rfl, by rw [HBW.out]; exact HB.out⟩)
def RcEnd (a1 a2 a3 a4 a5 a6 a7 : Int) (tp : Option (Int × Int × Int × Int × Int)) (r : Int) : Prop :=
 (¬ ((1 ≤ a1 ∧ a1 ≤ 1048575) ∧ (0 ≤ a7 ∧ a7 ≤ 2097151)) → r = 2) ∧
 ((1 ≤ a1 ∧ a1 ≤ 1048575) ∧ (0 ≤ a7 ∧ a7 ≤ 2097151) → a2 ≠ a3 + a4 + a5 + a6 → r = 19) ∧
 ((1 ≤ a1 ∧ a1 ≤ 1048575) ∧ (0 ≤ a7 ∧ a7 ≤ 2097151) → a2 = a3 + a4 + a5 + a6 → ∃ c i a g er, tp = some (c, i, a, g, er) ∧ (er ≠ 0 → r = er) ∧ (er = 0 → r = if i = a1 ∧ (if c = 0 then a else 0) = a7 then 0 else 8))
theorem receipt_Check.good (w : World) (a0 a1 a2 a3 a4 a5 a6 a7 : Int) (s : ByteArray) (r : Int) (h0 : 0 ≤ a0 ∧ a0 < 50) (hok : ∀ j, j < 5 → 0 ≤ rcV a2 a3 a4 a5 a6 j ∧ rcV a2 a3 a4 a5 a6 j ≤ 100000000) (hd : RcEnd a1 a2 a3 a4 a5 a6 a7 (token_Parse.f s) r) :
  Calls Tryz.prog 9 #[.agg #[.int .i64 a0, .int .i64 a1, .int .i64 a2, .int .i64 a3, .int .i64 a4, .int .i64 a5, .int .i64 a6, .int .i64 a7, .string s]] w fun e w' => e = .returned (.int .i64 r) ∧ Below w.heap.size w w' := by
 have hu29 := Tryz.underlying25
 have hu27 := Tryz.underlying23
 have hu45 := Tryz.underlying65
 have hu47 := Tryz.underlying67
 have HB := am (below_alloc (below_alloc (Below.refl w.heap.size w) (.cells #[.int .i64 a0, .int .i64 a1, .int .i64 a2, .int .i64 a3, .int .i64 a4, .int .i64 a5, .int .i64 a6, .int .i64 a7, .string s] 25)) (.cells #[.int .i64 a1, .int .i64 a2, .int .i64 a3, .int .i64 a4, .int .i64 a5, .int .i64 a6, .int .i64 a7] 23))
 have t1 : decide (a0 < 0) = false := decide_eq_false (by omega)
 have t2 : decide (a0 ≥ 50) = false := decide_eq_false (by omega)
 have t3 : decide (50 ≤ a0) = false := decide_eq_false (by omega)
 have HM := am (And.intro (Nat.le_refl 5) hok)
 have HD := am hd
 clear h0 hok hd
 go_enter Tryz.func9, Tryz.ntmps9
 go_wp2
 go_loopg [5, 30] 5 (fun kq v5 v30 w' => ∃ i : Nat, v30 = .int .i64 (i : Int) ∧ Aside0 (i ≤ 5 ∧ kq = 5 - i) ∧ w' = ((w.alloc (.cells #[.int .i64 a0, .int .i64 a1, .int .i64 a2, .int .i64 a3, .int .i64 a4, .int .i64 a5, .int .i64 a6, .int .i64 a7, .string s] 25)).alloc (.cells #[.int .i64 a1, .int .i64 a2, .int .i64 a3, .int .i64 a4, .int .i64 a5, .int .i64 a6, .int .i64 a7] 23)))
 case atStart => exact ⟨0, rfl, ⟨Nat.zero_le _, by omega⟩, by first | rfl | trivial⟩
 case round =>
  obtain ⟨i, rfl, HI, hbw⟩ := hrel
  obtain ⟨z, hz⟩ : ∃ z, rcV a2 a3 a4 a5 a6 i = z := ⟨_, rfl⟩
  by_cases him : i < 5
  ·
   have h5 : i < 5 := Nat.lt_of_lt_of_le him HM.out.1
   have hzb := HM.out.2 i him
   rw [hz] at hzb
   have s1 : decide ((i : Int) < 5) = true := decide_eq_true (by omega)
   have s1n : decide (i < 5) = true := decide_eq_true h5
   have hix : ∀ W, (Instr.index 65 (.agg #[.int .i64 a2, .int .i64 a3, .int .i64 a4, .int .i64 a5, .int .i64 a6]) (.int .i64 (i : Int))).run Tryz.prog W = .ok (.int .i64 z) W := fun W => hz ▸ rc_ix W a2 a3 a4 a5 a6 i h5
   have e2 : wrap64 ((i : Int) + 1) = ((i + 1 : Nat) : Int) := by rw [IntWalk.wrap64_in _ ⟨by omega, by omega⟩]; rfl
   have u1 : decide (z < 0) = false := decide_eq_false (by omega)
   have u2 : decide (z > 100000000) = false := decide_eq_false (by omega)
   have u3 : decide (100000000 < z) = false := decide_eq_false (by omega)
   have HJ := am (show i + 1 ≤ 5 ∧ i < 5 from ⟨him, h5⟩)
   have HBW := am hbw
   clear hz hzb him h5 hbw
   go_wp2
   go_roundg (5 - (i + 1))
   case measure => have := HJ.out; have := HI.out; omega
   case rel => exact ⟨i + 1, by first | rfl | rw [e2], ⟨HJ.out.1, rfl⟩, HBW.out⟩
  ·
   obtain rfl : i = 5 := by have := HI.out.1; omega
   have HBW := am hbw
   have b0 : 0 ≤ a2 ∧ a2 ≤ 100000000 := HM.out.2 0 (by decide)
   have b1 : 0 ≤ a3 ∧ a3 ≤ 100000000 := HM.out.2 1 (by decide)
   have b2 : 0 ≤ a4 ∧ a4 ≤ 100000000 := HM.out.2 2 (by decide)
   have b3 : 0 ≤ a5 ∧ a5 ≤ 100000000 := HM.out.2 3 (by decide)
   have b4 : 0 ≤ a6 ∧ a6 ≤ 100000000 := HM.out.2 4 (by decide)
   have w1 : wrap64 (a3 + a4) = a3 + a4 := IntWalk.wrap64_in _ ⟨by omega, by omega⟩
   have w2 : wrap64 (a3 + a4 + a5) = a3 + a4 + a5 := IntWalk.wrap64_in _ ⟨by omega, by omega⟩
   have w3 : wrap64 (a3 + a4 + a5 + a6) = a3 + a4 + a5 + a6 := IntWalk.wrap64_in _ ⟨by omega, by omega⟩
   clear hz him b0 b1 b2 b3 b4
   subst hbw
   obtain ⟨WX, hWX⟩ : ∃ W : World, W = ((w.alloc (.cells #[.int .i64 a0, .int .i64 a1, .int .i64 a2, .int .i64 a3, .int .i64 a4, .int .i64 a5, .int .i64 a6, .int .i64 a7, .string s] 25)).alloc (.cells #[.int .i64 a1, .int .i64 a2, .int .i64 a3, .int .i64 a4, .int .i64 a5, .int .i64 a6, .int .i64 a7] 23)) := ⟨_, rfl⟩
   rw [← hWX]
   have B1 := am (show WX.heap[w.heap.size]? = some (.cells #[.int .i64 a0, .int .i64 a1, .int .i64 a2, .int .i64 a3, .int .i64 a4, .int .i64 a5, .int .i64 a6, .int .i64 a7, .string s] 25 (0, 0)) from hWX ▸ blk_alloc (blk_new w _) _)
   have B2 := am (show WX.heap[w.heap.size + 1]? = some (.cells #[.int .i64 a1, .int .i64 a2, .int .i64 a3, .int .i64 a4, .int .i64 a5, .int .i64 a6, .int .i64 a7] 23 (0, 0)) from hWX ▸ by have h := blk_new (w.alloc (.cells #[.int .i64 a0, .int .i64 a1, .int .i64 a2, .int .i64 a3, .int .i64 a4, .int .i64 a5, .int .i64 a6, .int .i64 a7, .string s] 25)) (.cells #[.int .i64 a1, .int .i64 a2, .int .i64 a3, .int .i64 a4, .int .i64 a5, .int .i64 a6, .int .i64 a7] 23); rw [World.size_alloc] at h; exact h)
   have HX := am (show Below w.heap.size w WX from hWX ▸ HB.out)
   clear hWX HBW
   have x0 : WX.cell? ⟨w.heap.size + 1, 0, none⟩ = some (.int .i64 a1) := (blk_cell B2.out 0).trans rfl
   have x1 : WX.cell? ⟨w.heap.size + 1, 1, none⟩ = some (.int .i64 a2) := (blk_cell B2.out 1).trans rfl
   have x2 : WX.cell? ⟨w.heap.size + 1, 2, none⟩ = some (.int .i64 a3) := (blk_cell B2.out 2).trans rfl
   have x3 : WX.cell? ⟨w.heap.size + 1, 3, none⟩ = some (.int .i64 a4) := (blk_cell B2.out 3).trans rfl
   have x4 : WX.cell? ⟨w.heap.size + 1, 4, none⟩ = some (.int .i64 a5) := (blk_cell B2.out 4).trans rfl
   have x5 : WX.cell? ⟨w.heap.size + 1, 5, none⟩ = some (.int .i64 a6) := (blk_cell B2.out 5).trans rfl
   have x6 : WX.cell? ⟨w.heap.size + 1, 6, none⟩ = some (.int .i64 a7) := (blk_cell B2.out 6).trans rfl
   have y8 : WX.cell? ⟨w.heap.size, 8, none⟩ = some (.string s) := (blk_cell B1.out 8).trans rfl
   by_cases g1 : (1 ≤ a1 ∧ a1 ≤ 1048575) ∧ (0 ≤ a7 ∧ a7 ≤ 2097151)
   ·
    have v1 : decide (a1 < 1) = false := decide_eq_false (by omega)
    have v2 : decide (a1 > 1048575) = false := decide_eq_false (by omega)
    have v2n : decide (1048575 < a1) = false := decide_eq_false (by omega)
    have v3 : decide (a7 < 0) = false := decide_eq_false (by omega)
    have v4 : decide (a7 > 2097151) = false := decide_eq_false (by omega)
    have v4n : decide (2097151 < a7) = false := decide_eq_false (by omega)
    by_cases g2 : a2 = a3 + a4 + a5 + a6
    ·
     have v5 : (a2 == a3 + a4 + a5 + a6) = true := beq_iff_eq.mpr g2
     have v6 : (a2 != a3 + a4 + a5 + a6) = false := by rw [bne, v5]; rfl
     obtain ⟨c, i, a, g, er, htp, hE1, hE2⟩ := HD.out.2.2 g1 g2
     have HTP := am htp
     have HE := am (And.intro hE1 hE2)
     have HC := am (below_alloc HX.out (.cells #[.int .i64 0, .int .i64 0, .int .i64 0, .int .i64 0] 67))
     clear g1 g2 htp hE1 hE2
     go_upto_region 15 with (first | (go_at_call 31; refine (token_Parse.calls s _ _ _ _ _ _ HTP.out).mono ?_; rintro e wa ⟨rfl, hb⟩; have J2 := am (blk_below B2.out hb); have JB := am (below_then HX.out HX.out.size hb); clear hb))
     obtain ⟨wb, hwb⟩ : ∃ W : World, W = wa.alloc (.cells #[.int .i64 c, .int .i64 i, .int .i64 a, .int .i64 g] 67) := ⟨_, rfl⟩
     rw [← hwb]
     have K2 := am (show wb.heap[w.heap.size + 1]? = _ from hwb ▸ blk_alloc J2.out _)
     have KT := am (show wb.heap[wa.heap.size]? = some (.cells #[.int .i64 c, .int .i64 i, .int .i64 a, .int .i64 g] 67 (0, 0)) from hwb ▸ blk_new wa _)
     have KB := am (show Below w.heap.size w wb from hwb ▸ below_alloc JB.out _)
     clear hwb x0 x1 x2 x3 x4 x5 x6 y8
     have m0 : wb.cell? ⟨wa.heap.size, 0, none⟩ = some (.int .i64 c) := (blk_cell KT.out 0).trans rfl
     have m1 : wb.cell? ⟨wa.heap.size, 1, none⟩ = some (.int .i64 i) := (blk_cell KT.out 1).trans rfl
     have m2 : wb.cell? ⟨wa.heap.size, 2, none⟩ = some (.int .i64 a) := (blk_cell KT.out 2).trans rfl
     have x0 : wb.cell? ⟨w.heap.size + 1, 0, none⟩ = some (.int .i64 a1) := (blk_cell K2.out 0).trans rfl
     have x6 : wb.cell? ⟨w.heap.size + 1, 6, none⟩ = some (.int .i64 a7) := (blk_cell K2.out 6).trans rfl
     by_cases he : er = 0
     ·
      have z1 : (er == 0) = true := beq_iff_eq.mpr he
      have z2 : (er != 0) = false := by rw [bne, z1]; rfl
      have HR := am (HE.out.2 he)
      clear he
      have d1 : ((i == a1) = false ∧ (i != a1) = true ∧ i ≠ a1) ∨ ((i == a1) = true ∧ (i != a1) = false ∧ i = a1) := by
       by_cases q : i = a1
       ·
        exact .inr ⟨beq_iff_eq.mpr q, by rw [bne, beq_iff_eq.mpr q]; rfl, q⟩
       ·
        exact .inl ⟨beq_eq_false_iff_ne.mpr q, bne_iff_ne.mpr q, q⟩
      have d2 : ((c == 0) = false ∧ ¬ c = 0) ∨ ((c == 0) = true ∧ c = 0) := by
       by_cases q : c = 0
       ·
        exact .inr ⟨beq_iff_eq.mpr q, q⟩
       ·
        exact .inl ⟨beq_eq_false_iff_ne.mpr q, q⟩
      rcases d2 with ⟨d2, e2⟩ | ⟨d2, e2⟩
      ·
       rw [if_neg e2] at HR
       have d3 : ((0 == a7) = false ∧ (0 != a7) = true ∧ ¬ (0 = a7)) ∨ ((0 == a7) = true ∧ (0 != a7) = false ∧ 0 = a7) := by
        by_cases q : 0 = a7
        ·
         exact .inr ⟨beq_iff_eq.mpr q, by rw [bne, beq_iff_eq.mpr q]; rfl, q⟩
        ·
         exact .inl ⟨beq_eq_false_iff_ne.mpr q, bne_iff_ne.mpr q, q⟩
       rcases d1 with ⟨d1, d1b, e1⟩ | ⟨d1, d1b, e1⟩
       ·
        rw [if_neg (fun h => e1 h.1)] at HR
        clear e1 e2 d3
        go_wp2
        go_ret
        exact ⟨by rw [HR.out]; rfl, KB.out⟩
       ·
        rcases d3 with ⟨d3, d3b, e3⟩ | ⟨d3, d3b, e3⟩
        ·
         rw [if_neg (fun h => e3 h.2)] at HR
         clear e1 e2 e3
         go_wp2
         go_ret
         exact ⟨by rw [HR.out]; rfl, KB.out⟩
        ·
         rw [if_pos ⟨e1, e3⟩] at HR
         clear e1 e2 e3
         go_wp2
         go_ret
         exact ⟨by rw [HR.out]; rfl, KB.out⟩
      ·
       rw [if_pos e2] at HR
       have d3 : ((a == a7) = false ∧ (a != a7) = true ∧ ¬ (a = a7)) ∨ ((a == a7) = true ∧ (a != a7) = false ∧ a = a7) := by
        by_cases q : a = a7
        ·
         exact .inr ⟨beq_iff_eq.mpr q, by rw [bne, beq_iff_eq.mpr q]; rfl, q⟩
        ·
         exact .inl ⟨beq_eq_false_iff_ne.mpr q, bne_iff_ne.mpr q, q⟩
       rcases d1 with ⟨d1, d1b, e1⟩ | ⟨d1, d1b, e1⟩
       ·
        rw [if_neg (fun h => e1 h.1)] at HR
        clear e1 e2 d3
        go_wp2
        go_ret
        exact ⟨by rw [HR.out]; rfl, KB.out⟩
       ·
        rcases d3 with ⟨d3, d3b, e3⟩ | ⟨d3, d3b, e3⟩
        ·
         rw [if_neg (fun h => e3 h.2)] at HR
         clear e1 e2 e3
         go_wp2
         go_ret
         exact ⟨by rw [HR.out]; rfl, KB.out⟩
        ·
         rw [if_pos ⟨e1, e3⟩] at HR
         clear e1 e2 e3
         go_wp2
         go_ret
         exact ⟨by rw [HR.out]; rfl, KB.out⟩
     ·
      have z1 : (er == 0) = false := beq_eq_false_iff_ne.mpr he
      have z2 : (er != 0) = true := bne_iff_ne.mpr he
      have HR := am (HE.out.1 he)
      clear he
      go_wp2
      go_ret
      exact ⟨by rw [HR.out]; rfl, KB.out⟩
    ·
     have v5 : (a2 == a3 + a4 + a5 + a6) = false := beq_eq_false_iff_ne.mpr g2
     have v6 : (a2 != a3 + a4 + a5 + a6) = true := bne_iff_ne.mpr g2
     have HR := am (HD.out.2.1 g1 g2)
     clear g1 g2
     go_wp2
     go_ret
     exact ⟨by rw [HR.out]; rfl, HX.out⟩
   ·
    have HR := am (HD.out.1 g1)
    have v0 : decide (a1 < 1) = true ∨ (decide (a1 < 1) = false ∧ decide (a1 > 1048575) = true ∧ decide (1048575 < a1) = true) ∨ (decide (a1 < 1) = false ∧ decide (a1 > 1048575) = false ∧ decide (1048575 < a1) = false ∧ decide (a7 < 0) = true) ∨ (decide (a1 < 1) = false ∧ decide (a1 > 1048575) = false ∧ decide (1048575 < a1) = false ∧ decide (a7 < 0) = false ∧ decide (a7 > 2097151) = true ∧ decide (2097151 < a7) = true) := by
     simp only [decide_eq_true_eq, decide_eq_false_iff_not]; omega
    clear g1
    rcases v0 with v1 | ⟨v1, v2, v3⟩ | ⟨v1, v2, v3, v4⟩ | ⟨v1, v2, v3, v4, v5, v6⟩
    all_goals (
     go_wp2
     go_ret
     exact ⟨by rw [HR.out]; rfl, HX.out⟩)
/-! ### receipt_Check: function 9 (by hand) -/
def receipt_Check.f (a0_0 : Int) (a0_1 : Int) (a0_2 : Int) (a0_3 : Int) (a0_4 : Int) (a0_5 : Int) (a0_6 : Int) (a0_7 : Int) (a0_8 : ByteArray) : Option (Int) :=
 if 0 ≤ a0_0 ∧ a0_0 < 50 then (if (0 ≤ a0_2 ∧ a0_2 ≤ 100000000) ∧ (0 ≤ a0_3 ∧ a0_3 ≤ 100000000) ∧ (0 ≤ a0_4 ∧ a0_4 ≤ 100000000) ∧ (0 ≤ a0_5 ∧ a0_5 ≤ 100000000) ∧ (0 ≤ a0_6 ∧ a0_6 ≤ 100000000) then
  (if (1 ≤ a0_1 ∧ a0_1 ≤ 1048575) ∧ (0 ≤ a0_7 ∧ a0_7 ≤ 2097151) then (if a0_2 = a0_3 + a0_4 + a0_5 + a0_6 then
   (token_Parse.f a0_8).bind fun t => if t.2.2.2.2 = 0 then (if t.2.1 = a0_1 ∧ (if t.1 = 0 then t.2.2.1 else 0) = a0_7 then some 0 else some 8) else some t.2.2.2.2
   else some 19) else some 2) else some 2) else some 18
theorem receipt_Check.calls (a0_0 : Int) (a0_1 : Int) (a0_2 : Int) (a0_3 : Int) (a0_4 : Int) (a0_5 : Int) (a0_6 : Int) (a0_7 : Int) (a0_8 : ByteArray) (r : Int) (w : World) (h : receipt_Check.f a0_0 a0_1 a0_2 a0_3 a0_4 a0_5 a0_6 a0_7 a0_8 = some r) :
  Calls Tryz.prog 9 #[.agg #[.int .i64 a0_0, .int .i64 a0_1, .int .i64 a0_2, .int .i64 a0_3, .int .i64 a0_4, .int .i64 a0_5, .int .i64 a0_6, .int .i64 a0_7, .string a0_8]] w fun e w' => e = .returned (.int .i64 r) ∧ Below w.heap.size w w' := by
 unfold receipt_Check.f at h
 split at h
 ·
  rename_i h0
  split at h
  ·
   rename_i hr
   refine receipt_Check.good w a0_0 a0_1 a0_2 a0_3 a0_4 a0_5 a0_6 a0_7 a0_8 r h0 (fun j hj => ?_) ⟨fun g1 => ?_, fun g1 g2 => ?_, fun g1 g2 => ?_⟩
   ·
    rcases (show j = 0 ∨ j = 1 ∨ j = 2 ∨ j = 3 ∨ j = 4 by omega) with rfl | rfl | rfl | rfl | rfl <;> simp only [rcV] <;> omega
   ·
    rw [if_neg g1] at h; exact (Option.some.inj h).symm
   ·
    rw [if_pos g1, if_neg g2] at h; exact (Option.some.inj h).symm
   ·
    rw [if_pos g1, if_pos g2] at h
    obtain ⟨⟨c, i, a, g, er⟩, ht, h⟩ := Option.bind_eq_some_iff.mp h
    refine ⟨c, i, a, g, er, ht, fun he => ?_, fun he => ?_⟩
    ·
     rw [if_neg he] at h; exact (Option.some.inj h).symm
    ·
     rw [if_pos he] at h
     by_cases q : i = a0_1 ∧ (if c = 0 then a else 0) = a0_7
     ·
      rw [if_pos q] at h ⊢; exact (Option.some.inj h).symm
     ·
      rw [if_neg q] at h ⊢; exact (Option.some.inj h).symm
  ·
   rename_i hr
   obtain rfl := Option.some.inj h
   have hm : ∃ m, m < 5 ∧ (∀ j, j < m → 0 ≤ rcV a0_2 a0_3 a0_4 a0_5 a0_6 j ∧ rcV a0_2 a0_3 a0_4 a0_5 a0_6 j ≤ 100000000) ∧ (rcV a0_2 a0_3 a0_4 a0_5 a0_6 m < 0 ∨ 100000000 < rcV a0_2 a0_3 a0_4 a0_5 a0_6 m) := by
    have key : ∀ j, j < 5 → (j = 0 ∧ rcV a0_2 a0_3 a0_4 a0_5 a0_6 j = a0_2) ∨ (j = 1 ∧ rcV a0_2 a0_3 a0_4 a0_5 a0_6 j = a0_3) ∨ (j = 2 ∧ rcV a0_2 a0_3 a0_4 a0_5 a0_6 j = a0_4) ∨ (j = 3 ∧ rcV a0_2 a0_3 a0_4 a0_5 a0_6 j = a0_5) ∨ (j = 4 ∧ rcV a0_2 a0_3 a0_4 a0_5 a0_6 j = a0_6) := by
     intro j hj
     rcases (show j = 0 ∨ j = 1 ∨ j = 2 ∨ j = 3 ∨ j = 4 by omega) with rfl | rfl | rfl | rfl | rfl <;> simp [rcV]
    by_cases q2 : 0 ≤ a0_2 ∧ a0_2 ≤ 100000000
    ·
     by_cases q3 : 0 ≤ a0_3 ∧ a0_3 ≤ 100000000
     ·
      by_cases q4 : 0 ≤ a0_4 ∧ a0_4 ≤ 100000000
      ·
       by_cases q5 : 0 ≤ a0_5 ∧ a0_5 ≤ 100000000
       ·
        exact ⟨4, by decide, fun j hj => by have := key j (by omega); omega, by have := key 4 (by decide); omega⟩
       ·
        exact ⟨3, by decide, fun j hj => by have := key j (by omega); omega, by have := key 3 (by decide); omega⟩
      ·
       exact ⟨2, by decide, fun j hj => by have := key j (by omega); omega, by have := key 2 (by decide); omega⟩
     ·
      exact ⟨1, by decide, fun j hj => by have := key j (by omega); omega, by have := key 1 (by decide); omega⟩
    ·
     exact ⟨0, by decide, fun j hj => absurd hj (Nat.not_lt_zero _), by have := key 0 (by decide); omega⟩
   obtain ⟨m, h1, h2, h3⟩ := hm
   exact receipt_Check.range w a0_0 a0_1 a0_2 a0_3 a0_4 a0_5 a0_6 a0_7 a0_8 h0 m h1 h2 h3
 ·
  rename_i h0
  obtain rfl := Option.some.inj h
  exact receipt_Check.meter w a0_0 a0_1 a0_2 a0_3 a0_4 a0_5 a0_6 a0_7 a0_8 (by omega)

-- NOT PRINTED: function 97 (strconv_small)

-- NOT PRINTED: function 129 (strconv_log10Pow2)

/-! ### bits_Len64: function 130 (the kit's contract, in the print's shape) -/
def bits_Len64.f (k : Nat) (a0 : Int) : Option Int := if 0 ≤ a0 ∧ a0 ≤ 18446744073709551615 then some ((Lib.bitLen a0.toNat : Nat) : Int) else none
theorem bits_Len64.mono : ∀ a0 k, LeO (bits_Len64.f k a0) (bits_Len64.f (k + 1) a0) := fun _ _ => LeO.refl _
theorem bits_Len64.calls (k : Nat) (a0 : Int) (r : Int) (w : World) (h : bits_Len64.f k a0 = some r) :
  Calls Tryz.prog 130 #[.int .u64 a0] w fun e w' => e = .returned (.int .i64 r) ∧ Drawn0 w w' := by
 unfold bits_Len64.f at h
 split at h
 ·
  rename_i hc
  obtain rfl := Option.some.inj h
  exact (Tryz.bits_Len64 a0 w hc.1 hc.2).mono (fun e w' hh => ⟨hh.1, hh.2 ▸ Drawn0.refl _⟩)
 ·
  cases h

-- NOT PRINTED: function 131 (strconv_bool2_int)

-- NOT PRINTED: function 98 (strconv_numDigits)

-- NOT PRINTED: function 99 (strconv_formatBase10)

-- NOT PRINTED: function 132 (strconv_isPowerOfTwo)

-- NOT PRINTED: function 151 (bits_TrailingZeros32)

-- NOT PRINTED: function 152 (bits_TrailingZeros64)

-- NOT PRINTED: function 133 (bits_TrailingZeros)

-- NOT PRINTED: function 100 (strconv_formatBits)

-- NOT PRINTED: function 63 (strconv_FormatInt)

-- NOT PRINTED: function 35 (strconv_Itoa_35)

/-- The table of the powers of ten lies in this world. -/
structure LaidW (w : World) : Prop where
 tab : Lib.TabIs Tryz.prog w "internal/strconv.uint64pow10" .u64 Lib.pow10Tab
theorem LaidW.go {w W : World} (h : LaidW w) (hb : Below w.heap.size w W) : LaidW W := by
 have ht := h.tab
 refine ⟨?_⟩
 unfold Lib.TabIs World.var? at *
 cases hg : Tryz.prog.globalNamed "internal/strconv.uint64pow10" with
 | none => simp [hg] at ht
 | some g =>
  simp only [hg, Option.bind_some] at ht ⊢
  have hlt : g < w.heap.size := by
   rcases Nat.lt_or_ge g w.heap.size with h' | h'
   ·
    exact h'
   ·
    rw [Array.getElem?_eq_none h'] at ht; simp at ht
  rw [hb.block g hlt]
  exact ht
theorem grow_below {w : World} : ∀ (l : List Obj) (W : World), Below w.heap.size w W → Below w.heap.size w (Sort.grow W l.toArray)
 | [], W, h => by simpa using h
 | o :: l, W, h => by
  have e : Sort.grow W (o :: l).toArray = Sort.grow (W.alloc o) l.toArray := by rw [Sort.alloc_eq_grow, Sort.grow_grow]; simp
  rw [e]
  exact grow_below l _ (below_alloc h o)
/-! ### strconv_Itoa_12: function 12 (the kit's contract, in the print's shape; its table lies in the world) -/
def strconv_Itoa_12.f (a0 : Int) : Option ByteArray := if -9223372036854775808 ≤ a0 ∧ a0 ≤ 9223372036854775807 then some ⟨(Lib.itoa a0).toArray⟩ else none
theorem strconv_Itoa_12.calls (a0 : Int) (r : ByteArray) (w : World) (HTAB : LaidW w) (h : strconv_Itoa_12.f a0 = some r) :
  Calls Tryz.prog 12 #[.int .i64 a0] w fun e w' => e = .returned (.string r) ∧ Below w.heap.size w w' := by
 unfold strconv_Itoa_12.f at h
 split at h
 ·
  rename_i hc
  obtain rfl := Option.some.inj h
  refine (Tryz.strconv_Itoa a0 hc.1 hc.2 w HTAB.tab).mono (fun e w' hh => ⟨hh.1, ?_⟩)
  obtain ⟨k, os, rfl⟩ := hh.2
  have hg := grow_below os.toList (w.drewN k) (pw_below_drewN (Below.refl w.heap.size w) k)
  rwa [Array.toArray_toList] at hg
 ·
  cases h

/-! ### check_digits: function 59 (a range over a string: by hand) -/
def check_digits.l0 : Nat → ByteArray → Nat → Option (Int)
 | 0, _, _ => none
 | k + 1, s, p => if p < s.size then (if ((Utf8.decode s p).1 : Int) < 48 then (some 7) else (if ((Utf8.decode s p).1 : Int) > 57 then (some 7) else (check_digits.l0 k s (p + (Utf8.decode s p).2)))) else (some 0)
def check_digits.f (k : Nat) (a0 : ByteArray) : Option (Int) := if a0.toList.isEmpty = true then (some 1) else (if (a0.size : Int) > 200 then (some 1) else (check_digits.l0 k a0 0))
theorem check_digits.mono_l : ∀ k s p, LeO (check_digits.l0 k s p) (check_digits.l0 (k + 1) s p)
 | 0, _, _ => by intro r h; simp [check_digits.l0] at h
 | k + 1, s, p => by
  have ih := check_digits.mono_l k
  unfold check_digits.l0
  repeat' first
   | (with_reducible exact ih _ _)
   | (with_reducible exact LeO.refl _)
   | (with_reducible refine LeO.ite ?_ ?_)
theorem check_digits.mono : ∀ a0 k, LeO (check_digits.f k a0) (check_digits.f (k + 1) a0) := by
 intro a0 k
 unfold check_digits.f
 repeat' first
  | (with_reducible exact check_digits.mono_l _ _ _)
  | (with_reducible exact LeO.refl _)
  | (with_reducible refine LeO.ite ?_ ?_)
theorem check_digits.calls (k : Nat) (a0 : ByteArray) (r : Int) (w : World) (h : check_digits.f k a0 = some r) :
  Calls Tryz.prog 59 #[.string a0] w fun e w' => e = .returned (.int .i64 r) ∧ Below w.heap.size w w' := by
 have H : (if a0.toList.isEmpty = true then (some 1) else (if (a0.size : Int) > 200 then (some 1) else (check_digits.l0 k a0 0))) = some r := h
 clear h
 by_cases c1 : a0.toList.isEmpty = true
 ·
  rw [if_pos c1] at H
  obtain rfl := Option.some.inj H
  go_enter Tryz.func59, Tryz.ntmps59
  go_wp2
  go_ret
  exact ⟨rfl, by repeat (first | exact Below.refl _ _ | apply below_drew1 | apply pw_below_drewN)⟩
 ·
  rw [if_neg c1] at H
  have c1b : a0.toList.isEmpty = false := Bool.eq_false_iff.mpr c1
  by_cases c2 : (a0.size : Int) > 200
  ·
   rw [if_pos c2] at H
   obtain rfl := Option.some.inj H
   have c2b : decide ((a0.size : Int) > 200) = true := decide_eq_true c2
   go_enter Tryz.func59, Tryz.ntmps59
   go_wp2
   go_ret
   exact ⟨rfl, by repeat (first | exact Below.refl _ _ | apply below_drew1 | apply pw_below_drewN)⟩
  ·
   rw [if_neg c2] at H
   have c2b : decide ((a0.size : Int) > 200) = false := decide_eq_false c2
   have H' := am H
   clear H
   go_enter Tryz.func59, Tryz.ntmps59
   go_wp2
   go_loopg [] k (fun kq w' => ∃ p : Nat, Aside0 (check_digits.l0 kq a0 p = some r) ∧ w'.heap[w.heap.size]? = some (.stringIter a0 p) ∧ Below w.heap.size w w')
   case atStart => exact ⟨0, H', World.iter_heap w a0 0, (Below.refl _ _).alloc (Nat.le_refl _) _⟩
   case round =>
    clear H'
    obtain ⟨p, HA, hit, hbw⟩ := hrel
    cases gk with
    | zero => exact absurd HA.out (by simp [check_digits.l0])
    | succ k2 =>
     have H := HA.out
     clear HA
     simp only [check_digits.l0] at H
     by_cases hp : p < a0.size
     ·
      rw [if_pos hp] at H
      have hnx : ∀ ty, (Instr.next (.pointer (some ⟨w.heap.size, 0, none⟩)) true ty).run Tryz.prog wr = _ := fun ty => Lib.run_next_any_at wr w.heap.size a0 p ty hit hp
      have hit2 := Lib.iterAt_heap wr w.heap.size a0 p (p + (Utf8.decode a0 p).2) hit
      have hbw2 := Lib.below_iterAt hbw (k := w.heap.size) (Nat.le_refl _) a0 (p + (Utf8.decode a0 p).2)
      obtain ⟨W1, hW1⟩ : ∃ W1, W1 = wr.iterAt w.heap.size a0 (p + (Utf8.decode a0 p).2) := ⟨_, rfl⟩
      rw [← hW1] at hnx hit2 hbw2
      clear hW1 hit hbw
      by_cases d1 : ((Utf8.decode a0 p).1 : Int) < 48
      ·
       rw [if_pos d1] at H
       obtain rfl := Option.some.inj H
       have d1b : decide (((Utf8.decode a0 p).1 : Int) < 48) = true := decide_eq_true d1
       go_wp2
       go_ret
       exact ⟨rfl, by repeat (first | exact hbw2 | apply below_drew1 | apply pw_below_drewN)⟩
      ·
       rw [if_neg d1] at H
       have d1b : decide (((Utf8.decode a0 p).1 : Int) < 48) = false := decide_eq_false d1
       by_cases d2 : ((Utf8.decode a0 p).1 : Int) > 57
       ·
        rw [if_pos d2] at H
        obtain rfl := Option.some.inj H
        have d2b : decide (((Utf8.decode a0 p).1 : Int) > 57) = true := decide_eq_true d2
        go_wp2
        go_ret
        exact ⟨rfl, by repeat (first | exact hbw2 | apply below_drew1 | apply pw_below_drewN)⟩
       ·
        rw [if_neg d2] at H
        have d2b : decide (((Utf8.decode a0 p).1 : Int) > 57) = false := decide_eq_false d2
        have H' := am H
        clear H
        go_wp2
        go_roundg k2
        case measure => exact Nat.lt_succ_self _
        case rel => exact ⟨_, H', hit2, hbw2⟩
     ·
      rw [if_neg hp] at H
      obtain rfl := Option.some.inj H
      have hnx : ∀ ty, (Instr.next (.pointer (some ⟨w.heap.size, 0, none⟩)) true ty).run Tryz.prog wr = _ := fun ty => Lib.run_next_end_at wr w.heap.size a0 p ty hit hp
      go_wp2
      go_ret
      exact ⟨rfl, by repeat (first | exact hbw | apply below_drew1 | apply pw_below_drewN)⟩

/-! ### check_turn_then: function 94 -/
def check_turn_then.f (a0 : Int) (a1 : Int) : Option (Int) := if a0 ≥ 5 then (if (wrap64 (Int.tdiv a1 5)) = 1 then (some (Int.tmod (wrap64 ((Int.tmod (wrap64 ((wrap64 ((wrap64 (a0 - 5)) - (Int.tmod a1 5))) + (wrap64 (5 * (wrap64 (Int.tdiv a1 5)))))) 5) + 5)) 5)) else (some (wrap64 (5 + (Int.tmod (wrap64 ((Int.tmod (wrap64 ((wrap64 ((wrap64 (a0 - 5)) - (Int.tmod a1 5))) + (wrap64 (5 * (wrap64 (Int.tdiv a1 5)))))) 5) + 5)) 5))))) else (some (wrap64 ((wrap64 (5 * (wrap64 (Int.tdiv a1 5)))) + (Int.tmod (wrap64 (a0 + (Int.tmod a1 5))) 5))))
theorem check_turn_then.calls (a0 : Int) (a1 : Int) (r : Int) (w : World) (h : check_turn_then.f a0 a1 = some r) :
  Calls Tryz.prog 94 #[.int .i64 a0, .int .i64 a1] w fun e w' => e = .returned (.int .i64 r) ∧ Drawn0 w w' := by
 have H : (if a0 ≥ 5 then (if (wrap64 (Int.tdiv a1 5)) = 1 then (some (Int.tmod (wrap64 ((Int.tmod (wrap64 ((wrap64 ((wrap64 (a0 - 5)) - (Int.tmod a1 5))) + (wrap64 (5 * (wrap64 (Int.tdiv a1 5)))))) 5) + 5)) 5)) else (some (wrap64 (5 + (Int.tmod (wrap64 ((Int.tmod (wrap64 ((wrap64 ((wrap64 (a0 - 5)) - (Int.tmod a1 5))) + (wrap64 (5 * (wrap64 (Int.tdiv a1 5)))))) 5) + 5)) 5))))) else (some (wrap64 ((wrap64 (5 * (wrap64 (Int.tdiv a1 5)))) + (Int.tmod (wrap64 (a0 + (Int.tmod a1 5))) 5))))) = some r := h
 clear h
 by_cases c3 : a0 ≥ 5
 ·
  rw [if_pos c3] at H
  have c3b0 : decide (5 ≤ a0) = true := decide_eq_true c3
  clear c3
  revert H
  refine czei (fun c4b0 c4b1 H => ?_) (fun c4 c4b0 c4b1 H => ?_)
  ·
   obtain rfl := Option.some.inj H
   go_enter Tryz.func94, Tryz.ntmps94
   go_wp2
   go_ret
   exact ⟨by first | rfl | (simp; done) | (simp [*]; done), by repeat (first | exact Drawn0.refl _ | apply Drawn0.step)⟩
  ·
   obtain rfl := Option.some.inj H
   go_enter Tryz.func94, Tryz.ntmps94
   go_wp2
   go_ret
   exact ⟨by first | rfl | (simp; done) | (simp [*]; done), by repeat (first | exact Drawn0.refl _ | apply Drawn0.step)⟩
 ·
  rw [if_neg c3] at H
  have c3b0 : decide (5 ≤ a0) = false := decide_eq_false c3
  clear c3
  obtain rfl := Option.some.inj H
  go_enter Tryz.func94, Tryz.ntmps94
  go_wp2
  go_ret
  exact ⟨by first | rfl | (simp; done) | (simp [*]; done), by repeat (first | exact Drawn0.refl _ | apply Drawn0.step)⟩

/-! ### check_moved: function 95 (a table laid as an array: by hand) -/
def check_moved.tab (d : Int) : Int := if d = 0 then 1 else if d = 1 then 5 else if d = 2 then 7 else if d = 3 then 6 else if d = 4 then 2 else if d = 5 then 8 else if d = 6 then 3 else if d = 7 then 0 else if d = 8 then 9 else 4
def check_moved.l0 : Nat → Int → Int → Int → Option (Int)
 | 0, _, _, _ => none
 | k + 1, d, n, i => if i < n then (if 0 ≤ d then (if d < 10 then (check_moved.l0 k (check_moved.tab d) n (wrap64 (i + 1))) else (none)) else (none)) else (some d)
def check_moved.f (k : Nat) (a0 : Int) (a1 : Int) : Option (Int) := check_moved.l0 k a0 (Int.tmod a1 8) 0
theorem check_moved.mono_l : ∀ k d n i, LeO (check_moved.l0 k d n i) (check_moved.l0 (k + 1) d n i)
 | 0, _, _, _ => by intro r h; simp [check_moved.l0] at h
 | k + 1, d, n, i => by
  have ih := check_moved.mono_l k
  unfold check_moved.l0
  repeat' first
   | (with_reducible exact ih _ _ _)
   | (with_reducible exact LeO.refl _)
   | (with_reducible refine LeO.ite ?_ ?_)
theorem check_moved.mono : ∀ a0 a1 k, LeO (check_moved.f k a0 a1) (check_moved.f (k + 1) a0 a1) := by
 intro a0 a1 k
 unfold check_moved.f
 exact check_moved.mono_l _ _ _ _
theorem check_moved.calls (k : Nat) (a0 : Int) (a1 : Int) (r : Int) (w : World) (h : check_moved.f k a0 a1 = some r) :
  Calls Tryz.prog 95 #[.int .i64 a0, .int .i64 a1] w fun e w' => e = .returned (.int .i64 r) ∧ Below w.heap.size w w' := by
 have H' := am (show check_moved.l0 k a0 (Int.tmod a1 8) 0 = some r from h)
 clear h
 have hu := Tryz.underlying53
 go_enter Tryz.func95, Tryz.ntmps95
 go_wp2
 go_loopg [0, 9] k (fun kq v0 v9 w' => ∃ (d : Int) (i : Int), v0 = .int .i64 d ∧ v9 = .int .i64 i ∧ Aside0 (check_moved.l0 kq d (Int.tmod a1 8) i = some r) ∧ w'.heap[w.heap.size]? = some (.cells #[.int .i64 1, .int .i64 5, .int .i64 7, .int .i64 6, .int .i64 2, .int .i64 8, .int .i64 3, .int .i64 0, .int .i64 9, .int .i64 4] 166 (0, 0)) ∧ Below w.heap.size w w')
 case atStart => exact ⟨a0, 0, rfl, rfl, H', blk_new w _, (Below.refl _ _).alloc (Nat.le_refl _) _⟩
 case round =>
  clear H'
  obtain ⟨d, i, rfl, rfl, HA, hit, hbw⟩ := hrel
  cases gk with
  | zero => exact absurd HA.out (by simp [check_moved.l0])
  | succ k2 =>
   have H := HA.out
   clear HA
   simp only [check_moved.l0] at H
   by_cases hi : i < Int.tmod a1 8
   ·
    rw [if_pos hi] at H
    have hib : decide (i < Int.tmod a1 8) = true := decide_eq_true hi
    by_cases h0 : 0 ≤ d
    ·
     rw [if_pos h0] at H
     by_cases h10 : d < 10
     ·
      rw [if_pos h10] at H
      have hd : d = 0 ∨ d = 1 ∨ d = 2 ∨ d = 3 ∨ d = 4 ∨ d = 5 ∨ d = 6 ∨ d = 7 ∨ d = 8 ∨ d = 9 := by omega
      have H' := am H
      clear H hi
      have hc0 : wr.cell? ⟨w.heap.size, 0, none⟩ = some (.int .i64 1) := (blk_cell hit 0).trans rfl
      have hf0 := blk_frozen hit 0
      have hc1 : wr.cell? ⟨w.heap.size, 1, none⟩ = some (.int .i64 5) := (blk_cell hit 1).trans rfl
      have hf1 := blk_frozen hit 1
      have hc2 : wr.cell? ⟨w.heap.size, 2, none⟩ = some (.int .i64 7) := (blk_cell hit 2).trans rfl
      have hf2 := blk_frozen hit 2
      have hc3 : wr.cell? ⟨w.heap.size, 3, none⟩ = some (.int .i64 6) := (blk_cell hit 3).trans rfl
      have hf3 := blk_frozen hit 3
      have hc4 : wr.cell? ⟨w.heap.size, 4, none⟩ = some (.int .i64 2) := (blk_cell hit 4).trans rfl
      have hf4 := blk_frozen hit 4
      have hc5 : wr.cell? ⟨w.heap.size, 5, none⟩ = some (.int .i64 8) := (blk_cell hit 5).trans rfl
      have hf5 := blk_frozen hit 5
      have hc6 : wr.cell? ⟨w.heap.size, 6, none⟩ = some (.int .i64 3) := (blk_cell hit 6).trans rfl
      have hf6 := blk_frozen hit 6
      have hc7 : wr.cell? ⟨w.heap.size, 7, none⟩ = some (.int .i64 0) := (blk_cell hit 7).trans rfl
      have hf7 := blk_frozen hit 7
      have hc8 : wr.cell? ⟨w.heap.size, 8, none⟩ = some (.int .i64 9) := (blk_cell hit 8).trans rfl
      have hf8 := blk_frozen hit 8
      have hc9 : wr.cell? ⟨w.heap.size, 9, none⟩ = some (.int .i64 4) := (blk_cell hit 9).trans rfl
      have hf9 := blk_frozen hit 9
      generalize Int.tmod a1 8 = n at *
      rcases hd with rfl | rfl | rfl | rfl | rfl | rfl | rfl | rfl | rfl | rfl
      all_goals (
       go_wp2
       go_roundg k2
       case measure => exact Nat.lt_succ_self _
       case rel => exact ⟨_, _, rfl, rfl, H', hit, hbw⟩)
     ·
      rw [if_neg h10] at H
      simp at H
    ·
     rw [if_neg h0] at H
     simp at H
   ·
    rw [if_neg hi] at H
    have hib : decide (i < Int.tmod a1 8) = false := decide_eq_false hi
    obtain rfl := Option.some.inj H
    go_wp2
    go_ret
    exact ⟨rfl, by repeat (first | exact hbw | apply below_drew1 | apply pw_below_drewN)⟩

/-! ### check_all: function 60 -/
def check_all.l0 : Nat → ByteArray → Int → Int → Int → Int → Option (Int)
 | 0, _, _, _, _, _ => none
 | k + 1, x0, x1, x5, x8, x9 => if x9 < x8 then (if 0 ≤ (wrap64 ((wrap64 ((x0.size : Int) - 1)) - x9)) then (if (wrap64 ((wrap64 ((x0.size : Int) - 1)) - x9)) < (x0.size : Int) then ((check_moved.f k (((bt x0 (wrap64 ((wrap64 ((x0.size : Int) - 1)) - x9))) - 48) % 256) (wrap64 (x1 + x9))).bind fun t107 => ((check_turn_then.f x5 t107).bind fun t108 => (check_all.l0 k x0 x1 t108 x8 (wrap64 (x9 + 1))))) else (none)) else (none)) else (some x5)
def check_all.f (k : Nat) (a0 : ByteArray) (a1 : Int) : Option (Int) := check_all.l0 k a0 a1 0 (a0.size : Int) 0
theorem check_all.mono_l : ∀ k, (∀ y0 y1 y2 y3 y4, LeO (check_all.l0 k y0 y1 y2 y3 y4) (check_all.l0 (k + 1) y0 y1 y2 y3 y4))
 | 0 => fun _ _ _ _ _ r h => by simp [check_all.l0] at h
 | k + 1 => by
  have ih0 := check_all.mono_l k
  ·
   intro y0 y1 y2 y3 y4
   unfold check_all.l0
   repeat' first
   | (with_reducible exact ih0 _ _ _ _ _)
   | (with_reducible exact check_moved.mono _ _ _)
   | (with_reducible exact LeO.refl _)
   | (with_reducible exact LeO.none _)
   | (with_reducible refine LeO.ite ?_ ?_)
   | (with_reducible refine LeO.bind ?_ (fun _ => ?_))
theorem check_all.mono : ∀ a0 a1 k, LeO (check_all.f k a0 a1) (check_all.f (k + 1) a0 a1) := by
 intro a0 a1 k
 have ih0 := check_all.mono_l k
 unfold check_all.f
 repeat' first
   | (with_reducible exact ih0 _ _ _ _ _)
   | (with_reducible exact check_moved.mono _ _ _)
   | (with_reducible exact LeO.refl _)
   | (with_reducible exact LeO.none _)
   | (with_reducible refine LeO.ite ?_ ?_)
   | (with_reducible refine LeO.bind ?_ (fun _ => ?_))
theorem check_all.calls (k : Nat) (a0 : ByteArray) (a1 : Int) (r : Int) (w : World) (h : check_all.f k a0 a1 = some r) :
  Calls Tryz.prog 60 #[.string a0, .int .i64 a1] w fun e w' => e = .returned (.int .i64 r) ∧ Below w.heap.size w w' := by
 have HB := am (Below.refl w.heap.size w)
 have H : (check_all.l0 k a0 a1 0 (a0.size : Int) 0) = some r := h
 clear h
 have H' := am H
 clear H
 go_enter Tryz.func60, Tryz.ntmps60
 go_wp2
 go_loopg [5, 9] k (fun kq v5 v9 w' => ∃ (x5_1 : Int) (x9_1 : Int), v5 = .int .i64 x5_1 ∧ v9 = .int .i64 x9_1 ∧ Aside0 (check_all.l0 kq a0 a1 x5_1 (a0.size : Int) x9_1 = some r) ∧ Aside0 (kq ≤ k) ∧ Aside0 (Below w.heap.size w w'))
 case atStart => exact ⟨(0), (0), czr, czr, H', ⟨Nat.le_refl _⟩, ⟨czbl HB⟩⟩
 case round =>
  clear H'
  try clear p2
  obtain ⟨x5_1, x9_1, rfl, rfl, HA, HK1, HB⟩ := hrel
  cases gk with
  | zero => exact absurd HA.out (by simp [check_all.l0])
  | succ k1 =>
   have H := HA.out
   clear HA
   simp only [check_all.l0] at H
   revert H
   refine czif (fun c3b0 H => ?_) (fun c3b0 H => ?_)
   ·
    obtain ⟨ji4, hji4⟩ : ∃ j_ : Int, (wrap64 ((wrap64 ((a0.size : Int) - 1)) - x9_1)) = j_ := ⟨_, rfl⟩
    replace H : (if 0 ≤ (ji4) then (if (ji4) < (a0.size : Int) then ((check_moved.f k1 (((bt a0 (ji4)) - 48) % 256) (wrap64 (a1 + x9_1))).bind fun t107 => ((check_turn_then.f x5_1 t107).bind fun t108 => (check_all.l0 k1 a0 a1 t108 (a0.size : Int) (wrap64 (x9_1 + 1))))) else (none)) else (none)) = some r := by first | (rw [hji4] at H; exact H) | (simp only [hji4] at H ⊢; exact H)
    have hji4w : (IntKind.i64.wrap ((wrap64 ((a0.size : Int) - 1)) - x9_1)) = ji4 := (i64_w _).trans hji4
    by_cases c5 : 0 ≤ (ji4)
    ·
     rw [if_pos c5] at H
     have c5b0 : decide (0 ≤ (ji4)) = true := decide_eq_true c5
     clear c5
     by_cases c6 : (ji4) < (a0.size : Int)
     ·
      rw [if_pos c6] at H
      have c6b0 : decide ((ji4) < (a0.size : Int)) = true := decide_eq_true c6
      clear c6
      replace H := Option.bind_eq_some_iff.mp H
      obtain ⟨t107, A80, H⟩ := H
      (try dsimp only at H)
      have A8 := am A80
      clear A80
      replace H := Option.bind_eq_some_iff.mp H
      obtain ⟨t108, A90, H⟩ := H
      (try dsimp only at H)
      have A9 := am A90
      clear A90
      have H' := am H
      clear H
      have p7 : 0 ≤ ((ji4) : Int) := czd
      have q7 : (ji4) < (a0.size : Int) := czd
      have hx7 := bt_at a0 (ji4)
      replace p7 := eq_true p7
      replace q7 := eq_true q7
      go_wp2_with (first | ((with_reducible refine gate_callee (f := 95) rfl ?_); refine goesL_ (some 25) rfl rfl Tryz.func95 (by kernel_rfl) rfl #[.int .i64 (((bt a0 (ji4)) - 48) % 256), .int .i64 (wrap64 (a1 + x9_1))] rfl (by (try simp only [List.map_toArray, List.map_cons, List.map_nil]); first | done | (simp only [hji4]; rfl) | rfl | (simp only [List.length_drop, List.length_take]; rfl)) ?_; (with_reducible refine (check_moved.calls k1 (((bt a0 (ji4)) - 48) % 256) (wrap64 (a1 + x9_1)) t107 _ A8.out).mono ?_); rintro e w10 ⟨rfl, hb⟩; refine ⟨_, rfl, ?_⟩; replace HB := am (below_step (czbl HB) hb); (try clear hb hb2 hk hi)) | ((with_reducible refine gate_callee (f := 94) rfl ?_); refine czgo (some 26) Tryz.func94 #[.int .i64 x5_1, .int .i64 t107] ?_; (with_reducible refine (check_turn_then.calls x5_1 t107 t108 _ A9.out).mono ?_); rintro e w' ⟨rfl, ⟨nd, rfl⟩⟩; refine ⟨_, rfl, ?_⟩))
      go_roundg k1
      case measure => have := HK1.out; omega
      case rel => exact ⟨(t108), (wrap64 (x9_1 + 1)), czr, czr, H', ⟨by have := HK1.out; omega⟩, ⟨czbl HB⟩⟩
     ·
      rw [if_neg c6] at H
      exact absurd H (by simp)
    ·
     rw [if_neg c5] at H
     exact absurd H (by simp)
   ·
    obtain rfl := Option.some.inj H
    go_wp2
    go_ret
    exact ⟨czeq, czbl HB⟩

/-! ### check_turn_back: function 61 -/
def check_turn_back.f (a0 : Int) : Option (Int) := if a0 ≥ 5 then (some a0) else (some (Int.tmod (wrap64 (5 - a0)) 5))
theorem check_turn_back.calls (a0 : Int) (r : Int) (w : World) (h : check_turn_back.f a0 = some r) :
  Calls Tryz.prog 61 #[.int .i64 a0] w fun e w' => e = .returned (.int .i64 r) ∧ Drawn0 w w' := by
 have H : (if a0 ≥ 5 then (some a0) else (some (Int.tmod (wrap64 (5 - a0)) 5))) = some r := h
 clear h
 by_cases c2 : a0 ≥ 5
 ·
  rw [if_pos c2] at H
  have c2b0 : decide (5 ≤ a0) = true := decide_eq_true c2
  clear c2
  obtain rfl := Option.some.inj H
  go_enter Tryz.func61, Tryz.ntmps61
  go_wp2
  go_ret
  exact ⟨by first | rfl | (simp; done) | (simp [*]; done), by repeat (first | exact Drawn0.refl _ | apply Drawn0.step)⟩
 ·
  rw [if_neg c2] at H
  have c2b0 : decide (5 ≤ a0) = false := decide_eq_false c2
  clear c2
  obtain rfl := Option.some.inj H
  go_enter Tryz.func61, Tryz.ntmps61
  go_wp2
  go_ret
  exact ⟨by first | rfl | (simp; done) | (simp [*]; done), by repeat (first | exact Drawn0.refl _ | apply Drawn0.step)⟩

/-! ### check_Digit: function 32 -/
def check_Digit.f (k : Nat) (a0 : ByteArray) : Option (Int × Int) := (check_digits.f k a0).bind fun t109 => (if t109 = 0 then ((check_all.f k a0 1).bind fun t110 => ((check_turn_back.f t110).bind fun t111 => (some (t111, 0)))) else (some (0, t109)))
theorem check_Digit.mono : ∀ a0 k, LeO (check_Digit.f k a0) (check_Digit.f (k + 1) a0) := by
 intro a0 k
 unfold check_Digit.f
 repeat' first
   | (with_reducible exact check_all.mono _ _ _)
   | (with_reducible exact check_digits.mono _ _)
   | (with_reducible exact LeO.refl _)
   | (with_reducible exact LeO.none _)
   | (with_reducible refine LeO.ite ?_ ?_)
   | (with_reducible refine LeO.bind ?_ (fun _ => ?_))
theorem check_Digit.calls (k : Nat) (a0 : ByteArray) (r1 : Int) (r2 : Int) (w : World) (h : check_Digit.f k a0 = some (r1, r2)) :
  Calls Tryz.prog 32 #[.string a0] w fun e w' => e = .returned (.tuple #[.int .i64 r1, .int .i64 r2]) ∧ Below w.heap.size w w' := by
 have HB := am (Below.refl w.heap.size w)
 have H : ((check_digits.f k a0).bind fun t109 => (if t109 = 0 then ((check_all.f k a0 1).bind fun t110 => ((check_turn_back.f t110).bind fun t111 => (some (t111, 0)))) else (some (0, t109)))) = some (r1, r2) := h
 clear h
 replace H := Option.bind_eq_some_iff.mp H
 obtain ⟨t109, A20, H⟩ := H
 (try dsimp only at H)
 have A2 := am A20
 clear A20
 have HC3 := am H
 clear H
 go_enter Tryz.func32, Tryz.ntmps32
 go_upto_region 2 with (first | ((with_reducible refine gate_callee (f := 59) rfl ?_); refine czgo (some 6) Tryz.func59 #[.string a0] ?_; (with_reducible refine (check_digits.calls k a0 t109 _ A2.out).mono ?_); rintro e w4 ⟨rfl, hb⟩; refine ⟨_, rfl, ?_⟩; replace HB := am (below_step (czbl HB) hb); (try clear hb hb2 hk hi)))
 have H := HC3.out
 clear HC3
 revert H
 refine czei (fun c5b0 c5b1 H => ?_) (fun c5 c5b0 c5b1 H => ?_)
 ·
  replace H := Option.bind_eq_some_iff.mp H
  obtain ⟨t110, A60, H⟩ := H
  (try dsimp only at H)
  have A6 := am A60
  clear A60
  replace H := Option.bind_eq_some_iff.mp H
  obtain ⟨t111, A70, H⟩ := H
  (try dsimp only at H)
  have A7 := am A70
  clear A70
  simp only [Option.some.injEq, Prod.mk.injEq] at H
  obtain ⟨rfl, rfl⟩ := H
  go_wp2_with (first | ((with_reducible refine gate_callee (f := 60) rfl ?_); refine czgo (some 11) Tryz.func60 #[.string a0, .int .i64 1] ?_; (with_reducible refine (check_all.calls k a0 1 t110 _ A6.out).mono ?_); rintro e w8 ⟨rfl, hb⟩; refine ⟨_, rfl, ?_⟩; replace HB := am (below_step (czbl HB) hb); (try clear hb hb2 hk hi)) | ((with_reducible refine gate_callee (f := 61) rfl ?_); refine czgo (some 12) Tryz.func61 #[.int .i64 t110] ?_; (with_reducible refine (check_turn_back.calls t110 t111 _ A7.out).mono ?_); rintro e w' ⟨rfl, ⟨nd, rfl⟩⟩; refine ⟨_, rfl, ?_⟩))
  go_ret2
  exact ⟨czeq, czbl HB⟩
 ·
  simp only [Option.some.injEq, Prod.mk.injEq] at H
  obtain ⟨rfl, rfl⟩ := H
  go_wp2
  go_ret2
  exact ⟨czeq, czbl HB⟩

end Go.Proofs.YtocolmpfpbclbaaGreatDoor.PReceiptShows
