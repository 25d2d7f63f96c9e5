-- written by this session's program wip/xp/xprint.py (it drives the kit's print and adds to it)
import Derived.Test.YtojnaalncgofhaaPBookDecodesx0
import Derived.Test.YtojnaalncgofhaaPBookDecodesx3
import Derived.Test.YtojnaalncgofhaaPBookDecodesx4
namespace Go.Proofs.Ytojnaalncgofhaa.PBookDecodes
open Go.RowKit Go.Proofs.YtojnaalncgofhaaW.PrintWords Go.Proofs.YtojnaalncgofhaaW.PrintLast Go.Proofs.YtojnaalncgofhaaW.PrintMore
attribute [local go_sem] max2_int min2_int max_two min_two max_three min_three max_four min_four   -- for this text's walks alone
set_option linter.unusedVariables false
set_option linter.unusedSimpArgs false

theorem dec_spot {w : World} {a : Addr} {v : Value} (h : w.cell? a = some v) : a.spot = none := by
  unfold World.cell? at h
  split at h
  · cases hs : a.spot with
    | none => rfl
    | some x => rw [hs] at h; simp at h
  · cases h
theorem dec_cells {w : World} {A : Option Addr} {n : Nat} {xs : List Int} (h : Kd.C (Kd.int .u32) w A n xs) (h1 : 0 < n) : ∃ b o, A = some ⟨b, o, none⟩ ∧ ∀ i, i < n → w.cell? ⟨b, o + i, none⟩ = some (.int .u32 (xs.getD i 0)) := by
  obtain ⟨ad, e, hc⟩ := dec_word h 0 h1
  obtain ⟨b, o, s⟩ := ad
  obtain rfl : s = none := dec_spot hc
  refine ⟨b, o, e, fun i hi => ?_⟩
  obtain ⟨ad2, e2, hc2⟩ := dec_word h i hi
  rw [e] at e2
  cases e2
  cases i with
  | zero => exact hc2
  | succ i => rwa [Addr.add_succ'] at hc2
theorem seg.cell {W w1 : World} {g : Nat} {a : Addr} {v : Value} (hc : W.cell? a = some v) (hg : W.grownBy w1 (some g)) (hne : a.block ≠ g) : w1.cell? a = some v := by
  have hl := World.block_lt_of_cell? W _ hc
  unfold World.cell? at *
  rw [hg.block _ hl (fun e => hne (Option.some.inj e))]
  exact hc
set_option maxHeartbeats 16000000 in
set_option maxRecDepth 100000 in
theorem vendmeterref_Decoded.size (w : World) (A : Option Addr) (c : Nat) (l : List Int) (hl : l.length ≠ 13) :
    Calls Try.prog 18 #[.slice A l.length c] w fun e w' => e = .returned (.tuple #[.agg #[.int .i64 0, .int .i64 0, .int .i64 0, .int .i64 0, .int .i64 0, .int .i64 0, .int .i64 0, .int .i64 0, .int .i64 0, .int .i64 0, .int .i64 0, .int .i64 0, .int .i64 0], .int .i64 1]) ∧ Below w.heap.size w w' := by
  have c1 : ((l.length : Int) == 13) = false := beq_eq_false_iff_ne.mpr (by omega)
  have c1b : ((l.length : Int) != 13) = true := by rw [bne, c1]; rfl
  have c2 : (l.length == 13) = false := beq_eq_false_iff_ne.mpr hl
  have B2 := Aside0.mk (blk_new w (.cells #[.int .i64 0, .int .i64 0, .int .i64 0, .int .i64 0, .int .i64 0, .int .i64 0, .int .i64 0, .int .i64 0, .int .i64 0, .int .i64 0, .int .i64 0, .int .i64 0, .int .i64 0] 41 ))
  have HB := Aside0.mk (below_alloc (Below.refl w.heap.size w) (.cells #[.int .i64 0, .int .i64 0, .int .i64 0, .int .i64 0, .int .i64 0, .int .i64 0, .int .i64 0, .int .i64 0, .int .i64 0, .int .i64 0, .int .i64 0, .int .i64 0, .int .i64 0] 41 ))
  clear hl
  go_enter Try.func18, Try.ntmps18
  go_wp2_with ((with_reducible refine gate_store (t := 41 ) (p := 2) rfl ?_); refine seg.list rfl rfl 41 (.tmp 2) _ rfl 41 w.heap.size 0 #[.int .i64 0, .int .i64 0, .int .i64 0, .int .i64 0, .int .i64 0, .int .i64 0, .int .i64 0, .int .i64 0, .int .i64 0, .int .i64 0, .int .i64 0, .int .i64 0, .int .i64 0] #[.int .i64 0, .int .i64 0, .int .i64 0, .int .i64 0, .int .i64 0, .int .i64 0, .int .i64 0, .int .i64 0, .int .i64 0, .int .i64 0, .int .i64 0, .int .i64 0, .int .i64 0] [.int .i64 0, .int .i64 0, .int .i64 0, .int .i64 0, .int .i64 0, .int .i64 0, .int .i64 0, .int .i64 0, .int .i64 0, .int .i64 0, .int .i64 0, .int .i64 0, .int .i64 0] rfl rfl (by kernel_rfl) (by simp [Value.oneCell']) B2.out (by simp) rfl ?_; intro w9 bx hgr)
  refine bodyPost_ret (results_ct (p := 2) (u := 3) rfl _ w9 w.heap.size 41 _ (0, 0) _ rfl bx Try.underlying41 rfl (by kernel_rfl)) rfl ?_
  exact ⟨rfl, seg.below HB.out hgr (Nat.le_refl _)⟩
set_option maxHeartbeats 16000000 in
set_option maxRecDepth 100000 in
theorem vendmeterref_Decoded.no (w : World) (A : Option Addr) (c : Nat) (l : List Int) (hl : l.length = 13) (hr0 : Kd.C (Kd.int .u32) w A l.length l) (hR : evOk (wrap64 (l.getD 0 0)) (wrap64 (l.getD 1 0)) (wrap64 (l.getD 2 0)) (wrap64 (l.getD 3 0)) (wrap64 (l.getD 4 0)) (wrap64 (l.getD 5 0)) (wrap64 (l.getD 6 0)) (wrap64 (l.getD 7 0)) (wrap64 (l.getD 8 0)) (wrap64 (l.getD 9 0)) (wrap64 (l.getD 10 0)) (wrap64 (l.getD 11 0)) (wrap64 (l.getD 12 0)) = false) :
    Calls Try.prog 18 #[.slice A l.length c] w fun e w' => e = .returned (.tuple #[.agg #[.int .i64 0, .int .i64 0, .int .i64 0, .int .i64 0, .int .i64 0, .int .i64 0, .int .i64 0, .int .i64 0, .int .i64 0, .int .i64 0, .int .i64 0, .int .i64 0, .int .i64 0], .int .i64 5]) ∧ Below w.heap.size w w' := by
  have c1 : ((l.length : Int) == 13) = true := by rw [hl]; rfl
  have c1b : ((l.length : Int) != 13) = false := by rw [bne, c1]; rfl
  have c2 : (l.length == 13) = true := by rw [hl]; rfl
  have hu41 := Try.underlying41
  have hu31 := Try.underlying31
  have B2 := Aside0.mk (blk_new w (.cells #[.int .i64 0, .int .i64 0, .int .i64 0, .int .i64 0, .int .i64 0, .int .i64 0, .int .i64 0, .int .i64 0, .int .i64 0, .int .i64 0, .int .i64 0, .int .i64 0, .int .i64 0] 41 ))
  have HB := Aside0.mk (below_alloc (Below.refl w.heap.size w) (.cells #[.int .i64 0, .int .i64 0, .int .i64 0, .int .i64 0, .int .i64 0, .int .i64 0, .int .i64 0, .int .i64 0, .int .i64 0, .int .i64 0, .int .i64 0, .int .i64 0, .int .i64 0] 41 ))
  have hr1 := Kd.C_below hr0 HB.out
  obtain ⟨ab, ao, rfl, hcs⟩ := dec_cells hr1 (by omega)
  have y0 : (w.alloc (.cells #[.int .i64 0, .int .i64 0, .int .i64 0, .int .i64 0, .int .i64 0, .int .i64 0, .int .i64 0, .int .i64 0, .int .i64 0, .int .i64 0, .int .i64 0, .int .i64 0, .int .i64 0] 41 )).cell? ⟨ab, ao, none⟩ = some (.int .u32 (l.getD 0 0)) := hcs 0 (by omega)
  have y1 : (w.alloc (.cells #[.int .i64 0, .int .i64 0, .int .i64 0, .int .i64 0, .int .i64 0, .int .i64 0, .int .i64 0, .int .i64 0, .int .i64 0, .int .i64 0, .int .i64 0, .int .i64 0, .int .i64 0] 41 )).cell? ⟨ab, ao + 1, none⟩ = some (.int .u32 (l.getD 1 0)) := hcs 1 (by omega)
  have y2 : (w.alloc (.cells #[.int .i64 0, .int .i64 0, .int .i64 0, .int .i64 0, .int .i64 0, .int .i64 0, .int .i64 0, .int .i64 0, .int .i64 0, .int .i64 0, .int .i64 0, .int .i64 0, .int .i64 0] 41 )).cell? ⟨ab, ao + 2, none⟩ = some (.int .u32 (l.getD 2 0)) := hcs 2 (by omega)
  have y3 : (w.alloc (.cells #[.int .i64 0, .int .i64 0, .int .i64 0, .int .i64 0, .int .i64 0, .int .i64 0, .int .i64 0, .int .i64 0, .int .i64 0, .int .i64 0, .int .i64 0, .int .i64 0, .int .i64 0] 41 )).cell? ⟨ab, ao + 3, none⟩ = some (.int .u32 (l.getD 3 0)) := hcs 3 (by omega)
  have y4 : (w.alloc (.cells #[.int .i64 0, .int .i64 0, .int .i64 0, .int .i64 0, .int .i64 0, .int .i64 0, .int .i64 0, .int .i64 0, .int .i64 0, .int .i64 0, .int .i64 0, .int .i64 0, .int .i64 0] 41 )).cell? ⟨ab, ao + 4, none⟩ = some (.int .u32 (l.getD 4 0)) := hcs 4 (by omega)
  have y5 : (w.alloc (.cells #[.int .i64 0, .int .i64 0, .int .i64 0, .int .i64 0, .int .i64 0, .int .i64 0, .int .i64 0, .int .i64 0, .int .i64 0, .int .i64 0, .int .i64 0, .int .i64 0, .int .i64 0] 41 )).cell? ⟨ab, ao + 5, none⟩ = some (.int .u32 (l.getD 5 0)) := hcs 5 (by omega)
  have y6 : (w.alloc (.cells #[.int .i64 0, .int .i64 0, .int .i64 0, .int .i64 0, .int .i64 0, .int .i64 0, .int .i64 0, .int .i64 0, .int .i64 0, .int .i64 0, .int .i64 0, .int .i64 0, .int .i64 0] 41 )).cell? ⟨ab, ao + 6, none⟩ = some (.int .u32 (l.getD 6 0)) := hcs 6 (by omega)
  have y7 : (w.alloc (.cells #[.int .i64 0, .int .i64 0, .int .i64 0, .int .i64 0, .int .i64 0, .int .i64 0, .int .i64 0, .int .i64 0, .int .i64 0, .int .i64 0, .int .i64 0, .int .i64 0, .int .i64 0] 41 )).cell? ⟨ab, ao + 7, none⟩ = some (.int .u32 (l.getD 7 0)) := hcs 7 (by omega)
  have y8 : (w.alloc (.cells #[.int .i64 0, .int .i64 0, .int .i64 0, .int .i64 0, .int .i64 0, .int .i64 0, .int .i64 0, .int .i64 0, .int .i64 0, .int .i64 0, .int .i64 0, .int .i64 0, .int .i64 0] 41 )).cell? ⟨ab, ao + 8, none⟩ = some (.int .u32 (l.getD 8 0)) := hcs 8 (by omega)
  have y9 : (w.alloc (.cells #[.int .i64 0, .int .i64 0, .int .i64 0, .int .i64 0, .int .i64 0, .int .i64 0, .int .i64 0, .int .i64 0, .int .i64 0, .int .i64 0, .int .i64 0, .int .i64 0, .int .i64 0] 41 )).cell? ⟨ab, ao + 9, none⟩ = some (.int .u32 (l.getD 9 0)) := hcs 9 (by omega)
  have y10 : (w.alloc (.cells #[.int .i64 0, .int .i64 0, .int .i64 0, .int .i64 0, .int .i64 0, .int .i64 0, .int .i64 0, .int .i64 0, .int .i64 0, .int .i64 0, .int .i64 0, .int .i64 0, .int .i64 0] 41 )).cell? ⟨ab, ao + 10, none⟩ = some (.int .u32 (l.getD 10 0)) := hcs 10 (by omega)
  have y11 : (w.alloc (.cells #[.int .i64 0, .int .i64 0, .int .i64 0, .int .i64 0, .int .i64 0, .int .i64 0, .int .i64 0, .int .i64 0, .int .i64 0, .int .i64 0, .int .i64 0, .int .i64 0, .int .i64 0] 41 )).cell? ⟨ab, ao + 11, none⟩ = some (.int .u32 (l.getD 11 0)) := hcs 11 (by omega)
  have y12 : (w.alloc (.cells #[.int .i64 0, .int .i64 0, .int .i64 0, .int .i64 0, .int .i64 0, .int .i64 0, .int .i64 0, .int .i64 0, .int .i64 0, .int .i64 0, .int .i64 0, .int .i64 0, .int .i64 0] 41 )).cell? ⟨ab, ao + 12, none⟩ = some (.int .u32 (l.getD 12 0)) := hcs 12 (by omega)
  obtain ⟨u0_, hu0_⟩ : ∃ x, l.getD 0 0 = x := ⟨_, rfl⟩
  rw [hu0_] at y0
  obtain ⟨u1_, hu1_⟩ : ∃ x, l.getD 1 0 = x := ⟨_, rfl⟩
  rw [hu1_] at y1
  obtain ⟨u2_, hu2_⟩ : ∃ x, l.getD 2 0 = x := ⟨_, rfl⟩
  rw [hu2_] at y2
  obtain ⟨u3_, hu3_⟩ : ∃ x, l.getD 3 0 = x := ⟨_, rfl⟩
  rw [hu3_] at y3
  obtain ⟨u4_, hu4_⟩ : ∃ x, l.getD 4 0 = x := ⟨_, rfl⟩
  rw [hu4_] at y4
  obtain ⟨u5_, hu5_⟩ : ∃ x, l.getD 5 0 = x := ⟨_, rfl⟩
  rw [hu5_] at y5
  obtain ⟨u6_, hu6_⟩ : ∃ x, l.getD 6 0 = x := ⟨_, rfl⟩
  rw [hu6_] at y6
  obtain ⟨u7_, hu7_⟩ : ∃ x, l.getD 7 0 = x := ⟨_, rfl⟩
  rw [hu7_] at y7
  obtain ⟨u8_, hu8_⟩ : ∃ x, l.getD 8 0 = x := ⟨_, rfl⟩
  rw [hu8_] at y8
  obtain ⟨u9_, hu9_⟩ : ∃ x, l.getD 9 0 = x := ⟨_, rfl⟩
  rw [hu9_] at y9
  obtain ⟨u10_, hu10_⟩ : ∃ x, l.getD 10 0 = x := ⟨_, rfl⟩
  rw [hu10_] at y10
  obtain ⟨u11_, hu11_⟩ : ∃ x, l.getD 11 0 = x := ⟨_, rfl⟩
  rw [hu11_] at y11
  obtain ⟨u12_, hu12_⟩ : ∃ x, l.getD 12 0 = x := ⟨_, rfl⟩
  rw [hu12_] at y12
  rw [hu0_, hu1_, hu2_, hu3_, hu4_, hu5_, hu6_, hu7_, hu8_, hu9_, hu10_, hu11_, hu12_] at hR
  obtain ⟨d0, hd0⟩ : ∃ x, wrap64 u0_ = x := ⟨_, rfl⟩
  obtain ⟨d1, hd1⟩ : ∃ x, wrap64 u1_ = x := ⟨_, rfl⟩
  obtain ⟨d2, hd2⟩ : ∃ x, wrap64 u2_ = x := ⟨_, rfl⟩
  obtain ⟨d3, hd3⟩ : ∃ x, wrap64 u3_ = x := ⟨_, rfl⟩
  obtain ⟨d4, hd4⟩ : ∃ x, wrap64 u4_ = x := ⟨_, rfl⟩
  obtain ⟨d5, hd5⟩ : ∃ x, wrap64 u5_ = x := ⟨_, rfl⟩
  obtain ⟨d6, hd6⟩ : ∃ x, wrap64 u6_ = x := ⟨_, rfl⟩
  obtain ⟨d7, hd7⟩ : ∃ x, wrap64 u7_ = x := ⟨_, rfl⟩
  obtain ⟨d8, hd8⟩ : ∃ x, wrap64 u8_ = x := ⟨_, rfl⟩
  obtain ⟨d9, hd9⟩ : ∃ x, wrap64 u9_ = x := ⟨_, rfl⟩
  obtain ⟨d10, hd10⟩ : ∃ x, wrap64 u10_ = x := ⟨_, rfl⟩
  obtain ⟨d11, hd11⟩ : ∃ x, wrap64 u11_ = x := ⟨_, rfl⟩
  obtain ⟨d12, hd12⟩ : ∃ x, wrap64 u12_ = x := ⟨_, rfl⟩
  rw [hd0, hd1, hd2, hd3, hd4, hd5, hd6, hd7, hd8, hd9, hd10, hd11, hd12] at hR
  have HR := Aside0.mk hR
  have E0 := Aside0.mk (show wrap64 (l.getD 0 0) = d0 by rw [hu0_, hd0])
  have E1 := Aside0.mk (show wrap64 (l.getD 1 0) = d1 by rw [hu1_, hd1])
  have E2 := Aside0.mk (show wrap64 (l.getD 2 0) = d2 by rw [hu2_, hd2])
  have E3 := Aside0.mk (show wrap64 (l.getD 3 0) = d3 by rw [hu3_, hd3])
  have E4 := Aside0.mk (show wrap64 (l.getD 4 0) = d4 by rw [hu4_, hd4])
  have E5 := Aside0.mk (show wrap64 (l.getD 5 0) = d5 by rw [hu5_, hd5])
  have E6 := Aside0.mk (show wrap64 (l.getD 6 0) = d6 by rw [hu6_, hd6])
  have E7 := Aside0.mk (show wrap64 (l.getD 7 0) = d7 by rw [hu7_, hd7])
  have E8 := Aside0.mk (show wrap64 (l.getD 8 0) = d8 by rw [hu8_, hd8])
  have E9 := Aside0.mk (show wrap64 (l.getD 9 0) = d9 by rw [hu9_, hd9])
  have E10 := Aside0.mk (show wrap64 (l.getD 10 0) = d10 by rw [hu10_, hd10])
  have E11 := Aside0.mk (show wrap64 (l.getD 11 0) = d11 by rw [hu11_, hd11])
  have E12 := Aside0.mk (show wrap64 (l.getD 12 0) = d12 by rw [hu12_, hd12])
  have p0 : (0 ≤ (0 : Int)) = True := eq_true (by decide)
  have q0 : ((0 : Int) < (l.length : Int)) = True := eq_true (by omega)
  have q0b : (0 < l.length) = True := eq_true (by omega)
  have p1 : (0 ≤ (1 : Int)) = True := eq_true (by decide)
  have q1 : ((1 : Int) < (l.length : Int)) = True := eq_true (by omega)
  have q1b : (1 < l.length) = True := eq_true (by omega)
  have p2 : (0 ≤ (2 : Int)) = True := eq_true (by decide)
  have q2 : ((2 : Int) < (l.length : Int)) = True := eq_true (by omega)
  have q2b : (2 < l.length) = True := eq_true (by omega)
  have p3 : (0 ≤ (3 : Int)) = True := eq_true (by decide)
  have q3 : ((3 : Int) < (l.length : Int)) = True := eq_true (by omega)
  have q3b : (3 < l.length) = True := eq_true (by omega)
  have p4 : (0 ≤ (4 : Int)) = True := eq_true (by decide)
  have q4 : ((4 : Int) < (l.length : Int)) = True := eq_true (by omega)
  have q4b : (4 < l.length) = True := eq_true (by omega)
  have p5 : (0 ≤ (5 : Int)) = True := eq_true (by decide)
  have q5 : ((5 : Int) < (l.length : Int)) = True := eq_true (by omega)
  have q5b : (5 < l.length) = True := eq_true (by omega)
  have p6 : (0 ≤ (6 : Int)) = True := eq_true (by decide)
  have q6 : ((6 : Int) < (l.length : Int)) = True := eq_true (by omega)
  have q6b : (6 < l.length) = True := eq_true (by omega)
  have p7 : (0 ≤ (7 : Int)) = True := eq_true (by decide)
  have q7 : ((7 : Int) < (l.length : Int)) = True := eq_true (by omega)
  have q7b : (7 < l.length) = True := eq_true (by omega)
  have p8 : (0 ≤ (8 : Int)) = True := eq_true (by decide)
  have q8 : ((8 : Int) < (l.length : Int)) = True := eq_true (by omega)
  have q8b : (8 < l.length) = True := eq_true (by omega)
  have p9 : (0 ≤ (9 : Int)) = True := eq_true (by decide)
  have q9 : ((9 : Int) < (l.length : Int)) = True := eq_true (by omega)
  have q9b : (9 < l.length) = True := eq_true (by omega)
  have p10 : (0 ≤ (10 : Int)) = True := eq_true (by decide)
  have q10 : ((10 : Int) < (l.length : Int)) = True := eq_true (by omega)
  have q10b : (10 < l.length) = True := eq_true (by omega)
  have p11 : (0 ≤ (11 : Int)) = True := eq_true (by decide)
  have q11 : ((11 : Int) < (l.length : Int)) = True := eq_true (by omega)
  have q11b : (11 < l.length) = True := eq_true (by omega)
  have p12 : (0 ≤ (12 : Int)) = True := eq_true (by decide)
  have q12 : ((12 : Int) < (l.length : Int)) = True := eq_true (by omega)
  have q12b : (12 < l.length) = True := eq_true (by omega)
  clear hl hr0 hr1 hR hcs
  go_enter Try.func18, Try.ntmps18
  go_upto_region 3 with (fail)
  obtain ⟨wx, hwx⟩ : ∃ W : World, W = w.alloc (.cells #[.int .i64 0, .int .i64 0, .int .i64 0, .int .i64 0, .int .i64 0, .int .i64 0, .int .i64 0, .int .i64 0, .int .i64 0, .int .i64 0, .int .i64 0, .int .i64 0, .int .i64 0] 41 ) := ⟨_, rfl⟩
  rw [← hwx] at B2 HB y0 y1 y2 y3 y4 y5 y6 y7 y8 y9 y10 y11 y12 ⊢
  have Y0 := Aside0.mk y0
  have Y1 := Aside0.mk y1
  have Y2 := Aside0.mk y2
  have Y3 := Aside0.mk y3
  have Y4 := Aside0.mk y4
  have Y5 := Aside0.mk y5
  have Y6 := Aside0.mk y6
  have Y7 := Aside0.mk y7
  have Y8 := Aside0.mk y8
  have Y9 := Aside0.mk y9
  have Y10 := Aside0.mk y10
  have Y11 := Aside0.mk y11
  have Y12 := Aside0.mk y12
  clear hwx
  refine start_ (n := 31) (S := fun w' => w'.cell? ⟨ab, ao + 3, none⟩ = some (Value.int .u32 u3_) ∧ w'.cell? ⟨ab, ao + 4, none⟩ = some (Value.int .u32 u4_) ∧ w'.cell? ⟨ab, ao + 5, none⟩ = some (Value.int .u32 u5_) ∧ w'.cell? ⟨ab, ao + 6, none⟩ = some (Value.int .u32 u6_) ∧ w'.cell? ⟨ab, ao + 7, none⟩ = some (Value.int .u32 u7_) ∧ w'.cell? ⟨ab, ao + 8, none⟩ = some (Value.int .u32 u8_) ∧ w'.cell? ⟨ab, ao + 9, none⟩ = some (Value.int .u32 u9_)) (ds := [30]) #[false, false, false, false, false, false, false, false, false, false, false, false, false, false, false, false, false, false, false, false, false, false, false, false, false, false, false, false, false, false, false] (by kernel_rfl) rfl rfl ⟨pw_cell_below (below_drew1 (Below.refl _ _)) Y3.out, pw_cell_below (below_drew1 (Below.refl _ _)) Y4.out, pw_cell_below (below_drew1 (Below.refl _ _)) Y5.out, pw_cell_below (below_drew1 (Below.refl _ _)) Y6.out, pw_cell_below (below_drew1 (Below.refl _ _)) Y7.out, pw_cell_below (below_drew1 (Below.refl _ _)) Y8.out, pw_cell_below (below_drew1 (Below.refl _ _)) Y9.out⟩ (fun hHeld => ?_)
  refine pure_ (i := 0) (N := some 10) (v := ?_) (a' := ?_) #[true, false, false, false, false, false, false, false, false, false, false, false, false, false, false, false, false, false, false, false, false, false, false, false, false, false, false, false, false, false, false] rfl rfl (by kernel_rfl) (fun _ _ _ h => h) (Or.inl ⟨by rfl, ?_⟩) ?_ ?_
  rotate_left
  · intro w'
    go_simp
    with_reducible rfl
  rotate_left
  · simp only [Act.put, List.setIfInBounds_toArray, List.set_cons_zero, List.set_cons_succ, i64_w, i32_w]
    rfl
  refine pure_ (i := 1) (N := some 11) (v := ?_) (a' := ?_) #[true, true, false, false, false, false, false, false, false, false, false, false, false, false, false, false, false, false, false, false, false, false, false, false, false, false, false, false, false, false, false] rfl rfl (by kernel_rfl) (fun _ _ _ h => h) (Or.inl ⟨by rfl, ?_⟩) ?_ ?_
  rotate_left
  · intro w'
    go_simp
    with_reducible rfl
  rotate_left
  · simp only [Act.put, List.setIfInBounds_toArray, List.set_cons_zero, List.set_cons_succ, i64_w, i32_w]
    rfl
  refine pure_ (i := 4) (N := some 14) (v := ?_) (a' := ?_) #[true, true, false, false, true, false, false, false, false, false, false, false, false, false, false, false, false, false, false, false, false, false, false, false, false, false, false, false, false, false, false] rfl rfl (by kernel_rfl) (fun _ _ _ h => h) (Or.inl ⟨by rfl, ?_⟩) ?_ ?_
  rotate_left
  · intro w'
    go_simp
    with_reducible rfl
  rotate_left
  · simp only [Act.put, List.setIfInBounds_toArray, List.set_cons_zero, List.set_cons_succ, i64_w, i32_w]
    rfl
  refine pure_ (i := 5) (N := some 15) (v := ?_) (a' := ?_) #[true, true, false, false, true, true, false, false, false, false, false, false, false, false, false, false, false, false, false, false, false, false, false, false, false, false, false, false, false, false, false] rfl rfl (by kernel_rfl) (fun _ _ _ h => h) (Or.inl ⟨by rfl, ?_⟩) ?_ ?_
  rotate_left
  · intro w'
    go_simp
    with_reducible rfl
  rotate_left
  · simp only [Act.put, List.setIfInBounds_toArray, List.set_cons_zero, List.set_cons_succ, i64_w, i32_w]
    rfl
  refine pure_ (i := 8) (N := some 18) (v := ?_) (a' := ?_) #[true, true, false, false, true, true, false, false, true, false, false, false, false, false, false, false, false, false, false, false, false, false, false, false, false, false, false, false, false, false, false] rfl rfl (by kernel_rfl) (fun _ _ _ h => h) (Or.inl ⟨by rfl, ?_⟩) ?_ ?_
  rotate_left
  · intro w'
    go_simp
    with_reducible rfl
  rotate_left
  · simp only [Act.put, List.setIfInBounds_toArray, List.set_cons_zero, List.set_cons_succ, i64_w, i32_w]
    rfl
  refine pure_ (i := 9) (N := some 19) (v := ?_) (a' := ?_) #[true, true, false, false, true, true, false, false, true, true, false, false, false, false, false, false, false, false, false, false, false, false, false, false, false, false, false, false, false, false, false] rfl rfl (by kernel_rfl) (fun _ _ _ h => h) (Or.inl ⟨by rfl, ?_⟩) ?_ ?_
  rotate_left
  · intro w'
    go_simp
    with_reducible rfl
  rotate_left
  · simp only [Act.put, List.setIfInBounds_toArray, List.set_cons_zero, List.set_cons_succ, i64_w, i32_w]
    rfl
  refine pure_ (i := 12) (N := some 22) (v := ?_) (a' := ?_) #[true, true, false, false, true, true, false, false, true, true, false, false, true, false, false, false, false, false, false, false, false, false, false, false, false, false, false, false, false, false, false] rfl rfl (by kernel_rfl) (fun _ _ _ h => h) (Or.inl ⟨by rfl, ?_⟩) ?_ ?_
  rotate_left
  · intro w'
    go_simp
    with_reducible rfl
  rotate_left
  · simp only [Act.put, List.setIfInBounds_toArray, List.set_cons_zero, List.set_cons_succ, i64_w, i32_w]
    rfl
  refine pure_ (i := 13) (N := some 23) (v := ?_) (a' := ?_) #[true, true, false, false, true, true, false, false, true, true, false, false, true, true, false, false, false, false, false, false, false, false, false, false, false, false, false, false, false, false, false] rfl rfl (by kernel_rfl) (fun _ _ _ h => h) (Or.inl ⟨by rfl, ?_⟩) ?_ ?_
  rotate_left
  · intro w'
    go_simp
    with_reducible rfl
  rotate_left
  · simp only [Act.put, List.setIfInBounds_toArray, List.set_cons_zero, List.set_cons_succ, i64_w, i32_w]
    rfl
  refine pure_ (i := 16) (N := some 26) (v := ?_) (a' := ?_) #[true, true, false, false, true, true, false, false, true, true, false, false, true, true, false, false, true, false, false, false, false, false, false, false, false, false, false, false, false, false, false] rfl rfl (by kernel_rfl) (fun _ _ _ h => h) (Or.inl ⟨by rfl, ?_⟩) ?_ ?_
  rotate_left
  · intro w'
    go_simp
    with_reducible rfl
  rotate_left
  · simp only [Act.put, List.setIfInBounds_toArray, List.set_cons_zero, List.set_cons_succ, i64_w, i32_w]
    rfl
  refine pure_ (i := 17) (N := some 27) (v := ?_) (a' := ?_) #[true, true, false, false, true, true, false, false, true, true, false, false, true, true, false, false, true, true, false, false, false, false, false, false, false, false, false, false, false, false, false] rfl rfl (by kernel_rfl) (fun _ _ _ h => h) (Or.inl ⟨by rfl, ?_⟩) ?_ ?_
  rotate_left
  · intro w'
    go_simp
    with_reducible rfl
  rotate_left
  · simp only [Act.put, List.setIfInBounds_toArray, List.set_cons_zero, List.set_cons_succ, i64_w, i32_w]
    rfl
  refine pure_ (i := 20) (N := some 30) (v := ?_) (a' := ?_) #[true, true, false, false, true, true, false, false, true, true, false, false, true, true, false, false, true, true, false, false, true, false, false, false, false, false, false, false, false, false, false] rfl rfl (by kernel_rfl) (fun _ _ _ h => h) (Or.inl ⟨by rfl, ?_⟩) ?_ ?_
  rotate_left
  · intro w'
    go_simp
    with_reducible rfl
  rotate_left
  · simp only [Act.put, List.setIfInBounds_toArray, List.set_cons_zero, List.set_cons_succ, i64_w, i32_w]
    rfl
  refine pure_ (i := 21) (N := some 31) (v := ?_) (a' := ?_) #[true, true, false, false, true, true, false, false, true, true, false, false, true, true, false, false, true, true, false, false, true, true, false, false, false, false, false, false, false, false, false] rfl rfl (by kernel_rfl) (fun _ _ _ h => h) (Or.inl ⟨by rfl, ?_⟩) ?_ ?_
  rotate_left
  · intro w'
    go_simp
    with_reducible rfl
  rotate_left
  · simp only [Act.put, List.setIfInBounds_toArray, List.set_cons_zero, List.set_cons_succ, i64_w, i32_w]
    rfl
  refine pure_ (i := 24) (N := some 34) (v := ?_) (a' := ?_) #[true, true, false, false, true, true, false, false, true, true, false, false, true, true, false, false, true, true, false, false, true, true, false, false, true, false, false, false, false, false, false] rfl rfl (by kernel_rfl) (fun _ _ _ h => h) (Or.inl ⟨by rfl, ?_⟩) ?_ ?_
  rotate_left
  · intro w'
    go_simp
    with_reducible rfl
  rotate_left
  · simp only [Act.put, List.setIfInBounds_toArray, List.set_cons_zero, List.set_cons_succ, i64_w, i32_w]
    rfl
  refine pure_ (i := 25) (N := some 35) (v := ?_) (a' := ?_) #[true, true, false, false, true, true, false, false, true, true, false, false, true, true, false, false, true, true, false, false, true, true, false, false, true, true, false, false, false, false, false] rfl rfl (by kernel_rfl) (fun _ _ _ h => h) (Or.inl ⟨by rfl, ?_⟩) ?_ ?_
  rotate_left
  · intro w'
    go_simp
    with_reducible rfl
  rotate_left
  · simp only [Act.put, List.setIfInBounds_toArray, List.set_cons_zero, List.set_cons_succ, i64_w, i32_w]
    rfl
  refine take_ (i := 2) (N := some 12) (v := ?_) (a' := ?_) #[true, true, true, false, true, true, false, false, true, true, false, false, true, true, false, false, true, true, false, false, true, true, false, false, true, true, false, false, false, false, false] rfl rfl (by kernel_rfl) (fun _ _ _ h => h) (Or.inl ⟨by rfl, ?_⟩) hHeld ?_ ?_
  rotate_left
  · rintro w' ⟨s0, s1, s2, s3, s4, s5, s6⟩
    go_simp
    with_reducible rfl
  rotate_left
  · simp only [Act.put, List.setIfInBounds_toArray, List.set_cons_zero, List.set_cons_succ, i64_w, i32_w]
    rfl
  refine pure_ (i := 3) (N := some 13) (v := ?_) (a' := ?_) #[true, true, true, true, true, true, false, false, true, true, false, false, true, true, false, false, true, true, false, false, true, true, false, false, true, true, false, false, false, false, false] rfl rfl (by kernel_rfl) (fun _ _ _ h => h) (Or.inl ⟨by rfl, ?_⟩) ?_ ?_
  rotate_left
  · intro w'
    go_simp
    with_reducible rfl
  rotate_left
  · simp only [Act.put, List.setIfInBounds_toArray, List.set_cons_zero, List.set_cons_succ, i64_w, i32_w]
    rfl
  refine take_ (i := 6) (N := some 16) (v := ?_) (a' := ?_) #[true, true, true, true, true, true, true, false, true, true, false, false, true, true, false, false, true, true, false, false, true, true, false, false, true, true, false, false, false, false, false] rfl rfl (by kernel_rfl) (fun _ _ _ h => h) (Or.inl ⟨by rfl, ?_⟩) hHeld ?_ ?_
  rotate_left
  · rintro w' ⟨s0, s1, s2, s3, s4, s5, s6⟩
    go_simp
    with_reducible rfl
  rotate_left
  · simp only [Act.put, List.setIfInBounds_toArray, List.set_cons_zero, List.set_cons_succ, i64_w, i32_w]
    rfl
  refine pure_ (i := 7) (N := some 17) (v := ?_) (a' := ?_) #[true, true, true, true, true, true, true, true, true, true, false, false, true, true, false, false, true, true, false, false, true, true, false, false, true, true, false, false, false, false, false] rfl rfl (by kernel_rfl) (fun _ _ _ h => h) (Or.inl ⟨by rfl, ?_⟩) ?_ ?_
  rotate_left
  · intro w'
    go_simp
    with_reducible rfl
  rotate_left
  · simp only [Act.put, List.setIfInBounds_toArray, List.set_cons_zero, List.set_cons_succ, i64_w, i32_w]
    rfl
  refine take_ (i := 10) (N := some 20) (v := ?_) (a' := ?_) #[true, true, true, true, true, true, true, true, true, true, true, false, true, true, false, false, true, true, false, false, true, true, false, false, true, true, false, false, false, false, false] rfl rfl (by kernel_rfl) (fun _ _ _ h => h) (Or.inl ⟨by rfl, ?_⟩) hHeld ?_ ?_
  rotate_left
  · rintro w' ⟨s0, s1, s2, s3, s4, s5, s6⟩
    go_simp
    with_reducible rfl
  rotate_left
  · simp only [Act.put, List.setIfInBounds_toArray, List.set_cons_zero, List.set_cons_succ, i64_w, i32_w]
    rfl
  refine pure_ (i := 11) (N := some 21) (v := ?_) (a' := ?_) #[true, true, true, true, true, true, true, true, true, true, true, true, true, true, false, false, true, true, false, false, true, true, false, false, true, true, false, false, false, false, false] rfl rfl (by kernel_rfl) (fun _ _ _ h => h) (Or.inl ⟨by rfl, ?_⟩) ?_ ?_
  rotate_left
  · intro w'
    go_simp
    with_reducible rfl
  rotate_left
  · simp only [Act.put, List.setIfInBounds_toArray, List.set_cons_zero, List.set_cons_succ, i64_w, i32_w]
    rfl
  refine take_ (i := 14) (N := some 24) (v := ?_) (a' := ?_) #[true, true, true, true, true, true, true, true, true, true, true, true, true, true, true, false, true, true, false, false, true, true, false, false, true, true, false, false, false, false, false] rfl rfl (by kernel_rfl) (fun _ _ _ h => h) (Or.inl ⟨by rfl, ?_⟩) hHeld ?_ ?_
  rotate_left
  · rintro w' ⟨s0, s1, s2, s3, s4, s5, s6⟩
    go_simp
    with_reducible rfl
  rotate_left
  · simp only [Act.put, List.setIfInBounds_toArray, List.set_cons_zero, List.set_cons_succ, i64_w, i32_w]
    rfl
  refine pure_ (i := 15) (N := some 25) (v := ?_) (a' := ?_) #[true, true, true, true, true, true, true, true, true, true, true, true, true, true, true, true, true, true, false, false, true, true, false, false, true, true, false, false, false, false, false] rfl rfl (by kernel_rfl) (fun _ _ _ h => h) (Or.inl ⟨by rfl, ?_⟩) ?_ ?_
  rotate_left
  · intro w'
    go_simp
    with_reducible rfl
  rotate_left
  · simp only [Act.put, List.setIfInBounds_toArray, List.set_cons_zero, List.set_cons_succ, i64_w, i32_w]
    rfl
  refine take_ (i := 18) (N := some 28) (v := ?_) (a' := ?_) #[true, true, true, true, true, true, true, true, true, true, true, true, true, true, true, true, true, true, true, false, true, true, false, false, true, true, false, false, false, false, false] rfl rfl (by kernel_rfl) (fun _ _ _ h => h) (Or.inl ⟨by rfl, ?_⟩) hHeld ?_ ?_
  rotate_left
  · rintro w' ⟨s0, s1, s2, s3, s4, s5, s6⟩
    go_simp
    with_reducible rfl
  rotate_left
  · simp only [Act.put, List.setIfInBounds_toArray, List.set_cons_zero, List.set_cons_succ, i64_w, i32_w]
    rfl
  refine pure_ (i := 19) (N := some 29) (v := ?_) (a' := ?_) #[true, true, true, true, true, true, true, true, true, true, true, true, true, true, true, true, true, true, true, true, true, true, false, false, true, true, false, false, false, false, false] rfl rfl (by kernel_rfl) (fun _ _ _ h => h) (Or.inl ⟨by rfl, ?_⟩) ?_ ?_
  rotate_left
  · intro w'
    go_simp
    with_reducible rfl
  rotate_left
  · simp only [Act.put, List.setIfInBounds_toArray, List.set_cons_zero, List.set_cons_succ, i64_w, i32_w]
    rfl
  refine take_ (i := 22) (N := some 32) (v := ?_) (a' := ?_) #[true, true, true, true, true, true, true, true, true, true, true, true, true, true, true, true, true, true, true, true, true, true, true, false, true, true, false, false, false, false, false] rfl rfl (by kernel_rfl) (fun _ _ _ h => h) (Or.inl ⟨by rfl, ?_⟩) hHeld ?_ ?_
  rotate_left
  · rintro w' ⟨s0, s1, s2, s3, s4, s5, s6⟩
    go_simp
    with_reducible rfl
  rotate_left
  · simp only [Act.put, List.setIfInBounds_toArray, List.set_cons_zero, List.set_cons_succ, i64_w, i32_w]
    rfl
  refine pure_ (i := 23) (N := some 33) (v := ?_) (a' := ?_) #[true, true, true, true, true, true, true, true, true, true, true, true, true, true, true, true, true, true, true, true, true, true, true, true, true, true, false, false, false, false, false] rfl rfl (by kernel_rfl) (fun _ _ _ h => h) (Or.inl ⟨by rfl, ?_⟩) ?_ ?_
  rotate_left
  · intro w'
    go_simp
    with_reducible rfl
  rotate_left
  · simp only [Act.put, List.setIfInBounds_toArray, List.set_cons_zero, List.set_cons_succ, i64_w, i32_w]
    rfl
  refine take_ (i := 26) (N := some 36) (v := ?_) (a' := ?_) #[true, true, true, true, true, true, true, true, true, true, true, true, true, true, true, true, true, true, true, true, true, true, true, true, true, true, true, false, false, false, false] rfl rfl (by kernel_rfl) (fun _ _ _ h => h) (Or.inl ⟨by rfl, ?_⟩) hHeld ?_ ?_
  rotate_left
  · rintro w' ⟨s0, s1, s2, s3, s4, s5, s6⟩
    go_simp
    with_reducible rfl
  rotate_left
  · simp only [Act.put, List.setIfInBounds_toArray, List.set_cons_zero, List.set_cons_succ, i64_w, i32_w]
    rfl
  refine pure_ (i := 27) (N := some 37) (v := ?_) (a' := ?_) #[true, true, true, true, true, true, true, true, true, true, true, true, true, true, true, true, true, true, true, true, true, true, true, true, true, true, true, true, false, false, false] rfl rfl (by kernel_rfl) (fun _ _ _ h => h) (Or.inl ⟨by rfl, ?_⟩) ?_ ?_
  rotate_left
  · intro w'
    go_simp
    with_reducible rfl
  rotate_left
  · simp only [Act.put, List.setIfInBounds_toArray, List.set_cons_zero, List.set_cons_succ, i64_w, i32_w]
    rfl
  refine pure_ (i := 28) (N := some 38) (v := ?_) (a' := ?_) #[true, true, true, true, true, true, true, true, true, true, true, true, true, true, true, true, true, true, true, true, true, true, true, true, true, true, true, true, true, false, false] rfl rfl (by kernel_rfl) (fun _ _ _ h => h) (Or.inl ⟨by rfl, ?_⟩) ?_ ?_
  rotate_left
  · intro w'
    go_simp
    with_reducible rfl
  rotate_left
  · simp only [Act.put, List.setIfInBounds_toArray, List.set_cons_zero, List.set_cons_succ, i64_w, i32_w]
    rfl
  refine one_ (i := 29) (N := some 4) #[true, true, true, true, true, true, true, true, true, true, true, true, true, true, true, true, true, true, true, true, true, true, true, true, true, true, true, true, true, true, false] rfl rfl (by kernel_rfl) (by decide) (fun K hK => ?_)
  refine value_ (w1 := ?_) (v := ?_) (by rfl) rfl ?_ ?_
  rotate_left 2
  · go_simp
    constructor
    · rfl
    · rfl
  refine hK.out _ _ ⟨pw_cell_below (below_alloc (Below.refl _ _) _) (pw_cell_below (below_drew1 (Below.refl _ _)) Y3.out), pw_cell_below (below_alloc (Below.refl _ _) _) (pw_cell_below (below_drew1 (Below.refl _ _)) Y4.out), pw_cell_below (below_alloc (Below.refl _ _) _) (pw_cell_below (below_drew1 (Below.refl _ _)) Y5.out), pw_cell_below (below_alloc (Below.refl _ _) _) (pw_cell_below (below_drew1 (Below.refl _ _)) Y6.out), pw_cell_below (below_alloc (Below.refl _ _) _) (pw_cell_below (below_drew1 (Below.refl _ _)) Y7.out), pw_cell_below (below_alloc (Below.refl _ _) _) (pw_cell_below (below_drew1 (Below.refl _ _)) Y8.out), pw_cell_below (below_alloc (Below.refl _ _) _) (pw_cell_below (below_drew1 (Below.refl _ _)) Y9.out)⟩ (fun hHeld => ?_)
  clear hK K
  refine norm_ (a' := ?_) ?_ ?_
  rotate_left
  · show Act.put _ (some 4) _ = _
    simp only [Act.put, List.setIfInBounds_toArray, List.set_cons_zero, List.set_cons_succ, i64_w, i32_w]
    rfl
  refine last_ (i := 30) (N := none) #[true, true, true, true, true, true, true, true, true, true, true, true, true, true, true, true, true, true, true, true, true, true, true, true, true, true, true, true, true, true, true] rfl rfl (by kernel_rfl) (by decide) (fun K hK => ?_)
  refine seg.step (by rfl) rfl 31 (.tmp 4) _ (by rfl) 31 wx.drew.heap.size 0 #[.int .i64 0, .int .i64 0, .int .i64 0, .int .i64 0, .int .i64 0, .int .i64 0, .int .i64 0] #[.int .i64 d3, .int .i64 d4, .int .i64 d5, .int .i64 d6, .int .i64 d7, .int .i64 d8, .int .i64 d9] [.int .i64 d3, .int .i64 d4, .int .i64 d5, .int .i64 d6, .int .i64 d7, .int .i64 d8, .int .i64 d9] (by rfl) (by rfl) (by kernel_rfl) (by simp [Value.oneCell']) (blk_new wx.drew _) (by simp) rfl ?_
  intro wy by_ hgy
  refine hK.out _ _ ?_
  clear hK K
  refine done_ (by kernel_rfl) ?_
  have HB1 := Aside0.mk (seg.below (below_alloc (below_drew1 HB.out) _) hgy (by have := HB.out.size; exact this))
  have Z1 := Aside0.mk (seg.far (blk_alloc (blk_drew B2.out) _) hgy (Nat.ne_of_lt (blk_lt (blk_drew B2.out))))
  have T0 := Aside0.mk (show wy.cell? ⟨wx.heap.size, 0, none⟩ = some (.int .i64 d3) from (blk_cell by_ 0).trans rfl)
  have T1 := Aside0.mk (show wy.cell? ⟨wx.heap.size, 1, none⟩ = some (.int .i64 d4) from (blk_cell by_ 1).trans rfl)
  have T2 := Aside0.mk (show wy.cell? ⟨wx.heap.size, 2, none⟩ = some (.int .i64 d5) from (blk_cell by_ 2).trans rfl)
  have T3 := Aside0.mk (show wy.cell? ⟨wx.heap.size, 3, none⟩ = some (.int .i64 d6) from (blk_cell by_ 3).trans rfl)
  have T4 := Aside0.mk (show wy.cell? ⟨wx.heap.size, 4, none⟩ = some (.int .i64 d7) from (blk_cell by_ 4).trans rfl)
  have T5 := Aside0.mk (show wy.cell? ⟨wx.heap.size, 5, none⟩ = some (.int .i64 d8) from (blk_cell by_ 5).trans rfl)
  have T6 := Aside0.mk (show wy.cell? ⟨wx.heap.size, 6, none⟩ = some (.int .i64 d9) from (blk_cell by_ 6).trans rfl)
  have Q0 := Aside0.mk (seg.cell (pw_cell_below (below_alloc (Below.refl _ _) _) (pw_cell_below (below_drew1 (Below.refl _ _)) Y0.out)) hgy (Nat.ne_of_lt (World.block_lt_of_cell? _ _ (pw_cell_below (below_drew1 (Below.refl _ _)) Y0.out))))
  have Q1 := Aside0.mk (seg.cell (pw_cell_below (below_alloc (Below.refl _ _) _) (pw_cell_below (below_drew1 (Below.refl _ _)) Y1.out)) hgy (Nat.ne_of_lt (World.block_lt_of_cell? _ _ (pw_cell_below (below_drew1 (Below.refl _ _)) Y1.out))))
  have Q2 := Aside0.mk (seg.cell (pw_cell_below (below_alloc (Below.refl _ _) _) (pw_cell_below (below_drew1 (Below.refl _ _)) Y2.out)) hgy (Nat.ne_of_lt (World.block_lt_of_cell? _ _ (pw_cell_below (below_drew1 (Below.refl _ _)) Y2.out))))
  have Q10 := Aside0.mk (seg.cell (pw_cell_below (below_alloc (Below.refl _ _) _) (pw_cell_below (below_drew1 (Below.refl _ _)) Y10.out)) hgy (Nat.ne_of_lt (World.block_lt_of_cell? _ _ (pw_cell_below (below_drew1 (Below.refl _ _)) Y10.out))))
  have Q11 := Aside0.mk (seg.cell (pw_cell_below (below_alloc (Below.refl _ _) _) (pw_cell_below (below_drew1 (Below.refl _ _)) Y11.out)) hgy (Nat.ne_of_lt (World.block_lt_of_cell? _ _ (pw_cell_below (below_drew1 (Below.refl _ _)) Y11.out))))
  have Q12 := Aside0.mk (seg.cell (pw_cell_below (below_alloc (Below.refl _ _) _) (pw_cell_below (below_drew1 (Below.refl _ _)) Y12.out)) hgy (Nat.ne_of_lt (World.block_lt_of_cell? _ _ (pw_cell_below (below_drew1 (Below.refl _ _)) Y12.out))))
  have CW := Aside0.mk (show wx.drew.heap.size < wy.heap.size from blk_lt by_)
  clear by_ hgy y0 y1 y2 y3 y4 y5 y6 y7 y8 y9 y10 y11 y12
  go_wp2
  obtain ⟨wq, hwq⟩ : ∃ W : World, W = wy := ⟨_, rfl⟩
  rw [← hwq] at HB1 Z1 CW T0 T1 T2 T3 T4 T5 T6 Q0 Q1 Q2 Q10 Q11 Q12 ⊢
  clear hwq
  simp only [List.getElem_toArray, List.getElem_cons_succ, List.getElem_cons_zero, Act.put]
  refine start_ (n := 29) (S := fun w' => w'.cell? ⟨ab, ao, none⟩ = some (Value.int .u32 u0_) ∧ w'.cell? ⟨ab, ao + 1, none⟩ = some (Value.int .u32 u1_) ∧ w'.cell? ⟨ab, ao + 2, none⟩ = some (Value.int .u32 u2_) ∧ w'.cell? ⟨ab, ao + 10, none⟩ = some (Value.int .u32 u10_) ∧ w'.cell? ⟨ab, ao + 11, none⟩ = some (Value.int .u32 u11_) ∧ w'.cell? ⟨ab, ao + 12, none⟩ = some (Value.int .u32 u12_) ∧ w'.cell? ⟨wx.heap.size, 0, none⟩ = some (Value.int .i64 d3) ∧ w'.cell? ⟨wx.heap.size, 1, none⟩ = some (Value.int .i64 d4) ∧ w'.cell? ⟨wx.heap.size, 2, none⟩ = some (Value.int .i64 d5) ∧ w'.cell? ⟨wx.heap.size, 3, none⟩ = some (Value.int .i64 d6) ∧ w'.cell? ⟨wx.heap.size, 4, none⟩ = some (Value.int .i64 d7) ∧ w'.cell? ⟨wx.heap.size, 5, none⟩ = some (Value.int .i64 d8) ∧ w'.cell? ⟨wx.heap.size, 6, none⟩ = some (Value.int .i64 d9)) (ds := [28]) #[false, false, false, false, false, false, false, false, false, false, false, false, false, false, false, false, false, false, false, false, false, false, false, false, false, false, false, false, false] (by kernel_rfl) rfl rfl ⟨pw_cell_below (below_drew1 (Below.refl _ _)) Q0.out, pw_cell_below (below_drew1 (Below.refl _ _)) Q1.out, pw_cell_below (below_drew1 (Below.refl _ _)) Q2.out, pw_cell_below (below_drew1 (Below.refl _ _)) Q10.out, pw_cell_below (below_drew1 (Below.refl _ _)) Q11.out, pw_cell_below (below_drew1 (Below.refl _ _)) Q12.out, pw_cell_below (below_drew1 (Below.refl _ _)) T0.out, pw_cell_below (below_drew1 (Below.refl _ _)) T1.out, pw_cell_below (below_drew1 (Below.refl _ _)) T2.out, pw_cell_below (below_drew1 (Below.refl _ _)) T3.out, pw_cell_below (below_drew1 (Below.refl _ _)) T4.out, pw_cell_below (below_drew1 (Below.refl _ _)) T5.out, pw_cell_below (below_drew1 (Below.refl _ _)) T6.out⟩ (fun hHeld => ?_)
  refine pure_ (i := 0) (N := some 39) (v := ?_) (a' := ?_) #[true, false, false, false, false, false, false, false, false, false, false, false, false, false, false, false, false, false, false, false, false, false, false, false, false, false, false, false, false] rfl rfl (by kernel_rfl) (fun _ _ _ h => h) (Or.inl ⟨by rfl, ?_⟩) ?_ ?_
  rotate_left
  · intro w'
    go_simp
    with_reducible rfl
  rotate_left
  · simp only [Act.put, List.setIfInBounds_toArray, List.set_cons_zero, List.set_cons_succ, i64_w, i32_w]
    rfl
  refine pure_ (i := 1) (N := some 40) (v := ?_) (a' := ?_) #[true, true, false, false, false, false, false, false, false, false, false, false, false, false, false, false, false, false, false, false, false, false, false, false, false, false, false, false, false] rfl rfl (by kernel_rfl) (fun _ _ _ h => h) (Or.inl ⟨by rfl, ?_⟩) ?_ ?_
  rotate_left
  · intro w'
    go_simp
    with_reducible rfl
  rotate_left
  · simp only [Act.put, List.setIfInBounds_toArray, List.set_cons_zero, List.set_cons_succ, i64_w, i32_w]
    rfl
  refine pure_ (i := 4) (N := some 43) (v := ?_) (a' := ?_) #[true, true, false, false, true, false, false, false, false, false, false, false, false, false, false, false, false, false, false, false, false, false, false, false, false, false, false, false, false] rfl rfl (by kernel_rfl) (fun _ _ _ h => h) (Or.inl ⟨by rfl, ?_⟩) ?_ ?_
  rotate_left
  · intro w'
    go_simp
    with_reducible rfl
  rotate_left
  · simp only [Act.put, List.setIfInBounds_toArray, List.set_cons_zero, List.set_cons_succ, i64_w, i32_w]
    rfl
  refine pure_ (i := 5) (N := some 44) (v := ?_) (a' := ?_) #[true, true, false, false, true, true, false, false, false, false, false, false, false, false, false, false, false, false, false, false, false, false, false, false, false, false, false, false, false] rfl rfl (by kernel_rfl) (fun _ _ _ h => h) (Or.inl ⟨by rfl, ?_⟩) ?_ ?_
  rotate_left
  · intro w'
    go_simp
    with_reducible rfl
  rotate_left
  · simp only [Act.put, List.setIfInBounds_toArray, List.set_cons_zero, List.set_cons_succ, i64_w, i32_w]
    rfl
  refine pure_ (i := 8) (N := some 47) (v := ?_) (a' := ?_) #[true, true, false, false, true, true, false, false, true, false, false, false, false, false, false, false, false, false, false, false, false, false, false, false, false, false, false, false, false] rfl rfl (by kernel_rfl) (fun _ _ _ h => h) (Or.inl ⟨by rfl, ?_⟩) ?_ ?_
  rotate_left
  · intro w'
    go_simp
    with_reducible rfl
  rotate_left
  · simp only [Act.put, List.setIfInBounds_toArray, List.set_cons_zero, List.set_cons_succ, i64_w, i32_w]
    rfl
  refine pure_ (i := 9) (N := some 48) (v := ?_) (a' := ?_) #[true, true, false, false, true, true, false, false, true, true, false, false, false, false, false, false, false, false, false, false, false, false, false, false, false, false, false, false, false] rfl rfl (by kernel_rfl) (fun _ _ _ h => h) (Or.inl ⟨by rfl, ?_⟩) ?_ ?_
  rotate_left
  · intro w'
    go_simp
    with_reducible rfl
  rotate_left
  · simp only [Act.put, List.setIfInBounds_toArray, List.set_cons_zero, List.set_cons_succ, i64_w, i32_w]
    rfl
  refine pure_ (i := 13) (N := some 52) (v := ?_) (a' := ?_) #[true, true, false, false, true, true, false, false, true, true, false, false, false, true, false, false, false, false, false, false, false, false, false, false, false, false, false, false, false] rfl rfl (by kernel_rfl) (fun _ _ _ h => h) (Or.inl ⟨by rfl, ?_⟩) ?_ ?_
  rotate_left
  · intro w'
    go_simp
    with_reducible rfl
  rotate_left
  · simp only [Act.put, List.setIfInBounds_toArray, List.set_cons_zero, List.set_cons_succ, i64_w, i32_w]
    rfl
  refine pure_ (i := 14) (N := some 53) (v := ?_) (a' := ?_) #[true, true, false, false, true, true, false, false, true, true, false, false, false, true, true, false, false, false, false, false, false, false, false, false, false, false, false, false, false] rfl rfl (by kernel_rfl) (fun _ _ _ h => h) (Or.inl ⟨by rfl, ?_⟩) ?_ ?_
  rotate_left
  · intro w'
    go_simp
    with_reducible rfl
  rotate_left
  · simp only [Act.put, List.setIfInBounds_toArray, List.set_cons_zero, List.set_cons_succ, i64_w, i32_w]
    rfl
  refine pure_ (i := 17) (N := some 56) (v := ?_) (a' := ?_) #[true, true, false, false, true, true, false, false, true, true, false, false, false, true, true, false, false, true, false, false, false, false, false, false, false, false, false, false, false] rfl rfl (by kernel_rfl) (fun _ _ _ h => h) (Or.inl ⟨by rfl, ?_⟩) ?_ ?_
  rotate_left
  · intro w'
    go_simp
    with_reducible rfl
  rotate_left
  · simp only [Act.put, List.setIfInBounds_toArray, List.set_cons_zero, List.set_cons_succ, i64_w, i32_w]
    rfl
  refine pure_ (i := 18) (N := some 57) (v := ?_) (a' := ?_) #[true, true, false, false, true, true, false, false, true, true, false, false, false, true, true, false, false, true, true, false, false, false, false, false, false, false, false, false, false] rfl rfl (by kernel_rfl) (fun _ _ _ h => h) (Or.inl ⟨by rfl, ?_⟩) ?_ ?_
  rotate_left
  · intro w'
    go_simp
    with_reducible rfl
  rotate_left
  · simp only [Act.put, List.setIfInBounds_toArray, List.set_cons_zero, List.set_cons_succ, i64_w, i32_w]
    rfl
  refine pure_ (i := 21) (N := some 60) (v := ?_) (a' := ?_) #[true, true, false, false, true, true, false, false, true, true, false, false, false, true, true, false, false, true, true, false, false, true, false, false, false, false, false, false, false] rfl rfl (by kernel_rfl) (fun _ _ _ h => h) (Or.inl ⟨by rfl, ?_⟩) ?_ ?_
  rotate_left
  · intro w'
    go_simp
    with_reducible rfl
  rotate_left
  · simp only [Act.put, List.setIfInBounds_toArray, List.set_cons_zero, List.set_cons_succ, i64_w, i32_w]
    rfl
  refine pure_ (i := 22) (N := some 61) (v := ?_) (a' := ?_) #[true, true, false, false, true, true, false, false, true, true, false, false, false, true, true, false, false, true, true, false, false, true, true, false, false, false, false, false, false] rfl rfl (by kernel_rfl) (fun _ _ _ h => h) (Or.inl ⟨by rfl, ?_⟩) ?_ ?_
  rotate_left
  · intro w'
    go_simp
    with_reducible rfl
  rotate_left
  · simp only [Act.put, List.setIfInBounds_toArray, List.set_cons_zero, List.set_cons_succ, i64_w, i32_w]
    rfl
  refine take_ (i := 2) (N := some 41) (v := ?_) (a' := ?_) #[true, true, true, false, true, true, false, false, true, true, false, false, false, true, true, false, false, true, true, false, false, true, true, false, false, false, false, false, false] rfl rfl (by kernel_rfl) (fun _ _ _ h => h) (Or.inl ⟨by rfl, ?_⟩) hHeld ?_ ?_
  rotate_left
  · rintro w' ⟨s0, s1, s2, s3, s4, s5, s6, s7, s8, s9, s10, s11, s12⟩
    go_simp
    with_reducible rfl
  rotate_left
  · simp only [Act.put, List.setIfInBounds_toArray, List.set_cons_zero, List.set_cons_succ, i64_w, i32_w]
    rfl
  refine pure_ (i := 3) (N := some 42) (v := ?_) (a' := ?_) #[true, true, true, true, true, true, false, false, true, true, false, false, false, true, true, false, false, true, true, false, false, true, true, false, false, false, false, false, false] rfl rfl (by kernel_rfl) (fun _ _ _ h => h) (Or.inl ⟨by rfl, ?_⟩) ?_ ?_
  rotate_left
  · intro w'
    go_simp
    with_reducible rfl
  rotate_left
  · simp only [Act.put, List.setIfInBounds_toArray, List.set_cons_zero, List.set_cons_succ, i64_w, i32_w]
    rfl
  refine take_ (i := 6) (N := some 45) (v := ?_) (a' := ?_) #[true, true, true, true, true, true, true, false, true, true, false, false, false, true, true, false, false, true, true, false, false, true, true, false, false, false, false, false, false] rfl rfl (by kernel_rfl) (fun _ _ _ h => h) (Or.inl ⟨by rfl, ?_⟩) hHeld ?_ ?_
  rotate_left
  · rintro w' ⟨s0, s1, s2, s3, s4, s5, s6, s7, s8, s9, s10, s11, s12⟩
    go_simp
    with_reducible rfl
  rotate_left
  · simp only [Act.put, List.setIfInBounds_toArray, List.set_cons_zero, List.set_cons_succ, i64_w, i32_w]
    rfl
  refine pure_ (i := 7) (N := some 46) (v := ?_) (a' := ?_) #[true, true, true, true, true, true, true, true, true, true, false, false, false, true, true, false, false, true, true, false, false, true, true, false, false, false, false, false, false] rfl rfl (by kernel_rfl) (fun _ _ _ h => h) (Or.inl ⟨by rfl, ?_⟩) ?_ ?_
  rotate_left
  · intro w'
    go_simp
    with_reducible rfl
  rotate_left
  · simp only [Act.put, List.setIfInBounds_toArray, List.set_cons_zero, List.set_cons_succ, i64_w, i32_w]
    rfl
  refine take_ (i := 10) (N := some 49) (v := ?_) (a' := ?_) #[true, true, true, true, true, true, true, true, true, true, true, false, false, true, true, false, false, true, true, false, false, true, true, false, false, false, false, false, false] rfl rfl (by kernel_rfl) (fun _ _ _ h => h) (Or.inl ⟨by rfl, ?_⟩) hHeld ?_ ?_
  rotate_left
  · rintro w' ⟨s0, s1, s2, s3, s4, s5, s6, s7, s8, s9, s10, s11, s12⟩
    go_simp
    with_reducible rfl
  rotate_left
  · simp only [Act.put, List.setIfInBounds_toArray, List.set_cons_zero, List.set_cons_succ, i64_w, i32_w]
    rfl
  refine pure_ (i := 11) (N := some 50) (v := ?_) (a' := ?_) #[true, true, true, true, true, true, true, true, true, true, true, true, false, true, true, false, false, true, true, false, false, true, true, false, false, false, false, false, false] rfl rfl (by kernel_rfl) (fun _ _ _ h => h) (Or.inl ⟨by rfl, ?_⟩) ?_ ?_
  rotate_left
  · intro w'
    go_simp
    with_reducible rfl
  rotate_left
  · simp only [Act.put, List.setIfInBounds_toArray, List.set_cons_zero, List.set_cons_succ, i64_w, i32_w]
    rfl
  refine take_ (i := 12) (N := some 51) (v := ?_) (a' := ?_) #[true, true, true, true, true, true, true, true, true, true, true, true, true, true, true, false, false, true, true, false, false, true, true, false, false, false, false, false, false] rfl rfl (by kernel_rfl) (fun _ _ _ h => h) (Or.inl ⟨by rfl, ?_⟩) hHeld ?_ ?_
  rotate_left
  · rintro w' ⟨s0, s1, s2, s3, s4, s5, s6, s7, s8, s9, s10, s11, s12⟩
    go_simp
    with_reducible rfl
  rotate_left
  · simp only [Act.put, List.setIfInBounds_toArray, List.set_cons_zero, List.set_cons_succ, i64_w, i32_w]
    rfl
  refine take_ (i := 15) (N := some 54) (v := ?_) (a' := ?_) #[true, true, true, true, true, true, true, true, true, true, true, true, true, true, true, true, false, true, true, false, false, true, true, false, false, false, false, false, false] rfl rfl (by kernel_rfl) (fun _ _ _ h => h) (Or.inl ⟨by rfl, ?_⟩) hHeld ?_ ?_
  rotate_left
  · rintro w' ⟨s0, s1, s2, s3, s4, s5, s6, s7, s8, s9, s10, s11, s12⟩
    go_simp
    with_reducible rfl
  rotate_left
  · simp only [Act.put, List.setIfInBounds_toArray, List.set_cons_zero, List.set_cons_succ, i64_w, i32_w]
    rfl
  refine pure_ (i := 16) (N := some 55) (v := ?_) (a' := ?_) #[true, true, true, true, true, true, true, true, true, true, true, true, true, true, true, true, true, true, true, false, false, true, true, false, false, false, false, false, false] rfl rfl (by kernel_rfl) (fun _ _ _ h => h) (Or.inl ⟨by rfl, ?_⟩) ?_ ?_
  rotate_left
  · intro w'
    go_simp
    with_reducible rfl
  rotate_left
  · simp only [Act.put, List.setIfInBounds_toArray, List.set_cons_zero, List.set_cons_succ, i64_w, i32_w]
    rfl
  refine take_ (i := 19) (N := some 58) (v := ?_) (a' := ?_) #[true, true, true, true, true, true, true, true, true, true, true, true, true, true, true, true, true, true, true, true, false, true, true, false, false, false, false, false, false] rfl rfl (by kernel_rfl) (fun _ _ _ h => h) (Or.inl ⟨by rfl, ?_⟩) hHeld ?_ ?_
  rotate_left
  · rintro w' ⟨s0, s1, s2, s3, s4, s5, s6, s7, s8, s9, s10, s11, s12⟩
    go_simp
    with_reducible rfl
  rotate_left
  · simp only [Act.put, List.setIfInBounds_toArray, List.set_cons_zero, List.set_cons_succ, i64_w, i32_w]
    rfl
  refine pure_ (i := 20) (N := some 59) (v := ?_) (a' := ?_) #[true, true, true, true, true, true, true, true, true, true, true, true, true, true, true, true, true, true, true, true, true, true, true, false, false, false, false, false, false] rfl rfl (by kernel_rfl) (fun _ _ _ h => h) (Or.inl ⟨by rfl, ?_⟩) ?_ ?_
  rotate_left
  · intro w'
    go_simp
    with_reducible rfl
  rotate_left
  · simp only [Act.put, List.setIfInBounds_toArray, List.set_cons_zero, List.set_cons_succ, i64_w, i32_w]
    rfl
  refine take_ (i := 23) (N := some 62) (v := ?_) (a' := ?_) #[true, true, true, true, true, true, true, true, true, true, true, true, true, true, true, true, true, true, true, true, true, true, true, true, false, false, false, false, false] rfl rfl (by kernel_rfl) (fun _ _ _ h => h) (Or.inl ⟨by rfl, ?_⟩) hHeld ?_ ?_
  rotate_left
  · rintro w' ⟨s0, s1, s2, s3, s4, s5, s6, s7, s8, s9, s10, s11, s12⟩
    go_simp
    with_reducible rfl
  rotate_left
  · simp only [Act.put, List.setIfInBounds_toArray, List.set_cons_zero, List.set_cons_succ, i64_w, i32_w]
    rfl
  refine pure_ (i := 24) (N := some 63) (v := ?_) (a' := ?_) #[true, true, true, true, true, true, true, true, true, true, true, true, true, true, true, true, true, true, true, true, true, true, true, true, true, false, false, false, false] rfl rfl (by kernel_rfl) (fun _ _ _ h => h) (Or.inl ⟨by rfl, ?_⟩) ?_ ?_
  rotate_left
  · intro w'
    go_simp
    with_reducible rfl
  rotate_left
  · simp only [Act.put, List.setIfInBounds_toArray, List.set_cons_zero, List.set_cons_succ, i64_w, i32_w]
    rfl
  refine pure_ (i := 25) (N := some 64) (v := ?_) (a' := ?_) #[true, true, true, true, true, true, true, true, true, true, true, true, true, true, true, true, true, true, true, true, true, true, true, true, true, true, false, false, false] rfl rfl (by kernel_rfl) (fun _ _ _ h => h) (Or.inl ⟨by rfl, ?_⟩) ?_ ?_
  rotate_left
  · intro w'
    go_simp
    with_reducible rfl
  rotate_left
  · simp only [Act.put, List.setIfInBounds_toArray, List.set_cons_zero, List.set_cons_succ, i64_w, i32_w]
    rfl
  refine pure_ (i := 26) (N := some 65) (v := ?_) (a' := ?_) #[true, true, true, true, true, true, true, true, true, true, true, true, true, true, true, true, true, true, true, true, true, true, true, true, true, true, true, false, false] rfl rfl (by kernel_rfl) (fun _ _ _ h => h) (Or.inl ⟨by rfl, ?_⟩) ?_ ?_
  rotate_left
  · intro w'
    go_simp
    with_reducible rfl
  rotate_left
  · simp only [Act.put, List.setIfInBounds_toArray, List.set_cons_zero, List.set_cons_succ, i64_w, i32_w]
    rfl
  refine one_ (i := 27) (N := some 5) #[true, true, true, true, true, true, true, true, true, true, true, true, true, true, true, true, true, true, true, true, true, true, true, true, true, true, true, true, false] rfl rfl (by kernel_rfl) (by decide) (fun K hK => ?_)
  refine value_ (w1 := ?_) (v := ?_) (by rfl) rfl ?_ ?_
  rotate_left 2
  · go_simp
    constructor
    · rfl
    · rfl
  refine hK.out _ _ ⟨pw_cell_below (below_alloc (Below.refl _ _) _) (pw_cell_below (below_drew1 (Below.refl _ _)) Q0.out), pw_cell_below (below_alloc (Below.refl _ _) _) (pw_cell_below (below_drew1 (Below.refl _ _)) Q1.out), pw_cell_below (below_alloc (Below.refl _ _) _) (pw_cell_below (below_drew1 (Below.refl _ _)) Q2.out), pw_cell_below (below_alloc (Below.refl _ _) _) (pw_cell_below (below_drew1 (Below.refl _ _)) Q10.out), pw_cell_below (below_alloc (Below.refl _ _) _) (pw_cell_below (below_drew1 (Below.refl _ _)) Q11.out), pw_cell_below (below_alloc (Below.refl _ _) _) (pw_cell_below (below_drew1 (Below.refl _ _)) Q12.out), pw_cell_below (below_alloc (Below.refl _ _) _) (pw_cell_below (below_drew1 (Below.refl _ _)) T0.out), pw_cell_below (below_alloc (Below.refl _ _) _) (pw_cell_below (below_drew1 (Below.refl _ _)) T1.out), pw_cell_below (below_alloc (Below.refl _ _) _) (pw_cell_below (below_drew1 (Below.refl _ _)) T2.out), pw_cell_below (below_alloc (Below.refl _ _) _) (pw_cell_below (below_drew1 (Below.refl _ _)) T3.out), pw_cell_below (below_alloc (Below.refl _ _) _) (pw_cell_below (below_drew1 (Below.refl _ _)) T4.out), pw_cell_below (below_alloc (Below.refl _ _) _) (pw_cell_below (below_drew1 (Below.refl _ _)) T5.out), pw_cell_below (below_alloc (Below.refl _ _) _) (pw_cell_below (below_drew1 (Below.refl _ _)) T6.out)⟩ (fun hHeld => ?_)
  clear hK K
  refine norm_ (a' := ?_) ?_ ?_
  rotate_left
  · show Act.put _ (some 5) _ = _
    simp only [Act.put, List.setIfInBounds_toArray, List.set_cons_zero, List.set_cons_succ, i64_w, i32_w]
    rfl
  refine last_ (i := 28) (N := none) #[true, true, true, true, true, true, true, true, true, true, true, true, true, true, true, true, true, true, true, true, true, true, true, true, true, true, true, true, true] rfl rfl (by kernel_rfl) (by decide) (fun K hK => ?_)
  refine seg.step (by rfl) rfl 41 (.tmp 5) _ (by rfl) 41 wq.drew.heap.size 0 #[.int .i64 0, .int .i64 0, .int .i64 0, .int .i64 0, .int .i64 0, .int .i64 0, .int .i64 0, .int .i64 0, .int .i64 0, .int .i64 0, .int .i64 0, .int .i64 0, .int .i64 0] #[.int .i64 d0, .int .i64 d1, .int .i64 d2, .int .i64 d3, .int .i64 d4, .int .i64 d5, .int .i64 d6, .int .i64 d7, .int .i64 d8, .int .i64 d9, .int .i64 d10, .int .i64 d11, .int .i64 d12] [.int .i64 d0, .int .i64 d1, .int .i64 d2, .int .i64 d3, .int .i64 d4, .int .i64 d5, .int .i64 d6, .int .i64 d7, .int .i64 d8, .int .i64 d9, .int .i64 d10, .int .i64 d11, .int .i64 d12] (by rfl) (by rfl) (by kernel_rfl) (by simp [Value.oneCell']) (blk_new wq.drew _) (by simp) rfl ?_
  intro wz bz_ hgz
  refine hK.out _ _ ?_
  clear hK K
  refine done_ (by kernel_rfl) ?_
  have HB2 := Aside0.mk (seg.below (below_alloc (below_drew1 HB1.out) _) hgz (by have := HB1.out.size; exact this))
  have Z2 := Aside0.mk (seg.far (blk_alloc (blk_drew Z1.out) _) hgz (Nat.ne_of_lt (blk_lt (blk_drew Z1.out))))
  have V2 := Aside0.mk bz_
  clear bz_ hgz
  simp only [List.getElem_toArray, List.getElem_cons_succ, List.getElem_cons_zero, Act.put]
  have x0 : wz.cell? ⟨wq.heap.size, 0, none⟩ = some (.int .i64 d0) := (blk_cell V2.out 0).trans rfl
  have x1 : wz.cell? ⟨wq.heap.size, 1, none⟩ = some (.int .i64 d1) := (blk_cell V2.out 1).trans rfl
  have x2 : wz.cell? ⟨wq.heap.size, 2, none⟩ = some (.int .i64 d2) := (blk_cell V2.out 2).trans rfl
  have x3 : wz.cell? ⟨wq.heap.size, 3, none⟩ = some (.int .i64 d3) := (blk_cell V2.out 3).trans rfl
  have x4 : wz.cell? ⟨wq.heap.size, 4, none⟩ = some (.int .i64 d4) := (blk_cell V2.out 4).trans rfl
  have x5 : wz.cell? ⟨wq.heap.size, 5, none⟩ = some (.int .i64 d5) := (blk_cell V2.out 5).trans rfl
  have x6 : wz.cell? ⟨wq.heap.size, 6, none⟩ = some (.int .i64 d6) := (blk_cell V2.out 6).trans rfl
  have x7 : wz.cell? ⟨wq.heap.size, 7, none⟩ = some (.int .i64 d7) := (blk_cell V2.out 7).trans rfl
  have x8 : wz.cell? ⟨wq.heap.size, 8, none⟩ = some (.int .i64 d8) := (blk_cell V2.out 8).trans rfl
  have x9 : wz.cell? ⟨wq.heap.size, 9, none⟩ = some (.int .i64 d9) := (blk_cell V2.out 9).trans rfl
  have x10 : wz.cell? ⟨wq.heap.size, 10, none⟩ = some (.int .i64 d10) := (blk_cell V2.out 10).trans rfl
  have x11 : wz.cell? ⟨wq.heap.size, 11, none⟩ = some (.int .i64 d11) := (blk_cell V2.out 11).trans rfl
  have x12 : wz.cell? ⟨wq.heap.size, 12, none⟩ = some (.int .i64 d12) := (blk_cell V2.out 12).trans rfl
  go_wp2_with (first | (go_at_call 41; refine (vendmeterref_EventMay.at_ _ d0 d1 d2 d3 d4 d5 d6 d7 d8 d9 d10 d11 d12 false HR.out.symm).mono ?_; rintro e wc ⟨rfl, hb⟩; have Z3 := Aside0.mk (blk_below Z2.out hb); have HB3 := Aside0.mk (below_then HB2.out HB2.out.size hb); clear hb) | ((with_reducible refine gate_store (t := 41 ) (p := 2) rfl ?_); refine seg.list rfl rfl 41 (.tmp 2) _ rfl 41 w.heap.size 0 #[.int .i64 0, .int .i64 0, .int .i64 0, .int .i64 0, .int .i64 0, .int .i64 0, .int .i64 0, .int .i64 0, .int .i64 0, .int .i64 0, .int .i64 0, .int .i64 0, .int .i64 0] #[.int .i64 0, .int .i64 0, .int .i64 0, .int .i64 0, .int .i64 0, .int .i64 0, .int .i64 0, .int .i64 0, .int .i64 0, .int .i64 0, .int .i64 0, .int .i64 0, .int .i64 0] [.int .i64 0, .int .i64 0, .int .i64 0, .int .i64 0, .int .i64 0, .int .i64 0, .int .i64 0, .int .i64 0, .int .i64 0, .int .i64 0, .int .i64 0, .int .i64 0, .int .i64 0] rfl rfl (by kernel_rfl) (by simp [Value.oneCell']) Z3.out (by simp) rfl ?_; intro w9 bx hgr))
  refine bodyPost_ret (results_ct (p := 2) (u := 3) rfl _ w9 w.heap.size 41 _ (0, 0) _ rfl bx Try.underlying41 rfl (by kernel_rfl)) rfl ?_
  exact ⟨rfl, seg.below HB3.out hgr (Nat.le_refl _)⟩
set_option maxHeartbeats 16000000 in
set_option maxRecDepth 100000 in
theorem vendmeterref_Decoded.yes (w : World) (A : Option Addr) (c : Nat) (l : List Int) (hl : l.length = 13) (hr0 : Kd.C (Kd.int .u32) w A l.length l) (hR : evOk (wrap64 (l.getD 0 0)) (wrap64 (l.getD 1 0)) (wrap64 (l.getD 2 0)) (wrap64 (l.getD 3 0)) (wrap64 (l.getD 4 0)) (wrap64 (l.getD 5 0)) (wrap64 (l.getD 6 0)) (wrap64 (l.getD 7 0)) (wrap64 (l.getD 8 0)) (wrap64 (l.getD 9 0)) (wrap64 (l.getD 10 0)) (wrap64 (l.getD 11 0)) (wrap64 (l.getD 12 0)) = true) :
    Calls Try.prog 18 #[.slice A l.length c] w fun e w' => e = .returned (.tuple #[.agg #[.int .i64 (wrap64 (l.getD 0 0)), .int .i64 (wrap64 (l.getD 1 0)), .int .i64 (wrap64 (l.getD 2 0)), .int .i64 (wrap64 (l.getD 3 0)), .int .i64 (wrap64 (l.getD 4 0)), .int .i64 (wrap64 (l.getD 5 0)), .int .i64 (wrap64 (l.getD 6 0)), .int .i64 (wrap64 (l.getD 7 0)), .int .i64 (wrap64 (l.getD 8 0)), .int .i64 (wrap64 (l.getD 9 0)), .int .i64 (wrap64 (l.getD 10 0)), .int .i64 (wrap64 (l.getD 11 0)), .int .i64 (wrap64 (l.getD 12 0))], .int .i64 0]) ∧ Below w.heap.size w w' := by
  have c1 : ((l.length : Int) == 13) = true := by rw [hl]; rfl
  have c1b : ((l.length : Int) != 13) = false := by rw [bne, c1]; rfl
  have c2 : (l.length == 13) = true := by rw [hl]; rfl
  have hu41 := Try.underlying41
  have hu31 := Try.underlying31
  have B2 := Aside0.mk (blk_new w (.cells #[.int .i64 0, .int .i64 0, .int .i64 0, .int .i64 0, .int .i64 0, .int .i64 0, .int .i64 0, .int .i64 0, .int .i64 0, .int .i64 0, .int .i64 0, .int .i64 0, .int .i64 0] 41 ))
  have HB := Aside0.mk (below_alloc (Below.refl w.heap.size w) (.cells #[.int .i64 0, .int .i64 0, .int .i64 0, .int .i64 0, .int .i64 0, .int .i64 0, .int .i64 0, .int .i64 0, .int .i64 0, .int .i64 0, .int .i64 0, .int .i64 0, .int .i64 0] 41 ))
  have hr1 := Kd.C_below hr0 HB.out
  obtain ⟨ab, ao, rfl, hcs⟩ := dec_cells hr1 (by omega)
  have y0 : (w.alloc (.cells #[.int .i64 0, .int .i64 0, .int .i64 0, .int .i64 0, .int .i64 0, .int .i64 0, .int .i64 0, .int .i64 0, .int .i64 0, .int .i64 0, .int .i64 0, .int .i64 0, .int .i64 0] 41 )).cell? ⟨ab, ao, none⟩ = some (.int .u32 (l.getD 0 0)) := hcs 0 (by omega)
  have y1 : (w.alloc (.cells #[.int .i64 0, .int .i64 0, .int .i64 0, .int .i64 0, .int .i64 0, .int .i64 0, .int .i64 0, .int .i64 0, .int .i64 0, .int .i64 0, .int .i64 0, .int .i64 0, .int .i64 0] 41 )).cell? ⟨ab, ao + 1, none⟩ = some (.int .u32 (l.getD 1 0)) := hcs 1 (by omega)
  have y2 : (w.alloc (.cells #[.int .i64 0, .int .i64 0, .int .i64 0, .int .i64 0, .int .i64 0, .int .i64 0, .int .i64 0, .int .i64 0, .int .i64 0, .int .i64 0, .int .i64 0, .int .i64 0, .int .i64 0] 41 )).cell? ⟨ab, ao + 2, none⟩ = some (.int .u32 (l.getD 2 0)) := hcs 2 (by omega)
  have y3 : (w.alloc (.cells #[.int .i64 0, .int .i64 0, .int .i64 0, .int .i64 0, .int .i64 0, .int .i64 0, .int .i64 0, .int .i64 0, .int .i64 0, .int .i64 0, .int .i64 0, .int .i64 0, .int .i64 0] 41 )).cell? ⟨ab, ao + 3, none⟩ = some (.int .u32 (l.getD 3 0)) := hcs 3 (by omega)
  have y4 : (w.alloc (.cells #[.int .i64 0, .int .i64 0, .int .i64 0, .int .i64 0, .int .i64 0, .int .i64 0, .int .i64 0, .int .i64 0, .int .i64 0, .int .i64 0, .int .i64 0, .int .i64 0, .int .i64 0] 41 )).cell? ⟨ab, ao + 4, none⟩ = some (.int .u32 (l.getD 4 0)) := hcs 4 (by omega)
  have y5 : (w.alloc (.cells #[.int .i64 0, .int .i64 0, .int .i64 0, .int .i64 0, .int .i64 0, .int .i64 0, .int .i64 0, .int .i64 0, .int .i64 0, .int .i64 0, .int .i64 0, .int .i64 0, .int .i64 0] 41 )).cell? ⟨ab, ao + 5, none⟩ = some (.int .u32 (l.getD 5 0)) := hcs 5 (by omega)
  have y6 : (w.alloc (.cells #[.int .i64 0, .int .i64 0, .int .i64 0, .int .i64 0, .int .i64 0, .int .i64 0, .int .i64 0, .int .i64 0, .int .i64 0, .int .i64 0, .int .i64 0, .int .i64 0, .int .i64 0] 41 )).cell? ⟨ab, ao + 6, none⟩ = some (.int .u32 (l.getD 6 0)) := hcs 6 (by omega)
  have y7 : (w.alloc (.cells #[.int .i64 0, .int .i64 0, .int .i64 0, .int .i64 0, .int .i64 0, .int .i64 0, .int .i64 0, .int .i64 0, .int .i64 0, .int .i64 0, .int .i64 0, .int .i64 0, .int .i64 0] 41 )).cell? ⟨ab, ao + 7, none⟩ = some (.int .u32 (l.getD 7 0)) := hcs 7 (by omega)
  have y8 : (w.alloc (.cells #[.int .i64 0, .int .i64 0, .int .i64 0, .int .i64 0, .int .i64 0, .int .i64 0, .int .i64 0, .int .i64 0, .int .i64 0, .int .i64 0, .int .i64 0, .int .i64 0, .int .i64 0] 41 )).cell? ⟨ab, ao + 8, none⟩ = some (.int .u32 (l.getD 8 0)) := hcs 8 (by omega)
  have y9 : (w.alloc (.cells #[.int .i64 0, .int .i64 0, .int .i64 0, .int .i64 0, .int .i64 0, .int .i64 0, .int .i64 0, .int .i64 0, .int .i64 0, .int .i64 0, .int .i64 0, .int .i64 0, .int .i64 0] 41 )).cell? ⟨ab, ao + 9, none⟩ = some (.int .u32 (l.getD 9 0)) := hcs 9 (by omega)
  have y10 : (w.alloc (.cells #[.int .i64 0, .int .i64 0, .int .i64 0, .int .i64 0, .int .i64 0, .int .i64 0, .int .i64 0, .int .i64 0, .int .i64 0, .int .i64 0, .int .i64 0, .int .i64 0, .int .i64 0] 41 )).cell? ⟨ab, ao + 10, none⟩ = some (.int .u32 (l.getD 10 0)) := hcs 10 (by omega)
  have y11 : (w.alloc (.cells #[.int .i64 0, .int .i64 0, .int .i64 0, .int .i64 0, .int .i64 0, .int .i64 0, .int .i64 0, .int .i64 0, .int .i64 0, .int .i64 0, .int .i64 0, .int .i64 0, .int .i64 0] 41 )).cell? ⟨ab, ao + 11, none⟩ = some (.int .u32 (l.getD 11 0)) := hcs 11 (by omega)
  have y12 : (w.alloc (.cells #[.int .i64 0, .int .i64 0, .int .i64 0, .int .i64 0, .int .i64 0, .int .i64 0, .int .i64 0, .int .i64 0, .int .i64 0, .int .i64 0, .int .i64 0, .int .i64 0, .int .i64 0] 41 )).cell? ⟨ab, ao + 12, none⟩ = some (.int .u32 (l.getD 12 0)) := hcs 12 (by omega)
  obtain ⟨u0_, hu0_⟩ : ∃ x, l.getD 0 0 = x := ⟨_, rfl⟩
  rw [hu0_] at y0
  obtain ⟨u1_, hu1_⟩ : ∃ x, l.getD 1 0 = x := ⟨_, rfl⟩
  rw [hu1_] at y1
  obtain ⟨u2_, hu2_⟩ : ∃ x, l.getD 2 0 = x := ⟨_, rfl⟩
  rw [hu2_] at y2
  obtain ⟨u3_, hu3_⟩ : ∃ x, l.getD 3 0 = x := ⟨_, rfl⟩
  rw [hu3_] at y3
  obtain ⟨u4_, hu4_⟩ : ∃ x, l.getD 4 0 = x := ⟨_, rfl⟩
  rw [hu4_] at y4
  obtain ⟨u5_, hu5_⟩ : ∃ x, l.getD 5 0 = x := ⟨_, rfl⟩
  rw [hu5_] at y5
  obtain ⟨u6_, hu6_⟩ : ∃ x, l.getD 6 0 = x := ⟨_, rfl⟩
  rw [hu6_] at y6
  obtain ⟨u7_, hu7_⟩ : ∃ x, l.getD 7 0 = x := ⟨_, rfl⟩
  rw [hu7_] at y7
  obtain ⟨u8_, hu8_⟩ : ∃ x, l.getD 8 0 = x := ⟨_, rfl⟩
  rw [hu8_] at y8
  obtain ⟨u9_, hu9_⟩ : ∃ x, l.getD 9 0 = x := ⟨_, rfl⟩
  rw [hu9_] at y9
  obtain ⟨u10_, hu10_⟩ : ∃ x, l.getD 10 0 = x := ⟨_, rfl⟩
  rw [hu10_] at y10
  obtain ⟨u11_, hu11_⟩ : ∃ x, l.getD 11 0 = x := ⟨_, rfl⟩
  rw [hu11_] at y11
  obtain ⟨u12_, hu12_⟩ : ∃ x, l.getD 12 0 = x := ⟨_, rfl⟩
  rw [hu12_] at y12
  rw [hu0_, hu1_, hu2_, hu3_, hu4_, hu5_, hu6_, hu7_, hu8_, hu9_, hu10_, hu11_, hu12_] at hR
  obtain ⟨d0, hd0⟩ : ∃ x, wrap64 u0_ = x := ⟨_, rfl⟩
  obtain ⟨d1, hd1⟩ : ∃ x, wrap64 u1_ = x := ⟨_, rfl⟩
  obtain ⟨d2, hd2⟩ : ∃ x, wrap64 u2_ = x := ⟨_, rfl⟩
  obtain ⟨d3, hd3⟩ : ∃ x, wrap64 u3_ = x := ⟨_, rfl⟩
  obtain ⟨d4, hd4⟩ : ∃ x, wrap64 u4_ = x := ⟨_, rfl⟩
  obtain ⟨d5, hd5⟩ : ∃ x, wrap64 u5_ = x := ⟨_, rfl⟩
  obtain ⟨d6, hd6⟩ : ∃ x, wrap64 u6_ = x := ⟨_, rfl⟩
  obtain ⟨d7, hd7⟩ : ∃ x, wrap64 u7_ = x := ⟨_, rfl⟩
  obtain ⟨d8, hd8⟩ : ∃ x, wrap64 u8_ = x := ⟨_, rfl⟩
  obtain ⟨d9, hd9⟩ : ∃ x, wrap64 u9_ = x := ⟨_, rfl⟩
  obtain ⟨d10, hd10⟩ : ∃ x, wrap64 u10_ = x := ⟨_, rfl⟩
  obtain ⟨d11, hd11⟩ : ∃ x, wrap64 u11_ = x := ⟨_, rfl⟩
  obtain ⟨d12, hd12⟩ : ∃ x, wrap64 u12_ = x := ⟨_, rfl⟩
  rw [hd0, hd1, hd2, hd3, hd4, hd5, hd6, hd7, hd8, hd9, hd10, hd11, hd12] at hR
  have HR := Aside0.mk hR
  have E0 := Aside0.mk (show wrap64 (l.getD 0 0) = d0 by rw [hu0_, hd0])
  have E1 := Aside0.mk (show wrap64 (l.getD 1 0) = d1 by rw [hu1_, hd1])
  have E2 := Aside0.mk (show wrap64 (l.getD 2 0) = d2 by rw [hu2_, hd2])
  have E3 := Aside0.mk (show wrap64 (l.getD 3 0) = d3 by rw [hu3_, hd3])
  have E4 := Aside0.mk (show wrap64 (l.getD 4 0) = d4 by rw [hu4_, hd4])
  have E5 := Aside0.mk (show wrap64 (l.getD 5 0) = d5 by rw [hu5_, hd5])
  have E6 := Aside0.mk (show wrap64 (l.getD 6 0) = d6 by rw [hu6_, hd6])
  have E7 := Aside0.mk (show wrap64 (l.getD 7 0) = d7 by rw [hu7_, hd7])
  have E8 := Aside0.mk (show wrap64 (l.getD 8 0) = d8 by rw [hu8_, hd8])
  have E9 := Aside0.mk (show wrap64 (l.getD 9 0) = d9 by rw [hu9_, hd9])
  have E10 := Aside0.mk (show wrap64 (l.getD 10 0) = d10 by rw [hu10_, hd10])
  have E11 := Aside0.mk (show wrap64 (l.getD 11 0) = d11 by rw [hu11_, hd11])
  have E12 := Aside0.mk (show wrap64 (l.getD 12 0) = d12 by rw [hu12_, hd12])
  have p0 : (0 ≤ (0 : Int)) = True := eq_true (by decide)
  have q0 : ((0 : Int) < (l.length : Int)) = True := eq_true (by omega)
  have q0b : (0 < l.length) = True := eq_true (by omega)
  have p1 : (0 ≤ (1 : Int)) = True := eq_true (by decide)
  have q1 : ((1 : Int) < (l.length : Int)) = True := eq_true (by omega)
  have q1b : (1 < l.length) = True := eq_true (by omega)
  have p2 : (0 ≤ (2 : Int)) = True := eq_true (by decide)
  have q2 : ((2 : Int) < (l.length : Int)) = True := eq_true (by omega)
  have q2b : (2 < l.length) = True := eq_true (by omega)
  have p3 : (0 ≤ (3 : Int)) = True := eq_true (by decide)
  have q3 : ((3 : Int) < (l.length : Int)) = True := eq_true (by omega)
  have q3b : (3 < l.length) = True := eq_true (by omega)
  have p4 : (0 ≤ (4 : Int)) = True := eq_true (by decide)
  have q4 : ((4 : Int) < (l.length : Int)) = True := eq_true (by omega)
  have q4b : (4 < l.length) = True := eq_true (by omega)
  have p5 : (0 ≤ (5 : Int)) = True := eq_true (by decide)
  have q5 : ((5 : Int) < (l.length : Int)) = True := eq_true (by omega)
  have q5b : (5 < l.length) = True := eq_true (by omega)
  have p6 : (0 ≤ (6 : Int)) = True := eq_true (by decide)
  have q6 : ((6 : Int) < (l.length : Int)) = True := eq_true (by omega)
  have q6b : (6 < l.length) = True := eq_true (by omega)
  have p7 : (0 ≤ (7 : Int)) = True := eq_true (by decide)
  have q7 : ((7 : Int) < (l.length : Int)) = True := eq_true (by omega)
  have q7b : (7 < l.length) = True := eq_true (by omega)
  have p8 : (0 ≤ (8 : Int)) = True := eq_true (by decide)
  have q8 : ((8 : Int) < (l.length : Int)) = True := eq_true (by omega)
  have q8b : (8 < l.length) = True := eq_true (by omega)
  have p9 : (0 ≤ (9 : Int)) = True := eq_true (by decide)
  have q9 : ((9 : Int) < (l.length : Int)) = True := eq_true (by omega)
  have q9b : (9 < l.length) = True := eq_true (by omega)
  have p10 : (0 ≤ (10 : Int)) = True := eq_true (by decide)
  have q10 : ((10 : Int) < (l.length : Int)) = True := eq_true (by omega)
  have q10b : (10 < l.length) = True := eq_true (by omega)
  have p11 : (0 ≤ (11 : Int)) = True := eq_true (by decide)
  have q11 : ((11 : Int) < (l.length : Int)) = True := eq_true (by omega)
  have q11b : (11 < l.length) = True := eq_true (by omega)
  have p12 : (0 ≤ (12 : Int)) = True := eq_true (by decide)
  have q12 : ((12 : Int) < (l.length : Int)) = True := eq_true (by omega)
  have q12b : (12 < l.length) = True := eq_true (by omega)
  clear hl hr0 hr1 hR hcs
  go_enter Try.func18, Try.ntmps18
  go_upto_region 3 with (fail)
  obtain ⟨wx, hwx⟩ : ∃ W : World, W = w.alloc (.cells #[.int .i64 0, .int .i64 0, .int .i64 0, .int .i64 0, .int .i64 0, .int .i64 0, .int .i64 0, .int .i64 0, .int .i64 0, .int .i64 0, .int .i64 0, .int .i64 0, .int .i64 0] 41 ) := ⟨_, rfl⟩
  rw [← hwx] at B2 HB y0 y1 y2 y3 y4 y5 y6 y7 y8 y9 y10 y11 y12 ⊢
  have Y0 := Aside0.mk y0
  have Y1 := Aside0.mk y1
  have Y2 := Aside0.mk y2
  have Y3 := Aside0.mk y3
  have Y4 := Aside0.mk y4
  have Y5 := Aside0.mk y5
  have Y6 := Aside0.mk y6
  have Y7 := Aside0.mk y7
  have Y8 := Aside0.mk y8
  have Y9 := Aside0.mk y9
  have Y10 := Aside0.mk y10
  have Y11 := Aside0.mk y11
  have Y12 := Aside0.mk y12
  clear hwx
  refine start_ (n := 31) (S := fun w' => w'.cell? ⟨ab, ao + 3, none⟩ = some (Value.int .u32 u3_) ∧ w'.cell? ⟨ab, ao + 4, none⟩ = some (Value.int .u32 u4_) ∧ w'.cell? ⟨ab, ao + 5, none⟩ = some (Value.int .u32 u5_) ∧ w'.cell? ⟨ab, ao + 6, none⟩ = some (Value.int .u32 u6_) ∧ w'.cell? ⟨ab, ao + 7, none⟩ = some (Value.int .u32 u7_) ∧ w'.cell? ⟨ab, ao + 8, none⟩ = some (Value.int .u32 u8_) ∧ w'.cell? ⟨ab, ao + 9, none⟩ = some (Value.int .u32 u9_)) (ds := [30]) #[false, false, false, false, false, false, false, false, false, false, false, false, false, false, false, false, false, false, false, false, false, false, false, false, false, false, false, false, false, false, false] (by kernel_rfl) rfl rfl ⟨pw_cell_below (below_drew1 (Below.refl _ _)) Y3.out, pw_cell_below (below_drew1 (Below.refl _ _)) Y4.out, pw_cell_below (below_drew1 (Below.refl _ _)) Y5.out, pw_cell_below (below_drew1 (Below.refl _ _)) Y6.out, pw_cell_below (below_drew1 (Below.refl _ _)) Y7.out, pw_cell_below (below_drew1 (Below.refl _ _)) Y8.out, pw_cell_below (below_drew1 (Below.refl _ _)) Y9.out⟩ (fun hHeld => ?_)
  refine pure_ (i := 0) (N := some 10) (v := ?_) (a' := ?_) #[true, false, false, false, false, false, false, false, false, false, false, false, false, false, false, false, false, false, false, false, false, false, false, false, false, false, false, false, false, false, false] rfl rfl (by kernel_rfl) (fun _ _ _ h => h) (Or.inl ⟨by rfl, ?_⟩) ?_ ?_
  rotate_left
  · intro w'
    go_simp
    with_reducible rfl
  rotate_left
  · simp only [Act.put, List.setIfInBounds_toArray, List.set_cons_zero, List.set_cons_succ, i64_w, i32_w]
    rfl
  refine pure_ (i := 1) (N := some 11) (v := ?_) (a' := ?_) #[true, true, false, false, false, false, false, false, false, false, false, false, false, false, false, false, false, false, false, false, false, false, false, false, false, false, false, false, false, false, false] rfl rfl (by kernel_rfl) (fun _ _ _ h => h) (Or.inl ⟨by rfl, ?_⟩) ?_ ?_
  rotate_left
  · intro w'
    go_simp
    with_reducible rfl
  rotate_left
  · simp only [Act.put, List.setIfInBounds_toArray, List.set_cons_zero, List.set_cons_succ, i64_w, i32_w]
    rfl
  refine pure_ (i := 4) (N := some 14) (v := ?_) (a' := ?_) #[true, true, false, false, true, false, false, false, false, false, false, false, false, false, false, false, false, false, false, false, false, false, false, false, false, false, false, false, false, false, false] rfl rfl (by kernel_rfl) (fun _ _ _ h => h) (Or.inl ⟨by rfl, ?_⟩) ?_ ?_
  rotate_left
  · intro w'
    go_simp
    with_reducible rfl
  rotate_left
  · simp only [Act.put, List.setIfInBounds_toArray, List.set_cons_zero, List.set_cons_succ, i64_w, i32_w]
    rfl
  refine pure_ (i := 5) (N := some 15) (v := ?_) (a' := ?_) #[true, true, false, false, true, true, false, false, false, false, false, false, false, false, false, false, false, false, false, false, false, false, false, false, false, false, false, false, false, false, false] rfl rfl (by kernel_rfl) (fun _ _ _ h => h) (Or.inl ⟨by rfl, ?_⟩) ?_ ?_
  rotate_left
  · intro w'
    go_simp
    with_reducible rfl
  rotate_left
  · simp only [Act.put, List.setIfInBounds_toArray, List.set_cons_zero, List.set_cons_succ, i64_w, i32_w]
    rfl
  refine pure_ (i := 8) (N := some 18) (v := ?_) (a' := ?_) #[true, true, false, false, true, true, false, false, true, false, false, false, false, false, false, false, false, false, false, false, false, false, false, false, false, false, false, false, false, false, false] rfl rfl (by kernel_rfl) (fun _ _ _ h => h) (Or.inl ⟨by rfl, ?_⟩) ?_ ?_
  rotate_left
  · intro w'
    go_simp
    with_reducible rfl
  rotate_left
  · simp only [Act.put, List.setIfInBounds_toArray, List.set_cons_zero, List.set_cons_succ, i64_w, i32_w]
    rfl
  refine pure_ (i := 9) (N := some 19) (v := ?_) (a' := ?_) #[true, true, false, false, true, true, false, false, true, true, false, false, false, false, false, false, false, false, false, false, false, false, false, false, false, false, false, false, false, false, false] rfl rfl (by kernel_rfl) (fun _ _ _ h => h) (Or.inl ⟨by rfl, ?_⟩) ?_ ?_
  rotate_left
  · intro w'
    go_simp
    with_reducible rfl
  rotate_left
  · simp only [Act.put, List.setIfInBounds_toArray, List.set_cons_zero, List.set_cons_succ, i64_w, i32_w]
    rfl
  refine pure_ (i := 12) (N := some 22) (v := ?_) (a' := ?_) #[true, true, false, false, true, true, false, false, true, true, false, false, true, false, false, false, false, false, false, false, false, false, false, false, false, false, false, false, false, false, false] rfl rfl (by kernel_rfl) (fun _ _ _ h => h) (Or.inl ⟨by rfl, ?_⟩) ?_ ?_
  rotate_left
  · intro w'
    go_simp
    with_reducible rfl
  rotate_left
  · simp only [Act.put, List.setIfInBounds_toArray, List.set_cons_zero, List.set_cons_succ, i64_w, i32_w]
    rfl
  refine pure_ (i := 13) (N := some 23) (v := ?_) (a' := ?_) #[true, true, false, false, true, true, false, false, true, true, false, false, true, true, false, false, false, false, false, false, false, false, false, false, false, false, false, false, false, false, false] rfl rfl (by kernel_rfl) (fun _ _ _ h => h) (Or.inl ⟨by rfl, ?_⟩) ?_ ?_
  rotate_left
  · intro w'
    go_simp
    with_reducible rfl
  rotate_left
  · simp only [Act.put, List.setIfInBounds_toArray, List.set_cons_zero, List.set_cons_succ, i64_w, i32_w]
    rfl
  refine pure_ (i := 16) (N := some 26) (v := ?_) (a' := ?_) #[true, true, false, false, true, true, false, false, true, true, false, false, true, true, false, false, true, false, false, false, false, false, false, false, false, false, false, false, false, false, false] rfl rfl (by kernel_rfl) (fun _ _ _ h => h) (Or.inl ⟨by rfl, ?_⟩) ?_ ?_
  rotate_left
  · intro w'
    go_simp
    with_reducible rfl
  rotate_left
  · simp only [Act.put, List.setIfInBounds_toArray, List.set_cons_zero, List.set_cons_succ, i64_w, i32_w]
    rfl
  refine pure_ (i := 17) (N := some 27) (v := ?_) (a' := ?_) #[true, true, false, false, true, true, false, false, true, true, false, false, true, true, false, false, true, true, false, false, false, false, false, false, false, false, false, false, false, false, false] rfl rfl (by kernel_rfl) (fun _ _ _ h => h) (Or.inl ⟨by rfl, ?_⟩) ?_ ?_
  rotate_left
  · intro w'
    go_simp
    with_reducible rfl
  rotate_left
  · simp only [Act.put, List.setIfInBounds_toArray, List.set_cons_zero, List.set_cons_succ, i64_w, i32_w]
    rfl
  refine pure_ (i := 20) (N := some 30) (v := ?_) (a' := ?_) #[true, true, false, false, true, true, false, false, true, true, false, false, true, true, false, false, true, true, false, false, true, false, false, false, false, false, false, false, false, false, false] rfl rfl (by kernel_rfl) (fun _ _ _ h => h) (Or.inl ⟨by rfl, ?_⟩) ?_ ?_
  rotate_left
  · intro w'
    go_simp
    with_reducible rfl
  rotate_left
  · simp only [Act.put, List.setIfInBounds_toArray, List.set_cons_zero, List.set_cons_succ, i64_w, i32_w]
    rfl
  refine pure_ (i := 21) (N := some 31) (v := ?_) (a' := ?_) #[true, true, false, false, true, true, false, false, true, true, false, false, true, true, false, false, true, true, false, false, true, true, false, false, false, false, false, false, false, false, false] rfl rfl (by kernel_rfl) (fun _ _ _ h => h) (Or.inl ⟨by rfl, ?_⟩) ?_ ?_
  rotate_left
  · intro w'
    go_simp
    with_reducible rfl
  rotate_left
  · simp only [Act.put, List.setIfInBounds_toArray, List.set_cons_zero, List.set_cons_succ, i64_w, i32_w]
    rfl
  refine pure_ (i := 24) (N := some 34) (v := ?_) (a' := ?_) #[true, true, false, false, true, true, false, false, true, true, false, false, true, true, false, false, true, true, false, false, true, true, false, false, true, false, false, false, false, false, false] rfl rfl (by kernel_rfl) (fun _ _ _ h => h) (Or.inl ⟨by rfl, ?_⟩) ?_ ?_
  rotate_left
  · intro w'
    go_simp
    with_reducible rfl
  rotate_left
  · simp only [Act.put, List.setIfInBounds_toArray, List.set_cons_zero, List.set_cons_succ, i64_w, i32_w]
    rfl
  refine pure_ (i := 25) (N := some 35) (v := ?_) (a' := ?_) #[true, true, false, false, true, true, false, false, true, true, false, false, true, true, false, false, true, true, false, false, true, true, false, false, true, true, false, false, false, false, false] rfl rfl (by kernel_rfl) (fun _ _ _ h => h) (Or.inl ⟨by rfl, ?_⟩) ?_ ?_
  rotate_left
  · intro w'
    go_simp
    with_reducible rfl
  rotate_left
  · simp only [Act.put, List.setIfInBounds_toArray, List.set_cons_zero, List.set_cons_succ, i64_w, i32_w]
    rfl
  refine take_ (i := 2) (N := some 12) (v := ?_) (a' := ?_) #[true, true, true, false, true, true, false, false, true, true, false, false, true, true, false, false, true, true, false, false, true, true, false, false, true, true, false, false, false, false, false] rfl rfl (by kernel_rfl) (fun _ _ _ h => h) (Or.inl ⟨by rfl, ?_⟩) hHeld ?_ ?_
  rotate_left
  · rintro w' ⟨s0, s1, s2, s3, s4, s5, s6⟩
    go_simp
    with_reducible rfl
  rotate_left
  · simp only [Act.put, List.setIfInBounds_toArray, List.set_cons_zero, List.set_cons_succ, i64_w, i32_w]
    rfl
  refine pure_ (i := 3) (N := some 13) (v := ?_) (a' := ?_) #[true, true, true, true, true, true, false, false, true, true, false, false, true, true, false, false, true, true, false, false, true, true, false, false, true, true, false, false, false, false, false] rfl rfl (by kernel_rfl) (fun _ _ _ h => h) (Or.inl ⟨by rfl, ?_⟩) ?_ ?_
  rotate_left
  · intro w'
    go_simp
    with_reducible rfl
  rotate_left
  · simp only [Act.put, List.setIfInBounds_toArray, List.set_cons_zero, List.set_cons_succ, i64_w, i32_w]
    rfl
  refine take_ (i := 6) (N := some 16) (v := ?_) (a' := ?_) #[true, true, true, true, true, true, true, false, true, true, false, false, true, true, false, false, true, true, false, false, true, true, false, false, true, true, false, false, false, false, false] rfl rfl (by kernel_rfl) (fun _ _ _ h => h) (Or.inl ⟨by rfl, ?_⟩) hHeld ?_ ?_
  rotate_left
  · rintro w' ⟨s0, s1, s2, s3, s4, s5, s6⟩
    go_simp
    with_reducible rfl
  rotate_left
  · simp only [Act.put, List.setIfInBounds_toArray, List.set_cons_zero, List.set_cons_succ, i64_w, i32_w]
    rfl
  refine pure_ (i := 7) (N := some 17) (v := ?_) (a' := ?_) #[true, true, true, true, true, true, true, true, true, true, false, false, true, true, false, false, true, true, false, false, true, true, false, false, true, true, false, false, false, false, false] rfl rfl (by kernel_rfl) (fun _ _ _ h => h) (Or.inl ⟨by rfl, ?_⟩) ?_ ?_
  rotate_left
  · intro w'
    go_simp
    with_reducible rfl
  rotate_left
  · simp only [Act.put, List.setIfInBounds_toArray, List.set_cons_zero, List.set_cons_succ, i64_w, i32_w]
    rfl
  refine take_ (i := 10) (N := some 20) (v := ?_) (a' := ?_) #[true, true, true, true, true, true, true, true, true, true, true, false, true, true, false, false, true, true, false, false, true, true, false, false, true, true, false, false, false, false, false] rfl rfl (by kernel_rfl) (fun _ _ _ h => h) (Or.inl ⟨by rfl, ?_⟩) hHeld ?_ ?_
  rotate_left
  · rintro w' ⟨s0, s1, s2, s3, s4, s5, s6⟩
    go_simp
    with_reducible rfl
  rotate_left
  · simp only [Act.put, List.setIfInBounds_toArray, List.set_cons_zero, List.set_cons_succ, i64_w, i32_w]
    rfl
  refine pure_ (i := 11) (N := some 21) (v := ?_) (a' := ?_) #[true, true, true, true, true, true, true, true, true, true, true, true, true, true, false, false, true, true, false, false, true, true, false, false, true, true, false, false, false, false, false] rfl rfl (by kernel_rfl) (fun _ _ _ h => h) (Or.inl ⟨by rfl, ?_⟩) ?_ ?_
  rotate_left
  · intro w'
    go_simp
    with_reducible rfl
  rotate_left
  · simp only [Act.put, List.setIfInBounds_toArray, List.set_cons_zero, List.set_cons_succ, i64_w, i32_w]
    rfl
  refine take_ (i := 14) (N := some 24) (v := ?_) (a' := ?_) #[true, true, true, true, true, true, true, true, true, true, true, true, true, true, true, false, true, true, false, false, true, true, false, false, true, true, false, false, false, false, false] rfl rfl (by kernel_rfl) (fun _ _ _ h => h) (Or.inl ⟨by rfl, ?_⟩) hHeld ?_ ?_
  rotate_left
  · rintro w' ⟨s0, s1, s2, s3, s4, s5, s6⟩
    go_simp
    with_reducible rfl
  rotate_left
  · simp only [Act.put, List.setIfInBounds_toArray, List.set_cons_zero, List.set_cons_succ, i64_w, i32_w]
    rfl
  refine pure_ (i := 15) (N := some 25) (v := ?_) (a' := ?_) #[true, true, true, true, true, true, true, true, true, true, true, true, true, true, true, true, true, true, false, false, true, true, false, false, true, true, false, false, false, false, false] rfl rfl (by kernel_rfl) (fun _ _ _ h => h) (Or.inl ⟨by rfl, ?_⟩) ?_ ?_
  rotate_left
  · intro w'
    go_simp
    with_reducible rfl
  rotate_left
  · simp only [Act.put, List.setIfInBounds_toArray, List.set_cons_zero, List.set_cons_succ, i64_w, i32_w]
    rfl
  refine take_ (i := 18) (N := some 28) (v := ?_) (a' := ?_) #[true, true, true, true, true, true, true, true, true, true, true, true, true, true, true, true, true, true, true, false, true, true, false, false, true, true, false, false, false, false, false] rfl rfl (by kernel_rfl) (fun _ _ _ h => h) (Or.inl ⟨by rfl, ?_⟩) hHeld ?_ ?_
  rotate_left
  · rintro w' ⟨s0, s1, s2, s3, s4, s5, s6⟩
    go_simp
    with_reducible rfl
  rotate_left
  · simp only [Act.put, List.setIfInBounds_toArray, List.set_cons_zero, List.set_cons_succ, i64_w, i32_w]
    rfl
  refine pure_ (i := 19) (N := some 29) (v := ?_) (a' := ?_) #[true, true, true, true, true, true, true, true, true, true, true, true, true, true, true, true, true, true, true, true, true, true, false, false, true, true, false, false, false, false, false] rfl rfl (by kernel_rfl) (fun _ _ _ h => h) (Or.inl ⟨by rfl, ?_⟩) ?_ ?_
  rotate_left
  · intro w'
    go_simp
    with_reducible rfl
  rotate_left
  · simp only [Act.put, List.setIfInBounds_toArray, List.set_cons_zero, List.set_cons_succ, i64_w, i32_w]
    rfl
  refine take_ (i := 22) (N := some 32) (v := ?_) (a' := ?_) #[true, true, true, true, true, true, true, true, true, true, true, true, true, true, true, true, true, true, true, true, true, true, true, false, true, true, false, false, false, false, false] rfl rfl (by kernel_rfl) (fun _ _ _ h => h) (Or.inl ⟨by rfl, ?_⟩) hHeld ?_ ?_
  rotate_left
  · rintro w' ⟨s0, s1, s2, s3, s4, s5, s6⟩
    go_simp
    with_reducible rfl
  rotate_left
  · simp only [Act.put, List.setIfInBounds_toArray, List.set_cons_zero, List.set_cons_succ, i64_w, i32_w]
    rfl
  refine pure_ (i := 23) (N := some 33) (v := ?_) (a' := ?_) #[true, true, true, true, true, true, true, true, true, true, true, true, true, true, true, true, true, true, true, true, true, true, true, true, true, true, false, false, false, false, false] rfl rfl (by kernel_rfl) (fun _ _ _ h => h) (Or.inl ⟨by rfl, ?_⟩) ?_ ?_
  rotate_left
  · intro w'
    go_simp
    with_reducible rfl
  rotate_left
  · simp only [Act.put, List.setIfInBounds_toArray, List.set_cons_zero, List.set_cons_succ, i64_w, i32_w]
    rfl
  refine take_ (i := 26) (N := some 36) (v := ?_) (a' := ?_) #[true, true, true, true, true, true, true, true, true, true, true, true, true, true, true, true, true, true, true, true, true, true, true, true, true, true, true, false, false, false, false] rfl rfl (by kernel_rfl) (fun _ _ _ h => h) (Or.inl ⟨by rfl, ?_⟩) hHeld ?_ ?_
  rotate_left
  · rintro w' ⟨s0, s1, s2, s3, s4, s5, s6⟩
    go_simp
    with_reducible rfl
  rotate_left
  · simp only [Act.put, List.setIfInBounds_toArray, List.set_cons_zero, List.set_cons_succ, i64_w, i32_w]
    rfl
  refine pure_ (i := 27) (N := some 37) (v := ?_) (a' := ?_) #[true, true, true, true, true, true, true, true, true, true, true, true, true, true, true, true, true, true, true, true, true, true, true, true, true, true, true, true, false, false, false] rfl rfl (by kernel_rfl) (fun _ _ _ h => h) (Or.inl ⟨by rfl, ?_⟩) ?_ ?_
  rotate_left
  · intro w'
    go_simp
    with_reducible rfl
  rotate_left
  · simp only [Act.put, List.setIfInBounds_toArray, List.set_cons_zero, List.set_cons_succ, i64_w, i32_w]
    rfl
  refine pure_ (i := 28) (N := some 38) (v := ?_) (a' := ?_) #[true, true, true, true, true, true, true, true, true, true, true, true, true, true, true, true, true, true, true, true, true, true, true, true, true, true, true, true, true, false, false] rfl rfl (by kernel_rfl) (fun _ _ _ h => h) (Or.inl ⟨by rfl, ?_⟩) ?_ ?_
  rotate_left
  · intro w'
    go_simp
    with_reducible rfl
  rotate_left
  · simp only [Act.put, List.setIfInBounds_toArray, List.set_cons_zero, List.set_cons_succ, i64_w, i32_w]
    rfl
  refine one_ (i := 29) (N := some 4) #[true, true, true, true, true, true, true, true, true, true, true, true, true, true, true, true, true, true, true, true, true, true, true, true, true, true, true, true, true, true, false] rfl rfl (by kernel_rfl) (by decide) (fun K hK => ?_)
  refine value_ (w1 := ?_) (v := ?_) (by rfl) rfl ?_ ?_
  rotate_left 2
  · go_simp
    constructor
    · rfl
    · rfl
  refine hK.out _ _ ⟨pw_cell_below (below_alloc (Below.refl _ _) _) (pw_cell_below (below_drew1 (Below.refl _ _)) Y3.out), pw_cell_below (below_alloc (Below.refl _ _) _) (pw_cell_below (below_drew1 (Below.refl _ _)) Y4.out), pw_cell_below (below_alloc (Below.refl _ _) _) (pw_cell_below (below_drew1 (Below.refl _ _)) Y5.out), pw_cell_below (below_alloc (Below.refl _ _) _) (pw_cell_below (below_drew1 (Below.refl _ _)) Y6.out), pw_cell_below (below_alloc (Below.refl _ _) _) (pw_cell_below (below_drew1 (Below.refl _ _)) Y7.out), pw_cell_below (below_alloc (Below.refl _ _) _) (pw_cell_below (below_drew1 (Below.refl _ _)) Y8.out), pw_cell_below (below_alloc (Below.refl _ _) _) (pw_cell_below (below_drew1 (Below.refl _ _)) Y9.out)⟩ (fun hHeld => ?_)
  clear hK K
  refine norm_ (a' := ?_) ?_ ?_
  rotate_left
  · show Act.put _ (some 4) _ = _
    simp only [Act.put, List.setIfInBounds_toArray, List.set_cons_zero, List.set_cons_succ, i64_w, i32_w]
    rfl
  refine last_ (i := 30) (N := none) #[true, true, true, true, true, true, true, true, true, true, true, true, true, true, true, true, true, true, true, true, true, true, true, true, true, true, true, true, true, true, true] rfl rfl (by kernel_rfl) (by decide) (fun K hK => ?_)
  refine seg.step (by rfl) rfl 31 (.tmp 4) _ (by rfl) 31 wx.drew.heap.size 0 #[.int .i64 0, .int .i64 0, .int .i64 0, .int .i64 0, .int .i64 0, .int .i64 0, .int .i64 0] #[.int .i64 d3, .int .i64 d4, .int .i64 d5, .int .i64 d6, .int .i64 d7, .int .i64 d8, .int .i64 d9] [.int .i64 d3, .int .i64 d4, .int .i64 d5, .int .i64 d6, .int .i64 d7, .int .i64 d8, .int .i64 d9] (by rfl) (by rfl) (by kernel_rfl) (by simp [Value.oneCell']) (blk_new wx.drew _) (by simp) rfl ?_
  intro wy by_ hgy
  refine hK.out _ _ ?_
  clear hK K
  refine done_ (by kernel_rfl) ?_
  have HB1 := Aside0.mk (seg.below (below_alloc (below_drew1 HB.out) _) hgy (by have := HB.out.size; exact this))
  have Z1 := Aside0.mk (seg.far (blk_alloc (blk_drew B2.out) _) hgy (Nat.ne_of_lt (blk_lt (blk_drew B2.out))))
  have T0 := Aside0.mk (show wy.cell? ⟨wx.heap.size, 0, none⟩ = some (.int .i64 d3) from (blk_cell by_ 0).trans rfl)
  have T1 := Aside0.mk (show wy.cell? ⟨wx.heap.size, 1, none⟩ = some (.int .i64 d4) from (blk_cell by_ 1).trans rfl)
  have T2 := Aside0.mk (show wy.cell? ⟨wx.heap.size, 2, none⟩ = some (.int .i64 d5) from (blk_cell by_ 2).trans rfl)
  have T3 := Aside0.mk (show wy.cell? ⟨wx.heap.size, 3, none⟩ = some (.int .i64 d6) from (blk_cell by_ 3).trans rfl)
  have T4 := Aside0.mk (show wy.cell? ⟨wx.heap.size, 4, none⟩ = some (.int .i64 d7) from (blk_cell by_ 4).trans rfl)
  have T5 := Aside0.mk (show wy.cell? ⟨wx.heap.size, 5, none⟩ = some (.int .i64 d8) from (blk_cell by_ 5).trans rfl)
  have T6 := Aside0.mk (show wy.cell? ⟨wx.heap.size, 6, none⟩ = some (.int .i64 d9) from (blk_cell by_ 6).trans rfl)
  have Q0 := Aside0.mk (seg.cell (pw_cell_below (below_alloc (Below.refl _ _) _) (pw_cell_below (below_drew1 (Below.refl _ _)) Y0.out)) hgy (Nat.ne_of_lt (World.block_lt_of_cell? _ _ (pw_cell_below (below_drew1 (Below.refl _ _)) Y0.out))))
  have Q1 := Aside0.mk (seg.cell (pw_cell_below (below_alloc (Below.refl _ _) _) (pw_cell_below (below_drew1 (Below.refl _ _)) Y1.out)) hgy (Nat.ne_of_lt (World.block_lt_of_cell? _ _ (pw_cell_below (below_drew1 (Below.refl _ _)) Y1.out))))
  have Q2 := Aside0.mk (seg.cell (pw_cell_below (below_alloc (Below.refl _ _) _) (pw_cell_below (below_drew1 (Below.refl _ _)) Y2.out)) hgy (Nat.ne_of_lt (World.block_lt_of_cell? _ _ (pw_cell_below (below_drew1 (Below.refl _ _)) Y2.out))))
  have Q10 := Aside0.mk (seg.cell (pw_cell_below (below_alloc (Below.refl _ _) _) (pw_cell_below (below_drew1 (Below.refl _ _)) Y10.out)) hgy (Nat.ne_of_lt (World.block_lt_of_cell? _ _ (pw_cell_below (below_drew1 (Below.refl _ _)) Y10.out))))
  have Q11 := Aside0.mk (seg.cell (pw_cell_below (below_alloc (Below.refl _ _) _) (pw_cell_below (below_drew1 (Below.refl _ _)) Y11.out)) hgy (Nat.ne_of_lt (World.block_lt_of_cell? _ _ (pw_cell_below (below_drew1 (Below.refl _ _)) Y11.out))))
  have Q12 := Aside0.mk (seg.cell (pw_cell_below (below_alloc (Below.refl _ _) _) (pw_cell_below (below_drew1 (Below.refl _ _)) Y12.out)) hgy (Nat.ne_of_lt (World.block_lt_of_cell? _ _ (pw_cell_below (below_drew1 (Below.refl _ _)) Y12.out))))
  have CW := Aside0.mk (show wx.drew.heap.size < wy.heap.size from blk_lt by_)
  clear by_ hgy y0 y1 y2 y3 y4 y5 y6 y7 y8 y9 y10 y11 y12
  go_wp2
  obtain ⟨wq, hwq⟩ : ∃ W : World, W = wy := ⟨_, rfl⟩
  rw [← hwq] at HB1 Z1 CW T0 T1 T2 T3 T4 T5 T6 Q0 Q1 Q2 Q10 Q11 Q12 ⊢
  clear hwq
  simp only [List.getElem_toArray, List.getElem_cons_succ, List.getElem_cons_zero, Act.put]
  refine start_ (n := 29) (S := fun w' => w'.cell? ⟨ab, ao, none⟩ = some (Value.int .u32 u0_) ∧ w'.cell? ⟨ab, ao + 1, none⟩ = some (Value.int .u32 u1_) ∧ w'.cell? ⟨ab, ao + 2, none⟩ = some (Value.int .u32 u2_) ∧ w'.cell? ⟨ab, ao + 10, none⟩ = some (Value.int .u32 u10_) ∧ w'.cell? ⟨ab, ao + 11, none⟩ = some (Value.int .u32 u11_) ∧ w'.cell? ⟨ab, ao + 12, none⟩ = some (Value.int .u32 u12_) ∧ w'.cell? ⟨wx.heap.size, 0, none⟩ = some (Value.int .i64 d3) ∧ w'.cell? ⟨wx.heap.size, 1, none⟩ = some (Value.int .i64 d4) ∧ w'.cell? ⟨wx.heap.size, 2, none⟩ = some (Value.int .i64 d5) ∧ w'.cell? ⟨wx.heap.size, 3, none⟩ = some (Value.int .i64 d6) ∧ w'.cell? ⟨wx.heap.size, 4, none⟩ = some (Value.int .i64 d7) ∧ w'.cell? ⟨wx.heap.size, 5, none⟩ = some (Value.int .i64 d8) ∧ w'.cell? ⟨wx.heap.size, 6, none⟩ = some (Value.int .i64 d9)) (ds := [28]) #[false, false, false, false, false, false, false, false, false, false, false, false, false, false, false, false, false, false, false, false, false, false, false, false, false, false, false, false, false] (by kernel_rfl) rfl rfl ⟨pw_cell_below (below_drew1 (Below.refl _ _)) Q0.out, pw_cell_below (below_drew1 (Below.refl _ _)) Q1.out, pw_cell_below (below_drew1 (Below.refl _ _)) Q2.out, pw_cell_below (below_drew1 (Below.refl _ _)) Q10.out, pw_cell_below (below_drew1 (Below.refl _ _)) Q11.out, pw_cell_below (below_drew1 (Below.refl _ _)) Q12.out, pw_cell_below (below_drew1 (Below.refl _ _)) T0.out, pw_cell_below (below_drew1 (Below.refl _ _)) T1.out, pw_cell_below (below_drew1 (Below.refl _ _)) T2.out, pw_cell_below (below_drew1 (Below.refl _ _)) T3.out, pw_cell_below (below_drew1 (Below.refl _ _)) T4.out, pw_cell_below (below_drew1 (Below.refl _ _)) T5.out, pw_cell_below (below_drew1 (Below.refl _ _)) T6.out⟩ (fun hHeld => ?_)
  refine pure_ (i := 0) (N := some 39) (v := ?_) (a' := ?_) #[true, false, false, false, false, false, false, false, false, false, false, false, false, false, false, false, false, false, false, false, false, false, false, false, false, false, false, false, false] rfl rfl (by kernel_rfl) (fun _ _ _ h => h) (Or.inl ⟨by rfl, ?_⟩) ?_ ?_
  rotate_left
  · intro w'
    go_simp
    with_reducible rfl
  rotate_left
  · simp only [Act.put, List.setIfInBounds_toArray, List.set_cons_zero, List.set_cons_succ, i64_w, i32_w]
    rfl
  refine pure_ (i := 1) (N := some 40) (v := ?_) (a' := ?_) #[true, true, false, false, false, false, false, false, false, false, false, false, false, false, false, false, false, false, false, false, false, false, false, false, false, false, false, false, false] rfl rfl (by kernel_rfl) (fun _ _ _ h => h) (Or.inl ⟨by rfl, ?_⟩) ?_ ?_
  rotate_left
  · intro w'
    go_simp
    with_reducible rfl
  rotate_left
  · simp only [Act.put, List.setIfInBounds_toArray, List.set_cons_zero, List.set_cons_succ, i64_w, i32_w]
    rfl
  refine pure_ (i := 4) (N := some 43) (v := ?_) (a' := ?_) #[true, true, false, false, true, false, false, false, false, false, false, false, false, false, false, false, false, false, false, false, false, false, false, false, false, false, false, false, false] rfl rfl (by kernel_rfl) (fun _ _ _ h => h) (Or.inl ⟨by rfl, ?_⟩) ?_ ?_
  rotate_left
  · intro w'
    go_simp
    with_reducible rfl
  rotate_left
  · simp only [Act.put, List.setIfInBounds_toArray, List.set_cons_zero, List.set_cons_succ, i64_w, i32_w]
    rfl
  refine pure_ (i := 5) (N := some 44) (v := ?_) (a' := ?_) #[true, true, false, false, true, true, false, false, false, false, false, false, false, false, false, false, false, false, false, false, false, false, false, false, false, false, false, false, false] rfl rfl (by kernel_rfl) (fun _ _ _ h => h) (Or.inl ⟨by rfl, ?_⟩) ?_ ?_
  rotate_left
  · intro w'
    go_simp
    with_reducible rfl
  rotate_left
  · simp only [Act.put, List.setIfInBounds_toArray, List.set_cons_zero, List.set_cons_succ, i64_w, i32_w]
    rfl
  refine pure_ (i := 8) (N := some 47) (v := ?_) (a' := ?_) #[true, true, false, false, true, true, false, false, true, false, false, false, false, false, false, false, false, false, false, false, false, false, false, false, false, false, false, false, false] rfl rfl (by kernel_rfl) (fun _ _ _ h => h) (Or.inl ⟨by rfl, ?_⟩) ?_ ?_
  rotate_left
  · intro w'
    go_simp
    with_reducible rfl
  rotate_left
  · simp only [Act.put, List.setIfInBounds_toArray, List.set_cons_zero, List.set_cons_succ, i64_w, i32_w]
    rfl
  refine pure_ (i := 9) (N := some 48) (v := ?_) (a' := ?_) #[true, true, false, false, true, true, false, false, true, true, false, false, false, false, false, false, false, false, false, false, false, false, false, false, false, false, false, false, false] rfl rfl (by kernel_rfl) (fun _ _ _ h => h) (Or.inl ⟨by rfl, ?_⟩) ?_ ?_
  rotate_left
  · intro w'
    go_simp
    with_reducible rfl
  rotate_left
  · simp only [Act.put, List.setIfInBounds_toArray, List.set_cons_zero, List.set_cons_succ, i64_w, i32_w]
    rfl
  refine pure_ (i := 13) (N := some 52) (v := ?_) (a' := ?_) #[true, true, false, false, true, true, false, false, true, true, false, false, false, true, false, false, false, false, false, false, false, false, false, false, false, false, false, false, false] rfl rfl (by kernel_rfl) (fun _ _ _ h => h) (Or.inl ⟨by rfl, ?_⟩) ?_ ?_
  rotate_left
  · intro w'
    go_simp
    with_reducible rfl
  rotate_left
  · simp only [Act.put, List.setIfInBounds_toArray, List.set_cons_zero, List.set_cons_succ, i64_w, i32_w]
    rfl
  refine pure_ (i := 14) (N := some 53) (v := ?_) (a' := ?_) #[true, true, false, false, true, true, false, false, true, true, false, false, false, true, true, false, false, false, false, false, false, false, false, false, false, false, false, false, false] rfl rfl (by kernel_rfl) (fun _ _ _ h => h) (Or.inl ⟨by rfl, ?_⟩) ?_ ?_
  rotate_left
  · intro w'
    go_simp
    with_reducible rfl
  rotate_left
  · simp only [Act.put, List.setIfInBounds_toArray, List.set_cons_zero, List.set_cons_succ, i64_w, i32_w]
    rfl
  refine pure_ (i := 17) (N := some 56) (v := ?_) (a' := ?_) #[true, true, false, false, true, true, false, false, true, true, false, false, false, true, true, false, false, true, false, false, false, false, false, false, false, false, false, false, false] rfl rfl (by kernel_rfl) (fun _ _ _ h => h) (Or.inl ⟨by rfl, ?_⟩) ?_ ?_
  rotate_left
  · intro w'
    go_simp
    with_reducible rfl
  rotate_left
  · simp only [Act.put, List.setIfInBounds_toArray, List.set_cons_zero, List.set_cons_succ, i64_w, i32_w]
    rfl
  refine pure_ (i := 18) (N := some 57) (v := ?_) (a' := ?_) #[true, true, false, false, true, true, false, false, true, true, false, false, false, true, true, false, false, true, true, false, false, false, false, false, false, false, false, false, false] rfl rfl (by kernel_rfl) (fun _ _ _ h => h) (Or.inl ⟨by rfl, ?_⟩) ?_ ?_
  rotate_left
  · intro w'
    go_simp
    with_reducible rfl
  rotate_left
  · simp only [Act.put, List.setIfInBounds_toArray, List.set_cons_zero, List.set_cons_succ, i64_w, i32_w]
    rfl
  refine pure_ (i := 21) (N := some 60) (v := ?_) (a' := ?_) #[true, true, false, false, true, true, false, false, true, true, false, false, false, true, true, false, false, true, true, false, false, true, false, false, false, false, false, false, false] rfl rfl (by kernel_rfl) (fun _ _ _ h => h) (Or.inl ⟨by rfl, ?_⟩) ?_ ?_
  rotate_left
  · intro w'
    go_simp
    with_reducible rfl
  rotate_left
  · simp only [Act.put, List.setIfInBounds_toArray, List.set_cons_zero, List.set_cons_succ, i64_w, i32_w]
    rfl
  refine pure_ (i := 22) (N := some 61) (v := ?_) (a' := ?_) #[true, true, false, false, true, true, false, false, true, true, false, false, false, true, true, false, false, true, true, false, false, true, true, false, false, false, false, false, false] rfl rfl (by kernel_rfl) (fun _ _ _ h => h) (Or.inl ⟨by rfl, ?_⟩) ?_ ?_
  rotate_left
  · intro w'
    go_simp
    with_reducible rfl
  rotate_left
  · simp only [Act.put, List.setIfInBounds_toArray, List.set_cons_zero, List.set_cons_succ, i64_w, i32_w]
    rfl
  refine take_ (i := 2) (N := some 41) (v := ?_) (a' := ?_) #[true, true, true, false, true, true, false, false, true, true, false, false, false, true, true, false, false, true, true, false, false, true, true, false, false, false, false, false, false] rfl rfl (by kernel_rfl) (fun _ _ _ h => h) (Or.inl ⟨by rfl, ?_⟩) hHeld ?_ ?_
  rotate_left
  · rintro w' ⟨s0, s1, s2, s3, s4, s5, s6, s7, s8, s9, s10, s11, s12⟩
    go_simp
    with_reducible rfl
  rotate_left
  · simp only [Act.put, List.setIfInBounds_toArray, List.set_cons_zero, List.set_cons_succ, i64_w, i32_w]
    rfl
  refine pure_ (i := 3) (N := some 42) (v := ?_) (a' := ?_) #[true, true, true, true, true, true, false, false, true, true, false, false, false, true, true, false, false, true, true, false, false, true, true, false, false, false, false, false, false] rfl rfl (by kernel_rfl) (fun _ _ _ h => h) (Or.inl ⟨by rfl, ?_⟩) ?_ ?_
  rotate_left
  · intro w'
    go_simp
    with_reducible rfl
  rotate_left
  · simp only [Act.put, List.setIfInBounds_toArray, List.set_cons_zero, List.set_cons_succ, i64_w, i32_w]
    rfl
  refine take_ (i := 6) (N := some 45) (v := ?_) (a' := ?_) #[true, true, true, true, true, true, true, false, true, true, false, false, false, true, true, false, false, true, true, false, false, true, true, false, false, false, false, false, false] rfl rfl (by kernel_rfl) (fun _ _ _ h => h) (Or.inl ⟨by rfl, ?_⟩) hHeld ?_ ?_
  rotate_left
  · rintro w' ⟨s0, s1, s2, s3, s4, s5, s6, s7, s8, s9, s10, s11, s12⟩
    go_simp
    with_reducible rfl
  rotate_left
  · simp only [Act.put, List.setIfInBounds_toArray, List.set_cons_zero, List.set_cons_succ, i64_w, i32_w]
    rfl
  refine pure_ (i := 7) (N := some 46) (v := ?_) (a' := ?_) #[true, true, true, true, true, true, true, true, true, true, false, false, false, true, true, false, false, true, true, false, false, true, true, false, false, false, false, false, false] rfl rfl (by kernel_rfl) (fun _ _ _ h => h) (Or.inl ⟨by rfl, ?_⟩) ?_ ?_
  rotate_left
  · intro w'
    go_simp
    with_reducible rfl
  rotate_left
  · simp only [Act.put, List.setIfInBounds_toArray, List.set_cons_zero, List.set_cons_succ, i64_w, i32_w]
    rfl
  refine take_ (i := 10) (N := some 49) (v := ?_) (a' := ?_) #[true, true, true, true, true, true, true, true, true, true, true, false, false, true, true, false, false, true, true, false, false, true, true, false, false, false, false, false, false] rfl rfl (by kernel_rfl) (fun _ _ _ h => h) (Or.inl ⟨by rfl, ?_⟩) hHeld ?_ ?_
  rotate_left
  · rintro w' ⟨s0, s1, s2, s3, s4, s5, s6, s7, s8, s9, s10, s11, s12⟩
    go_simp
    with_reducible rfl
  rotate_left
  · simp only [Act.put, List.setIfInBounds_toArray, List.set_cons_zero, List.set_cons_succ, i64_w, i32_w]
    rfl
  refine pure_ (i := 11) (N := some 50) (v := ?_) (a' := ?_) #[true, true, true, true, true, true, true, true, true, true, true, true, false, true, true, false, false, true, true, false, false, true, true, false, false, false, false, false, false] rfl rfl (by kernel_rfl) (fun _ _ _ h => h) (Or.inl ⟨by rfl, ?_⟩) ?_ ?_
  rotate_left
  · intro w'
    go_simp
    with_reducible rfl
  rotate_left
  · simp only [Act.put, List.setIfInBounds_toArray, List.set_cons_zero, List.set_cons_succ, i64_w, i32_w]
    rfl
  refine take_ (i := 12) (N := some 51) (v := ?_) (a' := ?_) #[true, true, true, true, true, true, true, true, true, true, true, true, true, true, true, false, false, true, true, false, false, true, true, false, false, false, false, false, false] rfl rfl (by kernel_rfl) (fun _ _ _ h => h) (Or.inl ⟨by rfl, ?_⟩) hHeld ?_ ?_
  rotate_left
  · rintro w' ⟨s0, s1, s2, s3, s4, s5, s6, s7, s8, s9, s10, s11, s12⟩
    go_simp
    with_reducible rfl
  rotate_left
  · simp only [Act.put, List.setIfInBounds_toArray, List.set_cons_zero, List.set_cons_succ, i64_w, i32_w]
    rfl
  refine take_ (i := 15) (N := some 54) (v := ?_) (a' := ?_) #[true, true, true, true, true, true, true, true, true, true, true, true, true, true, true, true, false, true, true, false, false, true, true, false, false, false, false, false, false] rfl rfl (by kernel_rfl) (fun _ _ _ h => h) (Or.inl ⟨by rfl, ?_⟩) hHeld ?_ ?_
  rotate_left
  · rintro w' ⟨s0, s1, s2, s3, s4, s5, s6, s7, s8, s9, s10, s11, s12⟩
    go_simp
    with_reducible rfl
  rotate_left
  · simp only [Act.put, List.setIfInBounds_toArray, List.set_cons_zero, List.set_cons_succ, i64_w, i32_w]
    rfl
  refine pure_ (i := 16) (N := some 55) (v := ?_) (a' := ?_) #[true, true, true, true, true, true, true, true, true, true, true, true, true, true, true, true, true, true, true, false, false, true, true, false, false, false, false, false, false] rfl rfl (by kernel_rfl) (fun _ _ _ h => h) (Or.inl ⟨by rfl, ?_⟩) ?_ ?_
  rotate_left
  · intro w'
    go_simp
    with_reducible rfl
  rotate_left
  · simp only [Act.put, List.setIfInBounds_toArray, List.set_cons_zero, List.set_cons_succ, i64_w, i32_w]
    rfl
  refine take_ (i := 19) (N := some 58) (v := ?_) (a' := ?_) #[true, true, true, true, true, true, true, true, true, true, true, true, true, true, true, true, true, true, true, true, false, true, true, false, false, false, false, false, false] rfl rfl (by kernel_rfl) (fun _ _ _ h => h) (Or.inl ⟨by rfl, ?_⟩) hHeld ?_ ?_
  rotate_left
  · rintro w' ⟨s0, s1, s2, s3, s4, s5, s6, s7, s8, s9, s10, s11, s12⟩
    go_simp
    with_reducible rfl
  rotate_left
  · simp only [Act.put, List.setIfInBounds_toArray, List.set_cons_zero, List.set_cons_succ, i64_w, i32_w]
    rfl
  refine pure_ (i := 20) (N := some 59) (v := ?_) (a' := ?_) #[true, true, true, true, true, true, true, true, true, true, true, true, true, true, true, true, true, true, true, true, true, true, true, false, false, false, false, false, false] rfl rfl (by kernel_rfl) (fun _ _ _ h => h) (Or.inl ⟨by rfl, ?_⟩) ?_ ?_
  rotate_left
  · intro w'
    go_simp
    with_reducible rfl
  rotate_left
  · simp only [Act.put, List.setIfInBounds_toArray, List.set_cons_zero, List.set_cons_succ, i64_w, i32_w]
    rfl
  refine take_ (i := 23) (N := some 62) (v := ?_) (a' := ?_) #[true, true, true, true, true, true, true, true, true, true, true, true, true, true, true, true, true, true, true, true, true, true, true, true, false, false, false, false, false] rfl rfl (by kernel_rfl) (fun _ _ _ h => h) (Or.inl ⟨by rfl, ?_⟩) hHeld ?_ ?_
  rotate_left
  · rintro w' ⟨s0, s1, s2, s3, s4, s5, s6, s7, s8, s9, s10, s11, s12⟩
    go_simp
    with_reducible rfl
  rotate_left
  · simp only [Act.put, List.setIfInBounds_toArray, List.set_cons_zero, List.set_cons_succ, i64_w, i32_w]
    rfl
  refine pure_ (i := 24) (N := some 63) (v := ?_) (a' := ?_) #[true, true, true, true, true, true, true, true, true, true, true, true, true, true, true, true, true, true, true, true, true, true, true, true, true, false, false, false, false] rfl rfl (by kernel_rfl) (fun _ _ _ h => h) (Or.inl ⟨by rfl, ?_⟩) ?_ ?_
  rotate_left
  · intro w'
    go_simp
    with_reducible rfl
  rotate_left
  · simp only [Act.put, List.setIfInBounds_toArray, List.set_cons_zero, List.set_cons_succ, i64_w, i32_w]
    rfl
  refine pure_ (i := 25) (N := some 64) (v := ?_) (a' := ?_) #[true, true, true, true, true, true, true, true, true, true, true, true, true, true, true, true, true, true, true, true, true, true, true, true, true, true, false, false, false] rfl rfl (by kernel_rfl) (fun _ _ _ h => h) (Or.inl ⟨by rfl, ?_⟩) ?_ ?_
  rotate_left
  · intro w'
    go_simp
    with_reducible rfl
  rotate_left
  · simp only [Act.put, List.setIfInBounds_toArray, List.set_cons_zero, List.set_cons_succ, i64_w, i32_w]
    rfl
  refine pure_ (i := 26) (N := some 65) (v := ?_) (a' := ?_) #[true, true, true, true, true, true, true, true, true, true, true, true, true, true, true, true, true, true, true, true, true, true, true, true, true, true, true, false, false] rfl rfl (by kernel_rfl) (fun _ _ _ h => h) (Or.inl ⟨by rfl, ?_⟩) ?_ ?_
  rotate_left
  · intro w'
    go_simp
    with_reducible rfl
  rotate_left
  · simp only [Act.put, List.setIfInBounds_toArray, List.set_cons_zero, List.set_cons_succ, i64_w, i32_w]
    rfl
  refine one_ (i := 27) (N := some 5) #[true, true, true, true, true, true, true, true, true, true, true, true, true, true, true, true, true, true, true, true, true, true, true, true, true, true, true, true, false] rfl rfl (by kernel_rfl) (by decide) (fun K hK => ?_)
  refine value_ (w1 := ?_) (v := ?_) (by rfl) rfl ?_ ?_
  rotate_left 2
  · go_simp
    constructor
    · rfl
    · rfl
  refine hK.out _ _ ⟨pw_cell_below (below_alloc (Below.refl _ _) _) (pw_cell_below (below_drew1 (Below.refl _ _)) Q0.out), pw_cell_below (below_alloc (Below.refl _ _) _) (pw_cell_below (below_drew1 (Below.refl _ _)) Q1.out), pw_cell_below (below_alloc (Below.refl _ _) _) (pw_cell_below (below_drew1 (Below.refl _ _)) Q2.out), pw_cell_below (below_alloc (Below.refl _ _) _) (pw_cell_below (below_drew1 (Below.refl _ _)) Q10.out), pw_cell_below (below_alloc (Below.refl _ _) _) (pw_cell_below (below_drew1 (Below.refl _ _)) Q11.out), pw_cell_below (below_alloc (Below.refl _ _) _) (pw_cell_below (below_drew1 (Below.refl _ _)) Q12.out), pw_cell_below (below_alloc (Below.refl _ _) _) (pw_cell_below (below_drew1 (Below.refl _ _)) T0.out), pw_cell_below (below_alloc (Below.refl _ _) _) (pw_cell_below (below_drew1 (Below.refl _ _)) T1.out), pw_cell_below (below_alloc (Below.refl _ _) _) (pw_cell_below (below_drew1 (Below.refl _ _)) T2.out), pw_cell_below (below_alloc (Below.refl _ _) _) (pw_cell_below (below_drew1 (Below.refl _ _)) T3.out), pw_cell_below (below_alloc (Below.refl _ _) _) (pw_cell_below (below_drew1 (Below.refl _ _)) T4.out), pw_cell_below (below_alloc (Below.refl _ _) _) (pw_cell_below (below_drew1 (Below.refl _ _)) T5.out), pw_cell_below (below_alloc (Below.refl _ _) _) (pw_cell_below (below_drew1 (Below.refl _ _)) T6.out)⟩ (fun hHeld => ?_)
  clear hK K
  refine norm_ (a' := ?_) ?_ ?_
  rotate_left
  · show Act.put _ (some 5) _ = _
    simp only [Act.put, List.setIfInBounds_toArray, List.set_cons_zero, List.set_cons_succ, i64_w, i32_w]
    rfl
  refine last_ (i := 28) (N := none) #[true, true, true, true, true, true, true, true, true, true, true, true, true, true, true, true, true, true, true, true, true, true, true, true, true, true, true, true, true] rfl rfl (by kernel_rfl) (by decide) (fun K hK => ?_)
  refine seg.step (by rfl) rfl 41 (.tmp 5) _ (by rfl) 41 wq.drew.heap.size 0 #[.int .i64 0, .int .i64 0, .int .i64 0, .int .i64 0, .int .i64 0, .int .i64 0, .int .i64 0, .int .i64 0, .int .i64 0, .int .i64 0, .int .i64 0, .int .i64 0, .int .i64 0] #[.int .i64 d0, .int .i64 d1, .int .i64 d2, .int .i64 d3, .int .i64 d4, .int .i64 d5, .int .i64 d6, .int .i64 d7, .int .i64 d8, .int .i64 d9, .int .i64 d10, .int .i64 d11, .int .i64 d12] [.int .i64 d0, .int .i64 d1, .int .i64 d2, .int .i64 d3, .int .i64 d4, .int .i64 d5, .int .i64 d6, .int .i64 d7, .int .i64 d8, .int .i64 d9, .int .i64 d10, .int .i64 d11, .int .i64 d12] (by rfl) (by rfl) (by kernel_rfl) (by simp [Value.oneCell']) (blk_new wq.drew _) (by simp) rfl ?_
  intro wz bz_ hgz
  refine hK.out _ _ ?_
  clear hK K
  refine done_ (by kernel_rfl) ?_
  have HB2 := Aside0.mk (seg.below (below_alloc (below_drew1 HB1.out) _) hgz (by have := HB1.out.size; exact this))
  have Z2 := Aside0.mk (seg.far (blk_alloc (blk_drew Z1.out) _) hgz (Nat.ne_of_lt (blk_lt (blk_drew Z1.out))))
  have V2 := Aside0.mk bz_
  clear bz_ hgz
  simp only [List.getElem_toArray, List.getElem_cons_succ, List.getElem_cons_zero, Act.put]
  have x0 : wz.cell? ⟨wq.heap.size, 0, none⟩ = some (.int .i64 d0) := (blk_cell V2.out 0).trans rfl
  have x1 : wz.cell? ⟨wq.heap.size, 1, none⟩ = some (.int .i64 d1) := (blk_cell V2.out 1).trans rfl
  have x2 : wz.cell? ⟨wq.heap.size, 2, none⟩ = some (.int .i64 d2) := (blk_cell V2.out 2).trans rfl
  have x3 : wz.cell? ⟨wq.heap.size, 3, none⟩ = some (.int .i64 d3) := (blk_cell V2.out 3).trans rfl
  have x4 : wz.cell? ⟨wq.heap.size, 4, none⟩ = some (.int .i64 d4) := (blk_cell V2.out 4).trans rfl
  have x5 : wz.cell? ⟨wq.heap.size, 5, none⟩ = some (.int .i64 d5) := (blk_cell V2.out 5).trans rfl
  have x6 : wz.cell? ⟨wq.heap.size, 6, none⟩ = some (.int .i64 d6) := (blk_cell V2.out 6).trans rfl
  have x7 : wz.cell? ⟨wq.heap.size, 7, none⟩ = some (.int .i64 d7) := (blk_cell V2.out 7).trans rfl
  have x8 : wz.cell? ⟨wq.heap.size, 8, none⟩ = some (.int .i64 d8) := (blk_cell V2.out 8).trans rfl
  have x9 : wz.cell? ⟨wq.heap.size, 9, none⟩ = some (.int .i64 d9) := (blk_cell V2.out 9).trans rfl
  have x10 : wz.cell? ⟨wq.heap.size, 10, none⟩ = some (.int .i64 d10) := (blk_cell V2.out 10).trans rfl
  have x11 : wz.cell? ⟨wq.heap.size, 11, none⟩ = some (.int .i64 d11) := (blk_cell V2.out 11).trans rfl
  have x12 : wz.cell? ⟨wq.heap.size, 12, none⟩ = some (.int .i64 d12) := (blk_cell V2.out 12).trans rfl
  go_upto_region 7 with (go_at_call 41; refine (vendmeterref_EventMay.at_ _ d0 d1 d2 d3 d4 d5 d6 d7 d8 d9 d10 d11 d12 true HR.out.symm).mono ?_; rintro e wc ⟨rfl, hb⟩; have Z3 := Aside0.mk (blk_below Z2.out hb); have V3 := Aside0.mk (blk_below V2.out hb); have HB3 := Aside0.mk (below_then HB2.out HB2.out.size hb); clear hb)
  clear x0 x1 x2 x3 x4 x5 x6 x7 x8 x9 x10 x11 x12
  have x0 : wc.cell? ⟨wq.heap.size, 0, none⟩ = some (.int .i64 d0) := (blk_cell V3.out 0).trans rfl
  have x1 : wc.cell? ⟨wq.heap.size, 1, none⟩ = some (.int .i64 d1) := (blk_cell V3.out 1).trans rfl
  have x2 : wc.cell? ⟨wq.heap.size, 2, none⟩ = some (.int .i64 d2) := (blk_cell V3.out 2).trans rfl
  have x3 : wc.cell? ⟨wq.heap.size, 3, none⟩ = some (.int .i64 d3) := (blk_cell V3.out 3).trans rfl
  have x4 : wc.cell? ⟨wq.heap.size, 4, none⟩ = some (.int .i64 d4) := (blk_cell V3.out 4).trans rfl
  have x5 : wc.cell? ⟨wq.heap.size, 5, none⟩ = some (.int .i64 d5) := (blk_cell V3.out 5).trans rfl
  have x6 : wc.cell? ⟨wq.heap.size, 6, none⟩ = some (.int .i64 d6) := (blk_cell V3.out 6).trans rfl
  have x7 : wc.cell? ⟨wq.heap.size, 7, none⟩ = some (.int .i64 d7) := (blk_cell V3.out 7).trans rfl
  have x8 : wc.cell? ⟨wq.heap.size, 8, none⟩ = some (.int .i64 d8) := (blk_cell V3.out 8).trans rfl
  have x9 : wc.cell? ⟨wq.heap.size, 9, none⟩ = some (.int .i64 d9) := (blk_cell V3.out 9).trans rfl
  have x10 : wc.cell? ⟨wq.heap.size, 10, none⟩ = some (.int .i64 d10) := (blk_cell V3.out 10).trans rfl
  have x11 : wc.cell? ⟨wq.heap.size, 11, none⟩ = some (.int .i64 d11) := (blk_cell V3.out 11).trans rfl
  have x12 : wc.cell? ⟨wq.heap.size, 12, none⟩ = some (.int .i64 d12) := (blk_cell V3.out 12).trans rfl
  go_wp2_with ((with_reducible refine gate_store (t := 41 ) (p := 2) rfl ?_); refine seg.list rfl rfl 41 (.tmp 2) _ rfl 41 w.heap.size 0 #[.int .i64 0, .int .i64 0, .int .i64 0, .int .i64 0, .int .i64 0, .int .i64 0, .int .i64 0, .int .i64 0, .int .i64 0, .int .i64 0, .int .i64 0, .int .i64 0, .int .i64 0] #[.int .i64 d0, .int .i64 d1, .int .i64 d2, .int .i64 d3, .int .i64 d4, .int .i64 d5, .int .i64 d6, .int .i64 d7, .int .i64 d8, .int .i64 d9, .int .i64 d10, .int .i64 d11, .int .i64 d12] [.int .i64 d0, .int .i64 d1, .int .i64 d2, .int .i64 d3, .int .i64 d4, .int .i64 d5, .int .i64 d6, .int .i64 d7, .int .i64 d8, .int .i64 d9, .int .i64 d10, .int .i64 d11, .int .i64 d12] rfl rfl (by kernel_rfl) (by simp [Value.oneCell']) Z3.out (by simp) rfl ?_; intro w9 bx hgr)
  refine bodyPost_ret (results_ct (p := 2) (u := 3) rfl _ w9 w.heap.size 41 _ (0, 0) _ rfl bx Try.underlying41 rfl (by kernel_rfl)) rfl ?_
  exact ⟨by rw [E0.out, E1.out, E2.out, E3.out, E4.out, E5.out, E6.out, E7.out, E8.out, E9.out, E10.out, E11.out, E12.out]; rfl, seg.below HB3.out hgr (Nat.le_refl _)⟩
/-! ### vendmeterref_Decoded: function 18 (by hand) -/
def vendmeterref_Decoded.f (l0 : List Int) : Option (Int × Int × Int × Int × Int × Int × Int × Int × Int × Int × Int × Int × Int × Int) := some (if l0.length = 13 then (if evOk (wrap64 (l0.getD 0 0)) (wrap64 (l0.getD 1 0)) (wrap64 (l0.getD 2 0)) (wrap64 (l0.getD 3 0)) (wrap64 (l0.getD 4 0)) (wrap64 (l0.getD 5 0)) (wrap64 (l0.getD 6 0)) (wrap64 (l0.getD 7 0)) (wrap64 (l0.getD 8 0)) (wrap64 (l0.getD 9 0)) (wrap64 (l0.getD 10 0)) (wrap64 (l0.getD 11 0)) (wrap64 (l0.getD 12 0)) = true then ((wrap64 (l0.getD 0 0)), (wrap64 (l0.getD 1 0)), (wrap64 (l0.getD 2 0)), (wrap64 (l0.getD 3 0)), (wrap64 (l0.getD 4 0)), (wrap64 (l0.getD 5 0)), (wrap64 (l0.getD 6 0)), (wrap64 (l0.getD 7 0)), (wrap64 (l0.getD 8 0)), (wrap64 (l0.getD 9 0)), (wrap64 (l0.getD 10 0)), (wrap64 (l0.getD 11 0)), (wrap64 (l0.getD 12 0)), 0) else (0, 0, 0, 0, 0, 0, 0, 0, 0, 0, 0, 0, 0, 5)) else (0, 0, 0, 0, 0, 0, 0, 0, 0, 0, 0, 0, 0, 1))
theorem vendmeterref_Decoded.calls (A0 : Option Addr) (c0 : Nat) (l0 : List Int) (r1 : Int) (r2 : Int) (r3 : Int) (r4 : Int) (r5 : Int) (r6 : Int) (r7 : Int) (r8 : Int) (r9 : Int) (r10 : Int) (r11 : Int) (r12 : Int) (r13 : Int) (r14 : Int) (w : World) (hr0 : Kd.C (Kd.int .u32) w A0 l0.length l0) (hc0 : l0.length ≤ c0) (h : vendmeterref_Decoded.f l0 = some (r1, r2, r3, r4, r5, r6, r7, r8, r9, r10, r11, r12, r13, r14)) :
    Calls Try.prog 18 #[.slice A0 l0.length c0] w fun e w' => e = .returned (.tuple #[.agg #[.int .i64 r1, .int .i64 r2, .int .i64 r3, .int .i64 r4, .int .i64 r5, .int .i64 r6, .int .i64 r7, .int .i64 r8, .int .i64 r9, .int .i64 r10, .int .i64 r11, .int .i64 r12, .int .i64 r13], .int .i64 r14]) ∧ Below w.heap.size w w' := by
  unfold vendmeterref_Decoded.f at h
  have h := Option.some.inj h
  split at h
  · rename_i hl
    split at h
    · rename_i ho
      simp only [Prod.mk.injEq] at h
      obtain ⟨rfl, rfl, rfl, rfl, rfl, rfl, rfl, rfl, rfl, rfl, rfl, rfl, rfl, rfl⟩ := h
      exact vendmeterref_Decoded.yes w A0 c0 l0 hl hr0 ho
    · rename_i ho
      simp only [Prod.mk.injEq] at h
      obtain ⟨rfl, rfl, rfl, rfl, rfl, rfl, rfl, rfl, rfl, rfl, rfl, rfl, rfl, rfl⟩ := h
      exact vendmeterref_Decoded.no w A0 c0 l0 hl hr0 (by simpa using ho)
  · rename_i hl
    simp only [Prod.mk.injEq] at h
    obtain ⟨rfl, rfl, rfl, rfl, rfl, rfl, rfl, rfl, rfl, rfl, rfl, rfl, rfl, rfl⟩ := h
    exact vendmeterref_Decoded.size w A0 c0 l0 hl

end Go.Proofs.Ytojnaalncgofhaa.PBookDecodes
