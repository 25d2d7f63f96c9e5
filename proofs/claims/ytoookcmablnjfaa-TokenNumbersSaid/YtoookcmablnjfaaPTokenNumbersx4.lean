-- written by this session's program wip/xp/xprint.py (it drives the kit's print and adds to it)
import Derived.Test.YtoookcmablnjfaaPTokenNumbersx0
import Derived.Test.YtoookcmablnjfaaPTokenNumbersx2
import Derived.Test.YtoookcmablnjfaaPTokenNumbersx3
namespace Go.Proofs.Ytoookcmablnjfaa.PTokenNumbers
open Go.RowKit Go.Proofs.YtoookcmablnjfaaW.PrintWords Go.Proofs.YtoookcmablnjfaaW.PrintLast Go.Proofs.YtoookcmablnjfaaW.PrintMore
attribute [local go_sem] max2_int min2_int max_two min_two max_three min_three max_four min_four   -- for this text's walks alone
set_option linter.unusedVariables false
set_option linter.unusedSimpArgs false

theorem tk_e3 {v : Int} (h : 0 ≤ v ∧ v < 79228162514264337593543950336) : wval [v % 4294967296, v / 4294967296 % 4294967296, v / 18446744073709551616 % 4294967296] = v := by
  simp only [wval]
  omega
theorem tk_put (W : World) (V v : Int) (lo n : Nat) (hV : 0 ≤ V ∧ V < 2 ^ lo) (hv : 0 ≤ v ∧ v < 2 ^ n) (hn : 1 ≤ n) (hn2 : n ≤ 64) (hl : lo + n ≤ 96) :
    Calls Try.prog 27 #[.agg #[.int .u32 (V % 4294967296), .int .u32 (V / 4294967296 % 4294967296), .int .u32 (V / 18446744073709551616 % 4294967296)], .int .i64 (lo : Int), .int .i64 (n : Int), .int .u64 v] W fun e w' => e = .returned (.tuple #[.agg #[.int .u32 ((V + v * 2 ^ lo) % 4294967296), .int .u32 ((V + v * 2 ^ lo) / 4294967296 % 4294967296), .int .u32 ((V + v * 2 ^ lo) / 18446744073709551616 % 4294967296)], .int .i64 0]) ∧ Below W.heap.size W w' := by
  have hp : (2 : Int) ^ lo ≤ 79228162514264337593543950336 := by
    have h := Nat.pow_le_pow_right (n := 2) (by decide) (show lo ≤ 96 by omega)
    have h2 := Int.ofNat_le.2 h
    rw [Int.natCast_pow] at h2
    exact h2
  have hp2 : (2 : Int) ^ n ≤ 18446744073709551616 := by
    have h := Nat.pow_le_pow_right (n := 2) (by decide) hn2
    have h2 := Int.ofNat_le.2 h
    rw [Int.natCast_pow] at h2
    exact h2
  have h := words_Put.at_ W (V % 4294967296) (V / 4294967296 % 4294967296) (V / 18446744073709551616 % 4294967296) v (by omega) (by omega) (by omega) lo n hn hn2 hl ⟨hv.1, by omega⟩ hv.2
  have e : fpv (wval [V % 4294967296, V / 4294967296 % 4294967296, V / 18446744073709551616 % 4294967296]) v lo n = V + v * 2 ^ lo := by
    rw [tk_e3 ⟨hV.1, by omega⟩, fpv, Int.ediv_eq_zero_of_lt hV.1 hV.2]
    simp
  rw [e] at h
  exact h
def tkAt : Nat → Int
  | 0 => 0
  | 1 => 16
  | 2 => 37
  | 3 => 57
  | _ => 59
def tkV (c i a t : Int) : Nat → Int
  | 0 => 0
  | 1 => t
  | 2 => t + a * 65536
  | 3 => t + a * 65536 + i * 137438953472
  | _ => t + a * 65536 + i * 137438953472 + c * 144115188075855872
theorem tk_ix0 (W : World) (c i a t : Int) : (Instr.index 64 (.agg #[.int .i64 16, .int .i64 t, .int .i64 21, .int .i64 a, .int .i64 20, .int .i64 i, .int .i64 2, .int .i64 c]) (.int .i64 0)).run Try.prog W = .ok (.agg #[.int .i64 16, .int .i64 t]) W := by
  simp [Instr.index, run_underlying Try.underlying64, asIntOf, go_sem]
theorem tk_ix1 (W : World) (c i a t : Int) : (Instr.index 64 (.agg #[.int .i64 16, .int .i64 t, .int .i64 21, .int .i64 a, .int .i64 20, .int .i64 i, .int .i64 2, .int .i64 c]) (.int .i64 1)).run Try.prog W = .ok (.agg #[.int .i64 21, .int .i64 a]) W := by
  simp [Instr.index, run_underlying Try.underlying64, asIntOf, go_sem]
theorem tk_ix2 (W : World) (c i a t : Int) : (Instr.index 64 (.agg #[.int .i64 16, .int .i64 t, .int .i64 21, .int .i64 a, .int .i64 20, .int .i64 i, .int .i64 2, .int .i64 c]) (.int .i64 2)).run Try.prog W = .ok (.agg #[.int .i64 20, .int .i64 i]) W := by
  simp [Instr.index, run_underlying Try.underlying64, asIntOf, go_sem]
theorem tk_ix3 (W : World) (c i a t : Int) : (Instr.index 64 (.agg #[.int .i64 16, .int .i64 t, .int .i64 21, .int .i64 a, .int .i64 20, .int .i64 i, .int .i64 2, .int .i64 c]) (.int .i64 3)).run Try.prog W = .ok (.agg #[.int .i64 2, .int .i64 c]) W := by
  simp [Instr.index, run_underlying Try.underlying64, asIntOf, go_sem]

set_option maxHeartbeats 8000000 in
set_option maxRecDepth 100000 in
theorem token_Words.bad (w : World) (c i a t er : Int) (hf : token_fault.f c i a t = some er) (he : er ≠ 0) :
    Calls Try.prog 10 #[.agg #[.int .i64 c, .int .i64 i, .int .i64 a, .int .i64 t]] w fun e w' => e = .returned (.tuple #[.agg #[.int .u32 0, .int .u32 0, .int .u32 0], .int .i64 er]) ∧ Below w.heap.size w w' := by
  have hu24 := Try.underlying24
  have hu28 := Try.underlying28
  have HF := Aside0.mk hf
  have t1 : (er != 0) = true := bne_iff_ne.mpr he
  have t2 : (er == 0) = false := beq_eq_false_iff_ne.mpr he
  have HB := Aside0.mk (below_alloc (below_alloc (Below.refl w.heap.size w) (.cells #[.int .i64 c, .int .i64 i, .int .i64 a, .int .i64 t] 28)) (.cells #[.int .u32 0, .int .u32 0, .int .u32 0] 24))
  have B2 := blk_new (w.alloc (.cells #[.int .i64 c, .int .i64 i, .int .i64 a, .int .i64 t] 28)) (.cells #[.int .u32 0, .int .u32 0, .int .u32 0] 24)
  rw [World.size_alloc] at B2
  have H2 := Aside0.mk B2
  clear B2 hf he
  go_enter Try.func10, Try.ntmps10
  go_wp2_with (first | (go_at_call 26; refine (token_fault.calls _ _ _ _ _ _ HF.out).mono ?_; rintro e wa ⟨rfl, hb⟩; have J2 := Aside0.mk (blk_below H2.out hb); have JB := Aside0.mk (below_then HB.out HB.out.size hb); clear hb) | ((with_reducible refine gate_store (t := 24) (p := 2) rfl ?_); refine seg.list rfl rfl 24 (.tmp 2) _ rfl 24 (w.heap.size + 1) 0 #[.int .u32 0, .int .u32 0, .int .u32 0] #[.int .u32 0, .int .u32 0, .int .u32 0] [.int .u32 0, .int .u32 0, .int .u32 0] rfl rfl (by kernel_rfl) (by simp [Value.oneCell']) J2.out (by simp) rfl ?_; intro w9 bx hgr))
  refine bodyPost_ret (results_ct (p := 2) (u := 3) rfl _ w9 (w.heap.size + 1) 24 _ (0, 0) _ rfl bx Try.underlying24 rfl (by kernel_rfl)) rfl ?_
  exact ⟨rfl, seg.below JB.out hgr (Nat.le_succ _)⟩
set_option maxHeartbeats 8000000 in
set_option maxRecDepth 100000 in
theorem token_Words.at_ (w : World) (c i a t : Int) (hf : token_fault.f c i a t = some 0) (hc : 0 ≤ c ∧ c ≤ 3) (hi : 0 ≤ i ∧ i ≤ 1048575) (ha : 0 ≤ a ∧ a ≤ 2097151) (ht : 0 ≤ t ∧ t ≤ 65535) :
    Calls Try.prog 10 #[.agg #[.int .i64 c, .int .i64 i, .int .i64 a, .int .i64 t]] w fun e w' => e = .returned (.tuple #[.agg #[.int .u32 (((t + a * 65536 + i * 137438953472 + c * 144115188075855872) * 97) % 4294967296), .int .u32 (((t + a * 65536 + i * 137438953472 + c * 144115188075855872) * 97) / 4294967296 % 4294967296), .int .u32 (((t + a * 65536 + i * 137438953472 + c * 144115188075855872) * 97) / 18446744073709551616 % 4294967296)], .int .i64 0]) ∧ Below w.heap.size w w' := by
  have hu24 := Try.underlying24
  have hu28 := Try.underlying28
  have hu63 := Try.underlying63
  have hu64 := Try.underlying64
  have HF := Aside0.mk hf
  have HR := Aside0.mk (And.intro hc (And.intro hi (And.intro ha ht)))
  have wc_ : IntKind.u64.wrap c = c := wu64 ⟨by omega, by omega⟩
  have wi_ : IntKind.u64.wrap i = i := wu64 ⟨by omega, by omega⟩
  have wa_ : IntKind.u64.wrap a = a := wu64 ⟨by omega, by omega⟩
  have wt_ : IntKind.u64.wrap t = t := wu64 ⟨by omega, by omega⟩
  have HB := Aside0.mk (below_alloc (below_alloc (Below.refl w.heap.size w) (.cells #[.int .i64 c, .int .i64 i, .int .i64 a, .int .i64 t] 28)) (.cells #[.int .u32 0, .int .u32 0, .int .u32 0] 24))
  have B1 := blk_alloc (blk_new w (.cells #[.int .i64 c, .int .i64 i, .int .i64 a, .int .i64 t] 28)) (.cells #[.int .u32 0, .int .u32 0, .int .u32 0] 24)
  have B2 := blk_new (w.alloc (.cells #[.int .i64 c, .int .i64 i, .int .i64 a, .int .i64 t] 28)) (.cells #[.int .u32 0, .int .u32 0, .int .u32 0] 24)
  rw [World.size_alloc] at B2
  have H1 := Aside0.mk B1
  have H2 := Aside0.mk B2
  clear B1 B2 hf hc hi ha ht
  go_enter Try.func10, Try.ntmps10
  go_wp2_with (go_at_call 26; refine (token_fault.calls _ _ _ _ _ _ HF.out).mono ?_; rintro e wa ⟨rfl, hb⟩; have J1 := Aside0.mk (blk_below H1.out hb); have J2 := Aside0.mk (blk_below H2.out hb); have JB := Aside0.mk (below_then HB.out HB.out.size hb); have JT := Aside0.mk (blk_new wa (.cells #[.int .u32 0, .int .u32 0, .int .u32 0] 24)); have y0_ : ∀ o, (wa.alloc o).cell? ⟨w.heap.size, 0, none⟩ = some (.int .i64 c) := fun o => (blk_cell (blk_alloc J1.out o) 0).trans rfl; have y1_ : ∀ o, (wa.alloc o).cell? ⟨w.heap.size, 1, none⟩ = some (.int .i64 i) := fun o => (blk_cell (blk_alloc J1.out o) 1).trans rfl; have y2_ : ∀ o, (wa.alloc o).cell? ⟨w.heap.size, 2, none⟩ = some (.int .i64 a) := fun o => (blk_cell (blk_alloc J1.out o) 2).trans rfl; have y3_ : ∀ o, (wa.alloc o).cell? ⟨w.heap.size, 3, none⟩ = some (.int .i64 t) := fun o => (blk_cell (blk_alloc J1.out o) 3).trans rfl; clear hb)
  clear y0_ y1_ y2_ y3_
  have HBA := Aside0.mk (below_alloc JB.out (.cells #[.int .u32 0, .int .u32 0, .int .u32 0] 24))
  have K2 := Aside0.mk (blk_alloc J2.out (.cells #[.int .u32 0, .int .u32 0, .int .u32 0] 24))
  go_loopg [6, 8, 28] 4 (fun kq v6 v8 v28 w' => ∃ (n : Nat) (ii aa : Int), v28 = .int .i64 ii ∧ v6 = .int .i64 aa ∧ Aside0 (n ≤ 4 ∧ kq = 4 - n ∧ ii = (n : Int) ∧ aa = tkAt n) ∧ Aside0 (w'.heap[wa.heap.size]? = some (.cells #[.int .u32 (tkV c i a t n % 4294967296), .int .u32 (tkV c i a t n / 4294967296 % 4294967296), .int .u32 (tkV c i a t n / 18446744073709551616 % 4294967296)] 24 (0, 0))) ∧ Aside0 (w'.heap[w.heap.size + 1]? = some (.cells #[.int .u32 0, .int .u32 0, .int .u32 0] 24 (0, 0))) ∧ Aside0 (Below w.heap.size w w'))
  case atStart => exact ⟨0, 0, 0, rfl, rfl, ⟨by decide, rfl, rfl, rfl⟩, JT, K2, HBA⟩
  case round =>
    have JL := Aside0.mk (blk_lt J2.out)
    have JS := Aside0.mk JB.out.size
    clear JT K2 HBA J1 J2 JB H1 H2 HB HF
    obtain ⟨n, ii, aa, rfl, rfl, HI, B5, B2, HB⟩ := hrel
    have hn5 : n = 0 ∨ n = 1 ∨ n = 2 ∨ n = 3 ∨ n = 4 := by have := HI.out.1; omega
    rcases hn5 with rfl | rfl | rfl | rfl | rfl
    · obtain ⟨rfl, rfl⟩ : ii = 0 ∧ aa = 0 := ⟨HI.out.2.2.1, HI.out.2.2.2⟩
      have hix := fun W : World => tk_ix0 W c i a t
      go_wp2_with (first | ((with_reducible refine gate_store (t := 63) (p := 8) rfl ?_); refine seg.list rfl rfl 63 (.tmp 8) _ rfl 63 wr.heap.size 0 #[.int .i64 0, .int .i64 0] #[.int .i64 16, .int .i64 t] [.int .i64 16, .int .i64 t] rfl rfl (by kernel_rfl) (by simp [Value.oneCell']) (blk_new wr _) (by simp) rfl ?_; intro wb b8 hg; have Q8 := Aside0.mk b8; have Q5 := Aside0.mk (seg.far (blk_alloc B5.out _) hg (Nat.ne_of_lt (blk_lt B5.out))); have Q2 := Aside0.mk (seg.far (blk_alloc B2.out _) hg (Nat.ne_of_lt (blk_lt B2.out))); have QB := Aside0.mk (seg.below (below_alloc HB.out _) hg HB.out.size); have QL := Aside0.mk (blk_lt B5.out); have f0_ : wb.cell? ⟨wr.heap.size, 0, none⟩ = some (.int .i64 16) := (blk_cell Q8.out 0).trans rfl; have f1_ : wb.cell? ⟨wr.heap.size, 1, none⟩ = some (.int .i64 t) := (blk_cell Q8.out 1).trans rfl; have x0_ : wb.cell? ⟨wa.heap.size, 0, none⟩ = some (.int .u32 (tkV c i a t 0 % 4294967296)) := (blk_cell Q5.out 0).trans rfl; have x1_ : wb.cell? ⟨wa.heap.size, 1, none⟩ = some (.int .u32 (tkV c i a t 0 / 4294967296 % 4294967296)) := (blk_cell Q5.out 1).trans rfl; have x2_ : wb.cell? ⟨wa.heap.size, 2, none⟩ = some (.int .u32 (tkV c i a t 0 / 18446744073709551616 % 4294967296)) := (blk_cell Q5.out 2).trans rfl; clear b8 hg) | (go_at_call 27; refine (tk_put _ (tkV c i a t 0) t 0 16 (by have := HR.out; simp only [tkV]; omega) (by have := HR.out; omega) (by decide) (by decide) (by decide)).mono ?_; rintro e wc ⟨rfl, hb⟩; have R5 := Aside0.mk (blk_below Q5.out hb); have R2 := Aside0.mk (blk_below Q2.out hb); have RB := Aside0.mk (below_then QB.out QB.out.size hb); have g0_ : wc.cell? ⟨wr.heap.size, 0, none⟩ = some (.int .i64 16) := (blk_cell (blk_below Q8.out hb) 0).trans rfl; have R8 := Aside0.mk (blk_below Q8.out hb); clear hb f0_ f1_ x0_ x1_ x2_) | ((with_reducible refine gate_store (t := 24) (p := 5) rfl ?_); refine seg.list rfl rfl 24 (.tmp 5) _ rfl 24 (wa.heap.size) 0 #[.int .u32 (tkV c i a t 0 % 4294967296), .int .u32 (tkV c i a t 0 / 4294967296 % 4294967296), .int .u32 (tkV c i a t 0 / 18446744073709551616 % 4294967296)] #[.int .u32 ((tkV c i a t 0 + t) % 4294967296), .int .u32 ((tkV c i a t 0 + t) / 4294967296 % 4294967296), .int .u32 ((tkV c i a t 0 + t) / 18446744073709551616 % 4294967296)] [.int .u32 ((tkV c i a t 0 + t) % 4294967296), .int .u32 ((tkV c i a t 0 + t) / 4294967296 % 4294967296), .int .u32 ((tkV c i a t 0 + t) / 18446744073709551616 % 4294967296)] rfl rfl (by kernel_rfl) (by simp [Value.oneCell']) R5.out (by simp) rfl ?_; intro wd b5 hg; have T5 := Aside0.mk b5; have T2 := Aside0.mk (seg.far R2.out hg (by have := JL.out; omega)); have TB := Aside0.mk (seg.below RB.out hg (by have := JS.out; omega)); have h0_ : wd.cell? ⟨wr.heap.size, 0, none⟩ = some (.int .i64 16) := (blk_cell (seg.far R8.out hg (Nat.ne_of_gt QL.out)) 0).trans rfl; clear b5 hg g0_))
      go_roundg 3
      case measure => have := HI.out; omega
      case rel => exact ⟨1, 1, 16, by first | rfl | simp, by first | rfl | simp, ⟨by decide, by decide, rfl, rfl⟩, ⟨by have h := T5.out; rw [show tkV c i a t 0 + t = tkV c i a t 1 from by simp only [tkV]; omega] at h; exact h⟩, T2, TB⟩
    · obtain ⟨rfl, rfl⟩ : ii = 1 ∧ aa = 16 := ⟨HI.out.2.2.1, HI.out.2.2.2⟩
      have hix := fun W : World => tk_ix1 W c i a t
      go_wp2_with (first | ((with_reducible refine gate_store (t := 63) (p := 8) rfl ?_); refine seg.list rfl rfl 63 (.tmp 8) _ rfl 63 wr.heap.size 0 #[.int .i64 0, .int .i64 0] #[.int .i64 21, .int .i64 a] [.int .i64 21, .int .i64 a] rfl rfl (by kernel_rfl) (by simp [Value.oneCell']) (blk_new wr _) (by simp) rfl ?_; intro wb b8 hg; have Q8 := Aside0.mk b8; have Q5 := Aside0.mk (seg.far (blk_alloc B5.out _) hg (Nat.ne_of_lt (blk_lt B5.out))); have Q2 := Aside0.mk (seg.far (blk_alloc B2.out _) hg (Nat.ne_of_lt (blk_lt B2.out))); have QB := Aside0.mk (seg.below (below_alloc HB.out _) hg HB.out.size); have QL := Aside0.mk (blk_lt B5.out); have f0_ : wb.cell? ⟨wr.heap.size, 0, none⟩ = some (.int .i64 21) := (blk_cell Q8.out 0).trans rfl; have f1_ : wb.cell? ⟨wr.heap.size, 1, none⟩ = some (.int .i64 a) := (blk_cell Q8.out 1).trans rfl; have x0_ : wb.cell? ⟨wa.heap.size, 0, none⟩ = some (.int .u32 (tkV c i a t 1 % 4294967296)) := (blk_cell Q5.out 0).trans rfl; have x1_ : wb.cell? ⟨wa.heap.size, 1, none⟩ = some (.int .u32 (tkV c i a t 1 / 4294967296 % 4294967296)) := (blk_cell Q5.out 1).trans rfl; have x2_ : wb.cell? ⟨wa.heap.size, 2, none⟩ = some (.int .u32 (tkV c i a t 1 / 18446744073709551616 % 4294967296)) := (blk_cell Q5.out 2).trans rfl; clear b8 hg) | (go_at_call 27; refine (tk_put _ (tkV c i a t 1) a 16 21 (by have := HR.out; simp only [tkV]; omega) (by have := HR.out; omega) (by decide) (by decide) (by decide)).mono ?_; rintro e wc ⟨rfl, hb⟩; have R5 := Aside0.mk (blk_below Q5.out hb); have R2 := Aside0.mk (blk_below Q2.out hb); have RB := Aside0.mk (below_then QB.out QB.out.size hb); have g0_ : wc.cell? ⟨wr.heap.size, 0, none⟩ = some (.int .i64 21) := (blk_cell (blk_below Q8.out hb) 0).trans rfl; have R8 := Aside0.mk (blk_below Q8.out hb); clear hb f0_ f1_ x0_ x1_ x2_) | ((with_reducible refine gate_store (t := 24) (p := 5) rfl ?_); refine seg.list rfl rfl 24 (.tmp 5) _ rfl 24 (wa.heap.size) 0 #[.int .u32 (tkV c i a t 1 % 4294967296), .int .u32 (tkV c i a t 1 / 4294967296 % 4294967296), .int .u32 (tkV c i a t 1 / 18446744073709551616 % 4294967296)] #[.int .u32 ((tkV c i a t 1 + a * 2 ^ 16) % 4294967296), .int .u32 ((tkV c i a t 1 + a * 2 ^ 16) / 4294967296 % 4294967296), .int .u32 ((tkV c i a t 1 + a * 2 ^ 16) / 18446744073709551616 % 4294967296)] [.int .u32 ((tkV c i a t 1 + a * 2 ^ 16) % 4294967296), .int .u32 ((tkV c i a t 1 + a * 2 ^ 16) / 4294967296 % 4294967296), .int .u32 ((tkV c i a t 1 + a * 2 ^ 16) / 18446744073709551616 % 4294967296)] rfl rfl (by kernel_rfl) (by simp [Value.oneCell']) R5.out (by simp) rfl ?_; intro wd b5 hg; have T5 := Aside0.mk b5; have T2 := Aside0.mk (seg.far R2.out hg (by have := JL.out; omega)); have TB := Aside0.mk (seg.below RB.out hg (by have := JS.out; omega)); have h0_ : wd.cell? ⟨wr.heap.size, 0, none⟩ = some (.int .i64 21) := (blk_cell (seg.far R8.out hg (Nat.ne_of_gt QL.out)) 0).trans rfl; clear b5 hg g0_))
      go_roundg 2
      case measure => have := HI.out; omega
      case rel => exact ⟨2, 2, 37, by first | rfl | simp, by first | rfl | simp, ⟨by decide, by decide, rfl, rfl⟩, ⟨by have h := T5.out; rw [show tkV c i a t 1 + a * 2 ^ 16 = tkV c i a t 2 from by simp only [tkV]; omega] at h; exact h⟩, T2, TB⟩
    · obtain ⟨rfl, rfl⟩ : ii = 2 ∧ aa = 37 := ⟨HI.out.2.2.1, HI.out.2.2.2⟩
      have hix := fun W : World => tk_ix2 W c i a t
      go_wp2_with (first | ((with_reducible refine gate_store (t := 63) (p := 8) rfl ?_); refine seg.list rfl rfl 63 (.tmp 8) _ rfl 63 wr.heap.size 0 #[.int .i64 0, .int .i64 0] #[.int .i64 20, .int .i64 i] [.int .i64 20, .int .i64 i] rfl rfl (by kernel_rfl) (by simp [Value.oneCell']) (blk_new wr _) (by simp) rfl ?_; intro wb b8 hg; have Q8 := Aside0.mk b8; have Q5 := Aside0.mk (seg.far (blk_alloc B5.out _) hg (Nat.ne_of_lt (blk_lt B5.out))); have Q2 := Aside0.mk (seg.far (blk_alloc B2.out _) hg (Nat.ne_of_lt (blk_lt B2.out))); have QB := Aside0.mk (seg.below (below_alloc HB.out _) hg HB.out.size); have QL := Aside0.mk (blk_lt B5.out); have f0_ : wb.cell? ⟨wr.heap.size, 0, none⟩ = some (.int .i64 20) := (blk_cell Q8.out 0).trans rfl; have f1_ : wb.cell? ⟨wr.heap.size, 1, none⟩ = some (.int .i64 i) := (blk_cell Q8.out 1).trans rfl; have x0_ : wb.cell? ⟨wa.heap.size, 0, none⟩ = some (.int .u32 (tkV c i a t 2 % 4294967296)) := (blk_cell Q5.out 0).trans rfl; have x1_ : wb.cell? ⟨wa.heap.size, 1, none⟩ = some (.int .u32 (tkV c i a t 2 / 4294967296 % 4294967296)) := (blk_cell Q5.out 1).trans rfl; have x2_ : wb.cell? ⟨wa.heap.size, 2, none⟩ = some (.int .u32 (tkV c i a t 2 / 18446744073709551616 % 4294967296)) := (blk_cell Q5.out 2).trans rfl; clear b8 hg) | (go_at_call 27; refine (tk_put _ (tkV c i a t 2) i 37 20 (by have := HR.out; simp only [tkV]; omega) (by have := HR.out; omega) (by decide) (by decide) (by decide)).mono ?_; rintro e wc ⟨rfl, hb⟩; have R5 := Aside0.mk (blk_below Q5.out hb); have R2 := Aside0.mk (blk_below Q2.out hb); have RB := Aside0.mk (below_then QB.out QB.out.size hb); have g0_ : wc.cell? ⟨wr.heap.size, 0, none⟩ = some (.int .i64 20) := (blk_cell (blk_below Q8.out hb) 0).trans rfl; have R8 := Aside0.mk (blk_below Q8.out hb); clear hb f0_ f1_ x0_ x1_ x2_) | ((with_reducible refine gate_store (t := 24) (p := 5) rfl ?_); refine seg.list rfl rfl 24 (.tmp 5) _ rfl 24 (wa.heap.size) 0 #[.int .u32 (tkV c i a t 2 % 4294967296), .int .u32 (tkV c i a t 2 / 4294967296 % 4294967296), .int .u32 (tkV c i a t 2 / 18446744073709551616 % 4294967296)] #[.int .u32 ((tkV c i a t 2 + i * 2 ^ 37) % 4294967296), .int .u32 ((tkV c i a t 2 + i * 2 ^ 37) / 4294967296 % 4294967296), .int .u32 ((tkV c i a t 2 + i * 2 ^ 37) / 18446744073709551616 % 4294967296)] [.int .u32 ((tkV c i a t 2 + i * 2 ^ 37) % 4294967296), .int .u32 ((tkV c i a t 2 + i * 2 ^ 37) / 4294967296 % 4294967296), .int .u32 ((tkV c i a t 2 + i * 2 ^ 37) / 18446744073709551616 % 4294967296)] rfl rfl (by kernel_rfl) (by simp [Value.oneCell']) R5.out (by simp) rfl ?_; intro wd b5 hg; have T5 := Aside0.mk b5; have T2 := Aside0.mk (seg.far R2.out hg (by have := JL.out; omega)); have TB := Aside0.mk (seg.below RB.out hg (by have := JS.out; omega)); have h0_ : wd.cell? ⟨wr.heap.size, 0, none⟩ = some (.int .i64 20) := (blk_cell (seg.far R8.out hg (Nat.ne_of_gt QL.out)) 0).trans rfl; clear b5 hg g0_))
      go_roundg 1
      case measure => have := HI.out; omega
      case rel => exact ⟨3, 3, 57, by first | rfl | simp, by first | rfl | simp, ⟨by decide, by decide, rfl, rfl⟩, ⟨by have h := T5.out; rw [show tkV c i a t 2 + i * 2 ^ 37 = tkV c i a t 3 from by simp only [tkV]; omega] at h; exact h⟩, T2, TB⟩
    · obtain ⟨rfl, rfl⟩ : ii = 3 ∧ aa = 57 := ⟨HI.out.2.2.1, HI.out.2.2.2⟩
      have hix := fun W : World => tk_ix3 W c i a t
      go_wp2_with (first | ((with_reducible refine gate_store (t := 63) (p := 8) rfl ?_); refine seg.list rfl rfl 63 (.tmp 8) _ rfl 63 wr.heap.size 0 #[.int .i64 0, .int .i64 0] #[.int .i64 2, .int .i64 c] [.int .i64 2, .int .i64 c] rfl rfl (by kernel_rfl) (by simp [Value.oneCell']) (blk_new wr _) (by simp) rfl ?_; intro wb b8 hg; have Q8 := Aside0.mk b8; have Q5 := Aside0.mk (seg.far (blk_alloc B5.out _) hg (Nat.ne_of_lt (blk_lt B5.out))); have Q2 := Aside0.mk (seg.far (blk_alloc B2.out _) hg (Nat.ne_of_lt (blk_lt B2.out))); have QB := Aside0.mk (seg.below (below_alloc HB.out _) hg HB.out.size); have QL := Aside0.mk (blk_lt B5.out); have f0_ : wb.cell? ⟨wr.heap.size, 0, none⟩ = some (.int .i64 2) := (blk_cell Q8.out 0).trans rfl; have f1_ : wb.cell? ⟨wr.heap.size, 1, none⟩ = some (.int .i64 c) := (blk_cell Q8.out 1).trans rfl; have x0_ : wb.cell? ⟨wa.heap.size, 0, none⟩ = some (.int .u32 (tkV c i a t 3 % 4294967296)) := (blk_cell Q5.out 0).trans rfl; have x1_ : wb.cell? ⟨wa.heap.size, 1, none⟩ = some (.int .u32 (tkV c i a t 3 / 4294967296 % 4294967296)) := (blk_cell Q5.out 1).trans rfl; have x2_ : wb.cell? ⟨wa.heap.size, 2, none⟩ = some (.int .u32 (tkV c i a t 3 / 18446744073709551616 % 4294967296)) := (blk_cell Q5.out 2).trans rfl; clear b8 hg) | (go_at_call 27; refine (tk_put _ (tkV c i a t 3) c 57 2 (by have := HR.out; simp only [tkV]; omega) (by have := HR.out; omega) (by decide) (by decide) (by decide)).mono ?_; rintro e wc ⟨rfl, hb⟩; have R5 := Aside0.mk (blk_below Q5.out hb); have R2 := Aside0.mk (blk_below Q2.out hb); have RB := Aside0.mk (below_then QB.out QB.out.size hb); have g0_ : wc.cell? ⟨wr.heap.size, 0, none⟩ = some (.int .i64 2) := (blk_cell (blk_below Q8.out hb) 0).trans rfl; have R8 := Aside0.mk (blk_below Q8.out hb); clear hb f0_ f1_ x0_ x1_ x2_) | ((with_reducible refine gate_store (t := 24) (p := 5) rfl ?_); refine seg.list rfl rfl 24 (.tmp 5) _ rfl 24 (wa.heap.size) 0 #[.int .u32 (tkV c i a t 3 % 4294967296), .int .u32 (tkV c i a t 3 / 4294967296 % 4294967296), .int .u32 (tkV c i a t 3 / 18446744073709551616 % 4294967296)] #[.int .u32 ((tkV c i a t 3 + c * 2 ^ 57) % 4294967296), .int .u32 ((tkV c i a t 3 + c * 2 ^ 57) / 4294967296 % 4294967296), .int .u32 ((tkV c i a t 3 + c * 2 ^ 57) / 18446744073709551616 % 4294967296)] [.int .u32 ((tkV c i a t 3 + c * 2 ^ 57) % 4294967296), .int .u32 ((tkV c i a t 3 + c * 2 ^ 57) / 4294967296 % 4294967296), .int .u32 ((tkV c i a t 3 + c * 2 ^ 57) / 18446744073709551616 % 4294967296)] rfl rfl (by kernel_rfl) (by simp [Value.oneCell']) R5.out (by simp) rfl ?_; intro wd b5 hg; have T5 := Aside0.mk b5; have T2 := Aside0.mk (seg.far R2.out hg (by have := JL.out; omega)); have TB := Aside0.mk (seg.below RB.out hg (by have := JS.out; omega)); have h0_ : wd.cell? ⟨wr.heap.size, 0, none⟩ = some (.int .i64 2) := (blk_cell (seg.far R8.out hg (Nat.ne_of_gt QL.out)) 0).trans rfl; clear b5 hg g0_))
      go_roundg 0
      case measure => have := HI.out; omega
      case rel => exact ⟨4, 4, 59, by first | rfl | simp, by first | rfl | simp, ⟨by decide, by decide, rfl, rfl⟩, ⟨by have h := T5.out; rw [show tkV c i a t 3 + c * 2 ^ 57 = tkV c i a t 4 from by simp only [tkV]; omega] at h; exact h⟩, T2, TB⟩
    · obtain ⟨rfl, rfl⟩ : ii = 4 ∧ aa = 59 := ⟨HI.out.2.2.1, HI.out.2.2.2⟩
      have hV : 0 ≤ tkV c i a t 4 ∧ tkV c i a t 4 < 79228162514264337593543950336 := by have := HR.out; simp only [tkV]; omega
      have HT := Aside0.mk (fun W : World => words_Times.at_ W (tkV c i a t 4 % 4294967296) (tkV c i a t 4 / 4294967296 % 4294967296) (tkV c i a t 4 / 18446744073709551616 % 4294967296) 97 (by omega) (by omega) (by omega) ⟨by decide, by decide⟩)
      rw [tk_e3 hV] at HT
      have x0_ : wr.cell? ⟨wa.heap.size, 0, none⟩ = some (.int .u32 (tkV c i a t 4 % 4294967296)) := (blk_cell B5.out 0).trans rfl
      have x1_ : wr.cell? ⟨wa.heap.size, 1, none⟩ = some (.int .u32 (tkV c i a t 4 / 4294967296 % 4294967296)) := (blk_cell B5.out 1).trans rfl
      have x2_ : wr.cell? ⟨wa.heap.size, 2, none⟩ = some (.int .u32 (tkV c i a t 4 / 18446744073709551616 % 4294967296)) := (blk_cell B5.out 2).trans rfl
      obtain ⟨d0, hd0⟩ : ∃ d0, tkV c i a t 4 * 97 % 4294967296 = d0 := ⟨_, rfl⟩
      obtain ⟨d1, hd1⟩ : ∃ d1, tkV c i a t 4 * 97 / 4294967296 % 4294967296 = d1 := ⟨_, rfl⟩
      obtain ⟨d2, hd2⟩ : ∃ d2, tkV c i a t 4 * 97 / 18446744073709551616 % 4294967296 = d2 := ⟨_, rfl⟩
      rw [hd0, hd1, hd2] at HT
      have HD := Aside0.mk (And.intro hd0 (And.intro hd1 hd2))
      clear hV hd0 hd1 hd2
      go_upto_region 13 with (first | (go_at_call 28; refine (HT.out _).mono ?_; rintro e wb ⟨rfl, hb⟩; have Q5 := Aside0.mk (blk_below B5.out hb); have Q2 := Aside0.mk (blk_below B2.out hb); have QB := Aside0.mk (below_then HB.out HB.out.size hb); clear hb x0_ x1_ x2_) | ((with_reducible refine gate_store (t := 24) (p := 5) rfl ?_); refine seg.list rfl rfl 24 (.tmp 5) _ rfl 24 wa.heap.size 0 #[.int .u32 (tkV c i a t 4 % 4294967296), .int .u32 (tkV c i a t 4 / 4294967296 % 4294967296), .int .u32 (tkV c i a t 4 / 18446744073709551616 % 4294967296)] #[.int .u32 d0, .int .u32 d1, .int .u32 d2] [.int .u32 d0, .int .u32 d1, .int .u32 d2] rfl rfl (by kernel_rfl) (by simp [Value.oneCell']) Q5.out (by simp) rfl ?_; intro wc b5 hg; have R5 := Aside0.mk b5; have R2 := Aside0.mk (seg.far Q2.out hg (by have := JL.out; omega)); have RB := Aside0.mk (seg.below QB.out hg (by have := JS.out; omega)); clear b5 hg))
      have z0_ : wc.cell? ⟨wa.heap.size, 0, none⟩ = some (.int .u32 d0) := (blk_cell R5.out 0).trans rfl
      have z1_ : wc.cell? ⟨wa.heap.size, 1, none⟩ = some (.int .u32 d1) := (blk_cell R5.out 1).trans rfl
      have z2_ : wc.cell? ⟨wa.heap.size, 2, none⟩ = some (.int .u32 d2) := (blk_cell R5.out 2).trans rfl
      go_wp2_with ((with_reducible refine gate_store (t := 24) (p := 2) rfl ?_); refine seg.list rfl rfl 24 (.tmp 2) _ rfl 24 (w.heap.size + 1) 0 #[.int .u32 0, .int .u32 0, .int .u32 0] #[.int .u32 d0, .int .u32 d1, .int .u32 d2] [.int .u32 d0, .int .u32 d1, .int .u32 d2] rfl rfl (by kernel_rfl) (by simp [Value.oneCell']) R2.out (by simp) rfl ?_; intro w9 bx hgr)
      refine bodyPost_ret (results_ct (p := 2) (u := 3) rfl _ w9 (w.heap.size + 1) 24 _ (0, 0) _ rfl bx Try.underlying24 rfl (by kernel_rfl)) rfl ?_
      obtain ⟨hd0, hd1, hd2⟩ := HD.out
      exact ⟨by rw [← hd0, ← hd1, ← hd2]; rfl, seg.below RB.out hgr (Nat.le_succ _)⟩

/-! ### token_Words: function 10 (by hand) -/
def token_Words.f (a0_0 : Int) (a0_1 : Int) (a0_2 : Int) (a0_3 : Int) : Option (Int × Int × Int × Int) := (token_fault.f a0_0 a0_1 a0_2 a0_3).bind fun er => if er = 0 then (if (0 ≤ a0_0 ∧ a0_0 ≤ 3) ∧ (0 ≤ a0_1 ∧ a0_1 ≤ 1048575) ∧ (0 ≤ a0_2 ∧ a0_2 ≤ 2097151) ∧ (0 ≤ a0_3 ∧ a0_3 ≤ 65535) then some ((((a0_3 + a0_2 * 65536 + a0_1 * 137438953472 + a0_0 * 144115188075855872) * 97)) % 4294967296, (((a0_3 + a0_2 * 65536 + a0_1 * 137438953472 + a0_0 * 144115188075855872) * 97)) / 4294967296 % 4294967296, (((a0_3 + a0_2 * 65536 + a0_1 * 137438953472 + a0_0 * 144115188075855872) * 97)) / 18446744073709551616 % 4294967296, 0) else none) else some (0, 0, 0, er)
theorem token_Words.calls (a0_0 : Int) (a0_1 : Int) (a0_2 : Int) (a0_3 : Int) (r1 : Int) (r2 : Int) (r3 : Int) (r4 : Int) (w : World) (h : token_Words.f a0_0 a0_1 a0_2 a0_3 = some (r1, r2, r3, r4)) :
    Calls Try.prog 10 #[.agg #[.int .i64 a0_0, .int .i64 a0_1, .int .i64 a0_2, .int .i64 a0_3]] w fun e w' => e = .returned (.tuple #[.agg #[.int .u32 r1, .int .u32 r2, .int .u32 r3], .int .i64 r4]) ∧ Below w.heap.size w w' := by
  unfold token_Words.f at h
  obtain ⟨er, hf, h⟩ := Option.bind_eq_some_iff.mp h
  split at h
  · rename_i h0
    subst h0
    split at h
    · rename_i hc
      simp only [Option.some.injEq, Prod.mk.injEq] at h
      obtain ⟨rfl, rfl, rfl, rfl⟩ := h
      exact token_Words.at_ w a0_0 a0_1 a0_2 a0_3 hf hc.1 hc.2.1 hc.2.2.1 hc.2.2.2
    · cases h
  · rename_i h0
    simp only [Option.some.injEq, Prod.mk.injEq] at h
    obtain ⟨rfl, rfl, rfl, rfl⟩ := h
    exact token_Words.bad w a0_0 a0_1 a0_2 a0_3 er hf h0

/-! ### vendmeterref_In: function 43 -/
def vendmeterref_In.f (a0 : Int) (a1 : Int) (a2 : Int) : Option (Bool) := if a0 ≥ a1 then (some (decide (a0 ≤ a2))) else (some false)
set_option maxHeartbeats 8000000 in
set_option maxRecDepth 100000 in
theorem vendmeterref_In.calls (a0 : Int) (a1 : Int) (a2 : Int) (r : Bool) (w : World) (h : vendmeterref_In.f a0 a1 a2 = some r) :
    Calls Try.prog 43 #[.int .i64 a0, .int .i64 a1, .int .i64 a2] w fun e w' => e = .returned (.bool r) ∧ Drawn0 w w' := by
  have H : (if a0 ≥ a1 then (some (decide (a0 ≤ a2))) else (some false)) = some r := h
  clear h
  by_cases c4 : a0 ≥ a1
  · rw [if_pos c4] at H
    have c4b0 : decide (a1 ≤ a0) = true := decide_eq_true c4
    clear c4
    obtain rfl := Option.some.inj H
    go_enter Try.func43, Try.ntmps43
    go_wp2
    go_ret
    exact ⟨by first | rfl | (simp; done) | (simp [*]; done), by repeat (first | exact Drawn0.refl _ | apply Drawn0.step)⟩
  · rw [if_neg c4] at H
    have c4b0 : decide (a1 ≤ a0) = false := decide_eq_false c4
    clear c4
    obtain rfl := Option.some.inj H
    go_enter Try.func43, Try.ntmps43
    go_wp2
    go_ret
    exact ⟨by first | rfl | (simp; done) | (simp [*]; done), by repeat (first | exact Drawn0.refl _ | apply Drawn0.step)⟩

/-! ### vendmeterref_TokenFault: function 29 -/
mutual
def vendmeterref_TokenFault.j0 : Nat → Bool → Int → Int → Int → Int → Option (Int)
  | 0, _, _, _, _, _ => none
  | k + 1, x16, x106000, x106001, x106002, x106003 => if x16 = true then (some 2) else (if x106000 = 0 then ((vendmeterref_In.f x106002 1 2097151).bind fun t109 => (vendmeterref_TokenFault.j1 k (!t109) x106000 x106001 x106002 x106003)) else (vendmeterref_TokenFault.j1 k false x106000 x106001 x106002 x106003))
def vendmeterref_TokenFault.j1 : Nat → Bool → Int → Int → Int → Int → Option (Int)
  | 0, _, _, _, _, _ => none
  | k + 1, x25, x106000, x106001, x106002, x106003 => if x25 = true then (some 2) else (if x106000 = 2 then ((vendmeterref_In.f x106002 1 15).bind fun t110 => (vendmeterref_TokenFault.j2 k (!t110) x106000 x106001 x106002 x106003)) else (vendmeterref_TokenFault.j2 k false x106000 x106001 x106002 x106003))
def vendmeterref_TokenFault.j2 : Nat → Bool → Int → Int → Int → Int → Option (Int)
  | 0, _, _, _, _, _ => none
  | k + 1, x34, x106000, x106001, x106002, x106003 => if x34 = true then (some 2) else (if x106000 = 1 then (if x106002 = 0 then (some 0) else (some 2)) else (if x106000 = 3 then (if x106002 = 0 then (some 0) else (some 2)) else (some 0)))
end
def vendmeterref_TokenFault.f (k : Nat) (a0_0 : Int) (a0_1 : Int) (a0_2 : Int) (a0_3 : Int) : Option (Int) := (vendmeterref_In.f a0_0 0 3).bind fun t106 => (if t106 = true then ((vendmeterref_In.f a0_1 1 1048575).bind fun t107 => (if t107 = true then ((vendmeterref_In.f a0_3 0 65535).bind fun t108 => (vendmeterref_TokenFault.j0 k (!t108) a0_0 a0_1 a0_2 a0_3)) else (vendmeterref_TokenFault.j0 k true a0_0 a0_1 a0_2 a0_3))) else (some 9))
theorem vendmeterref_TokenFault.mono_l : ∀ k, (∀ y0 y1 y2 y3 y4, LeO (vendmeterref_TokenFault.j0 k y0 y1 y2 y3 y4) (vendmeterref_TokenFault.j0 (k + 1) y0 y1 y2 y3 y4)) ∧ (∀ y0 y1 y2 y3 y4, LeO (vendmeterref_TokenFault.j1 k y0 y1 y2 y3 y4) (vendmeterref_TokenFault.j1 (k + 1) y0 y1 y2 y3 y4)) ∧ (∀ y0 y1 y2 y3 y4, LeO (vendmeterref_TokenFault.j2 k y0 y1 y2 y3 y4) (vendmeterref_TokenFault.j2 (k + 1) y0 y1 y2 y3 y4))
  | 0 => ⟨fun _ _ _ _ _ r h => by simp [vendmeterref_TokenFault.j0] at h, fun _ _ _ _ _ r h => by simp [vendmeterref_TokenFault.j1] at h, fun _ _ _ _ _ r h => by simp [vendmeterref_TokenFault.j2] at h⟩
  | k + 1 => by
    obtain ⟨ih0, ih1, ih2⟩ := vendmeterref_TokenFault.mono_l k
    refine ⟨?_, ?_, ?_⟩
    · intro y0 y1 y2 y3 y4
      unfold vendmeterref_TokenFault.j0
      repeat' first
      | (with_reducible exact ih0 _ _ _ _ _)
      | (with_reducible exact ih1 _ _ _ _ _)
      | (with_reducible exact ih2 _ _ _ _ _)
      | (with_reducible exact LeO.refl _)
      | (with_reducible exact LeO.none _)
      | (with_reducible refine LeO.ite ?_ ?_)
      | (with_reducible refine LeO.bind ?_ (fun _ => ?_))
      | exact ih0 _ _ _ _ _
      | exact ih1 _ _ _ _ _
      | exact ih2 _ _ _ _ _
      | exact LeO.none _
      | refine LeO.ite ?_ ?_
      | refine LeO.bind ?_ (fun _ => ?_)
    · intro y0 y1 y2 y3 y4
      unfold vendmeterref_TokenFault.j1
      repeat' first
      | (with_reducible exact ih0 _ _ _ _ _)
      | (with_reducible exact ih1 _ _ _ _ _)
      | (with_reducible exact ih2 _ _ _ _ _)
      | (with_reducible exact LeO.refl _)
      | (with_reducible exact LeO.none _)
      | (with_reducible refine LeO.ite ?_ ?_)
      | (with_reducible refine LeO.bind ?_ (fun _ => ?_))
      | exact ih0 _ _ _ _ _
      | exact ih1 _ _ _ _ _
      | exact ih2 _ _ _ _ _
      | exact LeO.none _
      | refine LeO.ite ?_ ?_
      | refine LeO.bind ?_ (fun _ => ?_)
    · intro y0 y1 y2 y3 y4
      unfold vendmeterref_TokenFault.j2
      repeat' first
      | (with_reducible exact ih0 _ _ _ _ _)
      | (with_reducible exact ih1 _ _ _ _ _)
      | (with_reducible exact ih2 _ _ _ _ _)
      | (with_reducible exact LeO.refl _)
      | (with_reducible exact LeO.none _)
      | (with_reducible refine LeO.ite ?_ ?_)
      | (with_reducible refine LeO.bind ?_ (fun _ => ?_))
      | exact ih0 _ _ _ _ _
      | exact ih1 _ _ _ _ _
      | exact ih2 _ _ _ _ _
      | exact LeO.none _
      | refine LeO.ite ?_ ?_
      | refine LeO.bind ?_ (fun _ => ?_)
theorem vendmeterref_TokenFault.mono : ∀ a0 a1 a2 a3 k, LeO (vendmeterref_TokenFault.f k a0 a1 a2 a3) (vendmeterref_TokenFault.f (k + 1) a0 a1 a2 a3) := by
  intro a0 a1 a2 a3 k
  obtain ⟨ih0, ih1, ih2⟩ := vendmeterref_TokenFault.mono_l k
  unfold vendmeterref_TokenFault.f
  repeat' first
      | (with_reducible exact ih0 _ _ _ _ _)
      | (with_reducible exact ih1 _ _ _ _ _)
      | (with_reducible exact ih2 _ _ _ _ _)
      | (with_reducible exact LeO.refl _)
      | (with_reducible exact LeO.none _)
      | (with_reducible refine LeO.ite ?_ ?_)
      | (with_reducible refine LeO.bind ?_ (fun _ => ?_))
      | exact ih0 _ _ _ _ _
      | exact ih1 _ _ _ _ _
      | exact ih2 _ _ _ _ _
      | exact LeO.none _
      | refine LeO.ite ?_ ?_
      | refine LeO.bind ?_ (fun _ => ?_)
set_option maxHeartbeats 8000000 in
set_option maxRecDepth 100000 in
theorem vendmeterref_TokenFault.calls (k : Nat) (a0_0 : Int) (a0_1 : Int) (a0_2 : Int) (a0_3 : Int) (r : Int) (w : World) (h : vendmeterref_TokenFault.f k a0_0 a0_1 a0_2 a0_3 = some r) :
    Calls Try.prog 29 #[.agg #[.int .i64 a0_0, .int .i64 a0_1, .int .i64 a0_2, .int .i64 a0_3]] w fun e w' => e = .returned (.int .i64 r) ∧ Below w.heap.size w w' := by
  have hu28 := Try.underlying28
  have HB := Aside0.mk (Below.refl w.heap.size w)
  have H : ((vendmeterref_In.f a0_0 0 3).bind fun t106 => (if t106 = true then ((vendmeterref_In.f a0_1 1 1048575).bind fun t107 => (if t107 = true then ((vendmeterref_In.f a0_3 0 65535).bind fun t108 => (vendmeterref_TokenFault.j0 k (!t108) a0_0 a0_1 a0_2 a0_3)) else (vendmeterref_TokenFault.j0 k true a0_0 a0_1 a0_2 a0_3))) else (some 9))) = some r := h
  clear h
  replace H := Option.bind_eq_some_iff.mp H
  obtain ⟨t106, A20, H⟩ := H
  replace H : (if t106 = true then ((vendmeterref_In.f a0_1 1 1048575).bind fun t107 => (if t107 = true then ((vendmeterref_In.f a0_3 0 65535).bind fun t108 => (vendmeterref_TokenFault.j0 k (!t108) a0_0 a0_1 a0_2 a0_3)) else (vendmeterref_TokenFault.j0 k true a0_0 a0_1 a0_2 a0_3))) else (some 9)) = some r := H
  have A2 := Aside0.mk A20
  clear A20
  by_cases c3 : t106 = true
  · subst c3
    have H1 : ((vendmeterref_In.f a0_1 1 1048575).bind fun t107 => (if t107 = true then ((vendmeterref_In.f a0_3 0 65535).bind fun t108 => (vendmeterref_TokenFault.j0 k (!t108) a0_0 a0_1 a0_2 a0_3)) else (vendmeterref_TokenFault.j0 k true a0_0 a0_1 a0_2 a0_3))) = some r := by rw [if_pos rfl] at H; exact H
    clear H
    have H := H1
    clear H1
    have HC4 := Aside0.mk H
    clear H
    go_enter Try.func29, Try.ntmps29
    go_upto_region 3 with (first | ((with_reducible refine gate_dst (N := 1) rfl ?_); refine box_event ?hg (N := 1) ?hd (cs := #[.int .i64 a0_0, .int .i64 a0_1, .int .i64 a0_2, .int .i64 a0_3]) (t := 28) ?hr ?_; (case hd => rfl); (case hg => rfl); (case hr => first | (go_simp; done) | (go_simp; rfl)); intro gb105 hg w5 hbox hb; have n0_ := Aside0.mk (below_step (by repeat (first | (with_reducible first | exact HB.out | apply below_alloc | apply pw_below_drewN | apply below_drew1) | exact HB.out)) hb); have n1_ := Aside0.mk (hbox); have n2_ := Aside0.mk ((by rw [hg]; exact (below_size (by repeat (first | (with_reducible first | exact HB.out | apply below_alloc | apply pw_below_drewN | apply below_drew1) | exact HB.out))) : w.heap.size ≤ gb105)); have n3_ := Aside0.mk ((by rw [hg]; exact (below_size (by repeat (first | (with_reducible first | exact HB.out | apply below_alloc | apply pw_below_drewN | apply below_drew1) | exact HB.out))) : w.heap.size ≤ gb105)); clear HB; have HB := n0_; have BK105 := n1_; have GW105 := n2_; have GE105 := n3_; clear n0_ n1_ n2_ n3_; clear hb hbox hg; have hcz6_0 : w5.cell? ⟨gb105, 0, none⟩ = some (.int .i64 a0_0) := (blk_cell BK105.out 0).trans rfl; have hcz6_1 : w5.cell? ⟨gb105, 1, none⟩ = some (.int .i64 a0_1) := (blk_cell BK105.out 1).trans rfl; have hcz6_2 : w5.cell? ⟨gb105, 2, none⟩ = some (.int .i64 a0_2) := (blk_cell BK105.out 2).trans rfl; have hcz6_3 : w5.cell? ⟨gb105, 3, none⟩ = some (.int .i64 a0_3) := (blk_cell BK105.out 3).trans rfl; have hfz6_0 := blk_frozen BK105.out 0; have hfz6_1 := blk_frozen BK105.out 1; have hfz6_2 := blk_frozen BK105.out 2; have hfz6_3 := blk_frozen BK105.out 3) | ((with_reducible refine gate_callee (f := 43) rfl ?_); refine goesL_ (some 5) rfl rfl Try.func43 (by kernel_rfl) rfl #[.int .i64 a0_0, .int .i64 0, .int .i64 3] rfl (by (try simp only [List.map_toArray, List.map_cons, List.map_nil]); first | done | rfl | (simp only [List.length_drop, List.length_take]; rfl)) ?_; (with_reducible refine (vendmeterref_In.calls a0_0 0 3 true _ A2.out).mono ?_); rintro e w' ⟨rfl, ⟨nd, rfl⟩⟩; refine ⟨_, rfl, ?_⟩))
    (try simp only [Act.put, List.setIfInBounds_toArray, List.set_cons_zero, List.set_cons_succ])
    go_cut [16] (fun v16 wc => ∃ (kq : Nat) (x16_3 : Bool), v16 = .bool x16_3 ∧ Aside0 (vendmeterref_TokenFault.j0 kq x16_3 a0_0 a0_1 a0_2 a0_3 = some r) ∧ Aside0 (kq ≤ k) ∧ Aside0 (wc.heap[gb105]? = some (.cells #[.int .i64 a0_0, .int .i64 a0_1, .int .i64 a0_2, .int .i64 a0_3] 28 (0, 0))) ∧ Aside0 (Below w.heap.size w wc))
    case first =>
      have H := HC4.out
      clear HC4
      replace H := Option.bind_eq_some_iff.mp H
      obtain ⟨t107, A70, H⟩ := H
      replace H : (if t107 = true then ((vendmeterref_In.f a0_3 0 65535).bind fun t108 => (vendmeterref_TokenFault.j0 k (!t108) a0_0 a0_1 a0_2 a0_3)) else (vendmeterref_TokenFault.j0 k true a0_0 a0_1 a0_2 a0_3)) = some r := H
      have A7 := Aside0.mk A70
      clear A70
      by_cases c8 : t107 = true
      · subst c8
        have H1 : ((vendmeterref_In.f a0_3 0 65535).bind fun t108 => (vendmeterref_TokenFault.j0 k (!t108) a0_0 a0_1 a0_2 a0_3)) = some r := by rw [if_pos rfl] at H; exact H
        clear H
        have H := H1
        clear H1
        replace H := Option.bind_eq_some_iff.mp H
        obtain ⟨t108, A90, H⟩ := H
        replace H : (vendmeterref_TokenFault.j0 k (!t108) a0_0 a0_1 a0_2 a0_3) = some r := H
        have A9 := Aside0.mk A90
        clear A90
        have H' := Aside0.mk H
        clear H
        have hcz10_0 : w5.cell? ⟨gb105, 0, none⟩ = some (.int .i64 a0_0) := (blk_cell BK105.out 0).trans rfl
        have hcz10_1 : w5.cell? ⟨gb105, 1, none⟩ = some (.int .i64 a0_1) := (blk_cell BK105.out 1).trans rfl
        have hcz10_2 : w5.cell? ⟨gb105, 2, none⟩ = some (.int .i64 a0_2) := (blk_cell BK105.out 2).trans rfl
        have hcz10_3 : w5.cell? ⟨gb105, 3, none⟩ = some (.int .i64 a0_3) := (blk_cell BK105.out 3).trans rfl
        have hfz10_0 := blk_frozen BK105.out 0
        have hfz10_1 := blk_frozen BK105.out 1
        have hfz10_2 := blk_frozen BK105.out 2
        have hfz10_3 := blk_frozen BK105.out 3
        go_wp2_with (first | ((with_reducible refine gate_callee (f := 43) rfl ?_); refine goesL_ (some 9) rfl rfl Try.func43 (by kernel_rfl) rfl #[.int .i64 a0_1, .int .i64 1, .int .i64 1048575] rfl (by (try simp only [List.map_toArray, List.map_cons, List.map_nil]); first | done | rfl | (simp only [List.length_drop, List.length_take]; rfl)) ?_; (with_reducible refine (vendmeterref_In.calls a0_1 1 1048575 true _ A7.out).mono ?_); rintro e w' ⟨rfl, ⟨nd, rfl⟩⟩; refine ⟨_, rfl, ?_⟩) | (go_at_call 43; (with_reducible refine (vendmeterref_In.calls a0_3 0 65535 t108 _ A9.out).mono ?_); rintro e w' ⟨rfl, ⟨nd, rfl⟩⟩))
        go_meet
        case rel => exact ⟨_, (!t108), (by first | rfl | (simp; done) | (simp [*]; done)), H', ⟨by first | omega | exact Nat.le_refl _⟩, ⟨by (with_reducible repeat (first | refine blk_drewN ?_ _ | refine blk_drew ?_ | refine blk_alloc ?_ _)); exact BK105.out⟩, ⟨by repeat (first | (with_reducible first | exact HB.out | apply below_alloc | apply pw_below_drewN | apply below_drew1 | refine below_set ?_ GE105.out) | exact HB.out)⟩⟩
      · replace c8 := Bool.eq_false_iff.mpr c8
        subst c8
        have H1 : (vendmeterref_TokenFault.j0 k true a0_0 a0_1 a0_2 a0_3) = some r := by rw [if_neg (show ¬ (false = true) by decide)] at H; exact H
        clear H
        have H := H1
        clear H1
        have H' := Aside0.mk H
        clear H
        have hcz11_0 : w5.cell? ⟨gb105, 0, none⟩ = some (.int .i64 a0_0) := (blk_cell BK105.out 0).trans rfl
        have hcz11_1 : w5.cell? ⟨gb105, 1, none⟩ = some (.int .i64 a0_1) := (blk_cell BK105.out 1).trans rfl
        have hcz11_2 : w5.cell? ⟨gb105, 2, none⟩ = some (.int .i64 a0_2) := (blk_cell BK105.out 2).trans rfl
        have hcz11_3 : w5.cell? ⟨gb105, 3, none⟩ = some (.int .i64 a0_3) := (blk_cell BK105.out 3).trans rfl
        have hfz11_0 := blk_frozen BK105.out 0
        have hfz11_1 := blk_frozen BK105.out 1
        have hfz11_2 := blk_frozen BK105.out 2
        have hfz11_3 := blk_frozen BK105.out 3
        go_wp2_with (first | ((with_reducible refine gate_callee (f := 43) rfl ?_); refine goesL_ (some 9) rfl rfl Try.func43 (by kernel_rfl) rfl #[.int .i64 a0_1, .int .i64 1, .int .i64 1048575] rfl (by (try simp only [List.map_toArray, List.map_cons, List.map_nil]); first | done | rfl | (simp only [List.length_drop, List.length_take]; rfl)) ?_; (with_reducible refine (vendmeterref_In.calls a0_1 1 1048575 false _ A7.out).mono ?_); rintro e w' ⟨rfl, ⟨nd, rfl⟩⟩; refine ⟨_, rfl, ?_⟩))
        go_meet
        case rel => exact ⟨_, (true), (by first | rfl | (simp; done) | (simp [*]; done)), H', ⟨by first | omega | exact Nat.le_refl _⟩, ⟨by (with_reducible repeat (first | refine blk_drewN ?_ _ | refine blk_drew ?_ | refine blk_alloc ?_ _)); exact BK105.out⟩, ⟨by repeat (first | (with_reducible first | exact HB.out | apply below_alloc | apply pw_below_drewN | apply below_drew1 | refine below_set ?_ GE105.out) | exact HB.out)⟩⟩
    case rest =>
      clear HC4
      try clear c2
      try clear p2
      try clear c3
      try clear c4
      try clear c8
      try clear hcz10_0
      try clear hcz10_1
      try clear hcz10_2
      try clear hcz10_3
      try clear hcz11_0
      try clear hcz11_1
      try clear hcz11_2
      try clear hcz11_3
      try clear hcz6_0
      try clear hcz6_1
      try clear hcz6_2
      try clear hcz6_3
      try clear hfz10_0
      try clear hfz10_1
      try clear hfz10_2
      try clear hfz10_3
      try clear hfz11_0
      try clear hfz11_1
      try clear hfz11_2
      try clear hfz11_3
      try clear hfz6_0
      try clear hfz6_1
      try clear hfz6_2
      try clear hfz6_3
      obtain ⟨kq, x16_3, rfl, HA, HJ3, BK105, HB⟩ := hcut
      cases kq with
      | zero => exact absurd HA.out (by simp [vendmeterref_TokenFault.j0])
      | succ kj3 =>
        have H := HA.out
        clear HA
        simp only [vendmeterref_TokenFault.j0] at H
        by_cases c12 : x16_3 = true
        · subst c12
          have H1 : (some 2) = some r := by rw [if_pos rfl] at H; exact H
          clear H
          have H := H1
          clear H1
          obtain rfl := Option.some.inj H
          go_wp2
          go_ret
          exact ⟨by first | rfl | (simp [errW_none, errW_some] <;> rfl) | (simp [*, errW_none, errW_some] <;> rfl), by repeat (first | (with_reducible first | exact HB.out | apply below_alloc | apply pw_below_drewN | apply below_drew1 | refine below_set ?_ GE105.out) | exact HB.out)⟩
        · replace c12 := Bool.eq_false_iff.mpr c12
          subst c12
          have H1 : (if a0_0 = 0 then ((vendmeterref_In.f a0_2 1 2097151).bind fun t109 => (vendmeterref_TokenFault.j1 kj3 (!t109) a0_0 a0_1 a0_2 a0_3)) else (vendmeterref_TokenFault.j1 kj3 false a0_0 a0_1 a0_2 a0_3)) = some r := by rw [if_neg (show ¬ (false = true) by decide)] at H; exact H
          clear H
          have H := H1
          clear H1
          have HC13 := Aside0.mk H
          clear H
          go_upto_region 5 with (fail)
          go_cut [25] (fun v25 wc => ∃ (kq : Nat) (x25_12 : Bool), v25 = .bool x25_12 ∧ Aside0 (vendmeterref_TokenFault.j1 kq x25_12 a0_0 a0_1 a0_2 a0_3 = some r) ∧ Aside0 (kq ≤ kj3) ∧ Aside0 (wc.heap[gb105]? = some (.cells #[.int .i64 a0_0, .int .i64 a0_1, .int .i64 a0_2, .int .i64 a0_3] 28 (0, 0))) ∧ Aside0 (Below w.heap.size w wc))
          case first =>
            have H := HC13.out
            clear HC13
            by_cases c14 : a0_0 = 0
            · rw [if_pos c14] at H
              have c14b0 : (a0_0 == 0) = true := beq_iff_eq.mpr c14
              have c14b1 : (a0_0 != 0) = false := bne_eq_false_iff_eq.mpr c14
              clear c14
              (first | rw [c14b0] | (simp only [i64_w, i32_w]; rw [c14b0]) | skip)
              replace H := Option.bind_eq_some_iff.mp H
              obtain ⟨t109, A150, H⟩ := H
              replace H : (vendmeterref_TokenFault.j1 kj3 (!t109) a0_0 a0_1 a0_2 a0_3) = some r := H
              have A15 := Aside0.mk A150
              clear A150
              have H' := Aside0.mk H
              clear H
              have hcz16_0 : wc.cell? ⟨gb105, 0, none⟩ = some (.int .i64 a0_0) := (blk_cell BK105.out 0).trans rfl
              have hcz16_1 : wc.cell? ⟨gb105, 1, none⟩ = some (.int .i64 a0_1) := (blk_cell BK105.out 1).trans rfl
              have hcz16_2 : wc.cell? ⟨gb105, 2, none⟩ = some (.int .i64 a0_2) := (blk_cell BK105.out 2).trans rfl
              have hcz16_3 : wc.cell? ⟨gb105, 3, none⟩ = some (.int .i64 a0_3) := (blk_cell BK105.out 3).trans rfl
              have hfz16_0 := blk_frozen BK105.out 0
              have hfz16_1 := blk_frozen BK105.out 1
              have hfz16_2 := blk_frozen BK105.out 2
              have hfz16_3 := blk_frozen BK105.out 3
              go_wp2_with (first | (go_at_call 43; (with_reducible refine (vendmeterref_In.calls a0_2 1 2097151 t109 _ A15.out).mono ?_); rintro e w' ⟨rfl, ⟨nd, rfl⟩⟩))
              go_meet
              case rel => exact ⟨_, (!t109), (by first | rfl | (simp; done) | (simp [*]; done)), H', ⟨by have := HJ3.out; first | omega | exact Nat.le_refl _⟩, ⟨by (with_reducible repeat (first | refine blk_drewN ?_ _ | refine blk_drew ?_ | refine blk_alloc ?_ _)); exact BK105.out⟩, ⟨by repeat (first | (with_reducible first | exact HB.out | apply below_alloc | apply pw_below_drewN | apply below_drew1 | refine below_set ?_ GE105.out) | exact HB.out)⟩⟩
            · rw [if_neg c14] at H
              have c14b0 : (a0_0 == 0) = false := beq_eq_false_iff_ne.mpr c14
              have c14b1 : (a0_0 != 0) = true := bne_iff_ne.mpr c14
              (first | rw [c14b0] | (simp only [i64_w, i32_w]; rw [c14b0]) | skip)
              have H' := Aside0.mk H
              clear H
              have hcz17_0 : wc.cell? ⟨gb105, 0, none⟩ = some (.int .i64 a0_0) := (blk_cell BK105.out 0).trans rfl
              have hcz17_1 : wc.cell? ⟨gb105, 1, none⟩ = some (.int .i64 a0_1) := (blk_cell BK105.out 1).trans rfl
              have hcz17_2 : wc.cell? ⟨gb105, 2, none⟩ = some (.int .i64 a0_2) := (blk_cell BK105.out 2).trans rfl
              have hcz17_3 : wc.cell? ⟨gb105, 3, none⟩ = some (.int .i64 a0_3) := (blk_cell BK105.out 3).trans rfl
              have hfz17_0 := blk_frozen BK105.out 0
              have hfz17_1 := blk_frozen BK105.out 1
              have hfz17_2 := blk_frozen BK105.out 2
              have hfz17_3 := blk_frozen BK105.out 3
              go_wp2
              go_meet
              case rel => exact ⟨_, (false), (by first | rfl | (simp; done) | (simp [*]; done)), H', ⟨by have := HJ3.out; first | omega | exact Nat.le_refl _⟩, ⟨by (with_reducible repeat (first | refine blk_drewN ?_ _ | refine blk_drew ?_ | refine blk_alloc ?_ _)); exact BK105.out⟩, ⟨by repeat (first | (with_reducible first | exact HB.out | apply below_alloc | apply pw_below_drewN | apply below_drew1 | refine below_set ?_ GE105.out) | exact HB.out)⟩⟩
          case rest =>
            clear HC13
            try clear c1
            try clear c2
            try clear p2
            try clear c3
            try clear c4
            try clear c8
            try clear c12
            try clear c14
            try clear c14b0
            try clear c14b1
            try clear hcz10_0
            try clear hcz10_1
            try clear hcz10_2
            try clear hcz10_3
            try clear hcz11_0
            try clear hcz11_1
            try clear hcz11_2
            try clear hcz11_3
            try clear hcz16_0
            try clear hcz16_1
            try clear hcz16_2
            try clear hcz16_3
            try clear hcz17_0
            try clear hcz17_1
            try clear hcz17_2
            try clear hcz17_3
            try clear hcz6_0
            try clear hcz6_1
            try clear hcz6_2
            try clear hcz6_3
            try clear hfz10_0
            try clear hfz10_1
            try clear hfz10_2
            try clear hfz10_3
            try clear hfz11_0
            try clear hfz11_1
            try clear hfz11_2
            try clear hfz11_3
            try clear hfz16_0
            try clear hfz16_1
            try clear hfz16_2
            try clear hfz16_3
            try clear hfz17_0
            try clear hfz17_1
            try clear hfz17_2
            try clear hfz17_3
            try clear hfz6_0
            try clear hfz6_1
            try clear hfz6_2
            try clear hfz6_3
            try clear p2
            obtain ⟨kq, x25_12, rfl, HA, HJ12, BK105, HB⟩ := hcut
            cases kq with
            | zero => exact absurd HA.out (by simp [vendmeterref_TokenFault.j1])
            | succ kj12 =>
              have H := HA.out
              clear HA
              simp only [vendmeterref_TokenFault.j1] at H
              by_cases c18 : x25_12 = true
              · subst c18
                have H1 : (some 2) = some r := by rw [if_pos rfl] at H; exact H
                clear H
                have H := H1
                clear H1
                obtain rfl := Option.some.inj H
                go_wp2
                go_ret
                exact ⟨by first | rfl | (simp [errW_none, errW_some] <;> rfl) | (simp [*, errW_none, errW_some] <;> rfl), by repeat (first | (with_reducible first | exact HB.out | apply below_alloc | apply pw_below_drewN | apply below_drew1 | refine below_set ?_ GE105.out) | exact HB.out)⟩
              · replace c18 := Bool.eq_false_iff.mpr c18
                subst c18
                have H1 : (if a0_0 = 2 then ((vendmeterref_In.f a0_2 1 15).bind fun t110 => (vendmeterref_TokenFault.j2 kj12 (!t110) a0_0 a0_1 a0_2 a0_3)) else (vendmeterref_TokenFault.j2 kj12 false a0_0 a0_1 a0_2 a0_3)) = some r := by rw [if_neg (show ¬ (false = true) by decide)] at H; exact H
                clear H
                have H := H1
                clear H1
                have HC19 := Aside0.mk H
                clear H
                go_upto_region 7 with (fail)
                go_cut [34] (fun v34 wc => ∃ (kq : Nat) (x34_18 : Bool), v34 = .bool x34_18 ∧ Aside0 (vendmeterref_TokenFault.j2 kq x34_18 a0_0 a0_1 a0_2 a0_3 = some r) ∧ Aside0 (kq ≤ kj12) ∧ Aside0 (wc.heap[gb105]? = some (.cells #[.int .i64 a0_0, .int .i64 a0_1, .int .i64 a0_2, .int .i64 a0_3] 28 (0, 0))) ∧ Aside0 (Below w.heap.size w wc))
                case first =>
                  have H := HC19.out
                  clear HC19
                  by_cases c20 : a0_0 = 2
                  · rw [if_pos c20] at H
                    have c20b0 : (a0_0 == 2) = true := beq_iff_eq.mpr c20
                    have c20b1 : (a0_0 != 2) = false := bne_eq_false_iff_eq.mpr c20
                    clear c20
                    (first | rw [c20b0] | (simp only [i64_w, i32_w]; rw [c20b0]) | skip)
                    replace H := Option.bind_eq_some_iff.mp H
                    obtain ⟨t110, A210, H⟩ := H
                    replace H : (vendmeterref_TokenFault.j2 kj12 (!t110) a0_0 a0_1 a0_2 a0_3) = some r := H
                    have A21 := Aside0.mk A210
                    clear A210
                    have H' := Aside0.mk H
                    clear H
                    have hcz22_0 : wc.cell? ⟨gb105, 0, none⟩ = some (.int .i64 a0_0) := (blk_cell BK105.out 0).trans rfl
                    have hcz22_1 : wc.cell? ⟨gb105, 1, none⟩ = some (.int .i64 a0_1) := (blk_cell BK105.out 1).trans rfl
                    have hcz22_2 : wc.cell? ⟨gb105, 2, none⟩ = some (.int .i64 a0_2) := (blk_cell BK105.out 2).trans rfl
                    have hcz22_3 : wc.cell? ⟨gb105, 3, none⟩ = some (.int .i64 a0_3) := (blk_cell BK105.out 3).trans rfl
                    have hfz22_0 := blk_frozen BK105.out 0
                    have hfz22_1 := blk_frozen BK105.out 1
                    have hfz22_2 := blk_frozen BK105.out 2
                    have hfz22_3 := blk_frozen BK105.out 3
                    go_wp2_with (first | (go_at_call 43; (with_reducible refine (vendmeterref_In.calls a0_2 1 15 t110 _ A21.out).mono ?_); rintro e w' ⟨rfl, ⟨nd, rfl⟩⟩))
                    go_meet
                    case rel => exact ⟨_, (!t110), (by first | rfl | (simp; done) | (simp [*]; done)), H', ⟨by have := HJ3.out; have := HJ12.out; first | omega | exact Nat.le_refl _⟩, ⟨by (with_reducible repeat (first | refine blk_drewN ?_ _ | refine blk_drew ?_ | refine blk_alloc ?_ _)); exact BK105.out⟩, ⟨by repeat (first | (with_reducible first | exact HB.out | apply below_alloc | apply pw_below_drewN | apply below_drew1 | refine below_set ?_ GE105.out) | exact HB.out)⟩⟩
                  · rw [if_neg c20] at H
                    have c20b0 : (a0_0 == 2) = false := beq_eq_false_iff_ne.mpr c20
                    have c20b1 : (a0_0 != 2) = true := bne_iff_ne.mpr c20
                    (first | rw [c20b0] | (simp only [i64_w, i32_w]; rw [c20b0]) | skip)
                    have H' := Aside0.mk H
                    clear H
                    have hcz23_0 : wc.cell? ⟨gb105, 0, none⟩ = some (.int .i64 a0_0) := (blk_cell BK105.out 0).trans rfl
                    have hcz23_1 : wc.cell? ⟨gb105, 1, none⟩ = some (.int .i64 a0_1) := (blk_cell BK105.out 1).trans rfl
                    have hcz23_2 : wc.cell? ⟨gb105, 2, none⟩ = some (.int .i64 a0_2) := (blk_cell BK105.out 2).trans rfl
                    have hcz23_3 : wc.cell? ⟨gb105, 3, none⟩ = some (.int .i64 a0_3) := (blk_cell BK105.out 3).trans rfl
                    have hfz23_0 := blk_frozen BK105.out 0
                    have hfz23_1 := blk_frozen BK105.out 1
                    have hfz23_2 := blk_frozen BK105.out 2
                    have hfz23_3 := blk_frozen BK105.out 3
                    go_wp2
                    go_meet
                    case rel => exact ⟨_, (false), (by first | rfl | (simp; done) | (simp [*]; done)), H', ⟨by have := HJ3.out; have := HJ12.out; first | omega | exact Nat.le_refl _⟩, ⟨by (with_reducible repeat (first | refine blk_drewN ?_ _ | refine blk_drew ?_ | refine blk_alloc ?_ _)); exact BK105.out⟩, ⟨by repeat (first | (with_reducible first | exact HB.out | apply below_alloc | apply pw_below_drewN | apply below_drew1 | refine below_set ?_ GE105.out) | exact HB.out)⟩⟩
                case rest =>
                  clear HC19
                  try clear c1
                  try clear c2
                  try clear p2
                  try clear c3
                  try clear c4
                  try clear c8
                  try clear c12
                  try clear c14
                  try clear c14b0
                  try clear c14b1
                  try clear c18
                  try clear c20
                  try clear c20b0
                  try clear c20b1
                  try clear hcz10_0
                  try clear hcz10_1
                  try clear hcz10_2
                  try clear hcz10_3
                  try clear hcz11_0
                  try clear hcz11_1
                  try clear hcz11_2
                  try clear hcz11_3
                  try clear hcz16_0
                  try clear hcz16_1
                  try clear hcz16_2
                  try clear hcz16_3
                  try clear hcz17_0
                  try clear hcz17_1
                  try clear hcz17_2
                  try clear hcz17_3
                  try clear hcz22_0
                  try clear hcz22_1
                  try clear hcz22_2
                  try clear hcz22_3
                  try clear hcz23_0
                  try clear hcz23_1
                  try clear hcz23_2
                  try clear hcz23_3
                  try clear hcz6_0
                  try clear hcz6_1
                  try clear hcz6_2
                  try clear hcz6_3
                  try clear hfz10_0
                  try clear hfz10_1
                  try clear hfz10_2
                  try clear hfz10_3
                  try clear hfz11_0
                  try clear hfz11_1
                  try clear hfz11_2
                  try clear hfz11_3
                  try clear hfz16_0
                  try clear hfz16_1
                  try clear hfz16_2
                  try clear hfz16_3
                  try clear hfz17_0
                  try clear hfz17_1
                  try clear hfz17_2
                  try clear hfz17_3
                  try clear hfz22_0
                  try clear hfz22_1
                  try clear hfz22_2
                  try clear hfz22_3
                  try clear hfz23_0
                  try clear hfz23_1
                  try clear hfz23_2
                  try clear hfz23_3
                  try clear hfz6_0
                  try clear hfz6_1
                  try clear hfz6_2
                  try clear hfz6_3
                  try clear p2
                  obtain ⟨kq, x34_18, rfl, HA, HJ18, BK105, HB⟩ := hcut
                  cases kq with
                  | zero => exact absurd HA.out (by simp [vendmeterref_TokenFault.j2])
                  | succ kj18 =>
                    have H := HA.out
                    clear HA
                    simp only [vendmeterref_TokenFault.j2] at H
                    by_cases c24 : x34_18 = true
                    · subst c24
                      have H1 : (some 2) = some r := by rw [if_pos rfl] at H; exact H
                      clear H
                      have H := H1
                      clear H1
                      obtain rfl := Option.some.inj H
                      go_wp2
                      go_ret
                      exact ⟨by first | rfl | (simp [errW_none, errW_some] <;> rfl) | (simp [*, errW_none, errW_some] <;> rfl), by repeat (first | (with_reducible first | exact HB.out | apply below_alloc | apply pw_below_drewN | apply below_drew1 | refine below_set ?_ GE105.out) | exact HB.out)⟩
                    · replace c24 := Bool.eq_false_iff.mpr c24
                      subst c24
                      have H1 : (if a0_0 = 1 then (if a0_2 = 0 then (some 0) else (some 2)) else (if a0_0 = 3 then (if a0_2 = 0 then (some 0) else (some 2)) else (some 0))) = some r := by rw [if_neg (show ¬ (false = true) by decide)] at H; exact H
                      clear H
                      have H := H1
                      clear H1
                      by_cases c25 : a0_0 = 1
                      · rw [if_pos c25] at H
                        have c25b0 : (a0_0 == 1) = true := beq_iff_eq.mpr c25
                        have c25b1 : (a0_0 != 1) = false := bne_eq_false_iff_eq.mpr c25
                        clear c25
                        by_cases c26 : a0_2 = 0
                        · rw [if_pos c26] at H
                          have c26b0 : (a0_2 == 0) = true := beq_iff_eq.mpr c26
                          have c26b1 : (a0_2 != 0) = false := bne_eq_false_iff_eq.mpr c26
                          clear c26
                          obtain rfl := Option.some.inj H
                          have hcz27_0 : wc.cell? ⟨gb105, 0, none⟩ = some (.int .i64 a0_0) := (blk_cell BK105.out 0).trans rfl
                          have hcz27_1 : wc.cell? ⟨gb105, 1, none⟩ = some (.int .i64 a0_1) := (blk_cell BK105.out 1).trans rfl
                          have hcz27_2 : wc.cell? ⟨gb105, 2, none⟩ = some (.int .i64 a0_2) := (blk_cell BK105.out 2).trans rfl
                          have hcz27_3 : wc.cell? ⟨gb105, 3, none⟩ = some (.int .i64 a0_3) := (blk_cell BK105.out 3).trans rfl
                          have hfz27_0 := blk_frozen BK105.out 0
                          have hfz27_1 := blk_frozen BK105.out 1
                          have hfz27_2 := blk_frozen BK105.out 2
                          have hfz27_3 := blk_frozen BK105.out 3
                          go_wp2
                          go_ret
                          exact ⟨by first | rfl | (simp [errW_none, errW_some] <;> rfl) | (simp [*, errW_none, errW_some] <;> rfl), by repeat (first | (with_reducible first | exact HB.out | apply below_alloc | apply pw_below_drewN | apply below_drew1 | refine below_set ?_ GE105.out) | exact HB.out)⟩
                        · rw [if_neg c26] at H
                          have c26b0 : (a0_2 == 0) = false := beq_eq_false_iff_ne.mpr c26
                          have c26b1 : (a0_2 != 0) = true := bne_iff_ne.mpr c26
                          obtain rfl := Option.some.inj H
                          have hcz28_0 : wc.cell? ⟨gb105, 0, none⟩ = some (.int .i64 a0_0) := (blk_cell BK105.out 0).trans rfl
                          have hcz28_1 : wc.cell? ⟨gb105, 1, none⟩ = some (.int .i64 a0_1) := (blk_cell BK105.out 1).trans rfl
                          have hcz28_2 : wc.cell? ⟨gb105, 2, none⟩ = some (.int .i64 a0_2) := (blk_cell BK105.out 2).trans rfl
                          have hcz28_3 : wc.cell? ⟨gb105, 3, none⟩ = some (.int .i64 a0_3) := (blk_cell BK105.out 3).trans rfl
                          have hfz28_0 := blk_frozen BK105.out 0
                          have hfz28_1 := blk_frozen BK105.out 1
                          have hfz28_2 := blk_frozen BK105.out 2
                          have hfz28_3 := blk_frozen BK105.out 3
                          go_wp2
                          go_ret
                          exact ⟨by first | rfl | (simp [errW_none, errW_some] <;> rfl) | (simp [*, errW_none, errW_some] <;> rfl), by repeat (first | (with_reducible first | exact HB.out | apply below_alloc | apply pw_below_drewN | apply below_drew1 | refine below_set ?_ GE105.out) | exact HB.out)⟩
                      · rw [if_neg c25] at H
                        have c25b0 : (a0_0 == 1) = false := beq_eq_false_iff_ne.mpr c25
                        have c25b1 : (a0_0 != 1) = true := bne_iff_ne.mpr c25
                        by_cases c29 : a0_0 = 3
                        · rw [if_pos c29] at H
                          have c29b0 : (a0_0 == 3) = true := beq_iff_eq.mpr c29
                          have c29b1 : (a0_0 != 3) = false := bne_eq_false_iff_eq.mpr c29
                          clear c29
                          by_cases c30 : a0_2 = 0
                          · rw [if_pos c30] at H
                            have c30b0 : (a0_2 == 0) = true := beq_iff_eq.mpr c30
                            have c30b1 : (a0_2 != 0) = false := bne_eq_false_iff_eq.mpr c30
                            clear c30
                            obtain rfl := Option.some.inj H
                            have hcz31_0 : wc.cell? ⟨gb105, 0, none⟩ = some (.int .i64 a0_0) := (blk_cell BK105.out 0).trans rfl
                            have hcz31_1 : wc.cell? ⟨gb105, 1, none⟩ = some (.int .i64 a0_1) := (blk_cell BK105.out 1).trans rfl
                            have hcz31_2 : wc.cell? ⟨gb105, 2, none⟩ = some (.int .i64 a0_2) := (blk_cell BK105.out 2).trans rfl
                            have hcz31_3 : wc.cell? ⟨gb105, 3, none⟩ = some (.int .i64 a0_3) := (blk_cell BK105.out 3).trans rfl
                            have hfz31_0 := blk_frozen BK105.out 0
                            have hfz31_1 := blk_frozen BK105.out 1
                            have hfz31_2 := blk_frozen BK105.out 2
                            have hfz31_3 := blk_frozen BK105.out 3
                            go_wp2
                            go_ret
                            exact ⟨by first | rfl | (simp [errW_none, errW_some] <;> rfl) | (simp [*, errW_none, errW_some] <;> rfl), by repeat (first | (with_reducible first | exact HB.out | apply below_alloc | apply pw_below_drewN | apply below_drew1 | refine below_set ?_ GE105.out) | exact HB.out)⟩
                          · rw [if_neg c30] at H
                            have c30b0 : (a0_2 == 0) = false := beq_eq_false_iff_ne.mpr c30
                            have c30b1 : (a0_2 != 0) = true := bne_iff_ne.mpr c30
                            obtain rfl := Option.some.inj H
                            have hcz32_0 : wc.cell? ⟨gb105, 0, none⟩ = some (.int .i64 a0_0) := (blk_cell BK105.out 0).trans rfl
                            have hcz32_1 : wc.cell? ⟨gb105, 1, none⟩ = some (.int .i64 a0_1) := (blk_cell BK105.out 1).trans rfl
                            have hcz32_2 : wc.cell? ⟨gb105, 2, none⟩ = some (.int .i64 a0_2) := (blk_cell BK105.out 2).trans rfl
                            have hcz32_3 : wc.cell? ⟨gb105, 3, none⟩ = some (.int .i64 a0_3) := (blk_cell BK105.out 3).trans rfl
                            have hfz32_0 := blk_frozen BK105.out 0
                            have hfz32_1 := blk_frozen BK105.out 1
                            have hfz32_2 := blk_frozen BK105.out 2
                            have hfz32_3 := blk_frozen BK105.out 3
                            go_wp2
                            go_ret
                            exact ⟨by first | rfl | (simp [errW_none, errW_some] <;> rfl) | (simp [*, errW_none, errW_some] <;> rfl), by repeat (first | (with_reducible first | exact HB.out | apply below_alloc | apply pw_below_drewN | apply below_drew1 | refine below_set ?_ GE105.out) | exact HB.out)⟩
                        · rw [if_neg c29] at H
                          have c29b0 : (a0_0 == 3) = false := beq_eq_false_iff_ne.mpr c29
                          have c29b1 : (a0_0 != 3) = true := bne_iff_ne.mpr c29
                          obtain rfl := Option.some.inj H
                          have hcz33_0 : wc.cell? ⟨gb105, 0, none⟩ = some (.int .i64 a0_0) := (blk_cell BK105.out 0).trans rfl
                          have hcz33_1 : wc.cell? ⟨gb105, 1, none⟩ = some (.int .i64 a0_1) := (blk_cell BK105.out 1).trans rfl
                          have hcz33_2 : wc.cell? ⟨gb105, 2, none⟩ = some (.int .i64 a0_2) := (blk_cell BK105.out 2).trans rfl
                          have hcz33_3 : wc.cell? ⟨gb105, 3, none⟩ = some (.int .i64 a0_3) := (blk_cell BK105.out 3).trans rfl
                          have hfz33_0 := blk_frozen BK105.out 0
                          have hfz33_1 := blk_frozen BK105.out 1
                          have hfz33_2 := blk_frozen BK105.out 2
                          have hfz33_3 := blk_frozen BK105.out 3
                          go_wp2
                          go_ret
                          exact ⟨by first | rfl | (simp [errW_none, errW_some] <;> rfl) | (simp [*, errW_none, errW_some] <;> rfl), by repeat (first | (with_reducible first | exact HB.out | apply below_alloc | apply pw_below_drewN | apply below_drew1 | refine below_set ?_ GE105.out) | exact HB.out)⟩
  · replace c3 := Bool.eq_false_iff.mpr c3
    subst c3
    have H1 : (some 9) = some r := by rw [if_neg (show ¬ (false = true) by decide)] at H; exact H
    clear H
    have H := H1
    clear H1
    obtain rfl := Option.some.inj H
    go_enter Try.func29, Try.ntmps29
    go_wp2_with (first | ((with_reducible refine gate_dst (N := 1) rfl ?_); refine box_event ?hg (N := 1) ?hd (cs := #[.int .i64 a0_0, .int .i64 a0_1, .int .i64 a0_2, .int .i64 a0_3]) (t := 28) ?hr ?_; (case hd => rfl); (case hg => rfl); (case hr => first | (go_simp; done) | (go_simp; rfl)); intro gb105 hg w34 hbox hb; have n0_ := Aside0.mk (below_step (by repeat (first | (with_reducible first | exact HB.out | apply below_alloc | apply pw_below_drewN | apply below_drew1) | exact HB.out)) hb); have n1_ := Aside0.mk (hbox); have n2_ := Aside0.mk ((by rw [hg]; exact (below_size (by repeat (first | (with_reducible first | exact HB.out | apply below_alloc | apply pw_below_drewN | apply below_drew1) | exact HB.out))) : w.heap.size ≤ gb105)); have n3_ := Aside0.mk ((by rw [hg]; exact (below_size (by repeat (first | (with_reducible first | exact HB.out | apply below_alloc | apply pw_below_drewN | apply below_drew1) | exact HB.out))) : w.heap.size ≤ gb105)); clear HB; have HB := n0_; have BK105 := n1_; have GW105 := n2_; have GE105 := n3_; clear n0_ n1_ n2_ n3_; clear hb hbox hg; have hcz35_0 : w34.cell? ⟨gb105, 0, none⟩ = some (.int .i64 a0_0) := (blk_cell BK105.out 0).trans rfl; have hcz35_1 : w34.cell? ⟨gb105, 1, none⟩ = some (.int .i64 a0_1) := (blk_cell BK105.out 1).trans rfl; have hcz35_2 : w34.cell? ⟨gb105, 2, none⟩ = some (.int .i64 a0_2) := (blk_cell BK105.out 2).trans rfl; have hcz35_3 : w34.cell? ⟨gb105, 3, none⟩ = some (.int .i64 a0_3) := (blk_cell BK105.out 3).trans rfl; have hfz35_0 := blk_frozen BK105.out 0; have hfz35_1 := blk_frozen BK105.out 1; have hfz35_2 := blk_frozen BK105.out 2; have hfz35_3 := blk_frozen BK105.out 3) | ((with_reducible refine gate_callee (f := 43) rfl ?_); refine goesL_ (some 5) rfl rfl Try.func43 (by kernel_rfl) rfl #[.int .i64 a0_0, .int .i64 0, .int .i64 3] rfl (by (try simp only [List.map_toArray, List.map_cons, List.map_nil]); first | done | rfl | (simp only [List.length_drop, List.length_take]; rfl)) ?_; (with_reducible refine (vendmeterref_In.calls a0_0 0 3 false _ A2.out).mono ?_); rintro e w' ⟨rfl, ⟨nd, rfl⟩⟩; refine ⟨_, rfl, ?_⟩))
    go_ret
    exact ⟨by first | rfl | (simp [errW_none, errW_some] <;> rfl) | (simp [*, errW_none, errW_some] <;> rfl), by repeat (first | (with_reducible first | exact HB.out | apply below_alloc | apply pw_below_drewN | apply below_drew1 | refine below_set ?_ GE105.out) | exact HB.out)⟩

-- NOT PRINTED: function 84 (vendmeterbig_Int_give)

end Go.Proofs.Ytoookcmablnjfaa.PTokenNumbers
