-- written by this session's program wip/xp/xprint.py (it drives the kit's print and adds to it)
import Derived.Test.YtoookcmablnjfaaPTokenFormatsx0
namespace Go.Proofs.Ytoookcmablnjfaa.PTokenFormats
open Go.RowKit Go.Proofs.YtoookcmablnjfaaW.PrintWords Go.Proofs.YtoookcmablnjfaaW.PrintLast Go.Proofs.YtoookcmablnjfaaW.PrintMore
attribute [local go_sem] max2_int min2_int max_two min_two max_three min_three max_four min_four   -- for this text's walks alone
set_option linter.unusedVariables false
set_option linter.unusedSimpArgs false

theorem eqAi24 : (Try.prog.info? 22).map (fun i => (i.zero, i.size, i.bytes)) = some (some (.int .u32 0), 1, 4) := by kernel_rfl
theorem eqA24 (d : Nat) (w : World) (x0 x1 x2 y0 y1 y2 : Int) : (Op.equalIn (d + 2) 24 (.agg #[.int .u32 x0, .int .u32 x1, .int .u32 x2]) (.agg #[.int .u32 y0, .int .u32 y1, .int .u32 y2])).run Try.prog w = .ok (x0 == y0 && (x1 == y1 && x2 == y2)) w := by
  obtain ⟨i61, hi⟩ : ∃ i, Try.prog.info? 22 = some i := by
    have h := eqAi24
    cases hh : Try.prog.info? 22 with
    | none => rw [hh] at h; cases h
    | some i => exact ⟨i, rfl⟩
  have hc : Try.prog.cellsOf 22 = 1 := by kernel_rfl
  rw [show d + 2 = (d + 1) + 1 from rfl, run_equalIn_array (P := Try.prog) w (d + 1) _ _ Try.underlying24 hi, hc]
  have h0 : (Op.equalIn (d + 1) 22 (.int .u32 x0) (.int .u32 y0)).run Try.prog w = .ok (x0 == y0) w := by go_simp
  have h1 : (Op.equalIn (d + 1) 22 (.int .u32 x1) (.int .u32 y1)).run Try.prog w = .ok (x1 == y1) w := by go_simp
  have h2 : (Op.equalIn (d + 1) 22 (.int .u32 x2) (.int .u32 y2)).run Try.prog w = .ok (x2 == y2) w := by go_simp
  have p0 : ∀ a b c : Int, (part 22 #[.int .u32 a, .int .u32 b, .int .u32 c] (0 * 1)).run Try.prog w = .ok (.int .u32 a) w := fun a b c => by go_simp
  have p1 : ∀ a b c : Int, (part 22 #[.int .u32 a, .int .u32 b, .int .u32 c] (1 * 1)).run Try.prog w = .ok (.int .u32 b) w := fun a b c => by go_simp
  have p2 : ∀ a b c : Int, (part 22 #[.int .u32 a, .int .u32 b, .int .u32 c] (2 * 1)).run Try.prog w = .ok (.int .u32 c) w := fun a b c => by go_simp
  simp only [show List.range 3 = [0, 1, 2] from rfl, Op.eqItems, Sem.run_bind, p0, p1, p2, h0, h1, h2, Result.andThen_ok]
  have q1 : ∀ a b c : Int, (part 22 #[.int .u32 a, .int .u32 b, .int .u32 c] 1).run Try.prog w = .ok (.int .u32 b) w := p1
  have q2 : ∀ a b c : Int, (part 22 #[.int .u32 a, .int .u32 b, .int .u32 c] 2).run Try.prog w = .ok (.int .u32 c) w := p2
  cases hx : (x0 == y0) <;> cases hy : (x1 == y1) <;> cases hz : (x2 == y2) <;> simp [hx, hy, hz, q1, q2, h1, h2]
end Go.Proofs.Ytoookcmablnjfaa.PTokenFormats
