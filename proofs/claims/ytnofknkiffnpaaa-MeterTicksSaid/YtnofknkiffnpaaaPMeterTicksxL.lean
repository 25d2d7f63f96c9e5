-- written by this session's program wip/xp/xprint.py (it drives the kit's print and adds to it)
import Derived.Test.YtnofknkiffnpaaaPMeterTicksx6
import Derived.Test.YtnofknkiffnpaaaPMeterTicksx0
namespace Go.Proofs.Ytnofknkiffnpaaa.PMeterTicks
open Go.RowKit Go.Proofs.YtnofknkiffnpaaaW.PrintWords Go.Proofs.YtnofknkiffnpaaaW.PrintLast Go.Proofs.YtnofknkiffnpaaaW.PrintMore
attribute [local go_sem] max2_int min2_int max_two min_two max_three min_three max_four min_four   -- for this text's walks alone
set_option linter.unusedVariables false
set_option linter.unusedSimpArgs false

/-- THE ONE PURE STATEMENT of vendmeterlaw_MeterTicks. -/
def vendmeterlaw_MeterTicks.Pure : Prop := ∀ (a0_0 : Int) (a0_1 : Int) (a0_2 : Int) (a0_3 : Int) (a0_4 : Int) (a0_5 : Int) (a0_6 : Int) (a1 : Int), (Lit.int .i64 a0_0).wf = true → (Lit.int .i64 a0_1).wf = true → (Lit.int .i64 a0_2).wf = true → (Lit.int .i64 a0_3).wf = true → (Lit.int .u64 a0_4).wf = true → (Lit.int .i64 a0_5).wf = true → (Lit.int .i64 a0_6).wf = true → (Lit.int .i64 a1).wf = true → ∃ k, vendmeterlaw_MeterTicks.f k a0_0 a0_1 a0_2 a0_3 a0_4 a0_5 a0_6 a1 = some true
theorem vendmeterlaw_MeterTicks.walk (P : vendmeterlaw_MeterTicks.Pure) (a0_0 : Int) (a0_1 : Int) (a0_2 : Int) (a0_3 : Int) (a0_4 : Int) (a0_5 : Int) (a0_6 : Int) (a1 : Int) (w : World) (o0_0 : (Lit.int .i64 a0_0).wf = true) (o0_1 : (Lit.int .i64 a0_1).wf = true) (o0_2 : (Lit.int .i64 a0_2).wf = true) (o0_3 : (Lit.int .i64 a0_3).wf = true) (o0_4 : (Lit.int .u64 a0_4).wf = true) (o0_5 : (Lit.int .i64 a0_5).wf = true) (o0_6 : (Lit.int .i64 a0_6).wf = true) (o1 : (Lit.int .i64 a1).wf = true) :
    Calls Try.prog 5 #[.agg #[.int .i64 a0_0, .int .i64 a0_1, .int .i64 a0_2, .int .i64 a0_3, .int .u64 a0_4, .int .i64 a0_5, .int .i64 a0_6], .int .i64 a1] w fun e w' => e = .returned (.bool true) ∧ Below w.heap.size w w' := by
  obtain ⟨k, h⟩ := P a0_0 a0_1 a0_2 a0_3 a0_4 a0_5 a0_6 a1 o0_0 o0_1 o0_2 o0_3 o0_4 o0_5 o0_6 o1
  refine (vendmeterlaw_MeterTicks.calls k a0_0 a0_1 a0_2 a0_3 a0_4 a0_5 a0_6 a1 true w h).mono ?_
  rintro e w' ⟨rfl, hd⟩
  exact ⟨rfl, hd⟩
end Go.Proofs.Ytnofknkiffnpaaa.PMeterTicks
