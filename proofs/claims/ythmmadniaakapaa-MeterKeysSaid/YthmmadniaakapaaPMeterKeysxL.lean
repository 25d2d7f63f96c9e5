-- written by this session's program wip/xp/xprint.py (it drives the kit's print and adds to it)
import Derived.Test.YthmmadniaakapaaPMeterKeysx11
import Derived.Test.YthmmadniaakapaaPMeterKeysx0
namespace Go.Proofs.Ythmmadniaakapaa.PMeterKeys
open Go.RowKit Go.Proofs.YthmmadniaakapaaW.PrintWords Go.Proofs.YthmmadniaakapaaW.PrintLast Go.Proofs.YthmmadniaakapaaW.PrintMore
attribute [local go_sem] max2_int min2_int max_two min_two max_three min_three max_four min_four   -- for this text's walks alone
set_option linter.unusedVariables false
set_option linter.unusedSimpArgs false

def ok118 (x : S118) : Prop := (Lit.int .i64 x.f0).wf = true ∧ (Lit.int .i64 x.f1).wf = true ∧ (Lit.int .i64 x.f2).wf = true ∧ (Lit.int .i64 x.f3).wf = true
/-- THE ONE PURE STATEMENT of vendmeterlaw_MeterKeys. -/
def vendmeterlaw_MeterKeys.Pure : Prop := ∀ (a0_0 : Int) (a0_1 : Int) (a0_2 : Int) (a0_3 : Int) (a0_4 : Int) (a0_5 : Int) (a0_6 : Int) (l1_0 : List (S118)) (a2_0 : Int) (a2_1 : Int) (a2_2 : Int) (a2_3 : Int), (Lit.int .i64 a0_0).wf = true → (Lit.int .i64 a0_1).wf = true → (Lit.int .i64 a0_2).wf = true → (Lit.int .i64 a0_3).wf = true → (Lit.int .u64 a0_4).wf = true → (Lit.int .i64 a0_5).wf = true → (Lit.int .i64 a0_6).wf = true → (l1_0.length * 32 ≤ 140737488351232 ∧ ∀ y ∈ l1_0, ok118 y) → (Lit.int .i64 a2_0).wf = true → (Lit.int .i64 a2_1).wf = true → (Lit.int .i64 a2_2).wf = true → (Lit.int .i64 a2_3).wf = true → ∃ k, vendmeterlaw_MeterKeys.f k a0_0 a0_1 a0_2 a0_3 a0_4 a0_5 a0_6 l1_0 a2_0 a2_1 a2_2 a2_3 = some true
theorem vendmeterlaw_MeterKeys.walk (P : vendmeterlaw_MeterKeys.Pure) (a0_0 : Int) (a0_1 : Int) (a0_2 : Int) (a0_3 : Int) (a0_4 : Int) (a0_5 : Int) (a0_6 : Int) (A1_0 : Option Addr) (c1_0 : Nat) (l1_0 : List (S118)) (a2_0 : Int) (a2_1 : Int) (a2_2 : Int) (a2_3 : Int) (w : World) (hr1_0 : Kd.C k118 w A1_0 l1_0.length l1_0) (hc1_0 : l1_0.length ≤ c1_0) (o0_0 : (Lit.int .i64 a0_0).wf = true) (o0_1 : (Lit.int .i64 a0_1).wf = true) (o0_2 : (Lit.int .i64 a0_2).wf = true) (o0_3 : (Lit.int .i64 a0_3).wf = true) (o0_4 : (Lit.int .u64 a0_4).wf = true) (o0_5 : (Lit.int .i64 a0_5).wf = true) (o0_6 : (Lit.int .i64 a0_6).wf = true) (o1_0 : (l1_0.length * 32 ≤ 140737488351232 ∧ ∀ y ∈ l1_0, ok118 y)) (o2_0 : (Lit.int .i64 a2_0).wf = true) (o2_1 : (Lit.int .i64 a2_1).wf = true) (o2_2 : (Lit.int .i64 a2_2).wf = true) (o2_3 : (Lit.int .i64 a2_3).wf = true) :
    Calls Try.prog 5 #[.agg #[.int .i64 a0_0, .int .i64 a0_1, .int .i64 a0_2, .int .i64 a0_3, .int .u64 a0_4, .int .i64 a0_5, .int .i64 a0_6], .agg #[.slice A1_0 l1_0.length c1_0], .agg #[.int .i64 a2_0, .int .i64 a2_1, .int .i64 a2_2, .int .i64 a2_3]] w fun e w' => e = .returned (.bool true) ∧ Below w.heap.size w w' := by
  obtain ⟨k, h⟩ := P a0_0 a0_1 a0_2 a0_3 a0_4 a0_5 a0_6 l1_0 a2_0 a2_1 a2_2 a2_3 o0_0 o0_1 o0_2 o0_3 o0_4 o0_5 o0_6 o1_0 o2_0 o2_1 o2_2 o2_3
  refine (vendmeterlaw_MeterKeys.calls k a0_0 a0_1 a0_2 a0_3 a0_4 a0_5 a0_6 _ _ l1_0 a2_0 a2_1 a2_2 a2_3 true w hr1_0 hc1_0 h).mono ?_
  rintro e w' ⟨rfl, hd⟩
  exact ⟨rfl, hd⟩
end Go.Proofs.Ythmmadniaakapaa.PMeterKeys
