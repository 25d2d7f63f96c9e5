-- written by this session's program wip/xp/xprint.py (it drives the kit's print and adds to it)
import Derived.Test.YthmmadniaakapaaPAccountChecksx3
import Derived.Test.YthmmadniaakapaaPAccountChecksx0
namespace Go.Proofs.Ythmmadniaakapaa.PAccountChecks
open Go.RowKit Go.Proofs.YthmmadniaakapaaW.PrintWords Go.Proofs.YthmmadniaakapaaW.PrintLast Go.Proofs.YthmmadniaakapaaW.PrintMore
attribute [local go_sem] max2_int min2_int max_two min_two max_three min_three max_four min_four   -- for this text's walks alone
set_option linter.unusedVariables false
set_option linter.unusedSimpArgs false

def ok125 (x : S125) : Prop := (Lit.int .i64 x.f0).wf = true ∧ (Lit.int .i64 x.f1).wf = true
/-- THE ONE PURE STATEMENT of vendmeterlaw_AccountChecks. -/
def vendmeterlaw_AccountChecks.Pure : Prop := ∀ (l0_0 : List (S125)) (a0_1 : Int) (a0_2 : Int) (a0_3 : Int) (a0_4 : Int), (l0_0.length * 16 ≤ 140737488351232 ∧ ∀ y ∈ l0_0, ok125 y) → (Lit.int .i64 a0_1).wf = true → (Lit.int .i64 a0_2).wf = true → (Lit.int .i64 a0_3).wf = true → (Lit.int .i64 a0_4).wf = true → ∃ k, vendmeterlaw_AccountChecks.f k l0_0 a0_1 a0_2 a0_3 a0_4 = some true
theorem vendmeterlaw_AccountChecks.walk (P : vendmeterlaw_AccountChecks.Pure) (A0_0 : Option Addr) (c0_0 : Nat) (l0_0 : List (S125)) (a0_1 : Int) (a0_2 : Int) (a0_3 : Int) (a0_4 : Int) (w : World) (hr0_0 : Kd.C k125 w A0_0 l0_0.length l0_0) (hc0_0 : l0_0.length ≤ c0_0) (o0_0 : (l0_0.length * 16 ≤ 140737488351232 ∧ ∀ y ∈ l0_0, ok125 y)) (o0_1 : (Lit.int .i64 a0_1).wf = true) (o0_2 : (Lit.int .i64 a0_2).wf = true) (o0_3 : (Lit.int .i64 a0_3).wf = true) (o0_4 : (Lit.int .i64 a0_4).wf = true) :
    Calls Try.prog 6 #[.agg #[.slice A0_0 l0_0.length c0_0, .int .i64 a0_1, .int .i64 a0_2, .int .i64 a0_3, .int .i64 a0_4]] w fun e w' => e = .returned (.bool true) ∧ Below w.heap.size w w' := by
  obtain ⟨k, h⟩ := P l0_0 a0_1 a0_2 a0_3 a0_4 o0_0 o0_1 o0_2 o0_3 o0_4
  refine (vendmeterlaw_AccountChecks.calls k _ _ l0_0 a0_1 a0_2 a0_3 a0_4 true w hr0_0 hc0_0 h).mono ?_
  rintro e w' ⟨rfl, hd⟩
  exact ⟨rfl, hd⟩
end Go.Proofs.Ythmmadniaakapaa.PAccountChecks
