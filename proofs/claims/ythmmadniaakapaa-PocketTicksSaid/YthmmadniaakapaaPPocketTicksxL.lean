-- written by this session's program wip/xp/xprint.py (it drives the kit's print and adds to it)
import Derived.Test.YthmmadniaakapaaPPocketTicksx11
import Derived.Test.YthmmadniaakapaaPPocketTicksx0
namespace Go.Proofs.Ythmmadniaakapaa.PPocketTicks
open Go.RowKit Go.Proofs.YthmmadniaakapaaW.PrintWords Go.Proofs.YthmmadniaakapaaW.PrintLast Go.Proofs.YthmmadniaakapaaW.PrintMore
attribute [local go_sem] max2_int min2_int max_two min_two max_three min_three max_four min_four   -- for this text's walks alone
set_option linter.unusedVariables false
set_option linter.unusedSimpArgs false

/-- THE ONE PURE STATEMENT of vendmeterlaw_PocketTicks. -/
def vendmeterlaw_PocketTicks.Pure : Prop := ∀ (l0 : List Int) (a1 : Int), (l0.length * 4 ≤ 140737488351232 ∧ ∀ y ∈ l0, (Lit.int .u32 y).wf = true) → (Lit.int .i64 a1).wf = true → ∃ k, vendmeterlaw_PocketTicks.f k l0 a1 = some true
theorem vendmeterlaw_PocketTicks.walk (P : vendmeterlaw_PocketTicks.Pure) (A0 : Option Addr) (c0 : Nat) (l0 : List Int) (a1 : Int) (w : World) (hr0 : Kd.C (Kd.int .u32) w A0 l0.length l0) (hc0 : l0.length ≤ c0) (o0 : (l0.length * 4 ≤ 140737488351232 ∧ ∀ y ∈ l0, (Lit.int .u32 y).wf = true)) (o1 : (Lit.int .i64 a1).wf = true) :
    Calls Try.prog 4 #[.slice A0 l0.length c0, .int .i64 a1] w fun e w' => e = .returned (.bool true) ∧ Below w.heap.size w w' := by
  obtain ⟨k, h⟩ := P l0 a1 o0 o1
  refine (vendmeterlaw_PocketTicks.calls k _ _ l0 a1 true w hr0 hc0 h).mono ?_
  rintro e w' ⟨rfl, hd⟩
  exact ⟨rfl, hd⟩
end Go.Proofs.Ythmmadniaakapaa.PPocketTicks
