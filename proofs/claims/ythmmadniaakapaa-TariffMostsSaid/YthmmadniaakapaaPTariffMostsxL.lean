-- written by this session's program wip/xp/xprint.py (it drives the kit's print and adds to it)
import Derived.Test.YthmmadniaakapaaPTariffMostsx4
import Derived.Test.YthmmadniaakapaaPTariffMostsx0
namespace Go.Proofs.Ythmmadniaakapaa.PTariffMosts
open Go.RowKit Go.Proofs.YthmmadniaakapaaW.PrintWords Go.Proofs.YthmmadniaakapaaW.PrintLast Go.Proofs.YthmmadniaakapaaW.PrintMore
attribute [local go_sem] max2_int min2_int max_two min_two max_three min_three max_four min_four   -- for this text's walks alone
set_option linter.unusedVariables false
set_option linter.unusedSimpArgs false

def ok125 (x : S125) : Prop := (Lit.int .i64 x.f0).wf = true ∧ (Lit.int .i64 x.f1).wf = true
/-- THE ONE PURE STATEMENT of vendmeterlaw_TariffMosts. -/
def vendmeterlaw_TariffMosts.Pure : Prop := ∀ (l0 : List (S125)) (a1 : Int) (a2 : Int), (l0.length * 16 ≤ 140737488351232 ∧ ∀ y ∈ l0, ok125 y) → (Lit.int .i64 a1).wf = true → (Lit.int .i64 a2).wf = true → ∃ k, vendmeterlaw_TariffMosts.f k l0 a1 a2 = some true
theorem vendmeterlaw_TariffMosts.walk (P : vendmeterlaw_TariffMosts.Pure) (A0 : Option Addr) (c0 : Nat) (l0 : List (S125)) (a1 : Int) (a2 : Int) (w : World) (hr0 : Kd.C k125 w A0 l0.length l0) (hc0 : l0.length ≤ c0) (o0 : (l0.length * 16 ≤ 140737488351232 ∧ ∀ y ∈ l0, ok125 y)) (o1 : (Lit.int .i64 a1).wf = true) (o2 : (Lit.int .i64 a2).wf = true) :
    Calls Try.prog 14 #[.slice A0 l0.length c0, .int .i64 a1, .int .i64 a2] w fun e w' => e = .returned (.bool true) ∧ Below w.heap.size w w' := by
  obtain ⟨k, h⟩ := P l0 a1 a2 o0 o1 o2
  refine (vendmeterlaw_TariffMosts.calls k _ _ l0 a1 a2 true w hr0 hc0 h).mono ?_
  rintro e w' ⟨rfl, hd⟩
  exact ⟨rfl, hd⟩
end Go.Proofs.Ythmmadniaakapaa.PTariffMosts
