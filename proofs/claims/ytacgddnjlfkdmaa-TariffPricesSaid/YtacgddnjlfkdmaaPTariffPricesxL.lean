-- written by this session's program wip/xp/xprint.py (it drives the kit's print and adds to it)
import Derived.Test.YtacgddnjlfkdmaaPTariffPricesx2
import Derived.Test.YtacgddnjlfkdmaaPTariffPricesx0
namespace Go.Proofs.Ytacgddnjlfkdmaa.PTariffPrices
open Go.RowKit Go.Proofs.YtacgddnjlfkdmaaW.PrintWords Go.Proofs.YtacgddnjlfkdmaaW.PrintLast Go.Proofs.YtacgddnjlfkdmaaW.PrintMore
attribute [local go_sem] max2_int min2_int max_two min_two max_three min_three max_four min_four   -- for this text's walks alone
set_option linter.unusedVariables false
set_option linter.unusedSimpArgs false

def ok149 (x : S149) : Prop := (Lit.int .i64 x.f0).wf = true ∧ (Lit.int .i64 x.f1).wf = true
/-- THE ONE PURE STATEMENT of vendmeterlaw_TariffPrices. -/
def vendmeterlaw_TariffPrices.Pure : Prop := ∀ (l0 : List (S149)) (a1 : Int) (a2 : Int), (l0.length * 16 ≤ 140737488351232 ∧ ∀ y ∈ l0, ok149 y) → (Lit.int .i64 a1).wf = true → (Lit.int .i64 a2).wf = true → ∃ k, vendmeterlaw_TariffPrices.f k l0 a1 a2 = some true
theorem vendmeterlaw_TariffPrices.walk (P : vendmeterlaw_TariffPrices.Pure) (A0 : Option Addr) (c0 : Nat) (l0 : List (S149)) (a1 : Int) (a2 : Int) (w : World) (hr0 : Kd.C k149 w A0 l0.length l0) (hc0 : l0.length ≤ c0) (o0 : (l0.length * 16 ≤ 140737488351232 ∧ ∀ y ∈ l0, ok149 y)) (o1 : (Lit.int .i64 a1).wf = true) (o2 : (Lit.int .i64 a2).wf = true) :
    Calls Try.prog 3 #[.slice A0 l0.length c0, .int .i64 a1, .int .i64 a2] w fun e w' => e = .returned (.bool true) ∧ Below w.heap.size w w' := by
  obtain ⟨k, h⟩ := P l0 a1 a2 o0 o1 o2
  refine (vendmeterlaw_TariffPrices.calls k _ _ l0 a1 a2 true w hr0 hc0 h).mono ?_
  rintro e w' ⟨rfl, hd⟩
  exact ⟨rfl, hd⟩
end Go.Proofs.Ytacgddnjlfkdmaa.PTariffPrices
