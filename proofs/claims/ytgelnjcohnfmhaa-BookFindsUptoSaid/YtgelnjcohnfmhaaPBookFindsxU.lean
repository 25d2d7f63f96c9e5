-- written by this session's program wip/xp/xprint.py (it drives the kit's print and adds to it)
import Derived.Test.YtgelnjcohnfmhaaPBookFindsx1
import Derived.Test.YtgelnjcohnfmhaaPBookFindsx0
namespace Go.Proofs.Ytgelnjcohnfmhaa.PBookFinds
open Go.RowKit Go.Proofs.YtgelnjcohnfmhaaW.PrintWords Go.Proofs.YtgelnjcohnfmhaaW.PrintLast Go.Proofs.YtgelnjcohnfmhaaW.PrintMore
attribute [local go_sem] max2_int min2_int max_two min_two max_three min_three max_four min_four   -- for this text's walks alone
set_option linter.unusedVariables false
set_option linter.unusedSimpArgs false

/-- THE ONE PURE STATEMENT of vendmeterlaw_BookFinds. -/
def vendmeterlaw_BookFinds.Pure : Prop := ∀ (l0 : List Int) (a1 : Int), (l0.length * 8 ≤ 140737488351232 ∧ ∀ y ∈ l0, (Lit.int .i64 y).wf = true) → (Lit.int .i64 a1).wf = true → l0.length ≤ 1048576 → ∃ k, vendmeterlaw_BookFinds.f k l0 a1 = some true
theorem vendmeterlaw_BookFinds.walk (P : vendmeterlaw_BookFinds.Pure) (A0 : Option Addr) (c0 : Nat) (l0 : List Int) (a1 : Int) (w : World) (hr0 : Kd.C (Kd.int .i64) w A0 l0.length l0) (hc0 : l0.length ≤ c0) (o0 : (l0.length * 8 ≤ 140737488351232 ∧ ∀ y ∈ l0, (Lit.int .i64 y).wf = true)) (o1 : (Lit.int .i64 a1).wf = true) (u0 : l0.length ≤ 1048576) :
    Calls Try.prog 14 #[.slice A0 l0.length c0, .int .i64 a1] w fun e w' => e = .returned (.bool true) ∧ Below w.heap.size w w' := by
  obtain ⟨k, h⟩ := P l0 a1 o0 o1 u0
  refine (vendmeterlaw_BookFinds.calls k _ _ l0 a1 true w hr0 hc0 h).mono ?_
  rintro e w' ⟨rfl, hd⟩
  exact ⟨rfl, hd⟩
end Go.Proofs.Ytgelnjcohnfmhaa.PBookFinds
