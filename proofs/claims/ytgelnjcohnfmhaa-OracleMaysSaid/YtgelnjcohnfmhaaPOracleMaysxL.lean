-- written by this session's program wip/xp/xprint.py (it drives the kit's print and adds to it)
import Derived.Test.YtgelnjcohnfmhaaPOracleMaysx3
import Derived.Test.YtgelnjcohnfmhaaPOracleMaysx0
namespace Go.Proofs.Ytgelnjcohnfmhaa.POracleMays
open Go.RowKit Go.Proofs.YtgelnjcohnfmhaaW.PrintWords Go.Proofs.YtgelnjcohnfmhaaW.PrintLast Go.Proofs.YtgelnjcohnfmhaaW.PrintMore
attribute [local go_sem] max2_int min2_int max_two min_two max_three min_three max_four min_four   -- for this text's walks alone
set_option linter.unusedVariables false
set_option linter.unusedSimpArgs false

def ok83 (x : S83) : Prop := (Lit.int .i64 x.f0).wf = true ∧ (Lit.int .i64 x.f1).wf = true ∧ (Lit.int .i64 x.f2).wf = true ∧ (Lit.int .i64 x.f3).wf = true
/-- THE ONE PURE STATEMENT of vendmeterlaw_OracleMays. -/
def vendmeterlaw_OracleMays.Pure : Prop := ∀ (l0_0 : List (S83)), (l0_0.length * 32 ≤ 140737488351232 ∧ ∀ y ∈ l0_0, ok83 y) → ∃ k, vendmeterlaw_OracleMays.f k l0_0 = some true
theorem vendmeterlaw_OracleMays.walk (P : vendmeterlaw_OracleMays.Pure) (A0_0 : Option Addr) (c0_0 : Nat) (l0_0 : List (S83)) (w : World) (hr0_0 : Kd.C k83 w A0_0 l0_0.length l0_0) (hc0_0 : l0_0.length ≤ c0_0) (o0_0 : (l0_0.length * 32 ≤ 140737488351232 ∧ ∀ y ∈ l0_0, ok83 y)) :
    Calls Try.prog 3 #[.agg #[.slice A0_0 l0_0.length c0_0]] w fun e w' => e = .returned (.bool true) ∧ Below w.heap.size w w' := by
  obtain ⟨k, h⟩ := P l0_0 o0_0
  refine (vendmeterlaw_OracleMays.calls k _ _ l0_0 true w hr0_0 hc0_0 h).mono ?_
  rintro e w' ⟨rfl, hd⟩
  exact ⟨rfl, hd⟩
end Go.Proofs.Ytgelnjcohnfmhaa.POracleMays
