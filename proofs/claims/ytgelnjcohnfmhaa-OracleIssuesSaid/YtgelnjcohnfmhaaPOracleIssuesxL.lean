-- written by this session's program wip/xp/xprint.py (it drives the kit's print and adds to it)
import Derived.Test.YtgelnjcohnfmhaaPOracleIssuesx4
import Derived.Test.YtgelnjcohnfmhaaPOracleIssuesx0
namespace Go.Proofs.Ytgelnjcohnfmhaa.POracleIssues
open Go.RowKit Go.Proofs.YtgelnjcohnfmhaaW.PrintWords Go.Proofs.YtgelnjcohnfmhaaW.PrintLast Go.Proofs.YtgelnjcohnfmhaaW.PrintMore
attribute [local go_sem] max2_int min2_int max_two min_two max_three min_three max_four min_four   -- for this text's walks alone
set_option linter.unusedVariables false
set_option linter.unusedSimpArgs false

def ok83 (x : S83) : Prop := (Lit.int .i64 x.f0).wf = true ∧ (Lit.int .i64 x.f1).wf = true ∧ (Lit.int .i64 x.f2).wf = true ∧ (Lit.int .i64 x.f3).wf = true
/-- THE ONE PURE STATEMENT of vendmeterlaw_OracleIssues. -/
def vendmeterlaw_OracleIssues.Pure : Prop := ∀ (l0_0 : List (S83)) (a1 : Int) (a2 : Int) (a3 : Int) (a4 : Int), (l0_0.length * 32 ≤ 140737488351232 ∧ ∀ y ∈ l0_0, ok83 y) → (Lit.int .i64 a1).wf = true → (Lit.int .i64 a2).wf = true → (Lit.int .i64 a3).wf = true → (Lit.int .i64 a4).wf = true → ∃ k, vendmeterlaw_OracleIssues.f k l0_0 a1 a2 a3 a4 = some true
theorem vendmeterlaw_OracleIssues.walk (P : vendmeterlaw_OracleIssues.Pure) (A0_0 : Option Addr) (c0_0 : Nat) (l0_0 : List (S83)) (a1 : Int) (a2 : Int) (a3 : Int) (a4 : Int) (w : World) (hr0_0 : Kd.C k83 w A0_0 l0_0.length l0_0) (hc0_0 : l0_0.length ≤ c0_0) (o0_0 : (l0_0.length * 32 ≤ 140737488351232 ∧ ∀ y ∈ l0_0, ok83 y)) (o1 : (Lit.int .i64 a1).wf = true) (o2 : (Lit.int .i64 a2).wf = true) (o3 : (Lit.int .i64 a3).wf = true) (o4 : (Lit.int .i64 a4).wf = true) :
    Calls Try.prog 5 #[.agg #[.slice A0_0 l0_0.length c0_0], .int .i64 a1, .int .i64 a2, .int .i64 a3, .int .i64 a4] w fun e w' => e = .returned (.bool true) ∧ Below w.heap.size w w' := by
  obtain ⟨k, h⟩ := P l0_0 a1 a2 a3 a4 o0_0 o1 o2 o3 o4
  refine (vendmeterlaw_OracleIssues.calls k _ _ l0_0 a1 a2 a3 a4 true w hr0_0 hc0_0 h).mono ?_
  rintro e w' ⟨rfl, hd⟩
  exact ⟨rfl, hd⟩
end Go.Proofs.Ytgelnjcohnfmhaa.POracleIssues
