-- written by this session's program wip/xp/xprint.py (it drives the kit's print and adds to it)
import Derived.Test.YtoookcmablnjfaaPWorldBeginsx10
import Derived.Test.YtoookcmablnjfaaPWorldBeginsx0
namespace Go.Proofs.Ytoookcmablnjfaa.PWorldBegins
open Go.RowKit Go.Proofs.YtoookcmablnjfaaW.PrintWords Go.Proofs.YtoookcmablnjfaaW.PrintLast Go.Proofs.YtoookcmablnjfaaW.PrintMore
attribute [local go_sem] max2_int min2_int max_two min_two max_three min_three max_four min_four   -- for this text's walks alone
set_option linter.unusedVariables false
set_option linter.unusedSimpArgs false

def ok126 (x : S126) : Prop := (Lit.int .i64 x.f0).wf = true ∧ (Lit.int .i64 x.f1).wf = true
/-- THE ONE PURE STATEMENT of vendmeterlaw_WorldBegins. -/
def vendmeterlaw_WorldBegins.Pure : Prop := ∀ (l0_0 : List (S126)) (a0_1 : Int) (a0_2 : Int) (a0_3 : Int) (a0_4 : Int) (a1 : Int) (a2 : Int), (l0_0.length * 16 ≤ 140737488351232 ∧ ∀ y ∈ l0_0, ok126 y) → (Lit.int .i64 a0_1).wf = true → (Lit.int .i64 a0_2).wf = true → (Lit.int .i64 a0_3).wf = true → (Lit.int .i64 a0_4).wf = true → (Lit.int .i64 a1).wf = true → (Lit.int .i64 a2).wf = true → ∃ k, vendmeterlaw_WorldBegins.f k l0_0 a0_1 a0_2 a0_3 a0_4 a1 a2 = some true
theorem vendmeterlaw_WorldBegins.walk (P : vendmeterlaw_WorldBegins.Pure) (A0_0 : Option Addr) (c0_0 : Nat) (l0_0 : List (S126)) (a0_1 : Int) (a0_2 : Int) (a0_3 : Int) (a0_4 : Int) (a1 : Int) (a2 : Int) (w : World) (hr0_0 : Kd.C k126 w A0_0 l0_0.length l0_0) (hc0_0 : l0_0.length ≤ c0_0) (o0_0 : (l0_0.length * 16 ≤ 140737488351232 ∧ ∀ y ∈ l0_0, ok126 y)) (o0_1 : (Lit.int .i64 a0_1).wf = true) (o0_2 : (Lit.int .i64 a0_2).wf = true) (o0_3 : (Lit.int .i64 a0_3).wf = true) (o0_4 : (Lit.int .i64 a0_4).wf = true) (o1 : (Lit.int .i64 a1).wf = true) (o2 : (Lit.int .i64 a2).wf = true) :
    Calls Try.prog 7 #[.agg #[.slice A0_0 l0_0.length c0_0, .int .i64 a0_1, .int .i64 a0_2, .int .i64 a0_3, .int .i64 a0_4], .int .i64 a1, .int .i64 a2] w fun e w' => e = .returned (.bool true) ∧ Below w.heap.size w w' := by
  obtain ⟨k, h⟩ := P l0_0 a0_1 a0_2 a0_3 a0_4 a1 a2 o0_0 o0_1 o0_2 o0_3 o0_4 o1 o2
  refine (vendmeterlaw_WorldBegins.calls k _ _ l0_0 a0_1 a0_2 a0_3 a0_4 a1 a2 true w hr0_0 hc0_0 h).mono ?_
  rintro e w' ⟨rfl, hd⟩
  exact ⟨rfl, hd⟩
end Go.Proofs.Ytoookcmablnjfaa.PWorldBegins
