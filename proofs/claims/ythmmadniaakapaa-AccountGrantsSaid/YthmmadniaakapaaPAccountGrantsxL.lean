-- written by this session's program wip/xp/xprint.py (it drives the kit's print and adds to it)
import Derived.Test.YthmmadniaakapaaPAccountGrantsx8
import Derived.Test.YthmmadniaakapaaPAccountGrantsx0
namespace Go.Proofs.Ythmmadniaakapaa.PAccountGrants
open Go.RowKit Go.Proofs.YthmmadniaakapaaW.PrintWords Go.Proofs.YthmmadniaakapaaW.PrintLast Go.Proofs.YthmmadniaakapaaW.PrintMore
attribute [local go_sem] max2_int min2_int max_two min_two max_three min_three max_four min_four   -- for this text's walks alone
set_option linter.unusedVariables false
set_option linter.unusedSimpArgs false

def ok76 (x : S76) : Prop := (Lit.int .i64 x.f0).wf = true ∧ (Lit.int .i64 x.f1).wf = true
def ok125 (x : S125) : Prop := (Lit.int .i64 x.f0).wf = true ∧ (Lit.int .i64 x.f1).wf = true
/-- THE ONE PURE STATEMENT of vendmeterlaw_AccountGrants. -/
def vendmeterlaw_AccountGrants.Pure : Prop := ∀ (a0_0 : Int) (a0_1 : Int) (a0_2 : Int) (a0_3 : Int) (a0_4 : Int) (a0_5 : Int) (l0_6 : List (S76)) (l1_0 : List (S125)) (a1_1 : Int) (a1_2 : Int) (a1_3 : Int) (a1_4 : Int) (a2 : Int), (Lit.int .i64 a0_0).wf = true → (Lit.int .i64 a0_1).wf = true → (Lit.int .i64 a0_2).wf = true → (Lit.int .i64 a0_3).wf = true → (Lit.int .i64 a0_4).wf = true → (Lit.int .i64 a0_5).wf = true → (l0_6.length * 16 ≤ 140737488351232 ∧ ∀ y ∈ l0_6, ok76 y) → (l1_0.length * 16 ≤ 140737488351232 ∧ ∀ y ∈ l1_0, ok125 y) → (Lit.int .i64 a1_1).wf = true → (Lit.int .i64 a1_2).wf = true → (Lit.int .i64 a1_3).wf = true → (Lit.int .i64 a1_4).wf = true → (Lit.int .i64 a2).wf = true → ∃ k, vendmeterlaw_AccountGrants.f k a0_0 a0_1 a0_2 a0_3 a0_4 a0_5 l0_6 l1_0 a1_1 a1_2 a1_3 a1_4 a2 = some true
theorem vendmeterlaw_AccountGrants.walk (P : vendmeterlaw_AccountGrants.Pure) (a0_0 : Int) (a0_1 : Int) (a0_2 : Int) (a0_3 : Int) (a0_4 : Int) (a0_5 : Int) (A0_6 : Option Addr) (c0_6 : Nat) (l0_6 : List (S76)) (A1_0 : Option Addr) (c1_0 : Nat) (l1_0 : List (S125)) (a1_1 : Int) (a1_2 : Int) (a1_3 : Int) (a1_4 : Int) (a2 : Int) (w : World) (hr0_6 : Kd.C k76 w A0_6 l0_6.length l0_6) (hc0_6 : l0_6.length ≤ c0_6) (hr1_0 : Kd.C k125 w A1_0 l1_0.length l1_0) (hc1_0 : l1_0.length ≤ c1_0) (o0_0 : (Lit.int .i64 a0_0).wf = true) (o0_1 : (Lit.int .i64 a0_1).wf = true) (o0_2 : (Lit.int .i64 a0_2).wf = true) (o0_3 : (Lit.int .i64 a0_3).wf = true) (o0_4 : (Lit.int .i64 a0_4).wf = true) (o0_5 : (Lit.int .i64 a0_5).wf = true) (o0_6 : (l0_6.length * 16 ≤ 140737488351232 ∧ ∀ y ∈ l0_6, ok76 y)) (o1_0 : (l1_0.length * 16 ≤ 140737488351232 ∧ ∀ y ∈ l1_0, ok125 y)) (o1_1 : (Lit.int .i64 a1_1).wf = true) (o1_2 : (Lit.int .i64 a1_2).wf = true) (o1_3 : (Lit.int .i64 a1_3).wf = true) (o1_4 : (Lit.int .i64 a1_4).wf = true) (o2 : (Lit.int .i64 a2).wf = true) :
    Calls Try.prog 8 #[.agg #[.int .i64 a0_0, .int .i64 a0_1, .int .i64 a0_2, .int .i64 a0_3, .int .i64 a0_4, .int .i64 a0_5, .slice A0_6 l0_6.length c0_6], .agg #[.slice A1_0 l1_0.length c1_0, .int .i64 a1_1, .int .i64 a1_2, .int .i64 a1_3, .int .i64 a1_4], .int .i64 a2] w fun e w' => e = .returned (.bool true) ∧ Below w.heap.size w w' := by
  obtain ⟨k, h⟩ := P a0_0 a0_1 a0_2 a0_3 a0_4 a0_5 l0_6 l1_0 a1_1 a1_2 a1_3 a1_4 a2 o0_0 o0_1 o0_2 o0_3 o0_4 o0_5 o0_6 o1_0 o1_1 o1_2 o1_3 o1_4 o2
  refine (vendmeterlaw_AccountGrants.calls k a0_0 a0_1 a0_2 a0_3 a0_4 a0_5 _ _ l0_6 _ _ l1_0 a1_1 a1_2 a1_3 a1_4 a2 true w hr0_6 hc0_6 hr1_0 hc1_0 h).mono ?_
  rintro e w' ⟨rfl, hd⟩
  exact ⟨rfl, hd⟩
end Go.Proofs.Ythmmadniaakapaa.PAccountGrants
