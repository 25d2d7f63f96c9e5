-- written by this session's program wip/xp/xprint.py (it drives the kit's print and adds to it)
import Derived.Test.YtojnaalncgofhaaPAccountSellsx10
import Derived.Test.YtojnaalncgofhaaPAccountSellsx0
namespace Go.Proofs.Ytojnaalncgofhaa.PAccountSells
open Go.RowKit Go.Proofs.YtojnaalncgofhaaW.PrintWords Go.Proofs.YtojnaalncgofhaaW.PrintLast Go.Proofs.YtojnaalncgofhaaW.PrintMore
attribute [local go_sem] max2_int min2_int max_two min_two max_three min_three max_four min_four   -- for this text's walks alone
set_option linter.unusedVariables false
set_option linter.unusedSimpArgs false

def ok39 (x : S39) : Prop := (Lit.int .i64 x.f0).wf = true ∧ (Lit.int .i64 x.f1).wf = true
def ok99 (x : S99) : Prop := (Lit.int .i64 x.f0).wf = true ∧ (Lit.int .i64 x.f1).wf = true
/-- THE ONE PURE STATEMENT of vendmeterlaw_AccountSells. -/
def vendmeterlaw_AccountSells.Pure : Prop := ∀ (a0_0 : Int) (a0_1 : Int) (a0_2 : Int) (a0_3 : Int) (a0_4 : Int) (a0_5 : Int) (l0_6 : List (S39)) (l1_0 : List (S99)) (a1_1 : Int) (a1_2 : Int) (a1_3 : Int) (a1_4 : Int) (a2 : Int) (a3 : Int), (Lit.int .i64 a0_0).wf = true → (Lit.int .i64 a0_1).wf = true → (Lit.int .i64 a0_2).wf = true → (Lit.int .i64 a0_3).wf = true → (Lit.int .i64 a0_4).wf = true → (Lit.int .i64 a0_5).wf = true → (l0_6.length * 16 ≤ 140737488351232 ∧ ∀ y ∈ l0_6, ok39 y) → (l1_0.length * 16 ≤ 140737488351232 ∧ ∀ y ∈ l1_0, ok99 y) → (Lit.int .i64 a1_1).wf = true → (Lit.int .i64 a1_2).wf = true → (Lit.int .i64 a1_3).wf = true → (Lit.int .i64 a1_4).wf = true → (Lit.int .i64 a2).wf = true → (Lit.int .i64 a3).wf = true → ∃ k, vendmeterlaw_AccountSells.f k a0_0 a0_1 a0_2 a0_3 a0_4 a0_5 l0_6 l1_0 a1_1 a1_2 a1_3 a1_4 a2 a3 = some true
theorem vendmeterlaw_AccountSells.walk (P : vendmeterlaw_AccountSells.Pure) (a0_0 : Int) (a0_1 : Int) (a0_2 : Int) (a0_3 : Int) (a0_4 : Int) (a0_5 : Int) (A0_6 : Option Addr) (c0_6 : Nat) (l0_6 : List (S39)) (A1_0 : Option Addr) (c1_0 : Nat) (l1_0 : List (S99)) (a1_1 : Int) (a1_2 : Int) (a1_3 : Int) (a1_4 : Int) (a2 : Int) (a3 : Int) (w : World) (hr0_6 : Kd.C k39 w A0_6 l0_6.length l0_6) (hc0_6 : l0_6.length ≤ c0_6) (hr1_0 : Kd.C k99 w A1_0 l1_0.length l1_0) (hc1_0 : l1_0.length ≤ c1_0) (o0_0 : (Lit.int .i64 a0_0).wf = true) (o0_1 : (Lit.int .i64 a0_1).wf = true) (o0_2 : (Lit.int .i64 a0_2).wf = true) (o0_3 : (Lit.int .i64 a0_3).wf = true) (o0_4 : (Lit.int .i64 a0_4).wf = true) (o0_5 : (Lit.int .i64 a0_5).wf = true) (o0_6 : (l0_6.length * 16 ≤ 140737488351232 ∧ ∀ y ∈ l0_6, ok39 y)) (o1_0 : (l1_0.length * 16 ≤ 140737488351232 ∧ ∀ y ∈ l1_0, ok99 y)) (o1_1 : (Lit.int .i64 a1_1).wf = true) (o1_2 : (Lit.int .i64 a1_2).wf = true) (o1_3 : (Lit.int .i64 a1_3).wf = true) (o1_4 : (Lit.int .i64 a1_4).wf = true) (o2 : (Lit.int .i64 a2).wf = true) (o3 : (Lit.int .i64 a3).wf = true) :
    Calls Try.prog 3 #[.agg #[.int .i64 a0_0, .int .i64 a0_1, .int .i64 a0_2, .int .i64 a0_3, .int .i64 a0_4, .int .i64 a0_5, .slice A0_6 l0_6.length c0_6], .agg #[.slice A1_0 l1_0.length c1_0, .int .i64 a1_1, .int .i64 a1_2, .int .i64 a1_3, .int .i64 a1_4], .int .i64 a2, .int .i64 a3] w fun e w' => e = .returned (.bool true) ∧ Below w.heap.size w w' := by
  obtain ⟨k, h⟩ := P a0_0 a0_1 a0_2 a0_3 a0_4 a0_5 l0_6 l1_0 a1_1 a1_2 a1_3 a1_4 a2 a3 o0_0 o0_1 o0_2 o0_3 o0_4 o0_5 o0_6 o1_0 o1_1 o1_2 o1_3 o1_4 o2 o3
  refine (vendmeterlaw_AccountSells.calls k a0_0 a0_1 a0_2 a0_3 a0_4 a0_5 _ _ l0_6 _ _ l1_0 a1_1 a1_2 a1_3 a1_4 a2 a3 true w hr0_6 hc0_6 hr1_0 hc1_0 h).mono ?_
  rintro e w' ⟨rfl, hd⟩
  exact ⟨rfl, hd⟩
end Go.Proofs.Ytojnaalncgofhaa.PAccountSells
