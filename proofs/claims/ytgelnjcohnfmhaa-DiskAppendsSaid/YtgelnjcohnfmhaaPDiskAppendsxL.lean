-- written by this session's program wip/xp/xprint.py (it drives the kit's print and adds to it)
import Derived.Test.YtgelnjcohnfmhaaPDiskAppendsx3
import Derived.Test.YtgelnjcohnfmhaaPDiskAppendsx0
namespace Go.Proofs.Ytgelnjcohnfmhaa.PDiskAppends
open Go.RowKit Go.Proofs.YtgelnjcohnfmhaaW.PrintWords Go.Proofs.YtgelnjcohnfmhaaW.PrintLast Go.Proofs.YtgelnjcohnfmhaaW.PrintMore
attribute [local go_sem] max2_int min2_int max_two min_two max_three min_three max_four min_four   -- for this text's walks alone
set_option linter.unusedVariables false
set_option linter.unusedSimpArgs false

/-- THE ONE PURE STATEMENT of vendmeterlaw_DiskAppends. -/
def vendmeterlaw_DiskAppends.Pure : Prop := ∀ (l0 : List Int) (l1 : List Int), (l0.length * 4 ≤ 140737488351232 ∧ ∀ y ∈ l0, (Lit.int .u32 y).wf = true) → (l1.length * 4 ≤ 140737488351232 ∧ ∀ y ∈ l1, (Lit.int .u32 y).wf = true) → ∃ k, vendmeterlaw_DiskAppends.f k l0 l1 = some true
theorem vendmeterlaw_DiskAppends.walk (P : vendmeterlaw_DiskAppends.Pure) (A0 : Option Addr) (c0 : Nat) (l0 : List Int) (A1 : Option Addr) (c1 : Nat) (l1 : List Int) (w : World) (hr0 : Kd.C (Kd.int .u32) w A0 l0.length l0) (hc0 : l0.length ≤ c0) (hr1 : Kd.C (Kd.int .u32) w A1 l1.length l1) (hc1 : l1.length ≤ c1) (o0 : (l0.length * 4 ≤ 140737488351232 ∧ ∀ y ∈ l0, (Lit.int .u32 y).wf = true)) (o1 : (l1.length * 4 ≤ 140737488351232 ∧ ∀ y ∈ l1, (Lit.int .u32 y).wf = true)) :
    Calls Try.prog 13 #[.slice A0 l0.length c0, .slice A1 l1.length c1] w fun e w' => e = .returned (.bool true) ∧ Below w.heap.size w w' := by
  obtain ⟨k, h⟩ := P l0 l1 o0 o1
  refine (vendmeterlaw_DiskAppends.calls k _ _ l0 _ _ l1 true w hr0 hc0 hr1 hc1 h).mono ?_
  rintro e w' ⟨rfl, hd⟩
  exact ⟨rfl, hd⟩
end Go.Proofs.Ytgelnjcohnfmhaa.PDiskAppends
