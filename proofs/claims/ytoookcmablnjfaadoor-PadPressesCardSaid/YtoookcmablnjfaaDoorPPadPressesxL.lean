-- written by this session's program wip/xp/xprint.py (it drives the kit's print and adds to it)
import Derived.Test.YtoookcmablnjfaaDoorPPadPressesx6
import Derived.Test.YtoookcmablnjfaaDoorPPadPressesx0
namespace Go.Proofs.YtoookcmablnjfaaDoor.PPadPresses
open Go.RowKit Go.Proofs.YtoookcmablnjfaaDoorW.PrintWords Go.Proofs.YtoookcmablnjfaaDoorW.PrintLast Go.Proofs.YtoookcmablnjfaaDoorW.PrintMore
attribute [local go_sem] max2_int min2_int max_two min_two max_three min_three max_four min_four   -- for this text's walks alone
set_option linter.unusedVariables false
set_option linter.unusedSimpArgs false

/-- THE ONE PURE STATEMENT of vendmeterlaw_PadPresses. -/
def vendmeterlaw_PadPresses.Pure : Prop := ∀ (a0_0 : ByteArray) (a0_1 : Bool) (a1 : Int), a0_0.size ≤ 140737488351232 → (Lit.int .i32 a1).wf = true → ∃ k, vendmeterlaw_PadPresses.f k a0_0 a0_1 a1 = some true
theorem vendmeterlaw_PadPresses.walk (P : vendmeterlaw_PadPresses.Pure) (a0_0 : ByteArray) (a0_1 : Bool) (a1 : Int) (w : World) (o0_0 : a0_0.size ≤ 140737488351232) (o1 : (Lit.int .i32 a1).wf = true) :
    Calls Tryd.prog 6 #[.agg #[.string a0_0, .bool a0_1], .int .i32 a1] w fun e w' => e = .returned (.bool true) ∧ Below w.heap.size w w' := by
  obtain ⟨k, h⟩ := P a0_0 a0_1 a1 o0_0 o1
  refine (vendmeterlaw_PadPresses.calls k a0_0 a0_1 a1 true w h).mono ?_
  rintro e w' ⟨rfl, hd⟩
  exact ⟨rfl, hd⟩
end Go.Proofs.YtoookcmablnjfaaDoor.PPadPresses
