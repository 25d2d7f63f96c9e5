-- written by this session's program wip/xp/xprint.py (it drives the kit's print and adds to it)
import Derived.Test.YtcllddkmcnfejaaGreatDoorPPocketKeysx23
import Derived.Test.YtcllddkmcnfejaaGreatDoorPPocketKeysx0
namespace Go.Proofs.YtcllddkmcnfejaaGreatDoor.PPocketKeys
open Go.RowKit Go.Proofs.YtcllddkmcnfejaaGreatDoorW.PrintWords Go.Proofs.YtcllddkmcnfejaaGreatDoorW.PrintLast Go.Proofs.YtcllddkmcnfejaaGreatDoorW.PrintMore
attribute [local go_sem] max2_int min2_int max_two min_two max_three min_three max_four min_four   -- for this text's walks alone
set_option linter.unusedVariables false
set_option linter.unusedSimpArgs false

def ok55 (x : S55) : Prop := (Lit.int .i64 x.f0).wf = true ∧ (Lit.int .i64 x.f1).wf = true ∧ (Lit.int .i64 x.f2).wf = true ∧ (Lit.int .i64 x.f3).wf = true
/-- THE ONE PURE STATEMENT of vendmeterlaw_PocketKeys. -/
def vendmeterlaw_PocketKeys.Pure : Prop := ∀ (l0 : List Int) (l1_0 : List (S55)) (a2 : ByteArray), (l0.length * 4 ≤ 140737488351232 ∧ ∀ y ∈ l0, (Lit.int .u32 y).wf = true) → (l1_0.length * 32 ≤ 140737488351232 ∧ ∀ y ∈ l1_0, ok55 y) → a2.size ≤ 140737488351232 → ∃ k, vendmeterlaw_PocketKeys.f k l0 l1_0 a2 = some true
theorem vendmeterlaw_PocketKeys.walk (P : vendmeterlaw_PocketKeys.Pure) (A0 : Option Addr) (c0 : Nat) (l0 : List Int) (A1_0 : Option Addr) (c1_0 : Nat) (l1_0 : List (S55)) (a2 : ByteArray) (w : World) (hr0 : Kd.C (Kd.int .u32) w A0 l0.length l0) (hc0 : l0.length ≤ c0) (hr1_0 : Kd.C k55 w A1_0 l1_0.length l1_0) (hc1_0 : l1_0.length ≤ c1_0) (o0 : (l0.length * 4 ≤ 140737488351232 ∧ ∀ y ∈ l0, (Lit.int .u32 y).wf = true)) (o1_0 : (l1_0.length * 32 ≤ 140737488351232 ∧ ∀ y ∈ l1_0, ok55 y)) (o2 : a2.size ≤ 140737488351232) :
    Calls Tryz.prog 3 #[.slice A0 l0.length c0, .agg #[.slice A1_0 l1_0.length c1_0], .string a2] w fun e w' => e = .returned (.bool true) ∧ Below w.heap.size w w' := by
  obtain ⟨k, h⟩ := P l0 l1_0 a2 o0 o1_0 o2
  refine (vendmeterlaw_PocketKeys.calls k _ _ l0 _ _ l1_0 a2 true w hr0 hc0 hr1_0 hc1_0 h).mono ?_
  rintro e w' ⟨rfl, hd⟩
  exact ⟨rfl, hd⟩
end Go.Proofs.YtcllddkmcnfejaaGreatDoor.PPocketKeys
