-- written by this session's program wip/xp/xprint.py (it drives the kit's print and adds to it)
import Derived.Test.YtcllddkmcnfejaaGreatDoorPPocketKeysx0
namespace Go.Proofs.YtcllddkmcnfejaaGreatDoor.PPocketKeys
open Go.RowKit Go.Proofs.YtcllddkmcnfejaaGreatDoorW.PrintWords Go.Proofs.YtcllddkmcnfejaaGreatDoorW.PrintLast Go.Proofs.YtcllddkmcnfejaaGreatDoorW.PrintMore
attribute [local go_sem] max2_int min2_int max_two min_two max_three min_three max_four min_four
set_option linter.unusedVariables false
set_option linter.unusedSimpArgs false

theorem eqA38 (d : Nat) (w : World) (x0 y0 : Int) (x1 y1 : Int) :
  (Op.equalIn (d + 2) 38 (.agg #[.int .i64 x0, .int .u64 x1]) (.agg #[.int .i64 y0, .int .u64 y1])).run Tryz.prog w = .ok (x0 == y0 && (x1 == y1)) w := by
 refine eqA_of Tryz.underlying38 (by kernel_rfl) ?_
 refine eqf_cons (by rfl) (by go_simp; rfl) (by go_simp; rfl) (by go_simp) ?_
 exact eqf_last (by rfl) (by go_simp; rfl) (by go_simp; rfl) (by go_simp)
end Go.Proofs.YtcllddkmcnfejaaGreatDoor.PPocketKeys
