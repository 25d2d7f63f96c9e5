-- written by this session's program wip/xp/xprint.py (it drives the kit's print and adds to it)
import Derived.Test.YtdijplohafjbcaaDoorPPadKeysx0
namespace Go.Proofs.YtdijplohafjbcaaDoor.PPadKeys
open Go.RowKit Go.Proofs.YtdijplohafjbcaaDoorW.PrintWords Go.Proofs.YtdijplohafjbcaaDoorW.PrintLast Go.Proofs.YtdijplohafjbcaaDoorW.PrintMore
attribute [local go_sem] max2_int min2_int max_two min_two max_three min_three max_four min_four   -- for this text's walks alone
set_option linter.unusedVariables false
set_option linter.unusedSimpArgs false

theorem eqA24 (d : Nat) (w : World) (x0 y0 : ByteArray) (x1 y1 : Bool) :
    (Op.equalIn (d + 2) 24 (.agg #[.string x0, .bool x1]) (.agg #[.string y0, .bool y1])).run Tryd.prog w = .ok (x0.toList == y0.toList && (x1 == y1)) w := by
  refine eqA_of Tryd.underlying24 (by kernel_rfl) ?_
  refine eqf_cons (by rfl) (by go_simp; rfl) (by go_simp; rfl) (by go_simp) ?_
  exact eqf_last (by rfl) (by go_simp; rfl) (by go_simp; rfl) (by go_simp)
end Go.Proofs.YtdijplohafjbcaaDoor.PPadKeys
