-- Printed for this claim by wip/tools/xprint.py over the kit's print; the contracts marked BY HAND are this session's own.
import Derived.Test.YtifekgemngfidaaDoorPAx19
import Derived.Test.YtifekgemngfidaaDoorOpA
namespace Go.Proofs.YtifekgemngfidaaDoor.PA
open Go.RowKit Go.Proofs.YtifekgemngfidaaDoorW.PrintWords Go.Proofs.YtifekgemngfidaaDoor.Op
set_option linter.unusedVariables false

/-- What is left of the law, over numbers and lists alone. -/
def haulierlaw05_InstPrints.Claim : Prop := ∀ (x0 : S26) (x1 : S26), wf_t26 x0 → wf_t26 x1 → ∃ k, haulierlaw05_InstPrints.f k x0.f0 x0.f1 x0.f2 x0.f3 x1.f0 x1.f1 x1.f2 x1.f3 = some true
end Go.Proofs.YtifekgemngfidaaDoor.PA
