-- Printed for this claim by wip/tools/xprint.py over the kit's print; the contracts marked BY HAND are this session's own.
import Derived.Test.YtifekgemngfidaaDoorPAx15
import Derived.Test.YtifekgemngfidaaDoorOpA
namespace Go.Proofs.YtifekgemngfidaaDoor.PA
open Go.RowKit Go.Proofs.YtifekgemngfidaaDoorW.PrintWords Go.Proofs.YtifekgemngfidaaDoor.Op
set_option linter.unusedVariables false

/-- What is left of the law, over numbers and lists alone. -/
def haulierlaw05_InstParses.Claim : Prop := ∀ (x0 : List Int), wf_t22 x0 → ∃ k, haulierlaw05_InstParses.f k x0 = some true
end Go.Proofs.YtifekgemngfidaaDoor.PA
