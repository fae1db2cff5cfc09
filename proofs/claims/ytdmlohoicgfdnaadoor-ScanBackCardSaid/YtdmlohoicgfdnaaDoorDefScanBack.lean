-- Printed for this claim by wip/tools/xprint.py over the kit's print; the contracts marked BY HAND are this session's own.
import Derived.Test.YtdmlohoicgfdnaaDoorPAx7
import Derived.Test.YtdmlohoicgfdnaaDoorOpA
namespace Go.Proofs.YtdmlohoicgfdnaaDoor.PA
open Go.RowKit Go.Proofs.YtdmlohoicgfdnaaDoorW.PrintWords Go.Proofs.YtdmlohoicgfdnaaDoor.Op
set_option linter.unusedVariables false

/-- What is left of the law, over numbers and lists alone. -/
def haulierlaw04_ScanBack.Claim : Prop := ∀ (x0 : List (List Int)), wf_t22 x0 → ∃ k, haulierlaw04_ScanBack.f k x0 = some true
end Go.Proofs.YtdmlohoicgfdnaaDoor.PA
