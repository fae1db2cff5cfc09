-- Printed for this claim by wip/tools/xprint.py over the kit's print; the contracts marked BY HAND are this session's own.
import Derived.Test.YtdmlohoicgfdnaaDoorPAx9
import Derived.Test.YtdmlohoicgfdnaaDoorOpA
namespace Go.Proofs.YtdmlohoicgfdnaaDoor.PA
open Go.RowKit Go.Proofs.YtdmlohoicgfdnaaDoorW.PrintWords Go.Proofs.YtdmlohoicgfdnaaDoor.Op
set_option linter.unusedVariables false

/-- What is left of the law, over numbers and lists alone. -/
def haulierlaw04_ScanNumber.Claim : Prop := ∀ (x0 : Int) (x1 : Int) (x2 : Bool), wf_t3 x0 → wf_t3 x1 → wf_t4 x2 → ∃ k, haulierlaw04_ScanNumber.f k x0 x1 x2 = some true
end Go.Proofs.YtdmlohoicgfdnaaDoor.PA
