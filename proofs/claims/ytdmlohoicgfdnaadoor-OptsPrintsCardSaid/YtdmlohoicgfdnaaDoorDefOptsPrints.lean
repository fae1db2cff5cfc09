-- Printed for this claim by wip/tools/xprint.py over the kit's print; the contracts marked BY HAND are this session's own.
import Derived.Test.YtdmlohoicgfdnaaDoorPAx10
import Derived.Test.YtdmlohoicgfdnaaDoorOpA
namespace Go.Proofs.YtdmlohoicgfdnaaDoor.PA
open Go.RowKit Go.Proofs.YtdmlohoicgfdnaaDoorW.PrintWords Go.Proofs.YtdmlohoicgfdnaaDoor.Op
set_option linter.unusedVariables false

/-- What is left of the law, over numbers and lists alone. -/
def haulierlaw18_OptsPrints.Claim : Prop := ∀ (x0 : S35), wf_t35 x0 → ∃ k, haulierlaw18_OptsPrints.f k x0.f0 x0.f1 x0.f2 = some true
end Go.Proofs.YtdmlohoicgfdnaaDoor.PA
