-- Printed for this claim by wip/tools/xprint.py over the kit's print; the contracts marked BY HAND are this session's own.
import Derived.Test.YtblpfjocmbppbaaPAx9
import Derived.Test.YtblpfjocmbppbaaOpA
namespace Go.Proofs.Ytblpfjocmbppbaa.PA
open Go.RowKit Go.Proofs.YtblpfjocmbppbaaW.PrintWords Go.Proofs.Ytblpfjocmbppbaa.Op
set_option linter.unusedVariables false

/-- What is left of the law, over numbers and lists alone. -/
def haulierlaw09_TourPlans.Claim : Prop := ∀ (x0 : S24), wf_t24 x0 → ∃ k, haulierlaw09_TourPlans.f k x0.f0 = some true
end Go.Proofs.Ytblpfjocmbppbaa.PA
