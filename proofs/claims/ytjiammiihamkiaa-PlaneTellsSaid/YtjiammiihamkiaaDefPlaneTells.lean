-- Printed for this claim by wip/tools/xprint.py over the kit's print; the contracts marked BY HAND are this session's own.
import Derived.Test.YtjiammiihamkiaaPAx10
import Derived.Test.YtjiammiihamkiaaOpA
namespace Go.Proofs.Ytjiammiihamkiaa.PA
open Go.RowKit Go.Proofs.YtjiammiihamkiaaW.PrintWords Go.Proofs.Ytjiammiihamkiaa.Op
set_option linter.unusedVariables false

/-- What is left of the law, over numbers and lists alone. -/
def haulierlaw06_PlaneTells.Claim : Prop := ∀ (x0 : S23) (x1 : S23) (x2 : S26), wf_t23 x0 → wf_t23 x1 → wf_t26 x2 → ∃ k, haulierlaw06_PlaneTells.f k x0.f0 x0.f1 x0.f2 x0.f3 x0.f4 x0.f5 x1.f0 x1.f1 x1.f2 x1.f3 x1.f4 x1.f5 x2.f0 x2.f1 x2.f2 x2.f3 = some true
end Go.Proofs.Ytjiammiihamkiaa.PA
