-- Printed for this claim by wip/tools/xprint.py over the kit's print; the contracts marked BY HAND are this session's own.
import Derived.Test.YtjiammiihamkiaaPAx12
import Derived.Test.YtjiammiihamkiaaOpA
namespace Go.Proofs.Ytjiammiihamkiaa.PA
open Go.RowKit Go.Proofs.YtjiammiihamkiaaW.PrintWords Go.Proofs.Ytjiammiihamkiaa.Op
set_option linter.unusedVariables false

/-- What is left of the law, over numbers and lists alone. -/
def haulierlaw06_PlaneSame.Claim : Prop := ∀ (x0 : S26) (x1 : Int) (x2 : Int), wf_t26 x0 → wf_t3 x1 → wf_t3 x2 → ∃ k, haulierlaw06_PlaneSame.f k x0.f0 x0.f1 x0.f2 x0.f3 x1 x2 = some true
end Go.Proofs.Ytjiammiihamkiaa.PA
