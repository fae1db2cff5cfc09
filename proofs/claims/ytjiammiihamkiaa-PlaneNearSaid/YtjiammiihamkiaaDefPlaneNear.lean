-- Printed for this claim by wip/tools/xprint.py over the kit's print; the contracts marked BY HAND are this session's own.
import Derived.Test.YtjiammiihamkiaaPAx11
import Derived.Test.YtjiammiihamkiaaOpA
namespace Go.Proofs.Ytjiammiihamkiaa.PA
open Go.RowKit Go.Proofs.YtjiammiihamkiaaW.PrintWords Go.Proofs.Ytjiammiihamkiaa.Op
set_option linter.unusedVariables false

/-- What is left of the law, over numbers and lists alone. -/
def haulierlaw06_PlaneNear.Claim : Prop := ∀ (x0 : S26), wf_t26 x0 → ∃ k, haulierlaw06_PlaneNear.f k x0.f0 x0.f1 x0.f2 x0.f3 = some true
end Go.Proofs.Ytjiammiihamkiaa.PA
