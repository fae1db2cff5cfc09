-- Printed for this claim by wip/tools/xprint.py over the kit's print; the contracts marked BY HAND are this session's own.
import Derived.Test.YtndfpbjpdoigfaaPAx9
import Derived.Test.YtndfpbjpdoigfaaOpA
namespace Go.Proofs.Ytndfpbjpdoigfaa.PA
open Go.RowKit Go.Proofs.YtndfpbjpdoigfaaW.PrintWords Go.Proofs.Ytndfpbjpdoigfaa.Op
set_option linter.unusedVariables false

/-- What is left of the law, over numbers and lists alone. -/
def haulierlaw07_SchedOne.Claim : Prop := ∀ (x0 : S24) (x1 : Int), wf_t24 x0 → wf_t3 x1 → ∃ k, haulierlaw07_SchedOne.f k x0.f0 x0.f1 x0.f2 x0.f3 x1 = some true
end Go.Proofs.Ytndfpbjpdoigfaa.PA
