-- Printed for this claim by wip/tools/xprint.py over the kit's print; the contracts marked BY HAND are this session's own.
import Derived.Test.YtnfcccfcfckegaaPBx2
import Derived.Test.YtnfcccfcfckegaaOpB
namespace Go.Proofs.Ytnfcccfcfckegaa.PB
open Go.RowKit Go.Proofs.YtnfcccfcfckegaaW.PrintWords Go.Proofs.Ytnfcccfcfckegaa.Op
set_option linter.unusedVariables false

/-- What is left of the law, over numbers and lists alone. -/
def haulierlaw06_PlaneWays.Claim : Prop := ∀ (x0 : S35) (x1 : S35) (x2 : S35), wf_t35 x0 → wf_t35 x1 → wf_t35 x2 → ∃ k, haulierlaw06_PlaneWays.f k x0.f0 x0.f1 x0.f2 x0.f3 x0.f4 x0.f5 x1.f0 x1.f1 x1.f2 x1.f3 x1.f4 x1.f5 x2.f0 x2.f1 x2.f2 x2.f3 x2.f4 x2.f5 = some true
end Go.Proofs.Ytnfcccfcfckegaa.PB
