-- Printed for this claim by wip/tools/xprint.py over the kit's print; the contracts marked BY HAND are this session's own.
import Derived.Test.YtkcdpnigcbcalaaPAx5
import Derived.Test.YtkcdpnigcbcalaaOpA
namespace Go.Proofs.Ytkcdpnigcbcalaa.PA
open Go.RowKit Go.Proofs.YtkcdpnigcbcalaaW.PrintWords Go.Proofs.Ytkcdpnigcbcalaa.Op
set_option linter.unusedVariables false

/-- What is left of the law, over numbers and lists alone. -/
def haulierlaw11_RelaxTells.Claim : Prop := ∀ (x0 : S24) (x1 : S24) (x2 : List (S24)), wf_t24 x0 → wf_t24 x1 → wf_t25 x2 → ∃ k, haulierlaw11_RelaxTells.f k x0.f0 x0.f1 x0.f2 x0.f3 x0.f4 x0.f5 x0.f6 x0.f7 x1.f0 x1.f1 x1.f2 x1.f3 x1.f4 x1.f5 x1.f6 x1.f7 x2 = some true
end Go.Proofs.Ytkcdpnigcbcalaa.PA
