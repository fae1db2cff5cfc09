-- Printed for this claim by wip/tools/xprint.py over the kit's print; the contracts marked BY HAND are this session's own.
import Derived.Test.YtkcdpnigcbcalaaPAx8
import Derived.Test.YtkcdpnigcbcalaaOpA
namespace Go.Proofs.Ytkcdpnigcbcalaa.PA
open Go.RowKit Go.Proofs.YtkcdpnigcbcalaaW.PrintWords Go.Proofs.Ytkcdpnigcbcalaa.Op
set_option linter.unusedVariables false

/-- What is left of the law, over numbers and lists alone. -/
def haulierlaw11_RelaxTwice.Claim : Prop := ∀ (x0 : List (S24)) (x1 : Int), wf_t25 x0 → wf_t3 x1 → ∃ k, haulierlaw11_RelaxTwice.f k x0 x1 = some true
end Go.Proofs.Ytkcdpnigcbcalaa.PA
