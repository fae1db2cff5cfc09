-- Printed for this claim by wip/tools/xprint.py over the kit's print; the contracts marked BY HAND are this session's own.
import Derived.Test.YtkcdpnigcbcalaaPBx9
import Derived.Test.YtkcdpnigcbcalaaOpB
namespace Go.Proofs.Ytkcdpnigcbcalaa.PB
open Go.RowKit Go.Proofs.YtkcdpnigcbcalaaW.PrintWords Go.Proofs.Ytkcdpnigcbcalaa.Op
set_option linter.unusedVariables false

/-- What is left of the law, over numbers and lists alone. -/
def haulierlaw13_BetterTwice.Claim : Prop := ∀ (x0 : List (S37)), wf_t38 x0 → ∃ k, haulierlaw13_BetterTwice.f k x0 = some true
end Go.Proofs.Ytkcdpnigcbcalaa.PB
