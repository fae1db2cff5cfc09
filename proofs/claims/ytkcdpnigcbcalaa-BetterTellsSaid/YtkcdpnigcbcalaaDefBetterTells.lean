-- Printed for this claim by wip/tools/xprint.py over the kit's print; the contracts marked BY HAND are this session's own.
import Derived.Test.YtkcdpnigcbcalaaPBx7
import Derived.Test.YtkcdpnigcbcalaaOpB
namespace Go.Proofs.Ytkcdpnigcbcalaa.PB
open Go.RowKit Go.Proofs.YtkcdpnigcbcalaaW.PrintWords Go.Proofs.Ytkcdpnigcbcalaa.Op
set_option linter.unusedVariables false

/-- What is left of the law, over numbers and lists alone. -/
def haulierlaw13_BetterTells.Claim : Prop := ∀ (x0 : S37) (x1 : S37) (x2 : List (S37)), wf_t37 x0 → wf_t37 x1 → wf_t38 x2 → ∃ k, haulierlaw13_BetterTells.f k x0.f0.f0 x0.f0.f1 x0.f0.f2 x0.f0.f3 x0.f0.f4 x0.f0.f5 x0.f0.f6 x0.f0.f7 x0.f1 x0.f2 x1.f0.f0 x1.f0.f1 x1.f0.f2 x1.f0.f3 x1.f0.f4 x1.f0.f5 x1.f0.f6 x1.f0.f7 x1.f1 x1.f2 x2 = some true
end Go.Proofs.Ytkcdpnigcbcalaa.PB
