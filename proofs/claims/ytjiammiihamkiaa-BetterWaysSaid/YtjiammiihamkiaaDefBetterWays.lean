-- Printed for this claim by wip/tools/xprint.py over the kit's print; the contracts marked BY HAND are this session's own.
import Derived.Test.YtjiammiihamkiaaPCx14
import Derived.Test.YtjiammiihamkiaaOpC
namespace Go.Proofs.Ytjiammiihamkiaa.PC
open Go.RowKit Go.Proofs.YtjiammiihamkiaaW.PrintWords Go.Proofs.Ytjiammiihamkiaa.Op
set_option linter.unusedVariables false

/-- What is left of the law, over numbers and lists alone. -/
def haulierlaw13_BetterWays.Claim : Prop := ∀ (x0 : S26) (x1 : S50) (x2 : S50) (x3 : List Int), wf_t26 x0 → wf_t50 x1 → wf_t50 x2 → wf_t32 x3 → ∃ k, haulierlaw13_BetterWays.f k x0.f0 x0.f1 x0.f2 x0.f3 x1.f0.f0 x1.f0.f1 x1.f0.f2 x1.f0.f3 x1.f0.f4 x1.f0.f5 x1.f0.f6 x1.f0.f7 x1.f1 x1.f2 x2.f0.f0 x2.f0.f1 x2.f0.f2 x2.f0.f3 x2.f0.f4 x2.f0.f5 x2.f0.f6 x2.f0.f7 x2.f1 x2.f2 x3 = some true
end Go.Proofs.Ytjiammiihamkiaa.PC
