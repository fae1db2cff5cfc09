-- Printed for this claim by wip/tools/xprint.py over the kit's print; the contracts marked BY HAND are this session's own.
import Derived.Test.YtjiammiihamkiaaPBx15
import Derived.Test.YtjiammiihamkiaaOpB
namespace Go.Proofs.Ytjiammiihamkiaa.PB
open Go.RowKit Go.Proofs.YtjiammiihamkiaaW.PrintWords Go.Proofs.Ytjiammiihamkiaa.Op
set_option linter.unusedVariables false

/-- What is left of the law, over numbers and lists alone. -/
def haulierlaw11_RelaxWays.Claim : Prop := ∀ (x0 : S26) (x1 : S40) (x2 : S40) (x3 : List Int), wf_t26 x0 → wf_t40 x1 → wf_t40 x2 → wf_t32 x3 → ∃ k, haulierlaw11_RelaxWays.f k x0.f0 x0.f1 x0.f2 x0.f3 x1.f0 x1.f1 x1.f2 x1.f3 x1.f4 x1.f5 x1.f6 x1.f7 x2.f0 x2.f1 x2.f2 x2.f3 x2.f4 x2.f5 x2.f6 x2.f7 x3 = some true
end Go.Proofs.Ytjiammiihamkiaa.PB
