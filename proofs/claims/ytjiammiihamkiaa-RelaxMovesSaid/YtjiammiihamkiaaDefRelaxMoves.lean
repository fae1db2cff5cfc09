-- Printed for this claim by wip/tools/xprint.py over the kit's print; the contracts marked BY HAND are this session's own.
import Derived.Test.YtjiammiihamkiaaPBx14
import Derived.Test.YtjiammiihamkiaaOpB
namespace Go.Proofs.Ytjiammiihamkiaa.PB
open Go.RowKit Go.Proofs.YtjiammiihamkiaaW.PrintWords Go.Proofs.Ytjiammiihamkiaa.Op
set_option linter.unusedVariables false

/-- What is left of the law, over numbers and lists alone. -/
def haulierlaw11_RelaxMoves.Claim : Prop := ∀ (x0 : S26) (x1 : S40) (x2 : S40), wf_t26 x0 → wf_t40 x1 → wf_t40 x2 → ∃ k, haulierlaw11_RelaxMoves.f k x0.f0 x0.f1 x0.f2 x0.f3 x1.f0 x1.f1 x1.f2 x1.f3 x1.f4 x1.f5 x1.f6 x1.f7 x2.f0 x2.f1 x2.f2 x2.f3 x2.f4 x2.f5 x2.f6 x2.f7 = some true
end Go.Proofs.Ytjiammiihamkiaa.PB
