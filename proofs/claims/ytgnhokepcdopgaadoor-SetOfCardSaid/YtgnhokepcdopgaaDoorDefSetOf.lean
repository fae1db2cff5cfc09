-- Printed for this claim by wip/tools/xprint.py over the kit's print; the contracts marked BY HAND are this session's own.
import Derived.Test.YtgnhokepcdopgaaDoorPAx6
import Derived.Test.YtgnhokepcdopgaaDoorOpA
namespace Go.Proofs.YtgnhokepcdopgaaDoor.PA
open Go.RowKit Go.Proofs.YtgnhokepcdopgaaDoorW.PrintWords Go.Proofs.YtgnhokepcdopgaaDoor.Op
set_option linter.unusedVariables false

/-- What is left of the law, over numbers and lists alone. -/
def haulierlaw02_SetOf.Claim : Prop := ∀ (x0 : Int), wf_t22 x0 → ∃ k, haulierlaw02_SetOf.f k x0 = some true
end Go.Proofs.YtgnhokepcdopgaaDoor.PA
