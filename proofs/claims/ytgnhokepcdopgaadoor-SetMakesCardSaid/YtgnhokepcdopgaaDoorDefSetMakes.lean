-- Printed for this claim by wip/tools/xprint.py over the kit's print; the contracts marked BY HAND are this session's own.
import Derived.Test.YtgnhokepcdopgaaDoorPAx4
import Derived.Test.YtgnhokepcdopgaaDoorOpA
namespace Go.Proofs.YtgnhokepcdopgaaDoor.PA
open Go.RowKit Go.Proofs.YtgnhokepcdopgaaDoorW.PrintWords Go.Proofs.YtgnhokepcdopgaaDoor.Op
set_option linter.unusedVariables false

/-- What is left of the law, over numbers and lists alone. -/
def haulierlaw02_SetMakes.Claim : Prop := ∀ (x0 : Int) (x1 : Int) (x2 : List Int), wf_t22 x0 → wf_t3 x1 → wf_t33 x2 → ∃ k, haulierlaw02_SetMakes.f k x0 x1 x2 = some true
end Go.Proofs.YtgnhokepcdopgaaDoor.PA
