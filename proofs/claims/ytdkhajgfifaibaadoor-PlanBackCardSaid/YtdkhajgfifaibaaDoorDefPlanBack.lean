-- Printed for this claim by wip/tools/xprint.py over the kit's print; the contracts marked BY HAND are this session's own.
import Derived.Test.YtdkhajgfifaibaaDoorPAx15
import Derived.Test.YtdkhajgfifaibaaDoorOpA
namespace Go.Proofs.YtdkhajgfifaibaaDoor.PA
open Go.RowKit Go.Proofs.YtdkhajgfifaibaaDoorW.PrintWords Go.Proofs.YtdkhajgfifaibaaDoor.Op
set_option linter.unusedVariables false

/-- What is left of the law, over numbers and lists alone. -/
def haulierlaw08_PlanBack.Claim : Prop := ∀ (x0 : S24), wf_t24 x0 → ∃ k, haulierlaw08_PlanBack.f k x0.f0 = some true
end Go.Proofs.YtdkhajgfifaibaaDoor.PA
