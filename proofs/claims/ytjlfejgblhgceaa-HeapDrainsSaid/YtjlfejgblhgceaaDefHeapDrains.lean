-- Printed for this claim by wip/tools/xprint.py over the kit's print; the contracts marked BY HAND are this session's own.
import Derived.Test.YtjlfejgblhgceaaPBx6
import Derived.Test.YtjlfejgblhgceaaOpB
namespace Go.Proofs.Ytjlfejgblhgceaa.PB
open Go.RowKit Go.Proofs.YtjlfejgblhgceaaW.PrintWords Go.Proofs.Ytjlfejgblhgceaa.Op
set_option linter.unusedVariables false

/-- What is left of the law, over numbers and lists alone. -/
def haulierlaw03_HeapDrains.Claim : Prop := ∀ (x0 : Int) (x1 : List (S23)) (x2 : S23), wf_t3 x0 → wf_t27 x1 → wf_t23 x2 → haulierlaw03_HeapDrains.f x0 x1 x2.f0 x2.f1 x2.f2 = some true
end Go.Proofs.Ytjlfejgblhgceaa.PB
