-- Printed for this claim by wip/tools/xprint.py over the kit's print; the contracts marked BY HAND are this session's own.
import Derived.Test.YtjlfejgblhgceaaPBx6
import Derived.Test.YtjlfejgblhgceaaOpB
namespace Go.Proofs.Ytjlfejgblhgceaa.PB
open Go.RowKit Go.Proofs.YtjlfejgblhgceaaW.PrintWords Go.Proofs.Ytjlfejgblhgceaa.Op
set_option linter.unusedVariables false

/-- What is left of the law, over numbers and lists alone. -/
def haulierlaw03_HeapNone.Claim : Prop := ∀ (x0 : List (S23)), wf_t27 x0 → haulierlaw03_HeapNone.f x0 = some true
end Go.Proofs.Ytjlfejgblhgceaa.PB
