-- Printed for this claim by wip/tools/xprint.py over the kit's print; the contracts marked BY HAND are this session's own.
import Derived.Test.YtdmlohoicgfdnaaPAx11
import Derived.Test.YtdmlohoicgfdnaaOpA
namespace Go.Proofs.Ytdmlohoicgfdnaa.PA
open Go.RowKit Go.Proofs.YtdmlohoicgfdnaaW.PrintWords Go.Proofs.Ytdmlohoicgfdnaa.Op
set_option linter.unusedVariables false

/-- What is left of the law, over numbers and lists alone. -/
def haulierlaw18_OptsParses.Claim : Prop := ∀ (x0 : List Int), wf_t22 x0 → ∃ k, haulierlaw18_OptsParses.f k x0 = some true
end Go.Proofs.Ytdmlohoicgfdnaa.PA
