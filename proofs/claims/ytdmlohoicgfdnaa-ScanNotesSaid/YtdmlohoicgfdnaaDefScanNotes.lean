-- Printed for this claim by wip/tools/xprint.py over the kit's print; the contracts marked BY HAND are this session's own.
import Derived.Test.YtdmlohoicgfdnaaPAx7
import Derived.Test.YtdmlohoicgfdnaaOpA
namespace Go.Proofs.Ytdmlohoicgfdnaa.PA
open Go.RowKit Go.Proofs.YtdmlohoicgfdnaaW.PrintWords Go.Proofs.Ytdmlohoicgfdnaa.Op
set_option linter.unusedVariables false

/-- What is left of the law, over numbers and lists alone. -/
def haulierlaw04_ScanNotes.Claim : Prop := ∀ (x0 : List Int) (x1 : List Int) (x2 : List Int), wf_t22 x0 → wf_t22 x1 → wf_t22 x2 → ∃ k, haulierlaw04_ScanNotes.f k x0 x1 x2 = some true
end Go.Proofs.Ytdmlohoicgfdnaa.PA
