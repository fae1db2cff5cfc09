-- Printed for this claim by wip/tools/xprint.py over the kit's print; the contracts marked BY HAND are this session's own.
import Derived.Test.YtdmlohoicgfdnaaPAx0
import Derived.Test.YtdmlohoicgfdnaaOpens
import Derived.KernelRfl
namespace Go.Proofs.Ytdmlohoicgfdnaa.PA
open Go.RowKit Go.Proofs.YtdmlohoicgfdnaaW.PrintWords Go.Proofs.Ytdmlohoicgfdnaa.Op
set_option linter.unusedVariables false

def wf_t5 (n : Int) : Prop := (Lit.int .u8 n).wf = true
theorem op_t5 : Opens Try.prog 5 (Kd.int .u8) wf_t5 := opens_mono (opens_int Try.underlying5) (fun _ h => h)
def wf_t22 (l : List Int) : Prop := l.length ≤ maxLen ∧ ∀ a ∈ l, wf_t5 a
theorem op_t22 : Opens Try.prog 22 (Kd.slice 5 (Kd.int .u8)) wf_t22 := opens_mono (opens_slice Try.underlying22 (by kernel_rfl) op_t5) (fun _ h => h)
end Go.Proofs.Ytdmlohoicgfdnaa.PA
