-- Printed for this claim by wip/tools/xprint.py over the kit's print; the contracts marked BY HAND are this session's own.
import Derived.Test.YtgnhokepcdopgaaDoorPAx0
import Derived.Test.YtgnhokepcdopgaaDoorOpens
import Derived.KernelRfl
namespace Go.Proofs.YtgnhokepcdopgaaDoor.PA
open Go.RowKit Go.Proofs.YtgnhokepcdopgaaDoorW.PrintWords Go.Proofs.YtgnhokepcdopgaaDoor.Op
set_option linter.unusedVariables false

def wf_t22 (n : Int) : Prop := (Lit.int .u64 n).wf = true
theorem op_t22 : Opens Tryd.prog 22 (Kd.int .u64) wf_t22 := opens_mono (opens_int Tryd.underlying22) (fun _ h => h)
def wf_t3 (n : Int) : Prop := (Lit.int .i64 n).wf = true
theorem op_t3 : Opens Tryd.prog 3 (Kd.int .i64) wf_t3 := opens_mono (opens_int Tryd.underlying3) (fun _ h => h)
def wf_t33 (l : List Int) : Prop := l.length ≤ maxLen ∧ ∀ a ∈ l, wf_t3 a
theorem op_t33 : Opens Tryd.prog 33 (Kd.slice 3 (Kd.int .i64)) wf_t33 := opens_mono (opens_slice Tryd.underlying33 (by kernel_rfl) op_t3) (fun _ h => h)
end Go.Proofs.YtgnhokepcdopgaaDoor.PA
