-- Printed for this claim by wip/tools/xprint.py over the kit's print; the contracts marked BY HAND are this session's own.
import Derived.Test.YtdmlohoicgfdnaaDoorPAx0
import Derived.Test.YtdmlohoicgfdnaaDoorOpens
import Derived.KernelRfl
namespace Go.Proofs.YtdmlohoicgfdnaaDoor.PA
open Go.RowKit Go.Proofs.YtdmlohoicgfdnaaDoorW.PrintWords Go.Proofs.YtdmlohoicgfdnaaDoor.Op
set_option linter.unusedVariables false

def wf_t3 (n : Int) : Prop := (Lit.int .i64 n).wf = true
theorem op_t3 : Opens Tryd.prog 3 (Kd.int .i64) wf_t3 := opens_mono (opens_int Tryd.underlying3) (fun _ h => h)
def wf_t27 (l : List Int) : Prop := l.length ≤ maxLen ∧ ∀ a ∈ l, wf_t3 a
theorem op_t27 : Opens Tryd.prog 27 (Kd.slice 3 (Kd.int .i64)) wf_t27 := opens_mono (opens_slice Tryd.underlying27 (by kernel_rfl) op_t3) (fun _ h => h)
def wf_t22 (l : List (List Int)) : Prop := l.length ≤ maxLen ∧ ∀ a ∈ l, wf_t27 a
theorem op_t22 : Opens Tryd.prog 22 (Kd.slice 27 (Kd.slice 3 (Kd.int .i64))) wf_t22 := opens_mono (opens_slice Tryd.underlying22 (by kernel_rfl) op_t27) (fun _ h => h)
def wf_t5 (n : Int) : Prop := (Lit.int .u8 n).wf = true
theorem op_t5 : Opens Tryd.prog 5 (Kd.int .u8) wf_t5 := opens_mono (opens_int Tryd.underlying5) (fun _ h => h)
def wf_t25 (l : List Int) : Prop := l.length ≤ maxLen ∧ ∀ a ∈ l, wf_t5 a
theorem op_t25 : Opens Tryd.prog 25 (Kd.slice 5 (Kd.int .u8)) wf_t25 := opens_mono (opens_slice Tryd.underlying25 (by kernel_rfl) op_t5) (fun _ h => h)
def wf_t4 (_ : Bool) : Prop := True
theorem op_t4 : Opens Tryd.prog 4 Kd.bool wf_t4 := opens_mono (opens_bool Tryd.underlying4) (fun _ h => h)
def wf_t35 (x : S35) : Prop := wf_t3 x.f0 ∧ wf_t3 x.f1 ∧ wf_t3 x.f2
theorem op_t35 : Opens Tryd.prog 35 k35 wf_t35 := opens_mono (opens_iso (opens_struct Tryd.underlying35 (by kernel_rfl) (opensAt_cons rfl (by kernel_rfl) op_t3 (opensAt_cons rfl (by kernel_rfl) op_t3 (opensAt_one rfl (by kernel_rfl) op_t3)))) (fun x : S35 => (x.f0, x.f1, x.f2)) (fun q => ⟨q.1, q.2.1, q.2.2⟩) (fun _ => rfl)) (fun _ h => h)
end Go.Proofs.YtdmlohoicgfdnaaDoor.PA
