-- Printed for this claim by wip/tools/xprint.py over the kit's print; the contracts marked BY HAND are this session's own.
import Derived.Test.YtifekgemngfidaaDoorPAx0
import Derived.Test.YtifekgemngfidaaDoorOpens
import Derived.KernelRfl
namespace Go.Proofs.YtifekgemngfidaaDoor.PA
open Go.RowKit Go.Proofs.YtifekgemngfidaaDoorW.PrintWords Go.Proofs.YtifekgemngfidaaDoor.Op
set_option linter.unusedVariables false

def wf_t5 (n : Int) : Prop := (Lit.int .u8 n).wf = true
theorem op_t5 : Opens Tryd.prog 5 (Kd.int .u8) wf_t5 := opens_mono (opens_int Tryd.underlying5) (fun _ h => h)
def wf_t22 (l : List Int) : Prop := l.length ≤ maxLen ∧ ∀ a ∈ l, wf_t5 a
theorem op_t22 : Opens Tryd.prog 22 (Kd.slice 5 (Kd.int .u8)) wf_t22 := opens_mono (opens_slice Tryd.underlying22 (by kernel_rfl) op_t5) (fun _ h => h)
def wf_t3 (n : Int) : Prop := (Lit.int .i64 n).wf = true
theorem op_t3 : Opens Tryd.prog 3 (Kd.int .i64) wf_t3 := opens_mono (opens_int Tryd.underlying3) (fun _ h => h)
def wf_t34 (x : S34) : Prop := wf_t3 x.f0 ∧ wf_t3 x.f1 ∧ wf_t3 x.f2 ∧ wf_t3 x.f3 ∧ wf_t3 x.f4 ∧ wf_t3 x.f5
theorem op_t34 : Opens Tryd.prog 34 k34 wf_t34 := opens_mono (opens_iso (opens_struct Tryd.underlying34 (by kernel_rfl) (opensAt_cons rfl (by kernel_rfl) op_t3 (opensAt_cons rfl (by kernel_rfl) op_t3 (opensAt_cons rfl (by kernel_rfl) op_t3 (opensAt_cons rfl (by kernel_rfl) op_t3 (opensAt_cons rfl (by kernel_rfl) op_t3 (opensAt_one rfl (by kernel_rfl) op_t3))))))) (fun x : S34 => (x.f0, x.f1, x.f2, x.f3, x.f4, x.f5)) (fun q => ⟨q.1, q.2.1, q.2.2.1, q.2.2.2.1, q.2.2.2.2.1, q.2.2.2.2.2⟩) (fun _ => rfl)) (fun _ h => h)
def wf_t24 (l : List (S34)) : Prop := l.length ≤ maxLen ∧ ∀ a ∈ l, wf_t34 a
theorem op_t24 : Opens Tryd.prog 24 (Kd.slice 34 k34) wf_t24 := opens_mono (opens_slice Tryd.underlying24 (by kernel_rfl) op_t34) (fun _ h => h)
def wf_t26 (x : S26) : Prop := wf_t3 x.f0 ∧ wf_t3 x.f1 ∧ wf_t3 x.f2 ∧ wf_t24 x.f3
theorem op_t26 : Opens Tryd.prog 26 k26 wf_t26 := opens_mono (opens_iso (opens_struct Tryd.underlying26 (by kernel_rfl) (opensAt_cons rfl (by kernel_rfl) op_t3 (opensAt_cons rfl (by kernel_rfl) op_t3 (opensAt_cons rfl (by kernel_rfl) op_t3 (opensAt_one rfl (by kernel_rfl) op_t24))))) (fun x : S26 => (x.f0, x.f1, x.f2, x.f3)) (fun q => ⟨q.1, q.2.1, q.2.2.1, q.2.2.2⟩) (fun _ => rfl)) (fun _ h => h)
end Go.Proofs.YtifekgemngfidaaDoor.PA
