-- Printed for this claim by wip/tools/xprint.py over the kit's print; the contracts marked BY HAND are this session's own.
import Derived.Test.YtjiammiihamkiaaPCx0
import Derived.Test.YtjiammiihamkiaaOpens
import Derived.KernelRfl
namespace Go.Proofs.Ytjiammiihamkiaa.PC
open Go.RowKit Go.Proofs.YtjiammiihamkiaaW.PrintWords Go.Proofs.Ytjiammiihamkiaa.Op
set_option linter.unusedVariables false

def wf_t3 (n : Int) : Prop := (Lit.int .i64 n).wf = true
theorem op_t3 : Opens Try.prog 3 (Kd.int .i64) wf_t3 := opens_mono (opens_int Try.underlying3) (fun _ h => h)
def wf_t23 (x : S23) : Prop := wf_t3 x.f0 ∧ wf_t3 x.f1 ∧ wf_t3 x.f2 ∧ wf_t3 x.f3 ∧ wf_t3 x.f4 ∧ wf_t3 x.f5
theorem op_t23 : Opens Try.prog 23 k23 wf_t23 := opens_mono (opens_iso (opens_struct Try.underlying23 (by kernel_rfl) (opensAt_cons rfl (by kernel_rfl) op_t3 (opensAt_cons rfl (by kernel_rfl) op_t3 (opensAt_cons rfl (by kernel_rfl) op_t3 (opensAt_cons rfl (by kernel_rfl) op_t3 (opensAt_cons rfl (by kernel_rfl) op_t3 (opensAt_one rfl (by kernel_rfl) op_t3))))))) (fun x : S23 => (x.f0, x.f1, x.f2, x.f3, x.f4, x.f5)) (fun q => ⟨q.1, q.2.1, q.2.2.1, q.2.2.2.1, q.2.2.2.2.1, q.2.2.2.2.2⟩) (fun _ => rfl)) (fun _ h => h)
def wf_t24 (l : List (S23)) : Prop := l.length ≤ maxLen ∧ ∀ a ∈ l, wf_t23 a
theorem op_t24 : Opens Try.prog 24 (Kd.slice 23 k23) wf_t24 := opens_mono (opens_slice Try.underlying24 (by kernel_rfl) op_t23) (fun _ h => h)
def wf_t26 (x : S26) : Prop := wf_t3 x.f0 ∧ wf_t3 x.f1 ∧ wf_t3 x.f2 ∧ wf_t24 x.f3
theorem op_t26 : Opens Try.prog 26 k26 wf_t26 := opens_mono (opens_iso (opens_struct Try.underlying26 (by kernel_rfl) (opensAt_cons rfl (by kernel_rfl) op_t3 (opensAt_cons rfl (by kernel_rfl) op_t3 (opensAt_cons rfl (by kernel_rfl) op_t3 (opensAt_one rfl (by kernel_rfl) op_t24))))) (fun x : S26 => (x.f0, x.f1, x.f2, x.f3)) (fun q => ⟨q.1, q.2.1, q.2.2.1, q.2.2.2⟩) (fun _ => rfl)) (fun _ h => h)
def wf_t38 (n : Int) : Prop := (Lit.int .u64 n).wf = true
theorem op_t38 : Opens Try.prog 38 (Kd.int .u64) wf_t38 := opens_mono (opens_int Try.underlying38) (fun _ h => h)
def wf_t40 (x : S40) : Prop := wf_t3 x.f0 ∧ wf_t3 x.f1 ∧ wf_t3 x.f2 ∧ wf_t3 x.f3 ∧ wf_t3 x.f4 ∧ wf_t38 x.f5 ∧ wf_t38 x.f6 ∧ wf_t38 x.f7
theorem op_t40 : Opens Try.prog 40 k40 wf_t40 := opens_mono (opens_iso (opens_struct Try.underlying40 (by kernel_rfl) (opensAt_cons rfl (by kernel_rfl) op_t3 (opensAt_cons rfl (by kernel_rfl) op_t3 (opensAt_cons rfl (by kernel_rfl) op_t3 (opensAt_cons rfl (by kernel_rfl) op_t3 (opensAt_cons rfl (by kernel_rfl) op_t3 (opensAt_cons rfl (by kernel_rfl) op_t38 (opensAt_cons rfl (by kernel_rfl) op_t38 (opensAt_one rfl (by kernel_rfl) op_t38))))))))) (fun x : S40 => (x.f0, x.f1, x.f2, x.f3, x.f4, x.f5, x.f6, x.f7)) (fun q => ⟨q.1, q.2.1, q.2.2.1, q.2.2.2.1, q.2.2.2.2.1, q.2.2.2.2.2.1, q.2.2.2.2.2.2.1, q.2.2.2.2.2.2.2⟩) (fun _ => rfl)) (fun _ h => h)
def wf_t32 (l : List Int) : Prop := l.length ≤ maxLen ∧ ∀ a ∈ l, wf_t3 a
theorem op_t32 : Opens Try.prog 32 (Kd.slice 3 (Kd.int .i64)) wf_t32 := opens_mono (opens_slice Try.underlying32 (by kernel_rfl) op_t3) (fun _ h => h)
def wf_t50 (x : S50) : Prop := wf_t40 x.f0 ∧ wf_t3 x.f1 ∧ wf_t32 x.f2
theorem op_t50 : Opens Try.prog 50 k50 wf_t50 := opens_mono (opens_iso (opens_struct Try.underlying50 (by kernel_rfl) (opensAt_cons rfl (by kernel_rfl) op_t40 (opensAt_cons rfl (by kernel_rfl) op_t3 (opensAt_one rfl (by kernel_rfl) op_t32)))) (fun x : S50 => (x.f0, x.f1, x.f2)) (fun q => ⟨q.1, q.2.1, q.2.2⟩) (fun _ => rfl)) (fun _ h => h)
end Go.Proofs.Ytjiammiihamkiaa.PC
