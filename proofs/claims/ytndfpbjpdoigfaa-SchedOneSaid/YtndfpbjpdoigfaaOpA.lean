-- Printed for this claim by wip/tools/xprint.py over the kit's print; the contracts marked BY HAND are this session's own.
import Derived.Test.YtndfpbjpdoigfaaPAx0
import Derived.Test.YtndfpbjpdoigfaaOpens
import Derived.KernelRfl
namespace Go.Proofs.Ytndfpbjpdoigfaa.PA
open Go.RowKit Go.Proofs.YtndfpbjpdoigfaaW.PrintWords Go.Proofs.Ytndfpbjpdoigfaa.Op
set_option linter.unusedVariables false

def wf_t3 (n : Int) : Prop := (Lit.int .i64 n).wf = true
theorem op_t3 : Opens Try.prog 3 (Kd.int .i64) wf_t3 := opens_mono (opens_int Try.underlying3) (fun _ h => h)
def wf_t28 (x : S28) : Prop := wf_t3 x.f0 ∧ wf_t3 x.f1 ∧ wf_t3 x.f2 ∧ wf_t3 x.f3 ∧ wf_t3 x.f4 ∧ wf_t3 x.f5
theorem op_t28 : Opens Try.prog 28 k28 wf_t28 := opens_mono (opens_iso (opens_struct Try.underlying28 (by kernel_rfl) (opensAt_cons rfl (by kernel_rfl) op_t3 (opensAt_cons rfl (by kernel_rfl) op_t3 (opensAt_cons rfl (by kernel_rfl) op_t3 (opensAt_cons rfl (by kernel_rfl) op_t3 (opensAt_cons rfl (by kernel_rfl) op_t3 (opensAt_one rfl (by kernel_rfl) op_t3))))))) (fun x : S28 => (x.f0, x.f1, x.f2, x.f3, x.f4, x.f5)) (fun q => ⟨q.1, q.2.1, q.2.2.1, q.2.2.2.1, q.2.2.2.2.1, q.2.2.2.2.2⟩) (fun _ => rfl)) (fun _ h => h)
def wf_t22 (l : List (S28)) : Prop := l.length ≤ maxLen ∧ ∀ a ∈ l, wf_t28 a
theorem op_t22 : Opens Try.prog 22 (Kd.slice 28 k28) wf_t22 := opens_mono (opens_slice Try.underlying22 (by kernel_rfl) op_t28) (fun _ h => h)
def wf_t24 (x : S24) : Prop := wf_t3 x.f0 ∧ wf_t3 x.f1 ∧ wf_t3 x.f2 ∧ wf_t22 x.f3
theorem op_t24 : Opens Try.prog 24 k24 wf_t24 := opens_mono (opens_iso (opens_struct Try.underlying24 (by kernel_rfl) (opensAt_cons rfl (by kernel_rfl) op_t3 (opensAt_cons rfl (by kernel_rfl) op_t3 (opensAt_cons rfl (by kernel_rfl) op_t3 (opensAt_one rfl (by kernel_rfl) op_t22))))) (fun x : S24 => (x.f0, x.f1, x.f2, x.f3)) (fun q => ⟨q.1, q.2.1, q.2.2.1, q.2.2.2⟩) (fun _ => rfl)) (fun _ h => h)
end Go.Proofs.Ytndfpbjpdoigfaa.PA
