-- Printed for this claim by wip/tools/xprint.py over the kit's print; the contracts marked BY HAND are this session's own.
import Derived.Test.YtkcdpnigcbcalaaPBx0
import Derived.Test.YtkcdpnigcbcalaaOpens
import Derived.KernelRfl
namespace Go.Proofs.Ytkcdpnigcbcalaa.PB
open Go.RowKit Go.Proofs.YtkcdpnigcbcalaaW.PrintWords Go.Proofs.Ytkcdpnigcbcalaa.Op
set_option linter.unusedVariables false

def wf_t3 (n : Int) : Prop := (Lit.int .i64 n).wf = true
theorem op_t3 : Opens Try.prog 3 (Kd.int .i64) wf_t3 := opens_mono (opens_int Try.underlying3) (fun _ h => h)
def wf_t22 (n : Int) : Prop := (Lit.int .u64 n).wf = true
theorem op_t22 : Opens Try.prog 22 (Kd.int .u64) wf_t22 := opens_mono (opens_int Try.underlying22) (fun _ h => h)
def wf_t24 (x : S24) : Prop := wf_t3 x.f0 ∧ wf_t3 x.f1 ∧ wf_t3 x.f2 ∧ wf_t3 x.f3 ∧ wf_t3 x.f4 ∧ wf_t22 x.f5 ∧ wf_t22 x.f6 ∧ wf_t22 x.f7
theorem op_t24 : Opens Try.prog 24 k24 wf_t24 := opens_mono (opens_iso (opens_struct Try.underlying24 (by kernel_rfl) (opensAt_cons rfl (by kernel_rfl) op_t3 (opensAt_cons rfl (by kernel_rfl) op_t3 (opensAt_cons rfl (by kernel_rfl) op_t3 (opensAt_cons rfl (by kernel_rfl) op_t3 (opensAt_cons rfl (by kernel_rfl) op_t3 (opensAt_cons rfl (by kernel_rfl) op_t22 (opensAt_cons rfl (by kernel_rfl) op_t22 (opensAt_one rfl (by kernel_rfl) op_t22))))))))) (fun x : S24 => (x.f0, x.f1, x.f2, x.f3, x.f4, x.f5, x.f6, x.f7)) (fun q => ⟨q.1, q.2.1, q.2.2.1, q.2.2.2.1, q.2.2.2.2.1, q.2.2.2.2.2.1, q.2.2.2.2.2.2.1, q.2.2.2.2.2.2.2⟩) (fun _ => rfl)) (fun _ h => h)
def wf_t35 (l : List Int) : Prop := l.length ≤ maxLen ∧ ∀ a ∈ l, wf_t3 a
theorem op_t35 : Opens Try.prog 35 (Kd.slice 3 (Kd.int .i64)) wf_t35 := opens_mono (opens_slice Try.underlying35 (by kernel_rfl) op_t3) (fun _ h => h)
def wf_t37 (x : S37) : Prop := wf_t24 x.f0 ∧ wf_t3 x.f1 ∧ wf_t35 x.f2
theorem op_t37 : Opens Try.prog 37 k37 wf_t37 := opens_mono (opens_iso (opens_struct Try.underlying37 (by kernel_rfl) (opensAt_cons rfl (by kernel_rfl) op_t24 (opensAt_cons rfl (by kernel_rfl) op_t3 (opensAt_one rfl (by kernel_rfl) op_t35)))) (fun x : S37 => (x.f0, x.f1, x.f2)) (fun q => ⟨q.1, q.2.1, q.2.2⟩) (fun _ => rfl)) (fun _ h => h)
def wf_t38 (l : List (S37)) : Prop := l.length ≤ maxLen ∧ ∀ a ∈ l, wf_t37 a
theorem op_t38 : Opens Try.prog 38 (Kd.slice 37 k37) wf_t38 := opens_mono (opens_slice Try.underlying38 (by kernel_rfl) op_t37) (fun _ h => h)
end Go.Proofs.Ytkcdpnigcbcalaa.PB
