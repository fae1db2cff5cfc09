-- Printed for this claim by wip/tools/xprint.py over the kit's print; the contracts marked BY HAND are this session's own.
import Derived.Test.YtnfcccfcfckegaaPBx0
import Derived.Test.YtnfcccfcfckegaaOpens
import Derived.KernelRfl
namespace Go.Proofs.Ytnfcccfcfckegaa.PB
open Go.RowKit Go.Proofs.YtnfcccfcfckegaaW.PrintWords Go.Proofs.Ytnfcccfcfckegaa.Op
set_option linter.unusedVariables false

def wf_t3 (n : Int) : Prop := (Lit.int .i64 n).wf = true
theorem op_t3 : Opens Try.prog 3 (Kd.int .i64) wf_t3 := opens_mono (opens_int Try.underlying3) (fun _ h => h)
def wf_t35 (x : S35) : Prop := wf_t3 x.f0 ∧ wf_t3 x.f1 ∧ wf_t3 x.f2 ∧ wf_t3 x.f3 ∧ wf_t3 x.f4 ∧ wf_t3 x.f5
theorem op_t35 : Opens Try.prog 35 k35 wf_t35 := opens_mono (opens_iso (opens_struct Try.underlying35 (by kernel_rfl) (opensAt_cons rfl (by kernel_rfl) op_t3 (opensAt_cons rfl (by kernel_rfl) op_t3 (opensAt_cons rfl (by kernel_rfl) op_t3 (opensAt_cons rfl (by kernel_rfl) op_t3 (opensAt_cons rfl (by kernel_rfl) op_t3 (opensAt_one rfl (by kernel_rfl) op_t3))))))) (fun x : S35 => (x.f0, x.f1, x.f2, x.f3, x.f4, x.f5)) (fun q => ⟨q.1, q.2.1, q.2.2.1, q.2.2.2.1, q.2.2.2.2.1, q.2.2.2.2.2⟩) (fun _ => rfl)) (fun _ h => h)
end Go.Proofs.Ytnfcccfcfckegaa.PB
