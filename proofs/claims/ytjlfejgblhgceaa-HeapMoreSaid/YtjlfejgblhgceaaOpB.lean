-- Printed for this claim by wip/tools/xprint.py over the kit's print; the contracts marked BY HAND are this session's own.
import Derived.Test.YtjlfejgblhgceaaPBx0
import Derived.Test.YtjlfejgblhgceaaOpens
import Derived.KernelRfl
namespace Go.Proofs.Ytjlfejgblhgceaa.PB
open Go.RowKit Go.Proofs.YtjlfejgblhgceaaW.PrintWords Go.Proofs.Ytjlfejgblhgceaa.Op
set_option linter.unusedVariables false

def wf_t3 (n : Int) : Prop := (Lit.int .i64 n).wf = true
theorem op_t3 : Opens Try.prog 3 (Kd.int .i64) wf_t3 := opens_mono (opens_int Try.underlying3) (fun _ h => h)
def wf_t23 (x : S23) : Prop := wf_t3 x.f0 ∧ wf_t3 x.f1 ∧ wf_t3 x.f2
theorem op_t23 : Opens Try.prog 23 k23 wf_t23 := opens_mono (opens_iso (opens_struct Try.underlying23 (by kernel_rfl) (opensAt_cons rfl (by kernel_rfl) op_t3 (opensAt_cons rfl (by kernel_rfl) op_t3 (opensAt_one rfl (by kernel_rfl) op_t3)))) (fun x : S23 => (x.f0, x.f1, x.f2)) (fun q => ⟨q.1, q.2.1, q.2.2⟩) (fun _ => rfl)) (fun _ h => h)
def wf_t27 (l : List (S23)) : Prop := l.length ≤ maxLen ∧ ∀ a ∈ l, wf_t23 a
theorem op_t27 : Opens Try.prog 27 (Kd.slice 23 k23) wf_t27 := opens_mono (opens_slice Try.underlying27 (by kernel_rfl) op_t23) (fun _ h => h)
def wf_t39 (x : S39) : Prop := wf_t3 x.f0 ∧ wf_t23 x.f1
theorem op_t39 : Opens Try.prog 39 k39 wf_t39 := opens_mono (opens_iso (opens_struct Try.underlying39 (by kernel_rfl) (opensAt_cons rfl (by kernel_rfl) op_t3 (opensAt_one rfl (by kernel_rfl) op_t23))) (fun x : S39 => (x.f0, x.f1)) (fun q => ⟨q.1, q.2⟩) (fun _ => rfl)) (fun _ h => h)
def wf_t34 (l : List (S39)) : Prop := l.length ≤ maxLen ∧ ∀ a ∈ l, wf_t39 a
theorem op_t34 : Opens Try.prog 34 (Kd.slice 39 k39) wf_t34 := opens_mono (opens_slice Try.underlying34 (by kernel_rfl) op_t39) (fun _ h => h)
end Go.Proofs.Ytjlfejgblhgceaa.PB
