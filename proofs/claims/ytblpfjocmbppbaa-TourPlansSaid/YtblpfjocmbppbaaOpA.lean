-- Printed for this claim by wip/tools/xprint.py over the kit's print; the contracts marked BY HAND are this session's own.
import Derived.Test.YtblpfjocmbppbaaPAx0
import Derived.Test.YtblpfjocmbppbaaOpens
import Derived.KernelRfl
namespace Go.Proofs.Ytblpfjocmbppbaa.PA
open Go.RowKit Go.Proofs.YtblpfjocmbppbaaW.PrintWords Go.Proofs.Ytblpfjocmbppbaa.Op
set_option linter.unusedVariables false

def wf_t3 (n : Int) : Prop := (Lit.int .i64 n).wf = true
theorem op_t3 : Opens Try.prog 3 (Kd.int .i64) wf_t3 := opens_mono (opens_int Try.underlying3) (fun _ h => h)
def wf_t28 (l : List Int) : Prop := l.length ≤ maxLen ∧ ∀ a ∈ l, wf_t3 a
theorem op_t28 : Opens Try.prog 28 (Kd.slice 3 (Kd.int .i64)) wf_t28 := opens_mono (opens_slice Try.underlying28 (by kernel_rfl) op_t3) (fun _ h => h)
def wf_t22 (l : List (List Int)) : Prop := l.length ≤ maxLen ∧ ∀ a ∈ l, wf_t28 a
theorem op_t22 : Opens Try.prog 22 (Kd.slice 28 (Kd.slice 3 (Kd.int .i64))) wf_t22 := opens_mono (opens_slice Try.underlying22 (by kernel_rfl) op_t28) (fun _ h => h)
def wf_t24 (x : S24) : Prop := wf_t22 x.f0
theorem op_t24 : Opens Try.prog 24 k24 wf_t24 := opens_mono (opens_iso (opens_struct Try.underlying24 (by kernel_rfl) (opensAt_one rfl (by kernel_rfl) op_t22)) (fun x : S24 => x.f0) (fun q => ⟨q⟩) (fun _ => rfl)) (fun _ h => h)
end Go.Proofs.Ytblpfjocmbppbaa.PA
