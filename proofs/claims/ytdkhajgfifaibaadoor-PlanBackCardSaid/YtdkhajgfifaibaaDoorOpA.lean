-- Printed for this claim by wip/tools/xprint.py over the kit's print; the contracts marked BY HAND are this session's own.
import Derived.Test.YtdkhajgfifaibaaDoorPAx0
import Derived.Test.YtdkhajgfifaibaaDoorOpens
import Derived.KernelRfl
namespace Go.Proofs.YtdkhajgfifaibaaDoor.PA
open Go.RowKit Go.Proofs.YtdkhajgfifaibaaDoorW.PrintWords Go.Proofs.YtdkhajgfifaibaaDoor.Op
set_option linter.unusedVariables false

def wf_t3 (n : Int) : Prop := (Lit.int .i64 n).wf = true
theorem op_t3 : Opens Tryd.prog 3 (Kd.int .i64) wf_t3 := opens_mono (opens_int Tryd.underlying3) (fun _ h => h)
def wf_t36 (l : List Int) : Prop := l.length ≤ maxLen ∧ ∀ a ∈ l, wf_t3 a
theorem op_t36 : Opens Tryd.prog 36 (Kd.slice 3 (Kd.int .i64)) wf_t36 := opens_mono (opens_slice Tryd.underlying36 (by kernel_rfl) op_t3) (fun _ h => h)
def wf_t22 (l : List (List Int)) : Prop := l.length ≤ maxLen ∧ ∀ a ∈ l, wf_t36 a
theorem op_t22 : Opens Tryd.prog 22 (Kd.slice 36 (Kd.slice 3 (Kd.int .i64))) wf_t22 := opens_mono (opens_slice Tryd.underlying22 (by kernel_rfl) op_t36) (fun _ h => h)
def wf_t24 (x : S24) : Prop := wf_t22 x.f0
theorem op_t24 : Opens Tryd.prog 24 k24 wf_t24 := opens_mono (opens_iso (opens_struct Tryd.underlying24 (by kernel_rfl) (opensAt_one rfl (by kernel_rfl) op_t22)) (fun x : S24 => x.f0) (fun q => ⟨q⟩) (fun _ => rfl)) (fun _ h => h)
end Go.Proofs.YtdkhajgfifaibaaDoor.PA
