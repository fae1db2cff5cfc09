import Derived.Test.YtdmlohoicgfdnaaDoorPrintRef
import Derived.Test.YtdmlohoicgfdnaaDoorScanSame
import Derived.Test.YtdmlohoicgfdnaaDoorPAx4
import Derived.Test.YtdmlohoicgfdnaaDoorPAx3
/-! What the program prints, by the spec on lists. -/
namespace Go.Proofs.YtdmlohoicgfdnaaDoor.Scan
open Go.RowKit Go.Proofs.YtdmlohoicgfdnaaDoorW.PrintWords Go.Proofs.YtdmlohoicgfdnaaDoorW.PrintLast Go.Proofs.YtdmlohoicgfdnaaDoor.PA
set_option linter.unusedVariables false
theorem print_out {l : List (List Int)} (hp : Prints l) : scan_Print.f l = some (textP l) := by
  unfold scan_Print.f
  rw [if_pos]
  exact ⟨by have := hp.len; omega, fun x hx => (hp.2 x hx).2⟩
theorem awake_true : haulierlaw04_awake.f = some true := by
  unfold haulierlaw04_awake.f
  rw [scan_out]
  rfl
/-- What was read is printed. -/
theorem prints_read {b : List Int} : Prints (linesOut b).1 := by
  have hl := out_len b
  refine ⟨by omega, fun x hx => ⟨(hl.2 x hx), fun n hn => ?_⟩⟩
  unfold linesOut textOut at hx
  split at hx
  · cases hx
  · cases hb : textF b with
    | none => rw [hb] at hx; cases hx
    | some L =>
      rw [hb] at hx
      have := (textF_bound hb x hx).2 n hn
      unfold Num12 at this; omega
end Go.Proofs.YtdmlohoicgfdnaaDoor.Scan
