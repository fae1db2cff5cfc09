import Derived.Test.YtdkhajgfifaibaaDoorScanOut
import Derived.Test.YtdkhajgfifaibaaDoorPrintLaw
import Derived.Test.YtdkhajgfifaibaaDoorPAx4
/-! What the program prints, by the spec on lists. -/
namespace Go.Proofs.YtdkhajgfifaibaaDoor.Scan
open Go.RowKit Go.Proofs.YtdkhajgfifaibaaDoorW.PrintWords Go.Proofs.YtdkhajgfifaibaaDoorW.PrintLast Go.Proofs.YtdkhajgfifaibaaDoor.PA
set_option linter.unusedVariables false
theorem print_out {l : List (List Int)} (hp : Prints l) : scan_Print.f l = some (textP l) := by
  unfold scan_Print.f
  rw [if_pos]
  exact ⟨by have := hp.len; omega, fun x hx => (hp.2 x hx).2⟩
/-- What was read is printed. -/
theorem prints_read {b : List Int} : Prints (linesOut b).1 := by
  have hl := out_len b
  refine ⟨by omega, fun x hx => ⟨(hl.2 x hx), fun n hn => ?_⟩⟩
  unfold linesOut textOut at hx
  split at hx
  · cases hx
  · cases hb : textF b with
    | none => rw [hb] at hx; cases hx
    | some L =>
      rw [hb] at hx
      have := (textF_bound hb x hx).2 n hn
      unfold Num12 at this; omega
end Go.Proofs.YtdkhajgfifaibaaDoor.Scan
