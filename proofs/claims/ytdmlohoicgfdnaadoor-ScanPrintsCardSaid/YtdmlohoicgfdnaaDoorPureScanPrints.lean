/- The text that the program prints of lines is the reference's, for at most 100 lines of at most 100 numbers each. -/
import Derived.Test.YtdmlohoicgfdnaaDoorDefScanPrints
import Derived.Test.YtdmlohoicgfdnaaDoorPrintFew
namespace Go.Proofs.YtdmlohoicgfdnaaDoor.Pure
open Go.RowKit Go.Proofs.YtdmlohoicgfdnaaDoor.PA Go.Proofs.YtdmlohoicgfdnaaDoorW.PrintWords Go.Proofs.YtdmlohoicgfdnaaDoorW.PrintLast Go.Proofs.YtdmlohoicgfdnaaDoor.Scan
theorem ScanPrints : haulierlaw04_ScanPrints.Claim := by
  intro x hx
  have hwf : ∀ a ∈ x, ∀ n ∈ a, (Lit.int .i64 n).wf = true := fun a ha n hn => (hx.2 a ha).2 n hn
  have hlen : x.length ≤ 9223372036854775807 := hx.1
  suffices h : Ev (fun k => haulierlaw04_ScanPrints.f k x) true from h.rounds
  refine Ev.congr (f := fun k => (haulierlaw04_few.f k x).bind fun t => haulierlaw04_ScanPrints.j0 k x true (!t)) (fun k => ?_) (Ev.bind (few_ev x) ?_)
  · simp only [haulierlaw04_ScanPrints.f, awake_true, Option.bind_some, if_true]
  · by_cases h : x.length ≤ 100 ∧ ∀ l ∈ x, l.length ≤ 100
    · rw [decide_eq_true h]
      have hp := prints_few hwf h
      refine Ev.step (f := fun k => (haulierref04_Print.f k x).bind fun t => some ((strOfNums (textP x)).toList == (strOfNums t).toList)) (fun k => ?_) (Ev.bind (Print_ev hp) ?_)
      · simp only [haulierlaw04_ScanPrints.j0]
        rw [if_neg (by decide), print_out hp]; rfl
      · refine Ev.congr (f := fun _ => some true) (fun k => ?_) (Ev.now _)
        rw [beq_self_eq_true]
    · rw [decide_eq_false h]
      refine Ev.step (f := fun _ => some true) (fun k => ?_) (Ev.now _)
      simp only [haulierlaw04_ScanPrints.j0]
      rw [if_pos (by decide)]
end Go.Proofs.YtdmlohoicgfdnaaDoor.Pure
