/- What the program reads as a text's numbers is what the reference reads, for every text of at most 6000 bytes. -/
import Derived.Test.YtdmlohoicgfdnaaDefScanReads
import Derived.Test.YtdmlohoicgfdnaaScanLaw
namespace Go.Proofs.Ytdmlohoicgfdnaa.Pure
open Go.RowKit Go.Proofs.Ytdmlohoicgfdnaa.PA Go.Proofs.YtdmlohoicgfdnaaW.PrintWords Go.Proofs.YtdmlohoicgfdnaaW.PrintLast Go.Proofs.Ytdmlohoicgfdnaa.Scan
theorem ScanReads : haulierlaw04_ScanReads.Claim := by
  intro x hx
  have hb := bytes_of hx.2
  suffices h : Ev (fun k => haulierlaw04_ScanReads.f k x) true from h.rounds
  by_cases hl : (x.length : Int) > 6000
  · refine Ev.congr (f := fun k => haulierlaw04_ScanReads.j0 k x true true) (fun k => ?_) (Ev.step (f := fun _ => some true) (fun k => ?_) (Ev.now _))
    · simp only [haulierlaw04_ScanReads.f, awake_true, Option.bind_some, if_true]
      rw [show decide ((x.length : Int) > 6000) = true from decide_eq_true hl]
    · simp [haulierlaw04_ScanReads.j0]
  · refine Ev.congr (f := fun k => haulierlaw04_ScanReads.j0 k x true false) (fun k => ?_) ?_
    · simp only [haulierlaw04_ScanReads.f, awake_true, Option.bind_some, if_true]
      rw [show decide ((x.length : Int) > 6000) = false from decide_eq_false hl]
    · refine Ev.step (f := fun k => (haulierref04_Lines.f k x).bind fun bt159 => ((haulierref04_Same.f k (linesOut x).1 bt159.1).bind fun t163 => (if t163 = true then (some ((linesOut x).2 == bt159.2)) else (none)))) (fun k => ?_) ?_
      · simp only [haulierlaw04_ScanReads.j0, scan_out, Option.bind_some]
        rw [if_neg (by decide)]
      · refine Ev.bind (Lines_all x hb) (Ev.bind (out_same x) ?_)
        refine Ev.congr (f := fun _ => some true) (fun k => ?_) (Ev.now _)
        rw [if_pos rfl, beq_self_eq_true]
end Go.Proofs.Ytdmlohoicgfdnaa.Pure
