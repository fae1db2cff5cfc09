/- What the program reads it prints as something that it reads, and prints, the same, for every text of at most 6000 bytes. -/
import Derived.Test.YtdmlohoicgfdnaaDoorDefScanAgain
import Derived.Test.YtdmlohoicgfdnaaDoorPrintEnd
namespace Go.Proofs.YtdmlohoicgfdnaaDoor.Pure
open Go.RowKit Go.Proofs.YtdmlohoicgfdnaaDoor.PA Go.Proofs.YtdmlohoicgfdnaaDoorW.PrintWords Go.Proofs.YtdmlohoicgfdnaaDoorW.PrintLast Go.Proofs.YtdmlohoicgfdnaaDoor.Scan
theorem ScanAgain : haulierlaw04_ScanAgain.Claim := by
  intro x hx
  suffices h : Ev (fun k => haulierlaw04_ScanAgain.f k x) true from h.rounds
  by_cases hl : (x.length : Int) > 6000
  · refine Ev.congr (f := fun k => haulierlaw04_ScanAgain.j0 k x true true) (fun k => ?_) (Ev.step (f := fun _ => some true) (fun k => ?_) (Ev.now _))
    · simp only [haulierlaw04_ScanAgain.f, awake_true, Option.bind_some, if_true]
      rw [show decide ((x.length : Int) > 6000) = true from decide_eq_true hl]
    · simp [haulierlaw04_ScanAgain.j0]
  · refine Ev.congr (f := fun k => haulierlaw04_ScanAgain.j0 k x true false) (fun k => ?_) ?_
    · simp only [haulierlaw04_ScanAgain.f, awake_true, Option.bind_some, if_true]
      rw [show decide ((x.length : Int) > 6000) = false from decide_eq_false hl]
    · have hp := prints_read (b := x)
      have hs := out_same x
      have hagain : (linesOut x).2 = 0 → ¬ ((textP (linesOut x).1).length : Int) > 4096 → linesOut (textP (linesOut x).1) = ((linesOut x).1, 0) := by
        intro h2 hlen
        unfold linesOut textOut at h2
        split at h2
        · cases h2
        · rename_i hxl
          cases hb : textF x with
          | none => rw [hb] at h2; cases h2
          | some L =>
            have e : linesOut x = (L, 0) := by unfold linesOut textOut; rw [if_neg hxl, hb]
            rw [e] at hlen ⊢
            have e2 : textF (textP L) = some L := textF_again hb
            unfold linesOut textOut
            rw [if_neg hlen]
            show (match textF (textP L) with | some r => (r, (0 : Int)) | none => ([], 2)) = (L, 0)
            rw [e2]
      by_cases h2 : (linesOut x).2 = 0
      · by_cases h3 : ((textP (linesOut x).1).length : Int) > 4096
        · refine Ev.step (f := fun _ => some true) (fun k => ?_) (Ev.now _)
          simp only [haulierlaw04_ScanAgain.j0]
          rw [if_neg (by decide), scan_out, Option.bind_some, if_pos h2, print_out hp, Option.bind_some, scan_out, Option.bind_some, if_pos h3]
          generalize textP (linesOut x).1 = y at h3
          have e : (linesOut y).2 = 6 := by unfold linesOut; rw [if_pos h3]
          rw [e]; rfl
        · have e := hagain h2 h3
          refine Ev.step (f := fun k => (haulierref04_Same.f k (linesOut x).1 (linesOut x).1).bind fun t => if t = true then some true else none) (fun k => ?_) (Ev.bind hs (Ev.now _))
          simp only [haulierlaw04_ScanAgain.j0]
          rw [if_neg (by decide), scan_out, Option.bind_some, if_pos h2, print_out hp, Option.bind_some, scan_out, Option.bind_some, if_neg h3, e]
          simp only [if_true]
          rw [print_out hp]
          simp
      · refine Ev.step (f := fun _ => some true) (fun k => ?_) (Ev.now _)
        simp only [haulierlaw04_ScanAgain.j0]
        rw [if_neg (by decide), scan_out, Option.bind_some, if_neg h2]
        unfold linesOut textOut at h2 ⊢
        split
        · rfl
        · rename_i hxl
          rw [if_neg hxl] at h2
          cases hb : textF x with
          | none => rfl
          | some L => rw [hb] at h2; exact absurd rfl h2
end Go.Proofs.YtdmlohoicgfdnaaDoor.Pure
