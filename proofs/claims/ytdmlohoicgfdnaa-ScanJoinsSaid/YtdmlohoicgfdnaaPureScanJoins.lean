/- Two texts of at most 2000 bytes, a line feed between them, are read as one behind the other; if one of them is none neither is that. -/
import Derived.Test.YtdmlohoicgfdnaaDefScanJoins
import Derived.Test.YtdmlohoicgfdnaaScanLaw
namespace Go.Proofs.Ytdmlohoicgfdnaa.Pure
open Go.RowKit Go.Proofs.Ytdmlohoicgfdnaa.PA Go.Proofs.YtdmlohoicgfdnaaW.PrintWords Go.Proofs.YtdmlohoicgfdnaaW.PrintLast Go.Proofs.Ytdmlohoicgfdnaa.Scan
theorem ScanJoins : haulierlaw04_ScanJoins.Claim := by
  intro x y hx hy
  suffices h : Ev (fun k => haulierlaw04_ScanJoins.f k x y) true from h.rounds
  have hout : ∀ k, haulierlaw04_ScanJoins.j0 (k + 1) x y true true = some true := fun k => by simp [haulierlaw04_ScanJoins.j0]
  by_cases hl : (x.length : Int) > 2000
  · refine Ev.congr (f := fun k => haulierlaw04_ScanJoins.j0 k x y true true) (fun k => ?_) (Ev.step (f := fun _ => some true) hout (Ev.now _))
    simp only [haulierlaw04_ScanJoins.f, awake_true, Option.bind_some, if_true]
    rw [if_pos hl]
  by_cases hl2 : (y.length : Int) > 2000
  · refine Ev.congr (f := fun k => haulierlaw04_ScanJoins.j0 k x y true true) (fun k => ?_) (Ev.step (f := fun _ => some true) hout (Ev.now _))
    simp only [haulierlaw04_ScanJoins.f, awake_true, Option.bind_some, if_true]
    rw [if_neg hl, show decide ((y.length : Int) > 2000) = true from decide_eq_true hl2]
  have e0 : (([] : List Int) ++ x ++ [10]) ++ y = x ++ 10 :: y := by simp
  have hz : (x ++ 10 :: y).length ≤ 4096 := by simp; omega
  have ho := out_small hz
  rw [textF_mid] at ho
  have hox := out_small (b := x) (by omega)
  have hoy := out_small (b := y) (by omega)
  refine Ev.congr (f := fun k => haulierlaw04_ScanJoins.j0 k x y true false) (fun k => ?_) ?_
  · simp only [haulierlaw04_ScanJoins.f, awake_true, Option.bind_some, if_true]
    rw [if_neg hl, show decide ((y.length : Int) > 2000) = false from decide_eq_false hl2]
  have hlim := (out_len x).1
  have hlim2 := (out_len y).1
  refine Ev.step (f := fun k => if (linesOut x).2 = 0 then (if (linesOut y).2 = 0 then ((haulierref04_Same.f k ((linesOut x).1 ++ (linesOut y).1) (linesOut (x ++ 10 :: y)).1).bind fun t189 => (if (linesOut (x ++ 10 :: y)).2 = 0 then (some t189) else (none))) else (some ((linesOut (x ++ 10 :: y)).2 == 2))) else (some ((linesOut (x ++ 10 :: y)).2 == 2))) (fun k => ?_) ?_
  · simp only [haulierlaw04_ScanJoins.j0, scan_out, Option.bind_some]
    rw [if_neg (by decide), if_pos (by simp; omega), if_pos (by simp; omega), if_pos (by simp; omega), e0]
    by_cases p : (linesOut x).2 = 0
    · rw [if_pos p, if_pos p]
      by_cases q : (linesOut y).2 = 0
      · rw [if_pos q, if_pos q, if_pos (by omega)]
      · rw [if_neg q, if_neg q]
    · rw [if_neg p, if_neg p]
  rw [hox, hoy]
  cases hA : textF x with
  | none =>
    rw [hA] at ho
    rw [ho]
    exact Ev.now _
  | some a =>
    cases hB : textF y with
    | none =>
      rw [hA, hB] at ho
      rw [ho]
      exact Ev.now _
    | some b =>
      rw [hA, hB] at ho
      have hs := out_same (x ++ 10 :: y)
      rw [ho] at hs ⊢
      simp only [Option.bind_some, Option.map_some, textOut] at hs ⊢
      simp only [if_true]
      refine Ev.bind hs (Ev.now _)
end Go.Proofs.Ytdmlohoicgfdnaa.Pure
