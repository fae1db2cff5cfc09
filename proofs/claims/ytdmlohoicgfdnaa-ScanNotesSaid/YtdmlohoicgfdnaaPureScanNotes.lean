/- What stands behind a '#', up to the end of a line, does not matter, if it is no line feed: for heads, notes and tails of at most 1000 bytes. -/
import Derived.Test.YtdmlohoicgfdnaaDefScanNotes
import Derived.Test.YtdmlohoicgfdnaaScanLaw
namespace Go.Proofs.Ytdmlohoicgfdnaa.Pure
open Go.RowKit Go.Proofs.Ytdmlohoicgfdnaa.PA Go.Proofs.YtdmlohoicgfdnaaW.PrintWords Go.Proofs.YtdmlohoicgfdnaaW.PrintLast Go.Proofs.Ytdmlohoicgfdnaa.Scan
theorem notes_end (x y z : List Int) (hx : x.length ≤ 1000) (hy : y.length ≤ 1000) (hz : z.length ≤ 1000) (hno : ∀ c ∈ y, c ≠ 10) : Ev (fun k => haulierlaw04_ScanNotes.l0 k x y z ((y.length : Nat) : Int)) true := by
  have e1 : ((((([] : List Int) ++ x) ++ [35]) ++ y) ++ [10]) ++ z = (x ++ 35 :: y) ++ 10 :: z := by simp
  have e2 : (([] : List Int) ++ (([] ++ x) ++ [35]) ++ [10]) ++ z = (x ++ [35]) ++ 10 :: z := by simp
  have ht : textF ((x ++ 35 :: y) ++ 10 :: z) = textF ((x ++ [35]) ++ 10 :: z) := by rw [textF_mid, textF_mid, textF_note hno]
  have h := both_ev (out_text ht (by simp; omega) (by simp; omega))
  refine Ev.step (fun k => ?_) h
  simp only [haulierlaw04_ScanNotes.l0]
  rw [if_neg (by omega)]
  simp only [Option.bind_some]
  rw [if_pos (by simp; omega), if_pos (by simp; omega), if_pos (by simp; omega), if_pos (by simp; omega), if_pos (by simp; omega), if_pos (by simp; omega), if_pos (by simp; omega), if_pos (by simp; omega), e1, e2]
theorem notes_loop (x y z : List Int) (hx : x.length ≤ 1000) (hy : y.length ≤ 1000) (hz : z.length ≤ 1000) : ∀ (d i : Nat), i + d = y.length → (∀ c ∈ y.take i, c ≠ 10) → Ev (fun k => haulierlaw04_ScanNotes.l0 k x y z (i : Int)) true := by
  intro d
  induction d with
  | zero =>
    intro i hi hno
    obtain rfl : i = y.length := by omega
    rw [List.take_length] at hno
    exact notes_end x y z hx hy hz hno
  | succ d ih =>
    intro i hi hno
    have hlt : i < y.length := by omega
    by_cases h10 : y[i] = 10
    · refine Ev.step (f := fun _ => some true) (fun k => ?_) (Ev.now _)
      simp only [haulierlaw04_ScanNotes.l0]
      rw [if_pos (by omega), if_pos (by omega), rd_at hlt, if_pos h10]
    · refine Ev.step (f := fun k => haulierlaw04_ScanNotes.l0 k x y z ((i + 1 : Nat) : Int)) (fun k => ?_) (ih (i + 1) (by omega) ?_)
      · simp only [haulierlaw04_ScanNotes.l0]
        rw [if_pos (by omega), if_pos (by omega), rd_at hlt, if_neg h10, wrapS (by omega) (by omega)]; rfl
      · intro c hc
        rw [List.take_succ_eq_append_getElem hlt] at hc
        rcases List.mem_append.mp hc with h | h
        · exact hno c h
        · simp at h; subst h; exact h10
theorem ScanNotes : haulierlaw04_ScanNotes.Claim := by
  intro x y z hx hy hz
  suffices h : Ev (fun k => haulierlaw04_ScanNotes.f k x y z) true from h.rounds
  have hout : ∀ k, haulierlaw04_ScanNotes.j0 (k + 1) x y z true true = some true := fun k => by simp [haulierlaw04_ScanNotes.j0]
  have big : (∀ k, haulierlaw04_ScanNotes.f k x y z = haulierlaw04_ScanNotes.j0 k x y z true true) → Ev (fun k => haulierlaw04_ScanNotes.f k x y z) true := fun h => Ev.congr h (Ev.step (f := fun _ => some true) hout (Ev.now _))
  by_cases h1 : (x.length : Int) > 1000
  · exact big fun k => by simp only [haulierlaw04_ScanNotes.f, awake_true, Option.bind_some, if_true]; rw [if_pos h1]
  by_cases h2 : (y.length : Int) > 1000
  · exact big fun k => by simp only [haulierlaw04_ScanNotes.f, awake_true, Option.bind_some, if_true]; rw [if_neg h1, if_pos h2]
  by_cases h3 : (z.length : Int) > 1000
  · exact big fun k => by simp only [haulierlaw04_ScanNotes.f, awake_true, Option.bind_some, if_true]; rw [if_neg h1, if_neg h2, show decide ((z.length : Int) > 1000) = true from decide_eq_true h3]
  refine Ev.congr (f := fun k => haulierlaw04_ScanNotes.j0 k x y z true false) (fun k => ?_) (Ev.step (f := fun k => haulierlaw04_ScanNotes.l0 k x y z ((0 : Nat) : Int)) (fun k => ?_) (notes_loop x y z (by omega) (by omega) (by omega) y.length 0 (by omega) (by simp)))
  · simp only [haulierlaw04_ScanNotes.f, awake_true, Option.bind_some, if_true]; rw [if_neg h1, if_neg h2, show decide ((z.length : Int) > 1000) = false from decide_eq_false h3]
  · simp [haulierlaw04_ScanNotes.j0]
end Go.Proofs.Ytdmlohoicgfdnaa.Pure
