/- A text of at most 2000 bytes each of whose spaces is told twice is read the same. -/
import Derived.Test.YtdmlohoicgfdnaaDefScanSpaces
import Derived.Test.YtdmlohoicgfdnaaScanLaw
namespace Go.Proofs.Ytdmlohoicgfdnaa.Pure
open Go.RowKit Go.Proofs.Ytdmlohoicgfdnaa.PA Go.Proofs.YtdmlohoicgfdnaaW.PrintWords Go.Proofs.YtdmlohoicgfdnaaW.PrintLast Go.Proofs.Ytdmlohoicgfdnaa.Scan
theorem spaces_loop (x : List Int) (hx : x.length ≤ 2000) : ∀ (d i : Nat), i + d = x.length → Ev (fun k => haulierlaw04_ScanSpaces.l0 k x (dbl (x.take i)) (i : Int)) true := by
  intro d
  induction d with
  | zero =>
    intro i hi
    obtain rfl : i = x.length := by omega
    rw [List.take_length]
    have h := both_ev (out_text (textF_dbl x).symm (by omega) (by have := dbl_len x; omega))
    refine Ev.step (fun k => ?_) h
    simp only [haulierlaw04_ScanSpaces.l0]
    rw [if_neg (by omega)]
  | succ d ih =>
    intro i hi
    have hlt : i < x.length := by omega
    have hd := dbl_len (x.take i)
    have ht : (x.take i).length ≤ i := List.length_take_le _ _
    have e : dbl (x.take (i + 1)) = dbl (x.take i) ++ (if x[i] = 32 then [32, 32] else [x[i]]) := by
      rw [List.take_succ_eq_append_getElem hlt, dbl_append]; simp [dbl]
    refine Ev.step (f := fun k => haulierlaw04_ScanSpaces.l0 k x (dbl (x.take (i + 1))) ((i + 1 : Nat) : Int)) (fun k => ?_) (ih (i + 1) (by omega))
    simp only [haulierlaw04_ScanSpaces.l0, Option.bind_some]
    rw [if_pos (by omega), if_pos (by omega), rd_at hlt, if_pos (by omega)]
    have ew : wrap64 ((i : Int) + 1) = ((i + 1 : Nat) : Int) := by rw [wrapS (by omega) (by omega)]; omega
    by_cases h : x[i] = 32
    · rw [if_pos h, if_pos (by simp; omega), ew, e, if_pos h, h]; simp
    · rw [if_neg h, ew, e, if_neg h]
theorem ScanSpaces : haulierlaw04_ScanSpaces.Claim := by
  intro x hx
  suffices h : Ev (fun k => haulierlaw04_ScanSpaces.f k x) true from h.rounds
  by_cases hl : (x.length : Int) > 2000
  · refine Ev.congr (f := fun k => haulierlaw04_ScanSpaces.j0 k x true true) (fun k => ?_) (Ev.step (f := fun _ => some true) (fun k => ?_) (Ev.now _))
    · simp only [haulierlaw04_ScanSpaces.f, awake_true, Option.bind_some, if_true]
      rw [show decide ((x.length : Int) > 2000) = true from decide_eq_true hl]
    · simp [haulierlaw04_ScanSpaces.j0]
  · refine Ev.congr (f := fun k => haulierlaw04_ScanSpaces.j0 k x true false) (fun k => ?_) (Ev.step (f := fun k => haulierlaw04_ScanSpaces.l0 k x (dbl (x.take 0)) ((0 : Nat) : Int)) (fun k => ?_) (spaces_loop x (by omega) x.length 0 (by omega)))
    · simp only [haulierlaw04_ScanSpaces.f, awake_true, Option.bind_some, if_true]
      rw [show decide ((x.length : Int) > 2000) = false from decide_eq_false hl]
    · simp [haulierlaw04_ScanSpaces.j0, dbl]
end Go.Proofs.Ytdmlohoicgfdnaa.Pure
