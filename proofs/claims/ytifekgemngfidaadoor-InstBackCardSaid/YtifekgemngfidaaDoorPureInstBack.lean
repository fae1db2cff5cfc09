/- What is printed of an instance is parsed as it was, for at most 100 stops. -/
import Derived.Test.YtifekgemngfidaaDoorDefInstBack
import Derived.Test.YtifekgemngfidaaDoorInstLaw
import Derived.Test.YtifekgemngfidaaDoorInstEq
namespace Go.Proofs.YtifekgemngfidaaDoor.Pure
open Go.RowKit Go.Proofs.YtifekgemngfidaaDoor.PA Go.Proofs.YtifekgemngfidaaDoorW.PrintWords Go.Proofs.YtifekgemngfidaaDoorW.PrintLast
open Go.Proofs.YtifekgemngfidaaDoor.Inst
set_option linter.unusedVariables false
theorem InstBack : haulierlaw05_InstBack.Claim := by
  intro x hx
  obtain ⟨p, c, r, l⟩ := x
  show ∃ k, haulierlaw05_InstBack.f k p c r l = some true
  suffices h : Ev (fun k => haulierlaw05_InstBack.f k p c r l) true from h.rounds
  by_cases hl : (l.length : Int) > 100
  · refine Ev.congr (f := fun k => (haulierlaw05_awake.f k).bind fun t => haulierlaw05_InstBack.j0 k t true p c r l) (fun k => ?_) (Ev.bind awake_ev (Ev.step (f := fun _ => some true) (fun k => ?_) (Ev.now _)))
    · simp only [haulierlaw05_InstBack.f]
      rw [show decide ((l.length : Int) > 100) = true from decide_eq_true hl]
      cases haulierlaw05_awake.f k with
      | none => rfl
      | some t => cases t <;> rfl
    · simp only [haulierlaw05_InstBack.j0]; rw [if_pos trivial]
  · refine Ev.congr (f := fun k => (haulierlaw05_awake.f k).bind fun t => if t = true then haulierlaw05_InstBack.j0 k t false p c r l else haulierlaw05_InstBack.j0 k t true p c r l) (fun k => ?_) (Ev.bind awake_ev ?_)
    · simp only [haulierlaw05_InstBack.f]
      rw [show decide ((l.length : Int) > 100) = false from decide_eq_false hl]
    · simp only [if_true]
      have hstep : ∀ k, haulierlaw05_InstBack.j0 (k + 1) true false p c r l = (inst_Print.f k p c r l).bind _ := fun k => by simp only [haulierlaw05_InstBack.j0]; rw [if_neg (by decide)]
      refine Ev.step hstep (Ev.bind (print_ev p c r l) ?_)
      have h4 := may_ev p c r l
      cases hmay : mayB p c r l with
      | true =>
        have ho : printOut p c r l = (Go.Proofs.YtifekgemngfidaaDoor.Scan.textP (rows p c r l), 0) := by unfold printOut; rw [if_pos hmay]
        rw [ho]
        have h3 := parse_ev (Go.Proofs.YtifekgemngfidaaDoor.Scan.textP (rows p c r l))
        rw [back hmay] at h3
        rw [hmay] at h4
        have h5 := same_ev p c r l p c r l (by omega)
        have hs : sameB p c r l p c r l = true := by simp [sameB]
        rw [hs] at h5
        simp only [if_true]
        refine Ev.bind h3 ?_
        simp only [if_true]
        refine Ev.bind h5 ?_
        simp only [if_true]
        exact Ev.bind h4 (Ev.now _)
      | false =>
        have ho : printOut p c r l = ([], 1) := by unfold printOut; rw [hmay]; rfl
        rw [ho]
        rw [hmay] at h4
        have z1 : ¬ (1 : Int) = 0 := by decide
        have z2 : ((([] : List Int).length : Nat) : Int) = 0 := rfl
        simp only [if_neg z1, if_pos z2]
        exact Ev.bind h4 (Ev.now _)
end Go.Proofs.YtifekgemngfidaaDoor.Pure
