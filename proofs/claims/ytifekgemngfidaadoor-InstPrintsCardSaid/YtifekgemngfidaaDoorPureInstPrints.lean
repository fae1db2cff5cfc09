/- The text that is printed of an instance, or that it may not be, and whether two are the same, are what the reference says, for at most 100 stops each. -/
import Derived.Test.YtifekgemngfidaaDoorDefInstPrints
import Derived.Test.YtifekgemngfidaaDoorInstRefPrint
import Derived.Test.YtifekgemngfidaaDoorInstRefSame
import Derived.Test.YtifekgemngfidaaDoorInstEq
import Derived.Test.YtifekgemngfidaaDoorInstLaw
namespace Go.Proofs.YtifekgemngfidaaDoor.Pure
open Go.RowKit Go.Proofs.YtifekgemngfidaaDoor.PA Go.Proofs.YtifekgemngfidaaDoorW.PrintWords Go.Proofs.YtifekgemngfidaaDoorW.PrintLast
open Go.Proofs.YtifekgemngfidaaDoor.Inst
set_option linter.unusedVariables false
theorem InstPrints : haulierlaw05_InstPrints.Claim := by
  intro x y hx hy
  obtain ⟨p, c, r, l⟩ := x
  obtain ⟨p', c', r', l'⟩ := y
  show ∃ k, haulierlaw05_InstPrints.f k p c r l p' c' r' l' = some true
  suffices h : Ev (fun k => haulierlaw05_InstPrints.f k p c r l p' c' r' l') true from h.rounds
  have out : ∀ (b : Bool), b = true → Ev (fun k => haulierlaw05_InstPrints.j0 k true b p c r l p' c' r' l') true := by
    rintro _ rfl
    refine Ev.step (f := fun _ => some true) (fun k => ?_) (Ev.now _)
    simp only [haulierlaw05_InstPrints.j0]; rw [if_pos trivial]
  by_cases hl : (l.length : Int) > 100
  · refine Ev.congr (f := fun k => (haulierlaw05_awake.f k).bind fun t => if t = true then haulierlaw05_InstPrints.j0 k t true p c r l p' c' r' l' else haulierlaw05_InstPrints.j0 k t true p c r l p' c' r' l') (fun k => ?_) (Ev.bind awake_ev ?_)
    · simp only [haulierlaw05_InstPrints.f]; simp only [if_pos hl]
    · simp only [if_true]; exact out true rfl
  · refine Ev.congr (f := fun k => (haulierlaw05_awake.f k).bind fun t => if t = true then haulierlaw05_InstPrints.j0 k t (decide ((l'.length : Int) > 100)) p c r l p' c' r' l' else haulierlaw05_InstPrints.j0 k t true p c r l p' c' r' l') (fun k => ?_) (Ev.bind awake_ev ?_)
    · simp only [haulierlaw05_InstPrints.f]; simp only [if_neg hl]
    · simp only [if_true]
      by_cases hl' : (l'.length : Int) > 100
      · exact out _ (decide_eq_true hl')
      · rw [decide_eq_false hl']
        have hstep : ∀ k, haulierlaw05_InstPrints.j0 (k + 1) true false p c r l p' c' r' l' = (inst_Print.f k p c r l).bind _ := fun k => by simp only [haulierlaw05_InstPrints.j0]; rw [if_neg (by decide)]
        refine Ev.step hstep (Ev.bind (print_ev p c r l) (Ev.bind (rprint_ev p c r l) ?_))
        simp only [if_true]
        refine Ev.bind (may_ev p c r l) (Ev.bind (rmay_ev p c r l) ?_)
        rw [beq_self_eq_true]
        simp only [if_true]
        refine Ev.bind (same_ev p c r l p' c' r' l' (by omega)) (Ev.bind (rsame_ev p c r l p' c' r' l' (by omega)) ?_)
        exact Ev.congr (f := fun _ => some true) (fun k => by rw [beq_self_eq_true]) (Ev.now _)
end Go.Proofs.YtifekgemngfidaaDoor.Pure
