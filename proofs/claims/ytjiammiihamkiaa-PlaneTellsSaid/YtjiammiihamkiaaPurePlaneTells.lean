/- How far it is from any stop to any other one, the matrix of any instance of at most 100 stops, and how far it is from the nearest one, are what the reference says. -/
import Derived.Test.YtjiammiihamkiaaDefPlaneTells
import Derived.Test.YtjiammiihamkiaaPlaneBase
namespace Go.Proofs.Ytjiammiihamkiaa.Pure
open Go.RowKit Go.Proofs.Ytjiammiihamkiaa.PA Go.Proofs.YtjiammiihamkiaaW.PrintWords Go.Proofs.YtjiammiihamkiaaW.PrintLast Go.Proofs.Ytjiammiihamkiaa.Inst Go.Proofs.Ytjiammiihamkiaa.Plane
theorem PlaneTells : haulierlaw06_PlaneTells.Claim := by
  intro a b x _ _ _
  obtain ⟨p, c, r, l⟩ := x
  obtain ⟨a0, a1, a2, a3, a4, a5⟩ := a
  obtain ⟨b0, b1, b2, b3, b4, b5⟩ := b
  dsimp only
  suffices h : Ev (fun k => haulierlaw06_PlaneTells.f k a0 a1 a2 a3 a4 a5 b0 b1 b2 b3 b4 b5 p c r l) true from h.rounds
  by_cases hl : (l.length : Int) > 100
  · refine Ev.congr (f := fun k => haulierlaw06_PlaneTells.j0 k true true a0 a1 a2 a3 a4 a5 b0 b1 b2 b3 b4 b5 p c r l) (fun k => ?_) (Ev.step (f := fun _ => some true) (fun k => ?_) (Ev.now _))
    · simp only [haulierlaw06_PlaneTells.f, awake06, Option.bind_some, if_true]
      rw [show decide ((l.length : Int) > 100) = true from decide_eq_true hl]
    · simp [haulierlaw06_PlaneTells.j0]
  · refine Ev.congr (f := fun k => haulierlaw06_PlaneTells.j0 k true false a0 a1 a2 a3 a4 a5 b0 b1 b2 b3 b4 b5 p c r l) (fun k => ?_) ?_
    · simp only [haulierlaw06_PlaneTells.f, awake06, Option.bind_some, if_true]
      rw [show decide ((l.length : Int) > 100) = false from decide_eq_false hl]
    · have hn : l.length ≤ 1000 := by omega
      refine Ev.step (fun k => by simp only [haulierlaw06_PlaneTells.j0]; rw [if_neg (by decide)]) ?_
      refine Ev.bind (pmat_ev p c r l hn) (Ev.bind (rmat_ev p c r l hn) (Ev.bind (mat_same p c r l hn) (Ev.bind (pnear_ev p c r l hn) (Ev.bind (rnear_ev p c r l hn) (Ev.bind (near_same p c r l hn) ?_)))))
      simp only [if_true, Go.Proofs.Ytjiammiihamkiaa.Num.far_f, Option.bind_some]
      refine Ev.bind (rfar_ev a0 a1 a2 a3 a4 a5 b0 b1 b2 b3 b4 b5) ?_
      rw [beq_self_eq_true]
      exact Ev.now _
end Go.Proofs.Ytjiammiihamkiaa.Pure
