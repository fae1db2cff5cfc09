/- PlaneMoves: what lies between two stops is as far wherever both are moved to, together. No condition. -/
import Derived.Test.YtnfcccfcfckegaaDefPlaneMoves
import Derived.Test.YtnfcccfcfckegaaRootBase
import Derived.Test.YtnfcccfcfckegaaPBx1
namespace Go.Proofs.Ytnfcccfcfckegaa.Pure
open Go.RowKit Go.Proofs.Ytnfcccfcfckegaa.PB Go.Proofs.YtnfcccfcfckegaaW.PrintWords Go.Proofs.YtnfcccfcfckegaaW.PrintLast Go.Proofs.Ytnfcccfcfckegaa.Num
theorem awake06 : haulierlaw06_awake.f = some true := by
  unfold haulierlaw06_awake.f
  simp only [far_f, farZ_345, farZ_11, Option.bind_some, if_true, beq_self_eq_true]
theorem PlaneMoves : haulierlaw06_PlaneMoves.Claim := by
  intro a b x y _ _ hx hy
  obtain ⟨ax, ay, a2, a3, a4, a5⟩ := a
  obtain ⟨bx, b_y, b2, b3, b4, b5⟩ := b
  have hx' := wf64 hx
  have hy' := wf64 hy
  refine Ev.rounds (g := fun k => haulierlaw06_PlaneMoves.f k _ _ _ _ _ _ _ _ _ _ _ _ _ _) ?_
  unfold haulierlaw06_PlaneMoves.f
  simp only [awake06, Option.bind_some, if_true]
  have out : Ev (fun k => haulierlaw06_PlaneMoves.j0 k x y true true ax ay a2 a3 a4 a5 bx b_y b2 b3 b4 b5) true := by
    refine Ev.succ ?_
    simp only [haulierlaw06_PlaneMoves.j0, if_true]
    exact Ev.now _
  refine Ev.orOut out fun h1 => Ev.orOut out fun h2 => Ev.orOut out fun h3 => Ev.orOut out fun h4 => Ev.orOut out fun h5 => Ev.orOut out fun h6 => Ev.orOut out fun h7 => Ev.orOut out fun h8 => Ev.orOut out fun h9 => Ev.orOut out fun h10 => Ev.orOut out fun h11 => Ev.orOut out fun h12 => ?_
  rw [w64 (x := ax + x) (by omega) (by omega), w64 (x := bx + x) (by omega) (by omega), w64 (x := ay + y) (by omega) (by omega), w64 (x := b_y + y) (by omega) (by omega)]
  refine Ev.orOut out fun h13 => Ev.orOut out fun h14 => Ev.orOut out fun h15 => ?_
  refine Ev.decOut (G := fun k q => haulierlaw06_PlaneMoves.j0 k x y true q ax ay a2 a3 a4 a5 bx b_y b2 b3 b4 b5) out fun h16 => ?_
  refine Ev.succ ?_
  simp only [haulierlaw06_PlaneMoves.j0, Bool.false_eq_true, if_false, far_f, Option.bind_some]
  rw [w64 (x := ax + x) (by omega) (by omega), w64 (x := bx + x) (by omega) (by omega), w64 (x := ay + y) (by omega) (by omega), w64 (x := b_y + y) (by omega) (by omega)]
  have e1 : farZ (ax + x) (ay + y) (bx + x) (b_y + y) = farZ ax ay bx b_y := by
    unfold farZ sqD
    rw [coord_in (x := ax) (by omega) (by omega), coord_in (x := ay) (by omega) (by omega), coord_in (x := bx) (by omega) (by omega), coord_in (x := b_y) (by omega) (by omega),
      coord_in (x := ax + x) (by omega) (by omega), coord_in (x := ay + y) (by omega) (by omega), coord_in (x := bx + x) (by omega) (by omega), coord_in (x := b_y + y) (by omega) (by omega)]
    have q1 : ax + x - (bx + x) = ax - bx := by omega
    have q2 : ay + y - (b_y + y) = ay - b_y := by omega
    rw [q1, q2]
  have e2 : farZ ay ax b_y bx = farZ ax ay bx b_y := by
    unfold farZ sqD
    rw [Int.add_comm]
  simp only [e1, e2, if_true, beq_self_eq_true]
  exact Ev.now _
end Go.Proofs.Ytnfcccfcfckegaa.Pure
