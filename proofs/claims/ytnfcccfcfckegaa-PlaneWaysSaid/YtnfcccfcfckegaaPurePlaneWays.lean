/- PlaneWays: it is as far there as back, 0 just where both are at one place, and no longer than by a third stop. No condition. -/
import Derived.Test.YtnfcccfcfckegaaDefPlaneWays
import Derived.Test.YtnfcccfcfckegaaRootBase
import Derived.Test.YtnfcccfcfckegaaPBx1
namespace Go.Proofs.Ytnfcccfcfckegaa.Pure
open Go.RowKit Go.Proofs.Ytnfcccfcfckegaa.PB Go.Proofs.YtnfcccfcfckegaaW.PrintWords Go.Proofs.YtnfcccfcfckegaaW.PrintLast Go.Proofs.Ytnfcccfcfckegaa.Num
theorem awake06 : haulierlaw06_awake.f = some true := by
  unfold haulierlaw06_awake.f
  simp only [far_f, farZ_345, farZ_11, Option.bind_some, if_true, beq_self_eq_true]
theorem PlaneWays : haulierlaw06_PlaneWays.Claim := by
  intro a b c _ _ _
  obtain ⟨ax, ay, a2, a3, a4, a5⟩ := a
  obtain ⟨bx, b_y, b2, b3, b4, b5⟩ := b
  obtain ⟨cx, cy, c2, c3, c4, c5⟩ := c
  refine Ev.rounds (g := fun k => haulierlaw06_PlaneWays.f k _ _ _ _ _ _ _ _ _ _ _ _ _ _ _ _ _ _) ?_
  unfold haulierlaw06_PlaneWays.f
  simp only [awake06, Option.bind_some, if_true]
  have out : Ev (fun k => haulierlaw06_PlaneWays.j0 k true true ax ay a2 a3 a4 a5 bx b_y b2 b3 b4 b5 cx cy c2 c3 c4 c5) true := by
    refine Ev.succ ?_
    simp only [haulierlaw06_PlaneWays.j0, if_true]
    exact Ev.now _
  refine Ev.orOut out fun h1 => Ev.orOut out fun h2 => Ev.orOut out fun h3 => Ev.orOut out fun h4 => Ev.orOut out fun h5 => Ev.orOut out fun h6 => Ev.orOut out fun h7 => Ev.orOut out fun h8 => Ev.orOut out fun h9 => Ev.orOut out fun h10 => Ev.orOut out fun h11 => ?_
  refine Ev.decOut (G := fun k q => haulierlaw06_PlaneWays.j0 k true q ax ay a2 a3 a4 a5 bx b_y b2 b3 b4 b5 cx cy c2 c3 c4 c5) out fun h12 => ?_
  refine Ev.succ ?_
  have s1 := farZ_spec ax ay bx b_y
  have s2 := farZ_spec ax ay cx cy
  have s3 := farZ_spec cx cy bx b_y
  have tri := farZ_tri ax ay bx b_y cx cy
  have hz := farZ_zero ax ay bx b_y
  rw [coord_in (x := ax) (by omega) (by omega), coord_in (x := ay) (by omega) (by omega), coord_in (x := bx) (by omega) (by omega), coord_in (x := b_y) (by omega) (by omega)] at hz
  simp only [haulierlaw06_PlaneWays.j0, Bool.false_eq_true, if_false, far_f, Option.bind_some, farZ_comm ax ay bx b_y, if_true]
  rw [w64 (by omega) (by omega)]
  have d1 : farZ ax ay bx b_y ≥ 0 := s1.1
  simp only [if_pos tri, if_pos d1, decide_eq_true s1.2.1]
  by_cases hx : ax = bx
  · have e : ((farZ ax ay bx b_y == 0) == (ay == b_y)) = true := by
      by_cases hy : ay = b_y
      · have h0 := hz.2 ⟨hx, hy⟩
        rw [beq_iff_eq.2 h0, beq_iff_eq.2 hy]; rfl
      · have h0 : ¬ farZ ax ay bx b_y = 0 := fun h => hy (hz.1 h).2
        rw [beq_eq_false_iff_ne.2 h0, beq_eq_false_iff_ne.2 hy]; rfl
    simp only [if_pos hx, if_pos e]
    exact Ev.now _
  · have e : ((farZ ax ay bx b_y == 0) == false) = true := by
      have : ¬ farZ ax ay bx b_y = 0 := fun h => hx (hz.1 h).1
      rw [beq_eq_false_iff_ne.2 this]; rfl
    simp only [if_neg hx, if_pos e]
    exact Ev.now _
end Go.Proofs.Ytnfcccfcfckegaa.Pure
