/- NumSquares: between two squares that follow each other all have the greater one's root. No condition. -/
import Derived.Test.YtnfcccfcfckegaaPAx5
import Derived.Test.YtnfcccfcfckegaaNumArith
namespace Go.Proofs.Ytnfcccfcfckegaa.Pure
open Go.RowKit Go.Proofs.Ytnfcccfcfckegaa.PA Go.Proofs.YtnfcccfcfckegaaW.PrintWords Go.Proofs.YtnfcccfcfckegaaW.PrintLast Go.Proofs.Ytnfcccfcfckegaa.Num

theorem NumSquares : haulierlaw01_NumSquares.Pure := by
  intro r more hw hw2
  have hm := wf64 hw2
  refine Ev.rounds (g := fun k => haulierlaw01_NumSquares.f k r more) ?_
  unfold haulierlaw01_NumSquares.f
  refine Ev.bind awake_ev ?_
  simp only [if_true]
  have out : Ev (fun k => haulierlaw01_NumSquares.j0 k r more true true) true := by
    refine Ev.step (f := fun _ => some true) (fun k => ?_) (Ev.now _)
    simp [haulierlaw01_NumSquares.j0]
  by_cases h1 : r < 0
  · simp only [if_pos h1]; exact out
  · by_cases h2 : r > 536870912
    · simp only [if_neg h1, if_pos h2]; exact out
    · by_cases h3 : more < 1
      · simp only [if_neg h1, if_neg h2, if_pos h3]; exact out
      · simp only [if_neg h1, if_neg h2, if_neg h3]
        rw [w64 (x := 2 * r) (by omega) (by omega), w64 (x := 2 * r + 1) (by omega) (by omega)]
        by_cases h4 : more > 2 * r + 1
        · rw [decide_eq_true h4]; exact out
        · rw [decide_eq_false h4]
          have hsq := sq_lt (a := r) (b := 536870912) (by omega) (by omega)
          have hsq0 := sq_lt (a := 0) (b := r) (by omega) (by omega)
          have e1 : (r + 1) * (r + 1) = r * r + (2 * r + 1) := by rw [Int.add_mul, Int.mul_add]; omega
          have hu1 := root_unique (m := r * r + more) (r := r + 1) (by omega) (by omega) (by omega) (by
            have : r + 1 - 1 = r := by omega
            rw [this]; omega) (by omega)
          have hu2 : rootTop (r * r) = r := by
            by_cases hz : r = 0
            · subst hz; exact rootTop_zero rfl
            · refine root_unique (by
                have := sq_lt (a := 1) (b := r) (by omega) (by omega)
                omega) (by omega) (by omega) ?_ (by omega)
              have h := Int.mul_le_mul (a := r - 1) (b := r - 1) (c := r - 1) (d := r) (by omega) (by omega) (by omega) (by omega)
              have h' : (r - 1) * r = r * r - r := by rw [Int.sub_mul, Int.one_mul]
              omega
          refine Ev.step (f := fun _ => some true) (fun k => ?_) (Ev.now _)
          simp only [haulierlaw01_NumSquares.j0, Bool.false_eq_true, if_false, root_f, Option.bind_some]
          rw [w64 (x := r * r) (by omega) (by omega), w64 (x := r * r + more) (by omega) (by omega), w64 (x := r + 1) (by omega) (by omega)]
          rw [capS_in (by omega) (by omega), hu1, if_pos rfl, capS_in (by omega) (by omega), hu2]
          simp

end Go.Proofs.Ytnfcccfcfckegaa.Pure
