/- NumRoot: a root's square is not less, that of one less is, and that of a square is its root. No condition. -/
import Derived.Test.YtnfcccfcfckegaaPAx3
import Derived.Test.YtnfcccfcfckegaaNumArith
namespace Go.Proofs.Ytnfcccfcfckegaa.Pure
open Go.RowKit Go.Proofs.Ytnfcccfcfckegaa.PA Go.Proofs.YtnfcccfcfckegaaW.PrintWords Go.Proofs.YtnfcccfcfckegaaW.PrintLast Go.Proofs.Ytnfcccfcfckegaa.Num

theorem NumRoot : haulierlaw01_NumRoot.Pure := by
  intro n hw
  refine Ev.rounds (g := fun k => haulierlaw01_NumRoot.f k n) ?_
  unfold haulierlaw01_NumRoot.f
  refine Ev.bind awake_ev ?_
  simp only [if_true]
  have out : Ev (fun k => haulierlaw01_NumRoot.j0 k n true true) true := by
    refine Ev.step (f := fun _ => some true) (fun k => ?_) (Ev.now _)
    simp [haulierlaw01_NumRoot.j0]
  by_cases h1 : n < 1
  · simp only [if_pos h1]; exact out
  · simp only [if_neg h1]
    by_cases h2 : n > 1152921504606846976
    · rw [decide_eq_true h2]; exact out
    · rw [decide_eq_false h2]
      obtain ⟨a, b, c, d⟩ := rootTop_spec (m := n) (by omega) (by omega)
      have hsq := sq_lt (a := rootTop n) (b := 1073741824) (by omega) b
      have hsq1 := sq_lt (a := rootTop n - 1) (b := 1073741824) (by omega) (by omega)
      have hsq0 := sq_lt (a := 0) (b := rootTop n - 1) (by omega) (by omega)
      have hu := root_unique (m := rootTop n * rootTop n) (r := rootTop n) (by omega) (by omega) a (by
        have h := Int.mul_le_mul (a := rootTop n - 1) (b := rootTop n - 1) (c := rootTop n - 1) (d := rootTop n) (by omega) (by omega) (by omega) (by omega)
        have h' : (rootTop n - 1) * rootTop n = rootTop n * rootTop n - rootTop n := by rw [Int.sub_mul, Int.one_mul]
        omega) (by omega)
      refine Ev.step (f := fun _ => some true) (fun k => ?_) (Ev.now _)
      simp only [haulierlaw01_NumRoot.j0, Bool.false_eq_true, if_false, root_f, Option.bind_some]
      rw [capS_in (by omega) (by omega), if_neg (by omega), if_neg (by omega), w64 (x := rootTop n * rootTop n) (by omega) (by omega), if_pos (by omega)]
      rw [w64 (x := rootTop n - 1) (by omega) (by omega), w64 (x := (rootTop n - 1) * (rootTop n - 1)) (by omega) (by omega), if_pos (by omega)]
      rw [capS_in (by omega) (by omega), hu]
      simp

end Go.Proofs.Ytnfcccfcfckegaa.Pure
