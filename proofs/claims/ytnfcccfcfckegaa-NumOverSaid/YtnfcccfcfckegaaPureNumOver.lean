/- NumOver: just what leaves the numbers that are safe is refused. No condition. -/
import Derived.Test.YtnfcccfcfckegaaPAx7
import Derived.Test.YtnfcccfcfckegaaNumArith
namespace Go.Proofs.Ytnfcccfcfckegaa.Pure
open Go.RowKit Go.Proofs.Ytnfcccfcfckegaa.PA Go.Proofs.YtnfcccfcfckegaaW.PrintWords Go.Proofs.YtnfcccfcfckegaaW.PrintLast Go.Proofs.Ytnfcccfcfckegaa.Num

theorem NumOver : haulierlaw01_NumOver.Pure := by
  intro a _
  refine Ev.rounds (g := fun k => haulierlaw01_NumOver.f k a) ?_
  unfold haulierlaw01_NumOver.f
  refine Ev.bind awake_ev ?_
  simp only [if_true]
  have out : Ev (fun k => haulierlaw01_NumOver.j0 k a true true) true := by
    refine Ev.step (f := fun _ => some true) (fun k => ?_) (Ev.now _)
    simp [haulierlaw01_NumOver.j0]
  by_cases h1 : a < -1152921504606846976
  · simp only [if_pos h1]; exact out
  · simp only [if_neg h1]
    by_cases h2 : a > 1152921504606846976
    · rw [decide_eq_true h2]; exact out
    · rw [decide_eq_false h2]
      have hs : safeB a = true := (safeB_iff a).2 (by omega)
      have hI : safeB 1152921504606846976 = true := by decide
      have h2s : safeB 2 = true := by decide
      have e1 : (((addR a 1152921504606846976).2 == 0) == decide (a ≤ 0)) = true := by
        unfold addR
        by_cases h : a ≤ 0
        · have : safeB (a + 1152921504606846976) = true := (safeB_iff _).2 (by omega)
          simp [hs, hI, this, h]
        · have : ¬ safeB (a + 1152921504606846976) = true := fun hh => by have := (safeB_iff _).1 hh; omega
          simp [hs, hI, this, h]
      have e2 : (((subR a 1152921504606846976).2 == 0) == decide (a ≥ 0)) = true := by
        unfold subR
        by_cases h : a ≥ 0
        · have : safeB (a - 1152921504606846976) = true := (safeB_iff _).2 (by omega)
          simp [hs, hI, this, h]
        · have : ¬ safeB (a - 1152921504606846976) = true := fun hh => by have := (safeB_iff _).1 hh; omega
          simp [hs, hI, this, h]
      have e4 : subR a a = (0, 0) := by
        unfold subR
        rw [Int.sub_self, if_pos ⟨hs, hs, by decide⟩]
      have e3 : ∀ q : Bool, q = decide (-576460752303423488 ≤ a ∧ a ≤ 576460752303423488) → (((mulR a 2).2 == 0) == q) = true := by
        rintro q rfl
        unfold mulR
        by_cases h : -576460752303423488 ≤ a ∧ a ≤ 576460752303423488
        · have : safeB (a * 2) = true := (safeB_iff _).2 (by omega)
          rw [decide_eq_true h]
          simp [hs, h2s, this]
        · have : ¬ safeB (a * 2) = true := fun hh => by have := (safeB_iff _).1 hh; omega
          rw [decide_eq_false h]
          simp [hs, h2s, this]
      refine Ev.succ ?_
      simp only [haulierlaw01_NumOver.j0, Bool.false_eq_true, if_false]
      refine Ev.bind (add_ev _ _) (Ev.bind (sub_ev _ _) (Ev.bind (mul_ev _ _) (Ev.bind (sub_ev _ _) ?_)))
      rw [e4]
      simp only [if_pos e1, if_pos e2]
      by_cases h : a ≤ 576460752303423488
      · simp only [if_pos h]
        by_cases h' : a ≥ -576460752303423488
        · have e := e3 (decide (a ≥ -576460752303423488)) (by rw [decide_eq_true h', decide_eq_true ⟨h', h⟩])
          simp only [if_pos e, if_true, beq_self_eq_true]
          exact Ev.now _
        · have e := e3 (decide (a ≥ -576460752303423488)) (by rw [decide_eq_false h', decide_eq_false (by omega)])
          simp only [if_pos e, if_true, beq_self_eq_true]
          exact Ev.now _
      · have e := e3 false (by rw [decide_eq_false (by omega)])
        simp only [if_neg h, if_pos e, if_true, beq_self_eq_true]
        exact Ev.now _

end Go.Proofs.Ytnfcccfcfckegaa.Pure
