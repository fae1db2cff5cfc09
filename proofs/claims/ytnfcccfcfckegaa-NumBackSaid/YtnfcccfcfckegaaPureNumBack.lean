/- NumBack: what is added may be taken away again, and is what there was; to add and to multiply do not ask for the order. No condition. -/
import Derived.Test.YtnfcccfcfckegaaPAx7
import Derived.Test.YtnfcccfcfckegaaNumArith
namespace Go.Proofs.Ytnfcccfcfckegaa.Pure
open Go.RowKit Go.Proofs.Ytnfcccfcfckegaa.PA Go.Proofs.YtnfcccfcfckegaaW.PrintWords Go.Proofs.YtnfcccfcfckegaaW.PrintLast Go.Proofs.Ytnfcccfcfckegaa.Num

theorem addR_comm (a b : Int) : addR b a = addR a b := by
  unfold addR
  rw [Int.add_comm b a]
  by_cases ha : safeB a = true <;> by_cases hb : safeB b = true <;> simp [ha, hb]
theorem mulR_comm (a b : Int) : mulR b a = mulR a b := by
  unfold mulR
  rw [Int.mul_comm b a]
  by_cases ha : safeB a = true <;> by_cases hb : safeB b = true <;> simp [ha, hb]
theorem NumBack : haulierlaw01_NumBack.Pure := by
  intro a b _ _
  refine Ev.rounds (g := fun k => haulierlaw01_NumBack.f k a b) ?_
  unfold haulierlaw01_NumBack.f
  refine Ev.bind awake_ev (Ev.bind (add_ev a b) (Ev.bind (add_ev b a) (Ev.bind (mul_ev a b) (Ev.bind (mul_ev b a) ?_))))
  rw [addR_comm a b, mulR_comm a b]
  simp only [if_true, bne_self_eq_false]
  by_cases h : safeB a = true ∧ safeB b = true ∧ safeB (a + b) = true
  · have e : addR a b = (a + b, 0) := by unfold addR; rw [if_pos h]
    rw [e]
    refine Ev.step (f := fun k => (num_Sub.f k (a + b) b).bind fun bt210 => (if bt210.2 = 0 then (some (bt210.1 == a)) else (some false))) (fun k => ?_) ?_
    · simp [haulierlaw01_NumBack.j0]
    · refine Ev.bind (sub_ev _ _) ?_
      have e2 : a + b - b = a := by omega
      have e3 : subR (a + b) b = (a, 0) := by unfold subR; rw [e2, if_pos ⟨h.2.2, h.2.1, h.1⟩]
      rw [e3]
      simp only [if_true, beq_self_eq_true]
      exact Ev.now _
  · have e : addR a b = (0, 9) := by unfold addR; rw [if_neg h]
    rw [e]
    refine Ev.step (f := fun _ => some true) (fun k => ?_) (Ev.now _)
    simp [haulierlaw01_NumBack.j0]

end Go.Proofs.Ytnfcccfcfckegaa.Pure
