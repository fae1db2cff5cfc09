/- NumSigns: numbers with the other sign, added or multiplied, have the other sign; one of them multiplied has it. No condition. -/
import Derived.Test.YtnfcccfcfckegaaPAx5
import Derived.Test.YtnfcccfcfckegaaNumArith
namespace Go.Proofs.Ytnfcccfcfckegaa.Pure
open Go.RowKit Go.Proofs.Ytnfcccfcfckegaa.PA Go.Proofs.YtnfcccfcfckegaaW.PrintWords Go.Proofs.YtnfcccfcfckegaaW.PrintLast Go.Proofs.Ytnfcccfcfckegaa.Num

theorem safe_neg (a : Int) : safeB (-a) = safeB a := by
  rw [Bool.eq_iff_iff, safeB_iff, safeB_iff]; omega
theorem addR_neg (a b : Int) : addR (-a) (-b) = (-(addR a b).1, (addR a b).2) := by
  unfold addR
  have e : -a + -b = -(a + b) := by omega
  rw [safe_neg, safe_neg, e, safe_neg]
  split <;> rfl
theorem mulR_neg (a b : Int) : mulR (-a) b = (-(mulR a b).1, (mulR a b).2) := by
  unfold mulR
  have e : -a * b = -(a * b) := Int.neg_mul a b
  rw [safe_neg, e, safe_neg]
  split <;> rfl
theorem addR_bd (a b : Int) : -1152921504606846976 ≤ (addR a b).1 ∧ (addR a b).1 ≤ 1152921504606846976 := by
  unfold addR
  split
  · rename_i h; exact (safeB_iff _).1 h.2.2
  · simp
theorem mulR_bd (a b : Int) : -1152921504606846976 ≤ (mulR a b).1 ∧ (mulR a b).1 ≤ 1152921504606846976 := by
  unfold mulR
  split
  · rename_i h; exact (safeB_iff _).1 h.2.2
  · simp
theorem NumSigns : haulierlaw01_NumSigns.Pure := by
  intro a b _ _
  refine Ev.rounds (g := fun k => haulierlaw01_NumSigns.f k a b) ?_
  unfold haulierlaw01_NumSigns.f
  refine Ev.bind awake_ev ?_
  simp only [if_true]
  have out : Ev (fun k => haulierlaw01_NumSigns.j0 k a b true true) true := by
    refine Ev.step (f := fun _ => some true) (fun k => ?_) (Ev.now _)
    simp [haulierlaw01_NumSigns.j0]
  by_cases h1 : a < -1152921504606846976
  · simp only [if_pos h1]; exact out
  · by_cases h2 : a > 1152921504606846976
    · simp only [if_neg h1, if_pos h2]; exact out
    · by_cases h3 : b < -1152921504606846976
      · simp only [if_neg h1, if_neg h2, if_pos h3]; exact out
      · simp only [if_neg h1, if_neg h2, if_neg h3]
        by_cases h4 : b > 1152921504606846976
        · rw [decide_eq_true h4]; exact out
        · rw [decide_eq_false h4]
          refine Ev.step (f := fun k => (num_Add.f k a b).bind fun bt163 => ((num_Add.f k (-a) (-b)).bind fun bt165 => ((num_Mul.f k a b).bind fun bt167 => ((num_Mul.f k (-a) b).bind fun bt169 => (if bt163.2 = bt165.2 then (if bt167.2 = bt169.2 then (if bt163.1 = (wrap64 (-bt165.1)) then (some (bt167.1 == (wrap64 (-bt169.1)))) else (some false)) else (some false)) else (some false)))))) (fun k => ?_) ?_
          · simp only [haulierlaw01_NumSigns.j0, Bool.false_eq_true, if_false]
            rw [w64 (x := -a) (by omega) (by omega), w64 (x := -b) (by omega) (by omega)]
          · refine Ev.bind (add_ev _ _) (Ev.bind (add_ev _ _) (Ev.bind (mul_ev _ _) (Ev.bind (mul_ev _ _) ?_)))
            rw [addR_neg, mulR_neg]
            have ha := addR_bd a b
            have hb := mulR_bd a b
            simp only [if_true, Int.neg_neg]
            rw [w64 (x := (addR a b).1) (by omega) (by omega), w64 (x := (mulR a b).1) (by omega) (by omega)]
            simp only [if_true, beq_self_eq_true]
            exact Ev.now _

end Go.Proofs.Ytnfcccfcfckegaa.Pure
