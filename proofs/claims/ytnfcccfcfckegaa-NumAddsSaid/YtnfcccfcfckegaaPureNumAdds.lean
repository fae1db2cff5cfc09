/- NumAdds: two numbers together, one less the other, and one so many times, are what the document says, or refused. No condition. -/
import Derived.Test.YtnfcccfcfckegaaPAx6
import Derived.Test.YtnfcccfcfckegaaPAx5
import Derived.Test.YtnfcccfcfckegaaNumArith
namespace Go.Proofs.Ytnfcccfcfckegaa.Pure
open Go.RowKit Go.Proofs.Ytnfcccfcfckegaa.PA Go.Proofs.YtnfcccfcfckegaaW.PrintWords Go.Proofs.YtnfcccfcfckegaaW.PrintLast Go.Proofs.Ytnfcccfcfckegaa.Num

theorem rsafe_f (a : Int) : haulierref01_safe.f a = some (safeB a) := by
  unfold haulierref01_safe.f safeB
  by_cases h : a ≥ -1152921504606846976
  · rw [if_pos h]; simp; omega
  · rw [if_neg h]; simp; omega
theorem radd_ev (a b : Int) : Ev (fun k => haulierref01_Add.f k a b) (addR a b) := by
  unfold haulierref01_Add.f addR
  simp only [rsafe_f, Option.bind_some]
  by_cases ha : safeB a = true
  · by_cases hb : safeB b = true
    · have ha' := (safeB_iff a).1 ha
      have hb' := (safeB_iff b).1 hb
      simp only [ha, hb, if_true, true_and]
      by_cases hc : safeB (a + b) = true
      · refine Ev.step (f := fun _ => some (a + b, 0)) (fun k => ?_) (by rw [if_pos hc]; exact Ev.now _)
        simp only [haulierref01_Add.j0, Bool.not_true, Bool.false_eq_true, if_false]
        rw [w64 (by omega) (by omega), rsafe_f]; simp [hc]
      · refine Ev.step (f := fun _ => some (0, 9)) (fun k => ?_) (by rw [if_neg hc]; exact Ev.now _)
        simp only [haulierref01_Add.j0, Bool.not_true, Bool.false_eq_true, if_false]
        rw [w64 (by omega) (by omega), rsafe_f]; simp [hc]
    · simp only [ha, hb, if_true, false_and, and_false, if_false, Bool.false_eq_true]
      refine Ev.step (f := fun _ => some (0, 9)) (fun k => ?_) (Ev.now _)
      simp [haulierref01_Add.j0]
  · simp only [ha, false_and, if_false, Bool.false_eq_true]
    refine Ev.step (f := fun _ => some (0, 9)) (fun k => ?_) (Ev.now _)
    simp [haulierref01_Add.j0]
theorem rsub_ev (a b : Int) : Ev (fun k => haulierref01_Sub.f k a b) (subR a b) := by
  unfold haulierref01_Sub.f subR
  simp only [rsafe_f, Option.bind_some]
  by_cases ha : safeB a = true
  · by_cases hb : safeB b = true
    · have ha' := (safeB_iff a).1 ha
      have hb' := (safeB_iff b).1 hb
      simp only [ha, hb, if_true, true_and]
      by_cases hc : safeB (a - b) = true
      · refine Ev.step (f := fun _ => some (a - b, 0)) (fun k => ?_) (by rw [if_pos hc]; exact Ev.now _)
        simp only [haulierref01_Sub.j0, Bool.not_true, Bool.false_eq_true, if_false]
        rw [w64 (by omega) (by omega), rsafe_f]; simp [hc]
      · refine Ev.step (f := fun _ => some (0, 9)) (fun k => ?_) (by rw [if_neg hc]; exact Ev.now _)
        simp only [haulierref01_Sub.j0, Bool.not_true, Bool.false_eq_true, if_false]
        rw [w64 (by omega) (by omega), rsafe_f]; simp [hc]
    · simp only [ha, hb, if_true, false_and, and_false, if_false, Bool.false_eq_true]
      refine Ev.step (f := fun _ => some (0, 9)) (fun k => ?_) (Ev.now _)
      simp [haulierref01_Sub.j0]
  · simp only [ha, false_and, if_false, Bool.false_eq_true]
    refine Ev.step (f := fun _ => some (0, 9)) (fun k => ?_) (Ev.now _)
    simp [haulierref01_Sub.j0]
theorem rsize_f {a : Int} (h : safeB a = true) : haulierref01_size.f a = some ((a.natAbs : Nat) : Int) := by
  have h' := (safeB_iff a).1 h
  unfold haulierref01_size.f
  split
  · rw [w64 (by omega) (by omega)]; congr 1; omega
  · congr 1; omega
theorem nat_div_lt (p q : Nat) (hp : 0 < p) : (q > 1152921504606846976 / p) ↔ p * q > 1152921504606846976 := by
  rw [gt_iff_lt, Nat.div_lt_iff_lt_mul hp, Nat.mul_comm q p]
theorem rmul_f (a b : Int) : haulierref01_Mul.f a b = some (mulR a b) := by
  unfold haulierref01_Mul.f mulR
  simp only [rsafe_f, Option.bind_some]
  by_cases ha : safeB a = true
  · by_cases hb : safeB b = true
    · obtain ⟨la, lb⟩ := abs_mul_bd ha hb
      have ha' := (safeB_iff a).1 ha
      have hb' := (safeB_iff b).1 hb
      have hs := safe_mul_iff a b
      simp only [ha, hb, if_true, true_and, rsize_f ha, rsize_f hb, Option.bind_some]
      by_cases hz : a = 0
      · subst hz
        simp [w64, safeB]
      · rw [if_pos (by omega), if_neg (by omega)]
        obtain ⟨q, hq⟩ : ∃ q, 1152921504606846976 / a.natAbs = q := ⟨_, rfl⟩
        have hqi : (1152921504606846976 : Int) / ((a.natAbs : Nat) : Int) = (q : Int) := by rw [← hq]; rfl
        have hle : q ≤ 1152921504606846976 := by rw [← hq]; exact Nat.div_le_self _ _
        have e : wrap64 ((1152921504606846976 : Int) / ((a.natAbs : Nat) : Int)) = (q : Int) := by rw [hqi, w64 (by omega) (by omega)]
        rw [e]
        have hd := nat_div_lt a.natAbs b.natAbs (by omega)
        rw [hq] at hd
        by_cases hc : safeB (a * b) = true
        · have hp' := hs.1 hc
          have hc' := (safeB_iff _).1 hc
          rw [if_neg (by
            intro h
            have := hd.1 (by omega)
            omega), if_pos hc, w64 (by omega) (by omega)]
        · have hp' : ¬ a.natAbs * b.natAbs ≤ 1152921504606846976 := fun h => hc (hs.2 h)
          have hbig := hd.2 (by omega)
          rw [if_pos (by omega), if_neg hc]
    · simp [ha, hb]
  · simp [ha]

theorem NumAdds : haulierlaw01_NumAdds.Pure := by
  intro a b _ _
  refine Ev.rounds (g := fun k => haulierlaw01_NumAdds.f k a b) ?_
  unfold haulierlaw01_NumAdds.f
  refine Ev.bind awake_ev (Ev.bind (add_ev a b) (Ev.bind (radd_ev a b) (Ev.bind (sub_ev a b) (Ev.bind (rsub_ev a b) (Ev.bind (mul_ev a b) ?_)))))
  simp only [rmul_f, Option.bind_some, if_true, beq_self_eq_true]
  exact Ev.now _

end Go.Proofs.Ytnfcccfcfckegaa.Pure
