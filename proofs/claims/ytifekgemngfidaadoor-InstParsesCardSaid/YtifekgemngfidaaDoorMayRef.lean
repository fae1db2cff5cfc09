import Derived.Test.YtifekgemngfidaaDoorMayBase
import Derived.Test.YtifekgemngfidaaDoorPAx9
import Derived.Test.YtifekgemngfidaaDoorPAx8
/-! The reference answers the same: whether an instance may be. -/
namespace Go.Proofs.YtifekgemngfidaaDoor.Inst
open Go.RowKit Go.Proofs.YtifekgemngfidaaDoorW.PrintWords Go.Proofs.YtifekgemngfidaaDoorW.PrintLast Go.Proofs.YtifekgemngfidaaDoor.PA
set_option linter.unusedVariables false
theorem in_eq (x lo hi : Int) : haulierref05_in.f x lo hi = some (decide (lo ≤ x ∧ x ≤ hi)) := by
  unfold haulierref05_in.f
  by_cases h : x ≥ lo
  · rw [if_pos h]; congr 1; apply decide_eq_decide.mpr; omega
  · rw [if_neg h, decide_eq_false (by omega)]
theorem rstop_eq (s : St) : haulierref05_stop.f s.f0 s.f1 s.f2 s.f3 s.f4 s.f5 = some (stopB s) := by
  unfold haulierref05_stop.f stopB
  simp only [in_eq, Option.bind_some, decide_eq_true_iff]
  by_cases h1 : 0 ≤ s.f0 ∧ s.f0 ≤ 10000
  · rw [if_pos h1]
    by_cases h2 : 0 ≤ s.f1 ∧ s.f1 ≤ 10000
    · rw [if_pos h2]
      by_cases h3 : 0 ≤ s.f3 ∧ s.f3 ≤ 1048576
      · rw [if_pos h3]
        by_cases h4 : s.f3 ≤ s.f4 ∧ s.f4 ≤ 1048576
        · rw [if_pos h4]; congr 1; apply decide_eq_decide.mpr; omega
        · rw [if_neg h4, decide_eq_false (by omega)]
      · rw [if_neg h3, decide_eq_false (by omega)]
    · rw [if_neg h2, decide_eq_false (by omega)]
  · rw [if_neg h1, decide_eq_false (by omega)]
theorem rj2_ev (p c r : Int) (l : List St) (i : Nat) (b : Bool) (rest : Bool) (hi : wrap64 ((i : Int) + 1) = ((i + 1 : Nat) : Int)) (h : b = false → Ev (fun k => haulierref05_May.l0 k ((i + 1 : Nat) : Int) p c r l) rest) : Ev (fun k => haulierref05_May.j2 k (i : Int) b p c r l) (!b && rest) := by
  cases b with
  | true =>
    refine Ev.step (f := fun _ => some false) (fun k => ?_) (Ev.now _)
    simp [haulierref05_May.j2]
  | false =>
    simp only [Bool.not_false, Bool.true_and]
    refine Ev.step (fun k => ?_) (h rfl)
    simp only [haulierref05_May.j2]; rw [if_neg (by decide), hi]
theorem rmay_loop (p c r : Int) (l : List St) (hp : 0 ≤ p ∧ p ≤ 16) (hlen : (l.length : Int) = 2 * p + 1) : ∀ (d i : Nat), i + d = l.length → Ev (fun k => haulierref05_May.l0 k (i : Int) p c r l) (allB p l i (l.drop i)) := by
  intro d
  induction d with
  | zero =>
    intro i hi
    rw [List.drop_eq_nil_of_le (by omega)]
    refine Ev.step (f := fun _ => some true) (fun k => ?_) (Ev.now _)
    simp only [haulierref05_May.l0]; rw [if_neg (by omega)]
  | succ d ih =>
    intro i hi
    have hlt : i < l.length := by omega
    have hr := rdS_at hlt
    have hih := ih (i + 1) (by omega)
    have e1 : wrap64 ((i : Int) + 1) = ((i + 1 : Nat) : Int) := w_next hlt (by omega)
    rw [List.drop_eq_getElem_cons hlt]
    generalize l[i] = s at *
    have hend := rj2_ev p c r l i (!(stopB s && demB p l i s)) (allB p l (i + 1) (l.drop (i + 1))) e1 (fun _ => hih)
    have e : allB p l i (s :: l.drop (i + 1)) = (! !(stopB s && demB p l i s) && allB p l (i + 1) (l.drop (i + 1))) := by simp [allB, Bool.and_assoc]
    rw [e]
    refine Ev.step (fun k => ?_) hend
    have q1 : (i : Int) < (l.length : Int) := by omega
    have q2 : 0 ≤ (i : Int) := by omega
    simp only [haulierref05_May.l0, hr, rstop_eq, in_eq, Option.bind_some, if_pos q1, if_pos q2, decide_eq_true_iff]
    cases hs : stopB s with
    | false => simp only [Bool.false_eq_true, if_false, Bool.false_and, Bool.not_false]
    | true =>
      simp only [if_true, Bool.true_and]
      by_cases h0 : i = 0
      · subst h0
        have z0 : ((0 : Nat) : Int) = 0 := rfl
        have z1 : ¬ ((0 : Nat) : Int) > 0 := by omega
        have z2 : ¬ ((0 : Nat) : Int) > p := by omega
        have e : demB p l 0 s = decide (s.f2 = 0 ∧ s.f5 = 0) := by simp [demB]
        simp only [if_pos z0, if_neg z1, if_neg z2, e]
        by_cases h2 : s.f2 = 0
        · by_cases h5 : s.f5 = 0
          · simp only [if_pos h2, if_pos h5, decide_eq_true (show s.f2 = 0 ∧ s.f5 = 0 from ⟨h2, h5⟩), Bool.not_true]
          · simp only [if_pos h2, if_neg h5, decide_eq_false (show ¬ (s.f2 = 0 ∧ s.f5 = 0) from fun h => h5 h.2), Bool.not_false]
        · simp only [if_neg h2, decide_eq_false (show ¬ (s.f2 = 0 ∧ s.f5 = 0) from fun h => h2 h.1), Bool.not_false]
      · have z0 : ¬ (i : Int) = 0 := by omega
        have z1 : (i : Int) > 0 := by omega
        simp only [if_neg z0, if_pos z1]
        by_cases hip : (i : Int) ≤ p
        · have z2 : ¬ (i : Int) > p := by omega
          have e : demB p l i s = decide (1 ≤ s.f2 ∧ s.f2 ≤ 1000) := by simp [demB, h0, hip]
          simp only [if_pos hip, if_neg z2, e]
          by_cases hd : 1 ≤ s.f2 ∧ s.f2 ≤ 1000
          · simp only [if_pos hd, decide_eq_true hd, Bool.not_true]
          · simp only [if_neg hd, decide_eq_false hd, Bool.not_false]
        · have z2 : (i : Int) > p := by omega
          have ew : wrap64 ((i : Int) - p) = (i : Int) - p := w64 (by omega) (by omega)
          have e : demB p l i s = decide (s.f2 = wrap64 (-((rd_T34 l (wrap64 ((i : Int) - p))).f2))) := by simp [demB, h0, hip]
          have z3 : 0 ≤ wrap64 ((i : Int) - p) := by rw [ew]; omega
          have z4 : wrap64 ((i : Int) - p) < (l.length : Int) := by rw [ew]; omega
          simp only [if_neg hip, if_pos z2, if_pos z3, if_pos z4, e]
          by_cases hd : s.f2 = wrap64 (-((rd_T34 l (wrap64 ((i : Int) - p))).f2))
          · rw [decide_eq_true hd, show (s.f2 != wrap64 (-((rd_T34 l (wrap64 ((i : Int) - p))).f2))) = false from bne_eq_false_iff_eq.mpr hd]; rfl
          · rw [decide_eq_false hd, show (s.f2 != wrap64 (-((rd_T34 l (wrap64 ((i : Int) - p))).f2))) = true from bne_iff_ne.mpr hd]; rfl
theorem rmay_ev (p c r : Int) (l : List St) : Ev (fun k => haulierref05_May.f k p c r l) (mayB p c r l) := by
  have out : ∀ b, b = true → mayB p c r l = false → Ev (fun k => haulierref05_May.j0 k b p c r l) (mayB p c r l) := fun b hb h => by
    rw [h, hb]
    refine Ev.step (f := fun _ => some false) (fun k => ?_) (Ev.now _)
    simp [haulierref05_May.j0]
  have no : ¬ (0 ≤ p ∧ p ≤ 16 ∧ 1 ≤ c ∧ c ≤ 8 ∧ 1 ≤ r ∧ r ≤ 1000 ∧ (l.length : Int) = 2 * p + 1) → mayB p c r l = false := fun h => by
    unfold mayB headB; rw [decide_eq_false h, Bool.false_and]
  by_cases hp : 0 ≤ p ∧ p ≤ 16
  · by_cases hc : 1 ≤ c ∧ c ≤ 8
    · by_cases hr : 1 ≤ r ∧ r ≤ 1000
      · have ew : wrap64 (wrap64 (2 * p) + 1) = 2 * p + 1 := by rw [w64 (x := 2 * p) (by omega) (by omega), w64 (by omega) (by omega)]
        refine Ev.congr (f := fun k => haulierref05_May.j0 k ((l.length : Int) != 2 * p + 1) p c r l) (fun k => ?_) ?_
        · simp only [haulierref05_May.f, in_eq, Option.bind_some, decide_eq_true_iff, if_pos hp, if_pos hc, if_pos hr, ew]
        · by_cases hn : (l.length : Int) = 2 * p + 1
          · rw [show ((l.length : Int) != 2 * p + 1) = false by simp [hn]]
            have e : mayB p c r l = allB p l 0 (l.drop 0) := by unfold mayB headB; rw [decide_eq_true (by omega), Bool.true_and]; rfl
            rw [e]
            refine Ev.step (f := fun k => haulierref05_May.l0 k ((0 : Nat) : Int) p c r l) (fun k => ?_) (rmay_loop p c r l hp hn l.length 0 (by omega))
            simp [haulierref05_May.j0]
          · exact out _ (bne_iff_ne.mpr hn) (no (by omega))
      · refine Ev.congr (f := fun k => haulierref05_May.j0 k true p c r l) (fun k => ?_) (out _ rfl (no (by omega)))
        simp only [haulierref05_May.f, in_eq, Option.bind_some, decide_eq_true_iff, if_pos hp, if_pos hc, if_neg hr]
    · refine Ev.congr (f := fun k => haulierref05_May.j0 k true p c r l) (fun k => ?_) (out _ rfl (no (by omega)))
      simp only [haulierref05_May.f, in_eq, Option.bind_some, decide_eq_true_iff, if_pos hp, if_neg hc]
  · refine Ev.congr (f := fun k => haulierref05_May.j0 k true p c r l) (fun k => ?_) (out _ rfl (no (by omega)))
    simp only [haulierref05_May.f, in_eq, Option.bind_some, decide_eq_true_iff, if_neg hp]
end Go.Proofs.YtifekgemngfidaaDoor.Inst
