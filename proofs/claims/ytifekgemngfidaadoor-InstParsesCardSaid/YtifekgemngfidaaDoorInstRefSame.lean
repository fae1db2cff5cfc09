import Derived.Test.YtifekgemngfidaaDoorInstEqB
import Derived.Test.YtifekgemngfidaaDoorPAx14
/-! What the reference answers: the same plain functions. -/
namespace Go.Proofs.YtifekgemngfidaaDoor.Inst
open Go.RowKit Go.Proofs.YtifekgemngfidaaDoorW.PrintWords Go.Proofs.YtifekgemngfidaaDoorW.PrintLast Go.Proofs.YtifekgemngfidaaDoor.PA
set_option linter.unusedVariables false
theorem rsame_loop (p c r : Int) (x : List St) (p' c' r' : Int) (y : List St) (hxy : x.length = y.length) (hx : x.length ≤ 100000) : ∀ (d i : Nat), i + d = x.length → Ev (fun k => haulierref05_Same.l0 k (i : Int) p c r x p' c' r' y) (decide (x.drop i = y.drop i)) := by
  intro d
  induction d with
  | zero =>
    intro i hi
    rw [List.drop_eq_nil_of_le (by omega), List.drop_eq_nil_of_le (by omega)]
    refine Ev.step (f := fun _ => some true) (fun k => ?_) (Ev.now _)
    simp only [haulierref05_Same.l0]; rw [if_neg (by omega)]
  | succ d ih =>
    intro i hi
    have h1 : i < x.length := by omega
    have h2 : i < y.length := by omega
    have e1 : (i : Int) < (x.length : Int) := by omega
    have e2 : (i : Int) < (y.length : Int) := by omega
    have e3 : (0 : Int) ≤ (i : Int) := by omega
    have e4 : wrap64 ((i : Int) + 1) = ((i + 1 : Nat) : Int) := w_next h1 (by omega)
    rw [List.drop_eq_getElem_cons h1, List.drop_eq_getElem_cons h2]
    by_cases h : x[i] = y[i]
    · have e : decide (x[i] :: x.drop (i + 1) = y[i] :: y.drop (i + 1)) = decide (x.drop (i + 1) = y.drop (i + 1)) := decide_eq_decide.mpr ⟨fun h' => (List.cons.inj h').2, fun h' => by rw [h, h']⟩
      rw [e]
      refine Ev.step (f := fun k => haulierref05_Same.l0 k ((i + 1 : Nat) : Int) p c r x p' c' r' y) (fun k => ?_) (ih (i + 1) (by omega))
      simp only [haulierref05_Same.l0]
      rw [if_pos e1, if_pos e3, if_pos e2, rdS_at h1, rdS_at h2, ne_b, decide_eq_true h, if_neg (by decide), e4]
    · have e : decide (x[i] :: x.drop (i + 1) = y[i] :: y.drop (i + 1)) = false := decide_eq_false (fun h' => h (List.cons.inj h').1)
      rw [e]
      refine Ev.step (f := fun _ => some false) (fun k => ?_) (Ev.now _)
      simp only [haulierref05_Same.l0]
      rw [if_pos e1, if_pos e3, if_pos e2, rdS_at h1, rdS_at h2, ne_b, decide_eq_false h, if_pos (by decide)]
theorem rsame_ev (p c r : Int) (l : List St) (p' c' r' : Int) (l' : List St) (hl : l.length ≤ 100000) : Ev (fun k => haulierref05_Same.f k p c r l p' c' r' l') (sameB p c r l p' c' r' l') := by
  have out : ∀ b : Bool, b = true → sameB p c r l p' c' r' l' = false → Ev (fun k => haulierref05_Same.j0 k b p c r l p' c' r' l') (sameB p c r l p' c' r' l') := by
    rintro _ rfl h
    rw [h]
    refine Ev.step (f := fun _ => some false) (fun k => ?_) (Ev.now _)
    simp only [haulierref05_Same.j0]; rw [if_pos trivial]
  by_cases h1 : p = p'
  · by_cases h2 : c = c'
    · by_cases h3 : r = r'
      · refine Ev.congr (f := fun k => haulierref05_Same.j0 k ((l.length : Int) != (l'.length : Int)) p c r l p' c' r' l') (fun k => ?_) ?_
        · simp only [haulierref05_Same.f]; rw [if_pos h1, if_pos h2, if_pos h3]
        · by_cases hl' : l.length = l'.length
          · have e : ((l.length : Int) != (l'.length : Int)) = false := by simp; omega
            rw [e]
            have hs : sameB p c r l p' c' r' l' = decide (l.drop 0 = l'.drop 0) := by unfold sameB; rw [h1, h2, h3]; simp
            rw [hs]
            refine Ev.step (f := fun k => haulierref05_Same.l0 k ((0 : Nat) : Int) p c r l p' c' r' l') (fun k => ?_) (rsame_loop p c r l p' c' r' l' hl' hl l.length 0 (by omega))
            simp only [haulierref05_Same.j0]; rw [if_neg (by decide)]; rfl
          · refine out _ (bne_iff_ne.mpr (by omega)) ?_
            unfold sameB; rw [decide_eq_false (fun e => hl' (by rw [e])), Bool.and_false]
      · refine Ev.congr (fun k => ?_) (out true rfl (by unfold sameB; rw [beq_eq_false_iff_ne.mpr h3]; simp))
        simp only [haulierref05_Same.f]; rw [if_pos h1, if_pos h2, if_neg h3]
    · refine Ev.congr (fun k => ?_) (out true rfl (by unfold sameB; rw [beq_eq_false_iff_ne.mpr h2]; simp))
      simp only [haulierref05_Same.f]; rw [if_pos h1, if_neg h2]
  · refine Ev.congr (fun k => ?_) (out true rfl (by unfold sameB; rw [beq_eq_false_iff_ne.mpr h1]; simp))
    simp only [haulierref05_Same.f]; rw [if_neg h1]
end Go.Proofs.YtifekgemngfidaaDoor.Inst
