import Derived.Test.YtifekgemngfidaaDoorInstEqB
import Derived.Test.YtifekgemngfidaaDoorPAx18
import Derived.Test.YtifekgemngfidaaDoorPAx2
/-! Whether two are the same: the program's own answer. -/
namespace Go.Proofs.YtifekgemngfidaaDoor.Inst
open Go.RowKit Go.Proofs.YtifekgemngfidaaDoorW.PrintWords Go.Proofs.YtifekgemngfidaaDoorW.PrintLast Go.Proofs.YtifekgemngfidaaDoor.PA
set_option linter.unusedVariables false
theorem stops_loop (x y : List St) (hxy : x.length = y.length) (hx : x.length ≤ 100000) : ∀ (d i : Nat), i + d = x.length → Ev (fun k => api_Stop.l0 k x y (x.length : Int) (i : Int)) (decide (x.drop i = y.drop i)) := by
  intro d
  induction d with
  | zero =>
    intro i hi
    rw [List.drop_eq_nil_of_le (by omega), List.drop_eq_nil_of_le (by omega)]
    refine Ev.step (f := fun _ => some true) (fun k => ?_) (Ev.now _)
    simp only [api_Stop.l0]; rw [if_neg (by omega)]
  | succ d ih =>
    intro i hi
    have h1 : i < x.length := by omega
    have h2 : i < y.length := by omega
    have e1 : (i : Int) < (x.length : Int) := by omega
    have e2 : (i : Int) < (y.length : Int) := by omega
    have e3 : (0 : Int) ≤ (i : Int) := by omega
    have e4 : wrap64 ((i : Int) + 1) = ((i + 1 : Nat) : Int) := w_next h1 (by omega)
    rw [List.drop_eq_getElem_cons h1, List.drop_eq_getElem_cons h2]
    by_cases h : x[i] = y[i]
    · have e : decide (x[i] :: x.drop (i + 1) = y[i] :: y.drop (i + 1)) = decide (x.drop (i + 1) = y.drop (i + 1)) := decide_eq_decide.mpr ⟨fun h' => (List.cons.inj h').2, fun h' => by rw [h, h']⟩
      rw [e]
      refine Ev.step (f := fun k => api_Stop.l0 k x y (x.length : Int) ((i + 1 : Nat) : Int)) (fun k => ?_) (ih (i + 1) (by omega))
      simp only [api_Stop.l0]
      rw [if_pos e1, if_pos e3, if_pos e1, if_pos e2, rdS_at h1, rdS_at h2, ne_b, decide_eq_true h, if_neg (by decide), e4]
    · have e : decide (x[i] :: x.drop (i + 1) = y[i] :: y.drop (i + 1)) = false := decide_eq_false (fun h' => h (List.cons.inj h').1)
      rw [e]
      refine Ev.step (f := fun _ => some false) (fun k => ?_) (Ev.now _)
      simp only [api_Stop.l0]
      rw [if_pos e1, if_pos e3, if_pos e1, if_pos e2, rdS_at h1, rdS_at h2, ne_b, decide_eq_false h, if_pos (by decide)]
theorem stops_ev (x y : List St) (hx : x.length ≤ 100000) : Ev (fun k => api_Stop.f k x y) (decide (x = y)) := by
  by_cases h : x.length = y.length
  · have := stops_loop x y h hx x.length 0 (by omega)
    refine Ev.congr (f := fun k => api_Stop.l0 k x y (x.length : Int) ((0 : Nat) : Int)) (fun k => ?_) (by simpa using this)
    simp only [api_Stop.f]; rw [if_pos (by omega)]; rfl
  · refine Ev.congr (f := fun _ => some _) (fun k => ?_) (Ev.now _)
    simp only [api_Stop.f]; rw [if_neg (by omega), decide_eq_false (fun e => h (by rw [e]))]
theorem same_ev (p c r : Int) (l : List St) (p' c' r' : Int) (l' : List St) (hl : l.length ≤ 100000) : Ev (fun k => inst_Same.f k p c r l p' c' r' l') (sameB p c r l p' c' r' l') := by
  unfold sameB
  cases h : (p == p' && (c == c' && r == r')) with
  | true =>
    rw [Bool.true_and]
    refine Ev.congr (f := fun k => api_Stop.f k l l') (fun k => ?_) (stops_ev l l' hl)
    simp only [inst_Same.f]; rw [h, if_pos rfl]
  | false =>
    rw [Bool.false_and]
    refine Ev.congr (f := fun _ => some false) (fun k => ?_) (Ev.now _)
    simp only [inst_Same.f]; rw [h, if_neg (by decide)]
end Go.Proofs.YtifekgemngfidaaDoor.Inst
