import Derived.Test.YtifekgemngfidaaDoorInstIO
import Derived.Test.YtifekgemngfidaaDoorMayRef
import Derived.Test.YtifekgemngfidaaDoorPrintRef
import Derived.Test.YtifekgemngfidaaDoorPAx18
/-! What the reference answers: the same plain functions. -/
namespace Go.Proofs.YtifekgemngfidaaDoor.Inst
open Go.RowKit Go.Proofs.YtifekgemngfidaaDoorW.PrintWords Go.Proofs.YtifekgemngfidaaDoorW.PrintLast Go.Proofs.YtifekgemngfidaaDoor.PA
open Go.Proofs.YtifekgemngfidaaDoor.Scan (textP Prints Print_ev)
set_option linter.unusedVariables false
theorem rprint_loop (p c r : Int) (l : List St) (hp : Prints (rows p c r l)) (hl : l.length ≤ 10000) : ∀ (d i : Nat), i + d = l.length →
    Ev (fun k => haulierref05_Print.l0 k ([p, c, r] :: (l.take i).map lineOf) (i : Int) p c r l) (textP (rows p c r l), 0) := by
  intro d
  induction d with
  | zero =>
    intro i hi
    rw [List.take_of_length_le (by omega)]
    refine Ev.step (f := fun k => (haulierref04_Print.f k (rows p c r l)).bind fun t => some (t, 0)) (fun k => ?_) (Ev.bind (Print_ev hp) (Ev.now _))
    simp only [haulierref05_Print.l0]; rw [if_neg (by omega)]; rfl
  | succ d ih =>
    intro i hi
    have hlt : i < l.length := by omega
    have h1 : (i : Int) < (l.length : Int) := by omega
    have h2 : (0 : Int) ≤ (i : Int) := by omega
    have h3 : wrap64 ((i : Int) + 1) = ((i + 1 : Nat) : Int) := w_next hlt (by omega)
    have hx : ([p, c, r] :: (l.take i).map lineOf) ++ [lineOf l[i]] = [p, c, r] :: (l.take (i + 1)).map lineOf := by rw [List.take_succ_eq_append_getElem hlt, List.map_append]; rfl
    have hb : ([p, c, r] :: (l.take i).map lineOf).length < 5864062014805 := by rw [List.length_cons, List.length_map, List.length_take]; omega
    refine Ev.step (f := fun k => haulierref05_Print.l0 k ([p, c, r] :: (l.take (i + 1)).map lineOf) ((i + 1 : Nat) : Int) p c r l) (fun k => ?_) (ih (i + 1) (by omega))
    simp only [haulierref05_Print.l0]
    rw [if_pos h1, if_pos h2, if_pos hb, rdS_at hlt, h3, ← hx]
    rfl
theorem rprint_ev (p c r : Int) (l : List St) : Ev (fun k => haulierref05_Print.f k p c r l) (printOut p c r l) := by
  refine Ev.bind (rmay_ev p c r l) ?_
  unfold printOut
  cases h : mayB p c r l with
  | true =>
    simp only [if_true]
    have := rprint_loop p c r l (may_prints h) (by have := may_head h; omega) l.length 0 (by omega)
    exact this
  | false =>
    simp only [Bool.false_eq_true, if_false]
    exact Ev.now _
end Go.Proofs.YtifekgemngfidaaDoor.Inst
