import Derived.Test.YtifekgemngfidaaDoorInstIO
import Derived.Test.YtifekgemngfidaaDoorMayRef
import Derived.Test.YtifekgemngfidaaDoorScanRef
import Derived.Test.YtifekgemngfidaaDoorPAx13
/-! What the reference answers: the same plain functions. -/
namespace Go.Proofs.YtifekgemngfidaaDoor.Inst
open Go.RowKit Go.Proofs.YtifekgemngfidaaDoorW.PrintWords Go.Proofs.YtifekgemngfidaaDoorW.PrintLast Go.Proofs.YtifekgemngfidaaDoor.PA
open Go.Proofs.YtifekgemngfidaaDoor.Scan (linesOut out_len rd_row_at' Bytes Lines_all)
set_option linter.unusedVariables false
theorem rparse_loop (L : List (List Int)) (p c r : Int) (hn : L.length ≤ 10000) : ∀ (d i : Nat), i + d = L.length → 1 ≤ i →
    Ev (fun k => haulierref05_Parse.l0 k L (i : Int) 0 0 0 p c r (((L.take i).drop 1).map stopOf)) (if ((L.drop i).all fun x => x.length == 6) = true then fin_ p c r ((L.drop 1).map stopOf) else (0, 0, 0, [], 2)) := by
  intro d
  induction d with
  | zero =>
    intro i hi h1
    have hd : L.drop i = [] := List.drop_eq_nil_of_le (by omega)
    rw [List.take_of_length_le (by omega), hd, List.all_nil, if_pos rfl]
    refine Ev.step (f := fun k => (haulierref05_May.f k p c r ((L.drop 1).map stopOf)).bind fun t => if t = true then some (p, c, r, (L.drop 1).map stopOf, 0) else some (0, 0, 0, [], 1)) (fun k => ?_) (Ev.bind (rmay_ev p c r _) (Ev.congr (f := fun _ => some (fin_ p c r ((L.drop 1).map stopOf))) (fun k => ?_) (Ev.now _)))
    · simp only [haulierref05_Parse.l0]; rw [if_neg (by omega)]
    · unfold fin_; split <;> rfl
  | succ d ih =>
    intro i hi h1
    have hlt : i < L.length := by omega
    have e1 : (i : Int) < (L.length : Int) := by omega
    have e2 : (0 : Int) ≤ (i : Int) := by omega
    have e3 : wrap64 ((i : Int) + 1) = ((i + 1 : Nat) : Int) := w_next hlt (by omega)
    rw [List.drop_eq_getElem_cons hlt, List.all_cons]
    have ih := ih (i + 1) (by omega) (by omega)
    by_cases h6 : L[i].length = 6
    · have g6 : (L[i].length == 6) = true := by rw [h6]; rfl
      have h6' : (L[i].length : Int) = 6 := by omega
      have hx : ((L.take i).drop 1).map stopOf ++ [stopOf L[i]] = ((L.take (i + 1)).drop 1).map stopOf := by
        rw [List.take_succ_eq_append_getElem hlt, List.drop_append_of_le_length (by rw [List.length_take]; omega), List.map_append]; rfl
      have hb : (((L.take i).drop 1).map stopOf).length < 2932031007402 := by rw [List.length_map, List.length_drop, List.length_take]; omega
      rw [g6, Bool.true_and]
      refine Ev.step (f := fun k => haulierref05_Parse.l0 k L ((i + 1 : Nat) : Int) 0 0 0 p c r (((L.take (i + 1)).drop 1).map stopOf)) (fun k => ?_) ih
      simp only [haulierref05_Parse.l0]
      rw [if_pos e1, if_pos e2, rd_row_at' hlt, if_pos h6', if_pos (by omega), if_pos (by omega), if_pos (by omega), if_pos (by omega), if_pos (by omega), if_pos (by omega), if_pos hb, e3, ← hx]
      rfl
    · have g6 : (L[i].length == 6) = false := beq_eq_false_iff_ne.mpr h6
      have h6' : ¬ (L[i].length : Int) = 6 := by omega
      rw [g6, Bool.false_and, if_neg (by decide)]
      refine Ev.step (f := fun _ => some _) (fun k => ?_) (Ev.now _)
      simp only [haulierref05_Parse.l0]
      rw [if_pos e1, if_pos e2, rd_row_at' hlt, if_neg h6']
theorem rparse_ev (b : List Int) (hb : Bytes b) : Ev (fun k => haulierref05_Parse.f k b) (parseOut (linesOut b)) := by
  have hlen := (out_len b).1
  refine Ev.bind (Lines_all b hb) ?_
  generalize linesOut b = q at *
  have bad : Ev (fun k => haulierref05_Parse.j0 k q.1 true 0 0 0) (0, 0, 0, [], 2) := by
    refine Ev.step (f := fun _ => some _) (fun k => ?_) (Ev.now _)
    simp only [haulierref05_Parse.j0]; rw [if_pos trivial]
  obtain ⟨L, c0⟩ := q
  unfold parseOut
  by_cases h0 : c0 = 0
  · simp only [if_pos h0]
    cases L with
    | nil => simpa using bad
    | cons l rest =>
      simp only at hlen bad
      have n1 : ¬ (((l :: rest).length : Nat) : Int) = 0 := by simp only [List.length_cons]; omega
      have n2 : (0 : Int) < (((l :: rest).length : Nat) : Int) := by simp only [List.length_cons]; omega
      have hr : rd_L3 (l :: rest) 0 = l := rfl
      simp only [if_neg n1, if_pos n2, hr]
      by_cases h3 : l.length = 3
      · have h3' : ((l.length : Int) != 3) = false := by simp; omega
        rw [h3']
        have hl := rparse_loop (l :: rest) (rd l 0) (rd l 1) (rd l 2) hlen rest.length 1 (by simp only [List.length_cons]; omega) (by omega)
        have e : (if l.length = 3 ∧ (rest.all fun x => x.length == 6) = true then fin_ (rd l 0) (rd l 1) (rd l 2) (rest.map stopOf) else (0, 0, 0, [], 2)) = (if (((l :: rest).drop 1).all fun x => x.length == 6) = true then fin_ (rd l 0) (rd l 1) (rd l 2) (((l :: rest).drop 1).map stopOf) else (0, 0, 0, [], 2)) := by
          simp [h3]
        rw [e]
        refine Ev.step (fun k => ?_) hl
        simp only [haulierref05_Parse.j0]
        rw [if_neg (by decide), if_pos n2, hr, if_pos (by omega), if_pos (by omega), if_pos (by omega)]
        rfl
      · have h3' : ((l.length : Int) != 3) = true := bne_iff_ne.mpr (by omega)
        rw [h3', if_neg (fun h => h3 h.1)]
        exact bad
  · simp only [if_neg h0]
    exact Ev.now _
end Go.Proofs.YtifekgemngfidaaDoor.Inst
