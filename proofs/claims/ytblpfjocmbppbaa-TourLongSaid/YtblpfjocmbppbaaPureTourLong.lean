/- A tour has all stops of its routes, and a 0 less than there are routes that have some. -/
import Derived.Test.YtblpfjocmbppbaaDefTourLong
import Derived.Test.YtblpfjocmbppbaaTourBase
namespace Go.Proofs.Ytblpfjocmbppbaa.Pure
open Go.RowKit Go.Proofs.Ytblpfjocmbppbaa Go.Proofs.Ytblpfjocmbppbaa.PA Go.Proofs.YtblpfjocmbppbaaW.PrintWords Go.Proofs.YtblpfjocmbppbaaW.PrintLast Go.Proofs.Ytblpfjocmbppbaa.Tour
/-- How long a tour is: each route that holds something, and a 0 behind it. -/
def lenT : List (List Int) → Nat
  | [] => 0
  | r :: l => if 0 < r.length then r.length + 1 + lenT l else lenT l
theorem lenT_le (l : List (List Int)) (hr : ∀ r ∈ l, r.length ≤ 100) : lenT l ≤ 101 * l.length := by
  induction l with
  | nil => exact Nat.le_refl _
  | cons r l ih =>
    have h1 := ih (fun x hx => hr x (List.mem_cons_of_mem _ hx))
    have h2 := hr r List.mem_cons_self
    rw [lenT, List.length_cons]
    split <;> omega
theorem lenT_pos (l : List (List Int)) : lenT l = ((posR l).map fun x => x.length + 1).sum := by
  induction l with
  | nil => rfl
  | cons r l ih =>
    rw [lenT, posR_cons]
    by_cases h : 0 < r.length
    · rw [if_pos h, if_pos h, List.map_cons, List.sum_cons, ih]
    · rw [if_neg h, if_neg h, ih]
theorem joinR_len (t : List (List Int)) : (joinR t).length = (t.map fun x => x.length + 1).sum - 1 := by
  cases t with
  | nil => rfl
  | cons r l => rw [joinR, List.length_append, flat_len, List.map_cons, List.sum_cons]; omega
theorem tour_len (l : List (List Int)) : (joinR (sortR (posR l))).length = lenT l - 1 := by
  rw [joinR_len, lenT_pos]
  have h : ((sortR (posR l)).map fun x => x.length + 1).Perm ((posR l).map fun x => x.length + 1) := (sortK_perm _ _).map _
  rw [h.sum_nat]
theorem TourLong : haulierlaw09_TourLong.Claim := by
  intro x _
  obtain ⟨l⟩ := x
  suffices h : Ev (fun k => haulierlaw09_TourLong.f k l) true from h.rounds
  unfold haulierlaw09_TourLong.f
  refine Ev.bind awake_ev (Ev.bind (few_ev l) ?_)
  refine Ev.congr (f := fun k => haulierlaw09_TourLong.j0 k true (!fewB l) l) (fun k => if_pos rfl) ?_
  by_cases hf : fewB l = true
  · rw [hf]
    have hb := few_of hf
    refine Ev.step (f := fun k => haulierlaw09_TourLong.l0 k 0 0 l) (fun k => by rw [haulierlaw09_TourLong.j0]; rfl) ?_
    have go : ∀ (d i m : Nat), i + d = l.length → m ≤ 101 * i → m + lenT (l.drop i) = lenT l → Ev (fun k => haulierlaw09_TourLong.l0 k (m : Int) (i : Int) l) true := by
      intro d
      induction d with
      | zero =>
        intro i m hi hm he
        rw [List.drop_of_length_le (by omega), lenT] at he
        by_cases h0 : 0 < m
        · refine Ev.step (f := fun k => (tour_Join.f k l).bind fun t266 => (some ((t266.length : Int) == (wrap64 ((m : Int) - 1))))) (fun k => by rw [haulierlaw09_TourLong.l0, if_neg (by omega), if_pos (by omega)]) (Ev.bind (join_ev hf) ?_)
          rw [tour_len, wrapT (by omega) (by omega), show ((((lenT l - 1 : Nat) : Int) == (m : Int) - 1) = true) from beq_iff_eq.2 (by omega)]
          exact Ev.now _
        · refine Ev.step (f := fun k => (tour_Join.f k l).bind fun t269 => (some ((t269.length : Int) == (m : Int)))) (fun k => by rw [haulierlaw09_TourLong.l0, if_neg (by omega), if_neg (by omega)]) (Ev.bind (join_ev hf) ?_)
          rw [tour_len, show ((((lenT l - 1 : Nat) : Int) == (m : Int)) = true) from beq_iff_eq.2 (by omega)]
          exact Ev.now _
      | succ d ih =>
        intro i m hi hm he
        have hil : i < l.length := by omega
        have hri := hb.2 l[i] (List.getElem_mem hil)
        rw [List.drop_eq_getElem_cons hil, lenT] at he
        by_cases h0 : 0 < l[i].length
        · rw [if_pos h0] at he
          refine Ev.step (f := fun k => haulierlaw09_TourLong.l0 k ((m + l[i].length + 1 : Nat) : Int) ((i + 1 : Nat) : Int) l) (fun k => ?_) (ih (i + 1) (m + l[i].length + 1) (by omega) (by omega) (by omega))
          rw [haulierlaw09_TourLong.l0, if_pos (by omega), if_pos (by omega), rdT hil, if_pos (by omega), wrapN i (by omega), wrapT (n := (m : Int) + (l[i].length : Int)) (by omega) (by omega), wrapT (by omega) (by omega)]
          congr 1
        · rw [if_neg h0] at he
          refine Ev.step (f := fun k => haulierlaw09_TourLong.l0 k (m : Int) ((i + 1 : Nat) : Int) l) (fun k => ?_) (ih (i + 1) m (by omega) (by omega) (by omega))
          rw [haulierlaw09_TourLong.l0, if_pos (by omega), if_pos (by omega), rdT hil, if_neg (by omega), wrapN i (by omega)]
    exact go l.length 0 0 (by omega) (Nat.zero_le _) (by simp)
  · rw [Bool.not_eq_true] at hf
    rw [hf]
    exact Ev.step (f := fun _ => some true) (fun k => by rw [haulierlaw09_TourLong.j0]; rfl) (Ev.now _)
end Go.Proofs.Ytblpfjocmbppbaa.Pure
