/- The tour of any plan is what the document says. -/
import Derived.Test.YtblpfjocmbppbaaDefTourJoins
import Derived.Test.YtblpfjocmbppbaaTourRef
namespace Go.Proofs.Ytblpfjocmbppbaa.Pure
open Go.RowKit Go.Proofs.Ytblpfjocmbppbaa Go.Proofs.Ytblpfjocmbppbaa.PA Go.Proofs.YtblpfjocmbppbaaW.PrintWords Go.Proofs.YtblpfjocmbppbaaW.PrintLast Go.Proofs.Ytblpfjocmbppbaa.Tour
theorem joinR_small (t : List (List Int)) (ht : t.length ≤ 40) (hr : ∀ r ∈ t, r.length ≤ 100) : (joinR t).length ≤ 100000 := by
  have h : ∀ l : List (List Int), (∀ r ∈ l, r.length ≤ 100) → (l.map fun x => x.length + 1).sum ≤ 101 * l.length := by
    intro l
    induction l with
    | nil => intro _; exact Nat.le_refl _
    | cons r l ih =>
      intro h
      have h1 := ih (fun x hx => h x (List.mem_cons_of_mem _ hx))
      have h2 := h r List.mem_cons_self
      rw [List.map_cons, List.sum_cons, List.length_cons]; omega
  cases t with
  | nil => exact Nat.zero_le _
  | cons r l =>
    have h1 := h l (fun x hx => hr x (List.mem_cons_of_mem _ hx))
    have h2 := hr r List.mem_cons_self
    rw [List.length_cons] at ht
    rw [joinR, List.length_append, flat_len]; omega
theorem TourJoins : haulierlaw09_TourJoins.Claim := by
  intro x _
  obtain ⟨l⟩ := x
  suffices h : Ev (fun k => haulierlaw09_TourJoins.f k l) true from h.rounds
  unfold haulierlaw09_TourJoins.f
  refine Ev.bind awake_ev (Ev.bind (few_ev l) ?_)
  refine Ev.congr (f := fun k => haulierlaw09_TourJoins.j0 k true (!fewB l) l) (fun k => if_pos rfl) ?_
  by_cases hf : fewB l = true
  · rw [hf]
    refine Ev.step (f := fun k => (tour_Join.f k l).bind fun t222 => ((haulierref09_Join.f k l).bind fun t225 => ((haulierref02_Same.f k t222 t225).bind fun t228 => (some t228)))) (fun k => by rw [haulierlaw09_TourJoins.j0]; rfl) ?_
    refine Ev.bind (join_ev hf) (Ev.bind (ref_join hf) (Ev.bind (same02 _ ?_) (Ev.now _)))
    have := joinR_small _ (sortR_len hf).1 (sortR_len hf).2
    omega
  · rw [Bool.not_eq_true] at hf
    rw [hf]
    exact Ev.step (f := fun _ => some true) (fun k => by rw [haulierlaw09_TourJoins.j0]; rfl) (Ev.now _)
end Go.Proofs.Ytblpfjocmbppbaa.Pure
