/- A tour is split into the routes that it was joined of. -/
import Derived.Test.YtblpfjocmbppbaaPAx9
import Derived.Test.YtblpfjocmbppbaaPAx8
import Derived.Test.YtblpfjocmbppbaaPAx5
import Derived.Test.YtblpfjocmbppbaaTourBase
namespace Go.Proofs.Ytblpfjocmbppbaa.Tour
open Go.RowKit Go.Proofs.Ytblpfjocmbppbaa Go.Proofs.Ytblpfjocmbppbaa.PA Go.Proofs.YtblpfjocmbppbaaW.PrintWords Go.Proofs.YtblpfjocmbppbaaW.PrintLast
theorem same_l1 (x : List (List Int)) (hx : x.length ≤ 10000) (hy : ∀ l ∈ x, l.length ≤ 100000) (i : Nat) (hi : i < x.length) (hnext : Ev (fun k => haulierref04_Same.l0 k x x ((i + 1 : Nat) : Int)) true) : ∀ (d j : Nat), j + d = (rd_L1 x (i : Int)).length → Ev (fun k => haulierref04_Same.l1 k x x (i : Int) (j : Int)) true := by
  have hb : (rd_L1 x (i : Int)).length ≤ 100000 := by rw [rdT hi]; exact hy _ (List.getElem_mem hi)
  intro d
  induction d with
  | zero =>
    intro j hj
    refine Ev.step (f := fun k => haulierref04_Same.l0 k x x ((i + 1 : Nat) : Int)) (fun k => ?_) hnext
    simp only [haulierref04_Same.l1]
    rw [if_pos (by omega), if_pos (by omega), if_neg (by omega), wrapN i (by omega)]
  | succ d ih =>
    intro j hj
    refine Ev.step (f := fun k => haulierref04_Same.l1 k x x (i : Int) ((j + 1 : Nat) : Int)) (fun k => ?_) (ih (j + 1) (by omega))
    simp only [haulierref04_Same.l1]
    rw [if_pos (by omega), if_pos (by omega), if_pos (by omega), if_pos (by omega), if_pos (by omega), if_pos (by omega), if_pos trivial, wrapN j (by omega)]
theorem same04 (x : List (List Int)) (hx : x.length ≤ 10000) (hy : ∀ l ∈ x, l.length ≤ 100000) : Ev (fun k => haulierref04_Same.f k x x) true := by
  have h : ∀ (d i : Nat), i + d = x.length → Ev (fun k => haulierref04_Same.l0 k x x (i : Int)) true := by
    intro d
    induction d with
    | zero =>
      intro i hi
      refine Ev.step (f := fun _ => some true) (fun k => ?_) (Ev.now _)
      simp only [haulierref04_Same.l0]; rw [if_neg (by omega)]
    | succ d ih =>
      intro i hi
      refine Ev.step (f := fun k => haulierref04_Same.l1 k x x (i : Int) ((0 : Nat) : Int)) (fun k => ?_) (same_l1 x hx hy i (by omega) (ih (i + 1) (by omega)) (rd_L1 x (i : Int)).length 0 (by omega))
      simp only [haulierref04_Same.l0]; rw [if_pos (by omega), if_pos (by omega), if_pos (by omega), if_pos trivial]; rfl
  refine Ev.congr (f := fun k => haulierref04_Same.l0 k x x ((0 : Nat) : Int)) (fun k => ?_) (h x.length 0 (by omega))
  simp only [haulierref04_Same.f]; rw [if_pos trivial]; rfl
theorem joinR_cons2 (r r2 : List Int) (l : List (List Int)) : joinR (r :: r2 :: l) = r ++ 0 :: joinR (r2 :: l) := by
  rw [joinR, joinR, List.flatMap_cons]; simp
theorem split_rows : ∀ (l : List (List Int)) (r : List Int) (q : Nat) (last : Int) (acc : List (List Int)), l.length ≤ q → (∀ x ∈ r :: l, 0 < x.length ∧ ∀ y ∈ x, 1 ≤ y) → last < headI r → (r :: l).Pairwise (fun a b => headI a < headI b) →
    splitGo (q + 1) (joinR (r :: l)) false last acc = (acc ++ r :: l, 0)
  | [], r, q, last, acc, _, hp, hl, _ => by
    have hr := hp r List.mem_cons_self
    have e : joinR [r] = r := by simp [joinR]
    have hh : r.headD 0 = headI r := rfl
    rw [e, splitGo, idx0_none r (fun x hx => by have := hr.2 x hx; omega), if_pos (by decide), hh, decide_eq_false (by omega)]
    rfl
  | r2 :: l, r, q, last, acc, hq, hp, hl, hs => by
    have hr := hp r List.mem_cons_self
    have hr2 := hp r2 (List.mem_cons_of_mem _ List.mem_cons_self)
    rw [List.length_cons] at hq
    obtain ⟨q, rfl⟩ : ∃ q', q = q' + 1 := ⟨q - 1, by omega⟩
    rw [List.pairwise_cons] at hs
    have hj : 0 < (joinR (r2 :: l)).length := by rw [joinR, List.length_append]; omega
    rw [joinR_cons2]
    have hlen : r.length < (r ++ 0 :: joinR (r2 :: l)).length := by rw [List.length_append, List.length_cons]; omega
    have hget : (r ++ 0 :: joinR (r2 :: l))[r.length] = 0 := by rw [List.getElem_append_right (Nat.le_refl _)]; simp
    have hE : idx0 (r ++ 0 :: joinR (r2 :: l)) = (r.length : Int) := idx0_some _ r.length hlen (fun x hx => by
      rw [List.take_left] at hx
      have := hr.2 x hx; omega) (by rw [hget]; exact Int.le_refl _)
    have hh : (r ++ 0 :: joinR (r2 :: l)).headD 0 = headI r := by
      cases r with
      | nil => simp at hr
      | cons y t => rfl
    rw [splitGo_on hlen hE (by omega) (by rw [hget]; omega) (by rw [List.length_append, List.length_cons]; omega), hh, decide_eq_false (by omega), List.take_left,
      show (r ++ 0 :: joinR (r2 :: l)).drop (r.length + 1) = joinR (r2 :: l) by rw [← List.drop_drop, List.drop_left]; rfl]
    have ih := split_rows l r2 q (headI r) (acc ++ [r]) (by omega) (fun x hx => hp x (List.mem_cons_of_mem _ hx)) (hs.1 r2 List.mem_cons_self) hs.2
    show splitGo (q + 1) (joinR (r2 :: l)) false (headI r) (acc ++ [r]) = _
    rw [ih]; simp
theorem joinR_ge (r : List Int) (l : List (List Int)) (h : 0 < r.length) : (r :: l).length ≤ (joinR (r :: l)).length := by
  rw [joinR, List.length_append, flat_len, List.length_cons]
  have : ∀ l : List (List Int), l.length ≤ (l.map fun x => x.length + 1).sum := by
    intro l
    induction l with
    | nil => exact Nat.le_refl _
    | cons r l ih => rw [List.map_cons, List.sum_cons, List.length_cons]; omega
  have := this l
  omega
theorem split_join (t : List (List Int)) (ht : t.length ≤ 40) (hb : ∀ r ∈ t, r.length ≤ 100) (hp : ∀ x ∈ t, 0 < x.length ∧ ∀ y ∈ x, 1 ≤ y) (hs : t.Pairwise fun a b => headI a < headI b) : tour_Split.f (joinR t) = some (t, 0) := by
  unfold tour_Split.f
  cases t with
  | nil => rfl
  | cons r l =>
    have h1 := joinR_ge r l (hp r List.mem_cons_self).1
    rw [List.length_cons] at h1
    have hsm : (joinR (r :: l)).length ≤ 1000000 := by
      have h2 : ∀ l : List (List Int), (∀ r ∈ l, r.length ≤ 100) → (l.map fun x => x.length + 1).sum ≤ 101 * l.length := by
        intro l
        induction l with
        | nil => intro _; exact Nat.le_refl _
        | cons r l ih =>
          intro h
          have h1 := ih (fun x hx => h x (List.mem_cons_of_mem _ hx))
          have h2 := h r List.mem_cons_self
          rw [List.map_cons, List.sum_cons, List.length_cons]; omega
      have h3 := h2 l (fun x hx => hb x (List.mem_cons_of_mem _ hx))
      have h4 := hb r List.mem_cons_self
      rw [List.length_cons] at ht
      rw [joinR, List.length_append, flat_len]; omega
    have hne : ¬ joinR (r :: l) = [] := by intro e; rw [e] at h1; simp at h1
    obtain ⟨q, hq⟩ : ∃ q, (joinR (r :: l)).length = q + 1 := ⟨(joinR (r :: l)).length - 1, by omega⟩
    have hh : 0 < headI r := by
      have hr := hp r List.mem_cons_self
      cases r with
      | nil => simp at hr
      | cons y t => have := hr.2 y List.mem_cons_self; show (0 : Int) < y; omega
    rw [if_pos hsm, if_neg hne, hq, split_rows l r q 0 [] (by omega) hp hh hs]
    rfl
theorem sortR_keyLe (l : List (List Int)) : (sortR l).Pairwise fun a b => headI a ≤ headI b := by
  have h : ∀ (l acc : List (List Int)), (acc.Pairwise fun a b => headI a ≤ headI b) → (l.foldl (fun acc x => insK headI x acc) acc).Pairwise fun a b => headI a ≤ headI b := by
    intro l
    induction l with
    | nil => intro acc h; exact h
    | cons x l ih =>
      intro acc h
      refine ih _ ?_
      unfold insK
      rw [List.pairwise_append, List.pairwise_cons]
      refine ⟨h.filter _, ⟨fun y hy => ?_, h.filter _⟩, fun a ha b hb => ?_⟩
      · have := (List.mem_filter.1 hy).2
        simp only [Bool.not_eq_true', decide_eq_false_iff_not] at this
        omega
      · have a2 := of_decide_eq_true (List.mem_filter.1 ha).2
        rcases List.mem_cons.1 hb with rfl | hb
        · exact a2
        · have b2 := (List.mem_filter.1 hb).2
          simp only [Bool.not_eq_true', decide_eq_false_iff_not] at b2
          omega
  exact h l [] List.Pairwise.nil
end Go.Proofs.Ytblpfjocmbppbaa.Tour
