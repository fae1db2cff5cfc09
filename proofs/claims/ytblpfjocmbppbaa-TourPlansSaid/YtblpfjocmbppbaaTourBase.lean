/- What the functions of a tour come to: Few, plan.Sorted, tour.Join, and the document's. -/
import Derived.Test.YtblpfjocmbppbaaPAx4
import Derived.Test.YtblpfjocmbppbaaPAx6
import Derived.Test.YtblpfjocmbppbaaSortRows
namespace Go.Proofs.Ytblpfjocmbppbaa.Tour
open Go.RowKit Go.Proofs.Ytblpfjocmbppbaa Go.Proofs.Ytblpfjocmbppbaa.PA Go.Proofs.YtblpfjocmbppbaaW.PrintWords Go.Proofs.YtblpfjocmbppbaaW.PrintLast
theorem wrapT {n : Int} (h0 : -9223372036854775808 ≤ n) (h1 : n < 9223372036854775808) : wrap64 n = n := by unfold wrap64; omega
theorem wrapN (i : Nat) (h : i < 4611686018427387904) : wrap64 ((i : Int) + 1) = ((i + 1 : Nat) : Int) := by rw [wrapT (by omega) (by omega)]; omega
theorem rdT {l : List (List Int)} {i : Nat} (h : i < l.length) : rd_L1 l (i : Int) = l[i] := by unfold rd_L1; simp [List.getD, List.getElem?_eq_getElem h]
theorem rdN {l : List Int} {i : Nat} (h : i < l.length) : rd l (i : Int) = l[i] := by unfold rd; simp [List.getD, List.getElem?_eq_getElem h]
/-- A plan that may be asked. -/
def fewB (l : List (List Int)) : Bool := decide (l.length ≤ 40) && l.all fun r => decide (r.length ≤ 100)
theorem few_ev (l : List (List Int)) : Ev (fun k => haulierlaw08_Few.f k l) (fewB l) := by
  unfold fewB
  by_cases h : l.length ≤ 40
  · rw [decide_eq_true h, Bool.true_and]
    refine Ev.congr (f := fun k => haulierlaw08_Few.l0 k 0 l) (fun k => by unfold haulierlaw08_Few.f; rw [if_neg (by omega)]) ?_
    have go : ∀ d i : Nat, i + d = l.length → Ev (fun k => haulierlaw08_Few.l0 k (i : Int) l) ((l.drop i).all fun r => decide (r.length ≤ 100)) := by
      intro d
      induction d with
      | zero =>
        intro i hi
        refine Ev.step (f := fun _ => some true) (fun k => by rw [haulierlaw08_Few.l0, if_neg (by omega)]) ?_
        rw [List.drop_of_length_le (by omega)]
        exact Ev.now _
      | succ d ih =>
        intro i hi
        have hil : i < l.length := by omega
        rw [List.drop_eq_getElem_cons hil, List.all_cons]
        by_cases hr : l[i].length ≤ 100
        · rw [decide_eq_true hr, Bool.true_and]
          refine Ev.step (f := fun k => haulierlaw08_Few.l0 k ((i + 1 : Nat) : Int) l) (fun k => ?_) (ih (i + 1) (by omega))
          rw [haulierlaw08_Few.l0, if_pos (by omega), if_pos (by omega), rdT hil, if_neg (by omega), wrapN i (by omega)]
        · rw [decide_eq_false hr, Bool.false_and]
          refine Ev.step (f := fun _ => some false) (fun k => ?_) (Ev.now _)
          rw [haulierlaw08_Few.l0, if_pos (by omega), if_pos (by omega), rdT hil, if_pos (by omega)]
    have h0 := go l.length 0 (by omega)
    simpa using h0
  · rw [decide_eq_false h, Bool.false_and]
    exact Ev.congr (f := fun _ => some false) (fun k => by unfold haulierlaw08_Few.f; rw [if_pos (by omega)]) (Ev.now _)
theorem few_of {l : List (List Int)} (h : fewB l = true) : l.length ≤ 40 ∧ ∀ r ∈ l, r.length ≤ 100 := by
  unfold fewB at h
  rw [Bool.and_eq_true, List.all_eq_true] at h
  exact ⟨of_decide_eq_true h.1, fun r hr => of_decide_eq_true (h.2 r hr)⟩
theorem same02 (x : List Int) (hx : x.length < 4611686018427387904) : Ev (fun k => haulierref02_Same.f k x x) true := by
  refine Ev.congr (f := fun k => haulierref02_Same.l0 k x x 0) (fun k => by unfold haulierref02_Same.f; rw [if_pos rfl]) ?_
  have go : ∀ d i : Nat, i + d = x.length → Ev (fun k => haulierref02_Same.l0 k x x (i : Int)) true := by
    intro d
    induction d with
    | zero =>
      intro i hi
      exact Ev.step (f := fun _ => some true) (fun k => by rw [haulierref02_Same.l0, if_neg (by omega)]) (Ev.now _)
    | succ d ih =>
      intro i hi
      refine Ev.step (f := fun k => haulierref02_Same.l0 k x x ((i + 1 : Nat) : Int)) (fun k => ?_) (ih (i + 1) (by omega))
      rw [haulierref02_Same.l0, if_pos (by omega), if_pos (by omega), if_pos (by omega), if_pos rfl, wrapN i (by omega)]
  exact go x.length 0 (by omega)
/-- The rows that hold something. -/
def posR (l : List (List Int)) : List (List Int) := l.filter fun r => decide (0 < r.length)
theorem posR_cons (r : List Int) (l : List (List Int)) : posR (r :: l) = if 0 < r.length then r :: posR l else posR l := by
  unfold posR
  rw [List.filter_cons]
  by_cases h : 0 < r.length
  · rw [if_pos h, decide_eq_true h]; rfl
  · rw [if_neg h, decide_eq_false h]; rfl
theorem clone_f (r : List Int) (h0 : 0 < r.length) (h : r.length < 17592186044416) : slices_Clone_int_int.f r = some r := by
  unfold slices_Clone_int_int.f
  rw [if_pos h0]
  show (if ([] : List Int).length + r.length < 17592186044416 then some ([] ++ r) else none) = _
  rw [if_pos (by rw [List.length_nil]; omega)]; rfl
theorem sorted_g (l : List (List Int)) (hl : l.length ≤ 1000000) (hr : ∀ r ∈ l, r.length ≤ 1000000) : Ev (fun k => plan_Sorted.g k l) (posR l) := by
  unfold plan_Sorted.g
  have go : ∀ (d i : Nat) (acc : List (List Int)), i + d = l.length → acc.length ≤ i → Ev (fun k => plan_Sorted.l0 k acc l (l.length : Int) (i : Int)) (acc ++ posR (l.drop i)) := by
    intro d
    induction d with
    | zero =>
      intro i acc hi ha
      rw [List.drop_of_length_le (by omega)]
      refine Ev.step (f := fun _ => some (acc ++ posR [])) (fun k => ?_) (Ev.now _)
      rw [plan_Sorted.l0, if_neg (by omega)]
      show some acc = some (acc ++ []); rw [List.append_nil]
    | succ d ih =>
      intro i acc hi ha
      have hil : i < l.length := by omega
      have hri := hr l[i] (List.getElem_mem hil)
      rw [List.drop_eq_getElem_cons hil, posR_cons]
      by_cases h0 : 0 < l[i].length
      · rw [if_pos h0]
        have e := ih (i + 1) (acc ++ [l[i]]) (by omega) (by rw [List.length_append, List.length_singleton]; omega)
        rw [List.append_assoc] at e
        refine Ev.step (f := fun k => plan_Sorted.l0 k (acc ++ [l[i]]) l (l.length : Int) ((i + 1 : Nat) : Int)) (fun k => ?_) e
        rw [plan_Sorted.l0, if_pos (by omega), if_pos (by omega), if_pos (by omega), rdT hil, if_pos (by omega), clone_f _ h0 (by omega), Option.bind_some, if_pos (by omega), wrapN i (by omega)]
      · rw [if_neg h0]
        refine Ev.step (f := fun k => plan_Sorted.l0 k acc l (l.length : Int) ((i + 1 : Nat) : Int)) (fun k => ?_) (ih (i + 1) acc (by omega) (by omega))
        rw [plan_Sorted.l0, if_pos (by omega), if_pos (by omega), if_pos (by omega), rdT hil, if_neg (by omega), wrapN i (by omega)]
  have h0 := go l.length 0 [] (by omega) (Nat.zero_le _)
  simpa using h0
theorem posR_pos {l : List (List Int)} : ∀ r ∈ posR l, 0 < r.length := fun _ hr => of_decide_eq_true (List.mem_filter.1 hr).2
theorem posR_mem {l : List (List Int)} : ∀ r ∈ posR l, r ∈ l := fun _ hr => (List.mem_filter.1 hr).1
theorem posR_length (l : List (List Int)) : (posR l).length ≤ l.length := List.length_filter_le _ _
theorem sorted_ev {l : List (List Int)} (h : fewB l = true) : Ev (fun k => plan_Sorted.f k l) (sortR (posR l)) := by
  have hf := few_of h
  unfold plan_Sorted.f
  refine Ev.bind (sorted_g l (by omega) (fun r hr => by have := hf.2 r hr; omega)) ?_
  have h2 := posR_length l
  refine Ev.congr (f := fun _ => some (sortR (posR l))) (fun k => ?_) (Ev.now _)
  rw [if_pos ⟨by omega, List.all_eq_true.2 (fun r hr => decide_eq_true (posR_pos r hr))⟩]
/-- The rows one behind the other, a 0 between two. -/
def joinR : List (List Int) → List Int
  | [] => []
  | r :: l => r ++ l.flatMap fun x => 0 :: x
theorem join_from (t : List (List Int)) (ht : t.length ≤ 40) (hr : ∀ r ∈ t, r.length ≤ 100) : Ev (fun k => tour_Join.l0 k ([] : List Int) t (t.length : Int) 0) (joinR t) := by
  have go : ∀ (d i : Nat) (acc : List Int), 0 < i → i + d = t.length → acc.length ≤ 101 * i → Ev (fun k => tour_Join.l0 k acc t (t.length : Int) (i : Int)) (acc ++ (t.drop i).flatMap fun x => 0 :: x) := by
    intro d
    induction d with
    | zero =>
      intro i acc h0 hi ha
      rw [List.drop_of_length_le (by omega)]
      refine Ev.step (f := fun _ => some acc) (fun k => by rw [tour_Join.l0, if_neg (by omega)]) ?_
      rw [List.flatMap_nil, List.append_nil]; exact Ev.now _
    | succ d ih =>
      intro i acc h0 hi ha
      have hil : i < t.length := by omega
      have hri := hr t[i] (List.getElem_mem hil)
      have e := ih (i + 1) (acc ++ [0] ++ t[i]) (by omega) (by omega) (by simp only [List.length_append, List.length_singleton]; omega)
      rw [List.drop_eq_getElem_cons hil, List.flatMap_cons]
      rw [show acc ++ [0] ++ t[i] ++ (t.drop (i + 1)).flatMap (fun x => 0 :: x) = acc ++ ((0 :: t[i]) ++ (t.drop (i + 1)).flatMap fun x => 0 :: x) by simp] at e
      refine Ev.step (f := fun k => tour_Join.l0 k (acc ++ [0] ++ t[i]) t (t.length : Int) ((i + 1 : Nat) : Int)) (fun k => ?_) e
      rw [tour_Join.l0, if_pos (by omega), if_pos (by omega), if_pos (by omega), if_pos (by omega), if_pos (by omega), Option.bind_some, rdT hil, if_pos (by simp only [List.length_append, List.length_singleton]; omega), wrapN i (by omega)]
  cases t with
  | nil => exact Ev.step (f := fun _ => some []) (fun k => by rw [tour_Join.l0, if_neg (by simp)]) (Ev.now _)
  | cons r l =>
    have hr0 := hr r List.mem_cons_self
    have e := go l.length 1 r (by omega) (by rw [List.length_cons]; omega) (by omega)
    refine Ev.step (f := fun k => tour_Join.l0 k r (r :: l) ((r :: l).length : Int) ((1 : Nat) : Int)) (fun k => ?_) e
    have h1 : (0 : Int) < ((r :: l).length : Int) := by rw [List.length_cons]; omega
    have h2 : rd_L1 (r :: l) 0 = r := rfl
    rw [tour_Join.l0, if_pos h1, if_pos (by omega), if_pos h1, if_neg (by omega), h2, if_pos (by rw [List.length_nil]; omega), List.nil_append, show wrap64 (0 + 1) = ((1 : Nat) : Int) by rw [wrapT (by omega) (by omega)]; rfl]
theorem sortR_len {l : List (List Int)} (h : fewB l = true) : (sortR (posR l)).length ≤ 40 ∧ ∀ r ∈ sortR (posR l), r.length ≤ 100 := by
  have hf := few_of h
  have h2 := posR_length l
  refine ⟨by unfold sortR; rw [sortK_length]; omega, fun r hr => hf.2 r (posR_mem r ((sortK_perm _ _).mem_iff.1 hr))⟩
theorem join_ev {l : List (List Int)} (h : fewB l = true) : Ev (fun k => tour_Join.f k l) (joinR (sortR (posR l))) := by
  unfold tour_Join.f
  exact Ev.bind (sorted_ev h) (join_from _ (sortR_len h).1 (sortR_len h).2)
theorem awake_ev : Ev (fun k => haulierlaw09_awake.f k) true := Ev.of haulierlaw09_awake.mono (k := 12) (by decide +kernel)
theorem flat_len (l : List (List Int)) : (l.flatMap fun x => (0 : Int) :: x).length = (l.map fun x => x.length + 1).sum := by
  induction l with
  | nil => rfl
  | cons r l ih => rw [List.flatMap_cons, List.length_append, ih, List.map_cons, List.sum_cons, List.length_cons]
end Go.Proofs.Ytblpfjocmbppbaa.Tour
