/- What the functions of a plan come to: Few, plan.Sorted, plan.Parse, plan.Same. -/
import Derived.Test.YtdkhajgfifaibaaDoorPAx13
import Derived.Test.YtdkhajgfifaibaaDoorPAx3
import Derived.Test.YtdkhajgfifaibaaDoorPAx14
import Derived.Test.YtdkhajgfifaibaaDoorPAx4
import Derived.Test.YtdkhajgfifaibaaDoorSortRows
import Derived.Test.YtdkhajgfifaibaaDoorPrintOut
import Derived.Test.YtdkhajgfifaibaaDoorScanSame
namespace Go.Proofs.YtdkhajgfifaibaaDoor.Tour
open Go.RowKit Go.Proofs.YtdkhajgfifaibaaDoor Go.Proofs.YtdkhajgfifaibaaDoor.PA Go.Proofs.YtdkhajgfifaibaaDoorW.PrintWords Go.Proofs.YtdkhajgfifaibaaDoorW.PrintLast
set_option linter.unusedVariables false
theorem wrapT {n : Int} (h0 : -9223372036854775808 ≤ n) (h1 : n < 9223372036854775808) : wrap64 n = n := by unfold wrap64; omega
theorem wrapN (i : Nat) (h : i < 4611686018427387904) : wrap64 ((i : Int) + 1) = ((i + 1 : Nat) : Int) := by rw [wrapT (by omega) (by omega)]; omega
theorem rdT {l : List (List Int)} {i : Nat} (h : i < l.length) : rd_L1 l (i : Int) = l[i] := by unfold rd_L1; simp [List.getD, List.getElem?_eq_getElem h]
theorem rdN {l : List Int} {i : Nat} (h : i < l.length) : rd l (i : Int) = l[i] := by unfold rd; simp [List.getD, List.getElem?_eq_getElem h]
/-- A plan that may be asked. -/
def fewB (l : List (List Int)) : Bool := decide (l.length ≤ 40) && l.all fun r => decide (r.length ≤ 100)
theorem few_ev (l : List (List Int)) : Ev (fun k => haulierlaw08_Few.f k l) (fewB l) := by
  unfold fewB
  by_cases h : l.length ≤ 40
  · rw [decide_eq_true h, Bool.true_and]
    refine Ev.congr (f := fun k => haulierlaw08_Few.l0 k 0 l) (fun k => by unfold haulierlaw08_Few.f; rw [if_neg (by omega)]) ?_
    have go : ∀ d i : Nat, i + d = l.length → Ev (fun k => haulierlaw08_Few.l0 k (i : Int) l) ((l.drop i).all fun r => decide (r.length ≤ 100)) := by
      intro d
      induction d with
      | zero =>
        intro i hi
        refine Ev.step (f := fun _ => some true) (fun k => by rw [haulierlaw08_Few.l0, if_neg (by omega)]) ?_
        rw [List.drop_of_length_le (by omega)]
        exact Ev.now _
      | succ d ih =>
        intro i hi
        have hil : i < l.length := by omega
        rw [List.drop_eq_getElem_cons hil, List.all_cons]
        by_cases hr : l[i].length ≤ 100
        · rw [decide_eq_true hr, Bool.true_and]
          refine Ev.step (f := fun k => haulierlaw08_Few.l0 k ((i + 1 : Nat) : Int) l) (fun k => ?_) (ih (i + 1) (by omega))
          rw [haulierlaw08_Few.l0, if_pos (by omega), if_pos (by omega), rdT hil, if_neg (by omega), wrapN i (by omega)]
        · rw [decide_eq_false hr, Bool.false_and]
          refine Ev.step (f := fun _ => some false) (fun k => ?_) (Ev.now _)
          rw [haulierlaw08_Few.l0, if_pos (by omega), if_pos (by omega), rdT hil, if_pos (by omega)]
    have h0 := go l.length 0 (by omega)
    simpa using h0
  · rw [decide_eq_false h, Bool.false_and]
    exact Ev.congr (f := fun _ => some false) (fun k => by unfold haulierlaw08_Few.f; rw [if_pos (by omega)]) (Ev.now _)
theorem few_of {l : List (List Int)} (h : fewB l = true) : l.length ≤ 40 ∧ ∀ r ∈ l, r.length ≤ 100 := by
  unfold fewB at h
  rw [Bool.and_eq_true, List.all_eq_true] at h
  exact ⟨of_decide_eq_true h.1, fun r hr => of_decide_eq_true (h.2 r hr)⟩
/-- The rows that hold something. -/
def posR (l : List (List Int)) : List (List Int) := l.filter fun r => decide (0 < r.length)
theorem posR_cons (r : List Int) (l : List (List Int)) : posR (r :: l) = if 0 < r.length then r :: posR l else posR l := by
  unfold posR
  rw [List.filter_cons]
  by_cases h : 0 < r.length
  · rw [if_pos h, decide_eq_true h]; rfl
  · rw [if_neg h, decide_eq_false h]; rfl
theorem clone_f (r : List Int) (h0 : 0 < r.length) (h : r.length < 17592186044416) : slices_Clone_int_int.f r = some r := by
  unfold slices_Clone_int_int.f
  rw [if_pos h0]
  show (if ([] : List Int).length + r.length < 17592186044416 then some ([] ++ r) else none) = _
  rw [if_pos (by rw [List.length_nil]; omega)]; rfl
theorem sorted_g (l : List (List Int)) (hl : l.length ≤ 1000000) (hr : ∀ r ∈ l, r.length ≤ 1000000) : Ev (fun k => plan_Sorted.g k l) (posR l) := by
  unfold plan_Sorted.g
  have go : ∀ (d i : Nat) (acc : List (List Int)), i + d = l.length → acc.length ≤ i → Ev (fun k => plan_Sorted.l0 k acc l (l.length : Int) (i : Int)) (acc ++ posR (l.drop i)) := by
    intro d
    induction d with
    | zero =>
      intro i acc hi ha
      rw [List.drop_of_length_le (by omega)]
      refine Ev.step (f := fun _ => some (acc ++ posR [])) (fun k => ?_) (Ev.now _)
      rw [plan_Sorted.l0, if_neg (by omega)]
      show some acc = some (acc ++ []); rw [List.append_nil]
    | succ d ih =>
      intro i acc hi ha
      have hil : i < l.length := by omega
      have hri := hr l[i] (List.getElem_mem hil)
      rw [List.drop_eq_getElem_cons hil, posR_cons]
      by_cases h0 : 0 < l[i].length
      · rw [if_pos h0]
        have e := ih (i + 1) (acc ++ [l[i]]) (by omega) (by rw [List.length_append, List.length_singleton]; omega)
        rw [List.append_assoc] at e
        refine Ev.step (f := fun k => plan_Sorted.l0 k (acc ++ [l[i]]) l (l.length : Int) ((i + 1 : Nat) : Int)) (fun k => ?_) e
        rw [plan_Sorted.l0, if_pos (by omega), if_pos (by omega), if_pos (by omega), rdT hil, if_pos (by omega), clone_f _ h0 (by omega), Option.bind_some, if_pos (by omega), wrapN i (by omega)]
      · rw [if_neg h0]
        refine Ev.step (f := fun k => plan_Sorted.l0 k acc l (l.length : Int) ((i + 1 : Nat) : Int)) (fun k => ?_) (ih (i + 1) acc (by omega) (by omega))
        rw [plan_Sorted.l0, if_pos (by omega), if_pos (by omega), if_pos (by omega), rdT hil, if_neg (by omega), wrapN i (by omega)]
  have h0 := go l.length 0 [] (by omega) (Nat.zero_le _)
  simpa using h0
theorem posR_pos {l : List (List Int)} : ∀ r ∈ posR l, 0 < r.length := fun _ hr => of_decide_eq_true (List.mem_filter.1 hr).2
theorem posR_mem {l : List (List Int)} : ∀ r ∈ posR l, r ∈ l := fun _ hr => (List.mem_filter.1 hr).1
theorem posR_length (l : List (List Int)) : (posR l).length ≤ l.length := List.length_filter_le _ _
theorem sorted_ev {l : List (List Int)} (h : fewB l = true) : Ev (fun k => plan_Sorted.f k l) (sortR (posR l)) := by
  have hf := few_of h
  unfold plan_Sorted.f
  refine Ev.bind (sorted_g l (by omega) (fun r hr => by have := hf.2 r hr; omega)) ?_
  have h2 := posR_length l
  refine Ev.congr (f := fun _ => some (sortR (posR l))) (fun k => ?_) (Ev.now _)
  rw [if_pos ⟨by omega, List.all_eq_true.2 (fun r hr => decide_eq_true (posR_pos r hr))⟩]
theorem sortR_len {l : List (List Int)} (h : fewB l = true) : (sortR (posR l)).length ≤ 40 ∧ ∀ r ∈ sortR (posR l), r.length ≤ 100 := by
  have hf := few_of h
  have h2 := posR_length l
  refine ⟨by unfold sortR; rw [sortK_length]; omega, fun r hr => hf.2 r (posR_mem r ((sortK_perm _ _).mem_iff.1 hr))⟩
theorem rd0 (r : List Int) : rd r 0 = headI r := by cases r <;> rfl
def keyLe (l : List (List Int)) : Prop := l.Pairwise fun a b => headI a ≤ headI b
theorem insK_keyLe (x : List Int) (l : List (List Int)) (h : keyLe l) : keyLe (insK headI x l) := by
  unfold keyLe insK at *
  rw [List.pairwise_append, List.pairwise_cons]
  refine ⟨h.filter _, ⟨fun y hy => ?_, h.filter _⟩, fun a ha b hb => ?_⟩
  · have := (List.mem_filter.1 hy).2
    simp only [Bool.not_eq_true', decide_eq_false_iff_not] at this
    omega
  · have a2 := of_decide_eq_true (List.mem_filter.1 ha).2
    rcases List.mem_cons.1 hb with rfl | hb
    · exact a2
    · have b2 := (List.mem_filter.1 hb).2
      simp only [Bool.not_eq_true', decide_eq_false_iff_not] at b2
      omega
theorem sort_keyLe (l : List (List Int)) : keyLe (sortR l) := by
  have go : ∀ (l acc : List (List Int)), keyLe acc → keyLe (l.foldl (fun acc x => insK headI x acc) acc) := by
    intro l
    induction l with
    | nil => intro acc h; exact h
    | cons x t ih => intro acc h; exact ih _ (insK_keyLe x acc h)
  exact go l [] List.Pairwise.nil
/-- What is in order stays as it is. -/
theorem sort_id (l : List (List Int)) (h : keyLe l) : sortR l = l := by
  have go : ∀ (l acc : List (List Int)), keyLe (acc ++ l) → l.foldl (fun acc x => insK headI x acc) acc = acc ++ l := by
    intro l
    induction l with
    | nil => intro acc _; rw [List.append_nil]; rfl
    | cons x t ih =>
      intro acc h
      have hx : ∀ y ∈ acc, headI y ≤ headI x := fun y hy => (List.pairwise_append.1 h).2.2 y hy x List.mem_cons_self
      have e : insK headI x acc = acc ++ [x] := by
        unfold insK
        rw [List.filter_eq_self.2 (fun y hy => decide_eq_true (hx y hy)), List.filter_eq_nil_iff.2 (fun y hy => by rw [decide_eq_true (hx y hy)]; decide)]
      have h2 : keyLe ((acc ++ [x]) ++ t) := by rw [List.append_assoc]; exact h
      show t.foldl _ (insK headI x acc) = _
      rw [e, ih _ h2, List.append_assoc]; rfl
  have := go l [] (by simpa using h)
  rw [List.nil_append] at this
  exact this
theorem posR_id {l : List (List Int)} (h : ∀ r ∈ l, 0 < r.length) : posR l = l := List.filter_eq_self.2 (fun r hr => decide_eq_true (h r hr))
theorem sortR_mem {l : List (List Int)} {r : List Int} (h : r ∈ sortR (posR l)) : r ∈ l ∧ 0 < r.length := by
  have h1 := (sortK_perm _ _).mem_iff.1 h
  exact ⟨posR_mem r h1, posR_pos r h1⟩
/-- A plan in order is in order. -/
theorem sorted_again {l : List (List Int)} (h : fewB l = true) : fewB (sortR (posR l)) = true ∧ sortR (posR (sortR (posR l))) = sortR (posR l) := by
  have hl := sortR_len h
  refine ⟨?_, ?_⟩
  · unfold fewB
    rw [Bool.and_eq_true, List.all_eq_true]
    exact ⟨decide_eq_true hl.1, fun r hr => decide_eq_true (hl.2 r hr)⟩
  · rw [posR_id (fun r hr => (sortR_mem hr).2)]
    exact sort_id _ (sort_keyLe _)
theorem equal_ev (x : List Int) (hx : x.length ≤ 1000000) : Ev (fun k => slices_Equal_int_int.f k x x) true := by
  refine Ev.congr (f := fun k => slices_Equal_int_int.l0 k x x (x.length : Int) 0) (fun k => by unfold slices_Equal_int_int.f; rw [if_pos rfl]) ?_
  have go : ∀ d i : Nat, i + d = x.length → Ev (fun k => slices_Equal_int_int.l0 k x x (x.length : Int) (i : Int)) true := by
    intro d
    induction d with
    | zero =>
      intro i hi
      exact Ev.step (f := fun _ => some true) (fun k => by rw [slices_Equal_int_int.l0, if_neg (by omega)]) (Ev.now _)
    | succ d ih =>
      intro i hi
      refine Ev.step (f := fun k => slices_Equal_int_int.l0 k x x (x.length : Int) ((i + 1 : Nat) : Int)) (fun k => ?_) (ih (i + 1) (by omega))
      rw [slices_Equal_int_int.l0, if_pos (by omega), if_pos (by omega), if_pos (by omega), if_pos (by omega), if_pos rfl, wrapN i (by omega)]
  exact go x.length 0 (by omega)
theorem eqRows_ev : ∀ (l : List (List Int)), (∀ r ∈ l, r.length ≤ 1000000) → Ev (fun k => eqRows k l l) true
  | [], _ => Ev.congr (f := fun _ => some true) (fun k => by unfold eqRows; rfl) (Ev.now _)
  | r :: l, h => by
    refine Ev.congr (f := fun k => (slices_Equal_int_int.f k r r).bind fun t => if t = true then eqRows k l l else some false) (fun k => by rw [eqRows]) ?_
    refine Ev.bind (equal_ev r (h r (by simp))) ?_
    refine Ev.congr (fun k => if_pos rfl) (eqRows_ev l (fun x hx => h x (by simp [hx])))
theorem same_ev {l m : List (List Int)} (hl : fewB l = true) (hm : fewB m = true) (h : sortR (posR l) = sortR (posR m)) : Ev (fun k => plan_Same.f k l m) true := by
  unfold plan_Same.f
  refine Ev.bind (sorted_ev hl) (Ev.bind (sorted_ev hm) ?_)
  rw [← h]
  have e : Ev (fun k => slices_EqualFunc_int_int_int_int.f k (sortR (posR l)) (sortR (posR l)) 999029) true := by
    refine Ev.congr (f := fun k => eqRows k (sortR (posR l)) (sortR (posR l))) (fun k => by unfold slices_EqualFunc_int_int_int_int.f; rw [if_pos rfl]) ?_
    exact eqRows_ev _ (fun r hr => by have := (sortR_len hl).2 r hr; omega)
  exact Ev.bind e (Ev.now _)
theorem minF_ge (l : List Int) (h : ∀ n ∈ l, 1 ≤ n) (hp : 0 < l.length) : 1 ≤ minF l l.length := by
  unfold minF
  rw [List.take_length]
  have hh : 1 ≤ l.headD 0 := by
    cases l with
    | nil => simp at hp
    | cons x t => exact h x (by simp)
  have go : ∀ (t : List Int) (a : Int), 1 ≤ a → (∀ n ∈ t, 1 ≤ n) → 1 ≤ t.foldl (fun m x => if x < m then x else m) a := by
    intro t
    induction t with
    | nil => intro a ha _; exact ha
    | cons x t ih =>
      intro a ha ht
      refine ih _ ?_ (fun n hn => ht n (by simp [hn]))
      have := ht x (by simp)
      show 1 ≤ (if x < a then x else a)
      split <;> omega
  exact go l _ hh h
theorem parse_rows {L : List (List Int)} (hn : L.length ≤ 100000) (h : ∀ r ∈ L, 0 < r.length ∧ ∀ n ∈ r, 1 ≤ n) : Ev (fun k => plan_Parse.l0 k L L (L.length : Int) 0) (L, 0) := by
  have go : ∀ d i : Nat, i + d = L.length → Ev (fun k => plan_Parse.l0 k L L (L.length : Int) (i : Int)) (L, 0) := by
    intro d
    induction d with
    | zero =>
      intro i hi
      exact Ev.step (f := fun _ => some (L, 0)) (fun k => by rw [plan_Parse.l0, if_neg (by omega)]) (Ev.now _)
    | succ d ih =>
      intro i hi
      have hil : i < L.length := by omega
      have hr := h L[i] (List.getElem_mem hil)
      have hm := minF_ge L[i] hr.2 hr.1
      refine Ev.step (f := fun k => plan_Parse.l0 k L L (L.length : Int) ((i + 1 : Nat) : Int)) (fun k => ?_) (ih (i + 1) (by omega))
      rw [plan_Parse.l0, if_pos (by omega), if_pos (by omega), if_pos (by omega), rdT hil]
      unfold slices_Min_int_int.f
      rw [if_pos hr.1, Option.bind_some, if_neg (by omega), wrapN i (by omega)]
  exact go L.length 0 (by omega)
end Go.Proofs.YtdkhajgfifaibaaDoor.Tour
