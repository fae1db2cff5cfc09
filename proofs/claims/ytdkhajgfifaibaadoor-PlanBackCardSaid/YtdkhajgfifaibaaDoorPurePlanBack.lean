/- What is printed is parsed as the plan in the order of its first stops, if all its stops are from 1 to 10^6 (P8.3, P8.4), of at most 40 routes of 100. Its condition is the table of the card's row. -/
import Derived.Test.YtdkhajgfifaibaaDoorDefPlanBack
import Derived.Test.YtdkhajgfifaibaaDoorPlanBase
namespace Go.Proofs.YtdkhajgfifaibaaDoor.Pure
open Go.RowKit Go.Proofs.YtdkhajgfifaibaaDoor Go.Proofs.YtdkhajgfifaibaaDoor.PA Go.Proofs.YtdkhajgfifaibaaDoorW.PrintWords Go.Proofs.YtdkhajgfifaibaaDoorW.PrintLast Go.Proofs.YtdkhajgfifaibaaDoor.Tour
open Go.Proofs.YtdkhajgfifaibaaDoor.Scan (linesOut scan_out textOut textP textF textF_textP Prints print_out Num12 same_refl)
theorem awake_ev : Ev (fun k => haulierlaw08_awake.f k) true := Ev.of haulierlaw08_awake.mono (k := 30) (by decide +kernel)
/-- All numbers of some routes are from 1 to 10^6. -/
def Good (l : List (List Int)) : Prop := ∀ r ∈ l, ∀ n ∈ r, 1 ≤ n ∧ n ≤ 1000000
theorem end_ev {l : List (List Int)} (hf : fewB l = true) (hg : Good l) (i : Int) (hi : ¬ i < (l.length : Int)) : Ev (fun k => haulierlaw08_PlanBack.l0 k i l) true := by
  obtain ⟨a, ha⟩ : ∃ a, a = sortR (posR l) := ⟨_, rfl⟩
  have hlen := sortR_len hf
  rw [← ha] at hlen
  have hmem : ∀ r ∈ a, r ∈ l ∧ 0 < r.length := fun r hr => sortR_mem (ha ▸ hr)
  have hP : Prints a := ⟨by omega, fun x hx => ⟨by have := hlen.2 x hx; omega, fun n hn => by have := hg x (hmem x hx).1 n hn; omega⟩⟩
  have e1 : Ev (fun k => plan_Print.f k l) (textP a) := by
    unfold plan_Print.f
    refine Ev.bind (sorted_ev hf) ?_
    rw [← ha, print_out hP]
    exact Ev.now _
  have hN : ∀ x ∈ a, ∀ n ∈ x, Num12 n := fun x hx n hn => by have := hg x (hmem x hx).1 n hn; unfold Num12; omega
  have ht : textF (textP a) = some a := by
    rw [textF_textP a hN]
    congr 1
    rw [List.filter_eq_self]
    intro x hx
    have := (hmem x hx).2
    cases x with
    | nil => simp at this
    | cons => rfl
  refine Ev.step (f := fun k => (plan_Print.f k l).bind fun t => (plan_Parse.f k t).bind fun b => if (t.length : Int) > 4096 then some (b.2 == 6) else ((plan_Sorted.f k l).bind fun s => (haulierref04_Same.f k b.1 s).bind fun q => if b.2 = 0 then (if q = true then (plan_Same.f k l b.1).bind fun z => some z else none) else none)) (fun k => ?_) (Ev.bind e1 ?_)
  · rw [haulierlaw08_PlanBack.l0, if_neg hi]
  by_cases hbig : ((textP a).length : Int) > 4096
  · have e2 : Ev (fun k => plan_Parse.f k (textP a)) ([], 6) := by
      refine Ev.congr (f := fun _ => some (([] : List (List Int)), (6 : Int))) (fun k => ?_) (Ev.now _)
      unfold plan_Parse.f
      rw [scan_out]
      unfold linesOut
      rw [if_pos hbig]; rfl
    refine Ev.bind e2 ?_
    exact Ev.congr (f := fun _ => some true) (fun k => by rw [if_pos hbig]; rfl) (Ev.now _)
  · have e2 : Ev (fun k => plan_Parse.f k (textP a)) (a, 0) := by
      refine Ev.congr (f := fun k => plan_Parse.l0 k a a (a.length : Int) 0) (fun k => ?_) (parse_rows (by omega) (fun r hr => ⟨(hmem r hr).2, fun n hn => (hg r (hmem r hr).1 n hn).1⟩))
      unfold plan_Parse.f
      rw [scan_out]
      unfold linesOut
      rw [if_neg hbig, ht]
      rfl
    refine Ev.bind e2 ?_
    have e3 : Ev (fun k => (plan_Sorted.f k l).bind fun s => (haulierref04_Same.f k a s).bind fun q => if (0 : Int) = 0 then (if q = true then (plan_Same.f k l a).bind fun z => some z else none) else none) true := by
      refine Ev.bind (sorted_ev hf) ?_
      rw [← ha]
      refine Ev.bind (same_refl a (by omega) (fun x hx => by have := hlen.2 x hx; omega)) ?_
      have hs := sorted_again hf
      rw [← ha] at hs
      have e4 := same_ev hf hs.1 (by rw [hs.2, ha])
      exact Ev.congr (f := fun k => (plan_Same.f k l a).bind fun z => some z) (fun k => by rw [if_pos rfl, if_pos rfl]) (Ev.bind e4 (Ev.now _))
    exact Ev.congr (fun k => by rw [if_neg hbig]) e3
theorem loop_ev {l : List (List Int)} (hf : fewB l = true) : ∀ d i : Nat, i + d = l.length → Good (l.take i) → Ev (fun k => haulierlaw08_PlanBack.l0 k (i : Int) l) true := by
  have hl := few_of hf
  intro d
  induction d with
  | zero =>
    intro i hi hg
    rw [List.take_of_length_le (by omega)] at hg
    exact end_ev hf hg _ (by omega)
  | succ d ih =>
    intro i hi hg
    have hil : i < l.length := by omega
    have hrow := hl.2 l[i] (List.getElem_mem hil)
    have inner : ∀ e j : Nat, j + e = l[i].length → (∀ n ∈ l[i].take j, 1 ≤ n ∧ n ≤ 1000000) → Ev (fun k => haulierlaw08_PlanBack.l1 k (i : Int) (j : Int) l) true := by
      intro e
      induction e with
      | zero =>
        intro j hj hgj
        rw [List.take_of_length_le (by omega)] at hgj
        refine Ev.step (f := fun k => haulierlaw08_PlanBack.l0 k ((i + 1 : Nat) : Int) l) (fun k => ?_) (ih (i + 1) (by omega) ?_)
        · rw [haulierlaw08_PlanBack.l1, if_pos (by omega), if_pos (by omega), rdT hil, if_neg (by omega), wrapN i (by omega)]
        · intro r hr
          rw [List.take_succ_eq_append_getElem hil] at hr
          rcases List.mem_append.1 hr with hr | hr
          · exact hg r hr
          · rw [List.mem_singleton.1 hr]; exact hgj
      | succ e ihe =>
        intro j hj hgj
        have hjl : j < l[i].length := by omega
        by_cases h1 : l[i][j] < 1
        · refine Ev.step (f := fun _ => some true) (fun k => ?_) (Ev.now _)
          rw [haulierlaw08_PlanBack.l1, if_pos (by omega), if_pos (by omega), rdT hil, if_pos (by omega), if_pos (by omega), rdN hjl, if_pos h1]
        · by_cases h2 : l[i][j] > 1000000
          · refine Ev.step (f := fun _ => some true) (fun k => ?_) (Ev.now _)
            rw [haulierlaw08_PlanBack.l1, if_pos (by omega), if_pos (by omega), rdT hil, if_pos (by omega), if_pos (by omega), rdN hjl, if_neg h1, if_pos h2]
          · refine Ev.step (f := fun k => haulierlaw08_PlanBack.l1 k (i : Int) ((j + 1 : Nat) : Int) l) (fun k => ?_) (ihe (j + 1) (by omega) ?_)
            · rw [haulierlaw08_PlanBack.l1, if_pos (by omega), if_pos (by omega), rdT hil, if_pos (by omega), if_pos (by omega), rdN hjl, if_neg h1, if_neg h2, wrapN j (by omega)]
            · intro n hn
              rw [List.take_succ_eq_append_getElem hjl] at hn
              rcases List.mem_append.1 hn with hn | hn
              · exact hgj n hn
              · rw [List.mem_singleton.1 hn]; omega
    refine Ev.step (f := fun k => haulierlaw08_PlanBack.l1 k (i : Int) ((0 : Nat) : Int) l) (fun k => ?_) (inner l[i].length 0 (by omega) (fun n hn => by simp at hn))
    rw [haulierlaw08_PlanBack.l0, if_pos (by omega)]; rfl
theorem PlanBack : haulierlaw08_PlanBack.Claim := by
  intro x _
  obtain ⟨l⟩ := x
  dsimp only
  suffices h : Ev (fun k => haulierlaw08_PlanBack.f k l) true from h.rounds
  refine Ev.bind awake_ev (Ev.bind (few_ev l) ?_)
  simp only [if_true]
  by_cases hf : fewB l = true
  · rw [hf]
    refine Ev.step (f := fun k => haulierlaw08_PlanBack.l0 k ((0 : Nat) : Int) l) (fun k => ?_) (loop_ev hf l.length 0 (by omega) (fun r hr => by simp at hr))
    rw [haulierlaw08_PlanBack.j0, if_neg (by decide)]; rfl
  · rw [Bool.eq_false_iff.mpr hf]
    exact Ev.step (f := fun _ => some true) (fun k => by rw [haulierlaw08_PlanBack.j0, if_pos (by decide)]) (Ev.now _)
end Go.Proofs.YtdkhajgfifaibaaDoor.Pure
