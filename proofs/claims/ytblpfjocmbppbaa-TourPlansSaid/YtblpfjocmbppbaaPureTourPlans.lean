/- What is joined is split again as the plan in the order of its first stops. -/
import Derived.Test.YtblpfjocmbppbaaDefTourPlans
import Derived.Test.YtblpfjocmbppbaaTourSplit
namespace Go.Proofs.Ytblpfjocmbppbaa.Pure
open Go.RowKit Go.Proofs.Ytblpfjocmbppbaa Go.Proofs.Ytblpfjocmbppbaa.PA Go.Proofs.YtblpfjocmbppbaaW.PrintWords Go.Proofs.YtblpfjocmbppbaaW.PrintLast Go.Proofs.Ytblpfjocmbppbaa.Tour
/-- Route i does not begin as route k does. -/
def Apart (l : List (List Int)) (i k : Nat) : Prop := ∀ (hi : i < l.length) (hk : k < l.length), 0 < l[i].length → 0 < l[k].length → headI l[i] ≠ headI l[k]
theorem rd0 (r : List Int) : rd r 0 = headI r := by cases r <;> rfl
theorem plans_end (l : List (List Int)) (hf : fewB l = true) (h1 : ∀ x ∈ l, ∀ y ∈ x, 1 ≤ y) (h2 : ∀ i k, i < k → Apart l i k) :
    Ev (fun k => (tour_Join.f k l).bind fun t248 => ((tour_Split.f t248).bind fun bt251 => ((plan_Sorted.f k l).bind fun t256 => ((haulierref04_Same.f k bt251.1 t256).bind fun t260 => (if bt251.2 = 0 then (some t260) else (none)))))) true := by
  refine Ev.bind (join_ev hf) ?_
  have hs := sortR_len hf
  have hne : (posR l).Pairwise fun a b => headI a ≠ headI b := by
    unfold posR
    rw [List.pairwise_filter, List.pairwise_iff_getElem]
    intro i j hi hj hij ha hb
    exact h2 i j hij hi hj (of_decide_eq_true ha) (of_decide_eq_true hb)
  have hne2 : (sortR (posR l)).Pairwise fun a b => headI a ≠ headI b := List.Perm.pairwise (sortK_perm headI (posR l)).symm hne (fun h => h.symm)
  have hlt : (sortR (posR l)).Pairwise fun a b => headI a < headI b := ((sortR_keyLe (posR l)).and hne2).imp (fun h => by have := h.1; have := h.2; omega)
  have hsp := split_join (sortR (posR l)) hs.1 hs.2 (fun x hx => by
    have hm := (sortK_perm headI (posR l)).mem_iff.1 hx
    exact ⟨posR_pos x hm, h1 x (posR_mem x hm)⟩) hlt
  refine Ev.congr (f := fun k => (plan_Sorted.f k l).bind fun t256 => ((haulierref04_Same.f k (sortR (posR l)) t256).bind fun t260 => (some t260))) (fun k => ?_) ?_
  · rw [hsp, Option.bind_some]; rfl
  · exact Ev.bind (sorted_ev hf) (Ev.bind (same04 _ (by omega) (fun r hr => by have := hs.2 r hr; omega)) (Ev.now _))
theorem TourPlans : haulierlaw09_TourPlans.Claim := by
  intro x _
  obtain ⟨l⟩ := x
  suffices h : Ev (fun k => haulierlaw09_TourPlans.f k l) true from h.rounds
  unfold haulierlaw09_TourPlans.f
  refine Ev.bind awake_ev (Ev.bind (few_ev l) ?_)
  refine Ev.congr (f := fun k => haulierlaw09_TourPlans.j0 k true (!fewB l) l) (fun k => if_pos rfl) ?_
  by_cases hf : fewB l = true
  · rw [hf]
    have hb := few_of hf
    refine Ev.step (f := fun k => haulierlaw09_TourPlans.l0 k 0 l) (fun k => by rw [haulierlaw09_TourPlans.j0]; rfl) ?_
    have go : ∀ (d c : Nat), c + d = l.length → (∀ i (hi : i < l.length), i < c → ∀ y ∈ l[i], 1 ≤ y) → (∀ i k, i < k → k < c → Apart l i k) → Ev (fun k => haulierlaw09_TourPlans.l0 k (c : Int) l) true := by
      intro d
      induction d with
      | zero =>
        intro c hc h1 h2
        refine Ev.step (fun k => by rw [haulierlaw09_TourPlans.l0, if_neg (by omega)]) (plans_end l hf (fun x hx y hy => ?_) (fun i k hik hi hk => h2 i k hik (by omega) hi hk))
        obtain ⟨i, hi, rfl⟩ := List.getElem_of_mem hx
        exact h1 i hi (by omega) y hy
      | succ d ih =>
        intro c hc h1 h2
        have hcl : c < l.length := by omega
        have hcb := hb.2 l[c] (List.getElem_mem hcl)
        have two : (∀ y ∈ l[c], 1 ≤ y) → ∀ (e i : Nat), i + e = c → (∀ j, j < i → Apart l j c) → Ev (fun k => haulierlaw09_TourPlans.l2 k (c : Int) (i : Int) l) true := by
          intro hy e
          induction e with
          | zero =>
            intro i hi ha
            refine Ev.step (f := fun k => haulierlaw09_TourPlans.l0 k ((c + 1 : Nat) : Int) l) (fun k => by rw [haulierlaw09_TourPlans.l2, if_neg (by omega), wrapN c (by omega)]) (ih (c + 1) (by omega) (fun j hj hjc => ?_) (fun j k hjk hk => ?_))
            · by_cases e : j = c
              · subst e; exact hy
              · exact h1 j hj (by omega)
            · by_cases e : k = c
              · subst e; exact ha j (by omega)
              · exact h2 j k hjk (by omega)
          | succ e ihe =>
            intro i hi ha
            have hil : i < l.length := by omega
            have next : Apart l i c → Ev (fun k => haulierlaw09_TourPlans.l2 k (c : Int) ((i + 1 : Nat) : Int) l) true := fun h => ihe (i + 1) (by omega) (fun j hj => by
              by_cases e : j = i
              · subst e; exact h
              · exact ha j (by omega))
            by_cases p1 : 0 < l[i].length
            · by_cases p2 : 0 < l[c].length
              · by_cases p3 : headI l[i] = headI l[c]
                · refine Ev.step (f := fun _ => some true) (fun k => ?_) (Ev.now _)
                  rw [haulierlaw09_TourPlans.l2, if_pos (by omega), if_pos (by omega), if_pos (by omega), rdT hil, if_pos (by omega), if_pos (by omega), if_pos (by omega), rdT hcl, if_pos (by omega), if_pos (by omega), if_pos (by omega), rd0, rd0, if_pos p3]
                · refine Ev.step (f := fun k => haulierlaw09_TourPlans.l2 k (c : Int) ((i + 1 : Nat) : Int) l) (fun k => ?_) (next (fun _ _ _ _ => p3))
                  rw [haulierlaw09_TourPlans.l2, if_pos (by omega), if_pos (by omega), if_pos (by omega), rdT hil, if_pos (by omega), if_pos (by omega), if_pos (by omega), rdT hcl, if_pos (by omega), if_pos (by omega), if_pos (by omega), rd0, rd0, if_neg p3, wrapN i (by omega)]
              · refine Ev.step (f := fun k => haulierlaw09_TourPlans.l2 k (c : Int) ((i + 1 : Nat) : Int) l) (fun k => ?_) (next (fun _ _ _ h => absurd h p2))
                rw [haulierlaw09_TourPlans.l2, if_pos (by omega), if_pos (by omega), if_pos (by omega), rdT hil, if_pos (by omega), if_pos (by omega), if_pos (by omega), rdT hcl, if_neg (by omega), wrapN i (by omega)]
            · refine Ev.step (f := fun k => haulierlaw09_TourPlans.l2 k (c : Int) ((i + 1 : Nat) : Int) l) (fun k => ?_) (next (fun _ _ h _ => absurd h p1))
              rw [haulierlaw09_TourPlans.l2, if_pos (by omega), if_pos (by omega), if_pos (by omega), rdT hil, if_neg (by omega), wrapN i (by omega)]
        have one : ∀ (e j : Nat), j + e = l[c].length → (∀ i (hi : i < l[c].length), i < j → 1 ≤ l[c][i]) → Ev (fun k => haulierlaw09_TourPlans.l1 k (c : Int) (j : Int) l) true := by
          intro e
          induction e with
          | zero =>
            intro j hj ha
            refine Ev.step (f := fun k => haulierlaw09_TourPlans.l2 k (c : Int) ((0 : Nat) : Int) l) (fun k => ?_) (two (fun y hy => ?_) c 0 (by omega) (fun j hj => absurd hj (Nat.not_lt_zero _)))
            · rw [haulierlaw09_TourPlans.l1, if_pos (by omega), if_pos (by omega), rdT hcl, if_neg (by omega)]; rfl
            · obtain ⟨i, hi, rfl⟩ := List.getElem_of_mem hy
              exact ha i hi (by omega)
          | succ e ihe =>
            intro j hj ha
            have hjl : j < l[c].length := by omega
            by_cases p : l[c][j] < 1
            · refine Ev.step (f := fun _ => some true) (fun k => ?_) (Ev.now _)
              rw [haulierlaw09_TourPlans.l1, if_pos (by omega), if_pos (by omega), rdT hcl, if_pos (by omega), if_pos (by omega), rdN hjl, if_pos p]
            · refine Ev.step (f := fun k => haulierlaw09_TourPlans.l1 k (c : Int) ((j + 1 : Nat) : Int) l) (fun k => ?_) (ihe (j + 1) (by omega) (fun i hi h => ?_))
              · rw [haulierlaw09_TourPlans.l1, if_pos (by omega), if_pos (by omega), rdT hcl, if_pos (by omega), if_pos (by omega), rdN hjl, if_neg p, wrapN j (by omega)]
              · by_cases e : i = j
                · subst e; omega
                · exact ha i hi (by omega)
        refine Ev.step (f := fun k => haulierlaw09_TourPlans.l1 k (c : Int) ((0 : Nat) : Int) l) (fun k => ?_) (one l[c].length 0 (by omega) (fun i _ h => absurd h (Nat.not_lt_zero _)))
        rw [haulierlaw09_TourPlans.l0, if_pos (by omega)]; rfl
    exact go l.length 0 (by omega) (fun _ _ h => absurd h (Nat.not_lt_zero _)) (fun _ _ _ h => absurd h (Nat.not_lt_zero _))
  · rw [Bool.not_eq_true] at hf
    rw [hf]
    exact Ev.step (f := fun _ => some true) (fun k => by rw [haulierlaw09_TourPlans.j0]; rfl) (Ev.now _)
end Go.Proofs.Ytblpfjocmbppbaa.Pure
