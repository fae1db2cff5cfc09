/- NumRises: costs together do not ask for the order, nor in which parts; one more makes no less; Inf stays Inf. No condition. -/
import Derived.Test.YtnfcccfcfckegaaPAx4
import Derived.Test.YtnfcccfcfckegaaNumArith
namespace Go.Proofs.Ytnfcccfcfckegaa.Pure
open Go.RowKit Go.Proofs.Ytnfcccfcfckegaa.PA Go.Proofs.YtnfcccfcfckegaaW.PrintWords Go.Proofs.YtnfcccfcfckegaaW.PrintLast Go.Proofs.Ytnfcccfcfckegaa.Num

def tot (l : List Int) : Int := (l.map clamp).sum
theorem tot_nn (l : List Int) : 0 ≤ tot l := by
  induction l with
  | nil => simp [tot]
  | cons x l ih => have := clamp_bd x; simp only [tot, List.map_cons, List.sum_cons] at *; omega
theorem tot_cons (x : Int) (l : List Int) : tot (x :: l) = clamp x + tot l := by simp [tot]
theorem tot_append (l m : List Int) : tot (l ++ m) = tot l + tot m := by simp [tot, List.sum_append]
theorem tot_reverse (l : List Int) : tot l.reverse = tot l := by
  induction l with
  | nil => rfl
  | cons x l ih => rw [List.reverse_cons, tot_append, ih, tot_cons, tot_cons]; simp [tot]; omega
theorem sumS_eq (l : List Int) : ∀ n : Int, 0 ≤ n → n ≤ 1152921504606846976 → sumS n l = mn (n + tot l) 1152921504606846976 := by
  induction l with
  | nil => intro n h0 h1; unfold sumS tot mn; simp; omega
  | cons x l ih =>
    intro n h0 h1
    have hb := addS_bd x h0
    show sumS (addS n x) l = _
    rw [ih _ hb.1 hb.2, tot_cons]
    have hc := clamp_bd x
    have ht := tot_nn l
    unfold addS mn
    by_cases h : 1152921504606846976 < n + clamp x
    · rw [if_pos h, if_pos (show 1152921504606846976 < n + (clamp x + tot l) by omega)]
      split <;> omega
    · rw [if_neg h, Int.add_assoc]
theorem clamp_in {x : Int} (h : 0 ≤ x) (h' : x ≤ 1152921504606846976) : clamp x = x := by
  unfold clamp mx mn
  by_cases h0 : x < 0
  · omega
  · rw [if_neg h0, if_neg (by omega)]

theorem rises_end (l : List Int) (hl : l.length ≤ maxLen) (a m : Int) (h0 : 0 ≤ a) (h1 : a ≤ (l.length : Int)) (back : List Int) (hb : back = l.reverse) (i : Int) (hi : ¬ i < (l.length : Int)) :
    Ev (fun k => haulierlaw01_NumRises.l0 k l a m back i) true := by
  refine Ev.succ ?_
  simp only [haulierlaw01_NumRises.l0, if_neg hi, if_pos h0, if_pos h1]
  have s0 := sumS_bd l (n := 0) (by omega) (by omega)
  have s1 := sumS_bd (l.take a.toNat) (n := 0) (by omega) (by omega)
  have s2 := sumS_bd (l.drop a.toNat) (n := 0) (by omega) (by omega)
  have q0 := sumS_eq l 0 (by omega) (by omega)
  have q1 := sumS_eq (l.take a.toNat) 0 (by omega) (by omega)
  have q2 := sumS_eq (l.drop a.toNat) 0 (by omega) (by omega)
  have et : tot l = tot (l.take a.toNat) + tot (l.drop a.toNat) := by rw [← tot_append, List.take_append_drop]
  have n1 := tot_nn (l.take a.toNat)
  have n2 := tot_nn (l.drop a.toNat)
  have er : sumS 0 back = sumS 0 l := by rw [hb, sumS_eq _ 0 (by omega) (by omega), tot_reverse, q0]
  have e1 : sumS 0 [sumS 0 (l.take a.toNat), sumS 0 (l.drop a.toNat)] = sumS 0 l := by
    show addS (addS 0 (sumS 0 (l.take a.toNat))) (sumS 0 (l.drop a.toNat)) = _
    unfold addS
    rw [clamp_in s1.1 s1.2, clamp_in s2.1 s2.2, q0, q1, q2, et]
    unfold mn
    repeat' split
    all_goals omega
  have hm := clamp_bd m
  have e2 : sumS 0 [sumS 0 l, m] ≥ sumS 0 l := by
    show addS (addS 0 (sumS 0 l)) m ≥ _
    unfold addS
    rw [clamp_in s0.1 s0.2]
    unfold mn
    repeat' split
    all_goals omega
  have e3 : sumS 0 [sumS 0 l, 1152921504606846976] = 1152921504606846976 := by
    show addS (addS 0 (sumS 0 l)) 1152921504606846976 = _
    unfold addS
    rw [clamp_in s0.1 s0.2, clamp_in (x := 1152921504606846976) (by omega) (by omega)]
    unfold mn
    repeat' split
    all_goals omega
  have lb : back.length ≤ maxLen := by rw [hb, List.length_reverse]; exact hl
  refine Ev.bind (sum_ev l hl) (Ev.bind (sum_ev back lb) ?_)
  simp only [if_pos er]
  refine Ev.bind (sum_ev _ (by rw [List.length_take]; omega)) (Ev.bind (sum_ev _ (by rw [List.length_drop]; omega)) (Ev.bind (sum_ev _ (two_le _ _)) ?_))
  simp only [if_pos e1]
  refine Ev.bind (sum_ev _ (two_le _ _)) ?_
  simp only [if_pos e2]
  refine Ev.bind (sum_ev _ (two_le _ _)) ?_
  simp only [if_pos e3]
  rw [decide_eq_true s0.1]
  exact Ev.now _
theorem rises_loop (l : List Int) (hl : l.length ≤ 1000) (a m : Int) (h0 : 0 ≤ a) (h1 : a ≤ (l.length : Int)) (d : Nat) : ∀ (i : Nat) (back : List Int), i + d = l.length → back = (l.drop (l.length - i)).reverse →
    Ev (fun k => haulierlaw01_NumRises.l0 k l a m back (i : Int)) true := by
  induction d with
  | zero =>
    intro i back hi hb
    refine rises_end l (by unfold maxLen; omega) a m h0 h1 back ?_ _ (by omega)
    have : l.length - i = 0 := by omega
    rw [hb, this, List.drop_zero]
  | succ d ih =>
    intro i back hi hb
    have hn : back.length = i := by rw [hb]; simp; omega
    have hj : l.length - 1 - i < l.length := by omega
    refine Ev.succ ?_
    have e1 : wrap64 (wrap64 ((l.length : Int) - 1) - (i : Int)) = ((l.length - 1 - i : Nat) : Int) := by
      rw [w64 (x := (l.length : Int) - 1) (by omega) (by omega), w64 (by omega) (by omega)]; omega
    have e2 : wrap64 ((i : Int) + 1) = ((i + 1 : Nat) : Int) := by rw [w64 (by omega) (by omega)]; omega
    have c1 : (i : Int) < (l.length : Int) := by omega
    have c2 : (0 : Int) ≤ ((l.length - 1 - i : Nat) : Int) := by omega
    have c3 : ((l.length - 1 - i : Nat) : Int) < (l.length : Int) := by omega
    have c4 : back.length < 17592186044416 := by omega
    simp only [haulierlaw01_NumRises.l0, if_pos c1, e1, e2, if_pos c2, if_pos c3, if_pos c4, rd_nat l _ hj]
    refine ih (i + 1) _ (by omega) ?_
    have e3 : l.length - (i + 1) = l.length - 1 - i := by omega
    have e4 : l.length - i = l.length - 1 - i + 1 := by omega
    rw [hb, e3, List.drop_eq_getElem_cons hj, List.reverse_cons, e4]

theorem NumRises : haulierlaw01_NumRises.Pure := by
  intro l a m hl _ _ _ _
  refine Ev.rounds (g := fun k => haulierlaw01_NumRises.f k l a m) ?_
  unfold haulierlaw01_NumRises.f
  refine Ev.bind awake_ev ?_
  simp only [if_true]
  have out : Ev (fun k => haulierlaw01_NumRises.j0 k l a m true true) true := by
    refine Ev.succ ?_
    simp only [haulierlaw01_NumRises.j0, if_true]
    exact Ev.now _
  by_cases h1 : (l.length : Int) > 1000
  · simp only [if_pos h1]; exact out
  · by_cases h2 : a < 0
    · simp only [if_neg h1, if_pos h2]; exact out
    · simp only [if_neg h1, if_neg h2]
      by_cases h3 : a > (l.length : Int)
      · rw [decide_eq_true h3]; exact out
      · rw [decide_eq_false h3]
        refine Ev.succ ?_
        simp only [haulierlaw01_NumRises.j0, Bool.false_eq_true, if_false]
        exact rises_loop l (by omega) a m (by omega) (by omega) l.length 0 [] (by omega) (by simp)

end Go.Proofs.Ytnfcccfcfckegaa.Pure
