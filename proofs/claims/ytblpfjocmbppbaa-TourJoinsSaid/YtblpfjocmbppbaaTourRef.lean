/- The document's order of routes, and its tour, are the same. -/
import Derived.Test.YtblpfjocmbppbaaPAx7
import Derived.Test.YtblpfjocmbppbaaTourBase
namespace Go.Proofs.Ytblpfjocmbppbaa.Tour
open Go.RowKit Go.Proofs.Ytblpfjocmbppbaa Go.Proofs.Ytblpfjocmbppbaa.PA Go.Proofs.YtblpfjocmbppbaaW.PrintWords Go.Proofs.YtblpfjocmbppbaaW.PrintLast
theorem rd0 (r : List Int) : rd r 0 = headI r := by cases r <;> rfl
def keyLe (l : List (List Int)) : Prop := l.Pairwise fun a b => headI a ≤ headI b
theorem insK_keyLe (x : List Int) (l : List (List Int)) (h : keyLe l) : keyLe (insK headI x l) := by
  unfold keyLe insK at *
  rw [List.pairwise_append, List.pairwise_cons]
  refine ⟨h.filter _, ⟨fun y hy => ?_, h.filter _⟩, fun a ha b hb => ?_⟩
  · have := (List.mem_filter.1 hy).2
    simp only [Bool.not_eq_true', decide_eq_false_iff_not] at this
    omega
  · have a2 := of_decide_eq_true (List.mem_filter.1 ha).2
    rcases List.mem_cons.1 hb with rfl | hb
    · exact a2
    · have b2 := (List.mem_filter.1 hb).2
      simp only [Bool.not_eq_true', decide_eq_false_iff_not] at b2
      omega
theorem ins_at (x : List Int) (l : List (List Int)) (at_ : Nat) (h1 : ∀ y ∈ l.take at_, headI y ≤ headI x) (h2 : ∀ y ∈ l.drop at_, headI x < headI y) : l.take at_ ++ x :: l.drop at_ = insK headI x l := by
  unfold insK
  have e : l = l.take at_ ++ l.drop at_ := (List.take_append_drop at_ l).symm
  have e1 : l.filter (fun y => decide (headI y ≤ headI x)) = l.take at_ := by
    conv => lhs; rw [e]
    rw [List.filter_append, List.filter_eq_self.2 (fun y hy => decide_eq_true (h1 y hy)), List.filter_eq_nil_iff.2 (fun y hy => by have := h2 y hy; simp; omega), List.append_nil]
  have e2 : l.filter (fun y => !decide (headI y ≤ headI x)) = l.drop at_ := by
    conv => lhs; rw [e]
    have f1 : (l.drop at_).filter (fun y => !decide (headI y ≤ headI x)) = l.drop at_ := List.filter_eq_self.2 (fun y hy => by have := h2 y hy; rw [decide_eq_false (by omega)]; rfl)
    have f2 : (l.take at_).filter (fun y => !decide (headI y ≤ headI x)) = [] := List.filter_eq_nil_iff.2 (fun y hy => by have := h1 y hy; rw [decide_eq_true this]; decide)
    rw [List.filter_append, f1, f2, List.nil_append]
  rw [e1, e2]
theorem ref_sorted (l : List (List Int)) (hl : l.length ≤ 40) (hr : ∀ r ∈ l, r.length ≤ 100) : Ev (fun k => haulierref08_Sorted.f k l) (sortR (posR l)) := by
  unfold haulierref08_Sorted.f
  have go : ∀ (d i : Nat) (out : List (List Int)), i + d = l.length → out.length ≤ i → keyLe out → (∀ r ∈ out, 0 < r.length) → Ev (fun k => haulierref08_Sorted.l0 k out (i : Int) l) ((posR (l.drop i)).foldl (fun acc x => insK headI x acc) out) := by
    intro d
    induction d with
    | zero =>
      intro i out hi ho hk hp
      rw [List.drop_of_length_le (by omega)]
      exact Ev.step (f := fun _ => some out) (fun k => by rw [haulierref08_Sorted.l0, if_neg (by omega)]) (Ev.now _)
    | succ d ih =>
      intro i out hi ho hk hp
      have hil : i < l.length := by omega
      have hri := hr l[i] (List.getElem_mem hil)
      rw [List.drop_eq_getElem_cons hil, posR_cons]
      by_cases h0 : 0 < l[i].length
      · rw [if_pos h0, List.foldl_cons]
        obtain ⟨r, hre⟩ : ∃ r, r = l[i] := ⟨_, rfl⟩
        rw [← hre] at hri h0 ⊢
        have hins : ∀ r' ∈ insK headI r out, 0 < r'.length := fun r' h => by
          rcases List.mem_cons.1 ((insK_perm headI r out).mem_iff.1 h) with rfl | h
          · exact h0
          · exact hp r' h
        have hlen : (insK headI r out).length = out.length + 1 := by rw [(insK_perm headI r out).length_eq, List.length_cons]
        have next := ih (i + 1) (insK headI r out) (by omega) (by omega) (insK_keyLe r out hk) hins
        have inner : ∀ at_ : Nat, at_ ≤ out.length → (∀ y ∈ out.drop at_, headI r < headI y) → Ev (fun k => haulierref08_Sorted.l1 k out (i : Int) r (at_ : Int) l) ((posR (l.drop (i + 1))).foldl (fun acc x => insK headI x acc) (insK headI r out)) := by
          intro at_
          induction at_ with
          | zero =>
            intro _ h2
            refine Ev.step (f := fun k => haulierref08_Sorted.l0 k (insK headI r out) ((i + 1 : Nat) : Int) l) (fun k => ?_) next
            have e := ins_at r out 0 (fun y hy => by simp at hy) h2
            rw [List.take_zero, List.nil_append, List.drop_zero] at e
            rw [haulierref08_Sorted.l1, if_neg (by omega), if_pos (by omega), if_pos (by omega), Option.bind_some]
            have e0 : ((0 : Nat) : Int).toNat = 0 := rfl
            simp only [e0, List.take_zero, List.drop_zero, List.nil_append, Option.bind_some, List.length_nil, List.length_append, List.length_singleton]
            rw [if_pos (by omega), if_pos (by omega), if_pos (by omega), if_pos (by omega), wrapN i (by omega), ← e]
            rfl
          | succ a iha =>
            intro ha h2
            have hal : a < out.length := by omega
            have hpa := hp out[a] (List.getElem_mem hal)
            have e1 : wrap64 (((a + 1 : Nat) : Int) - 1) = (a : Int) := by rw [wrapT (by omega) (by omega)]; omega
            by_cases hc : headI r < headI out[a]
            · refine Ev.step (f := fun k => haulierref08_Sorted.l1 k out (i : Int) r (a : Int) l) (fun k => ?_) (iha (by omega) (fun y hy => by
                rw [List.drop_eq_getElem_cons hal] at hy
                rcases List.mem_cons.1 hy with rfl | hy
                · exact hc
                · exact h2 y hy))
              rw [haulierref08_Sorted.l1, if_pos (by omega), e1, if_pos (by omega), if_pos (by omega), rdT hal, if_pos (by omega), if_pos (by omega), rd0, rd0, if_pos (by omega)]
            · refine Ev.step (f := fun k => haulierref08_Sorted.l0 k (insK headI r out) ((i + 1 : Nat) : Int) l) (fun k => ?_) next
              have e := ins_at r out (a + 1) (fun y hy => by
                obtain ⟨j, hj, rfl⟩ := List.getElem_of_mem hy
                rw [List.length_take] at hj
                rw [List.getElem_take]
                rcases Nat.lt_or_ge j a with h | h
                · have := List.pairwise_iff_getElem.1 hk j a (by omega) hal h
                  omega
                · have : j = a := by omega
                  subst this; omega) h2
              have e0 : ((a + 1 : Nat) : Int).toNat = a + 1 := rfl
              rw [haulierref08_Sorted.l1, if_pos (by omega), e1, if_pos (by omega), if_pos (by omega), rdT hal, if_pos (by omega), if_pos (by omega), rd0, rd0, if_neg (by omega), if_pos (by omega), if_pos (by omega)]
              have h1 : (out.take (a + 1)).length = a + 1 := by rw [List.length_take]; omega
              have h3 : (out.drop (a + 1)).length = out.length - (a + 1) := List.length_drop
              simp only [e0, List.nil_append, Option.bind_some, List.length_nil, List.length_append, List.length_singleton, h1, h3]
              rw [if_pos (by omega), if_pos (by omega), if_pos (by omega), if_pos (by omega), wrapN i (by omega), ← e]
              simp
        refine Ev.step (f := fun k => haulierref08_Sorted.l1 k out (i : Int) r (out.length : Int) l) (fun k => ?_) (inner out.length (Nat.le_refl _) (fun y hy => by rw [List.drop_of_length_le (Nat.le_refl _)] at hy; cases hy))
        rw [haulierref08_Sorted.l0, if_pos (by omega), if_pos (by omega), rdT hil, ← hre, if_neg (by omega)]
      · rw [if_neg h0]
        refine Ev.step (f := fun k => haulierref08_Sorted.l0 k out ((i + 1 : Nat) : Int) l) (fun k => ?_) (ih (i + 1) out (by omega) (by omega) hk hp)
        rw [haulierref08_Sorted.l0, if_pos (by omega), if_pos (by omega), rdT hil, if_pos (by omega), wrapN i (by omega)]
  exact go l.length 0 [] (by omega) (Nat.zero_le _) List.Pairwise.nil (fun r hr => by cases hr)
theorem ref_from (t : List (List Int)) (ht : t.length ≤ 40) (hr : ∀ r ∈ t, r.length ≤ 100) : Ev (fun k => haulierref09_Join.l0 k ([] : List Int) 0 t) (joinR t) := by
  have go : ∀ (d i : Nat) (acc : List Int), 0 < i → i + d = t.length → acc.length ≤ 101 * i → Ev (fun k => haulierref09_Join.l0 k acc (i : Int) t) (acc ++ (t.drop i).flatMap fun x => 0 :: x) := by
    intro d
    induction d with
    | zero =>
      intro i acc h0 hi ha
      rw [List.drop_of_length_le (by omega)]
      refine Ev.step (f := fun _ => some acc) (fun k => by rw [haulierref09_Join.l0, if_neg (by omega)]) ?_
      rw [List.flatMap_nil, List.append_nil]; exact Ev.now _
    | succ d ih =>
      intro i acc h0 hi ha
      have hil : i < t.length := by omega
      have hri := hr t[i] (List.getElem_mem hil)
      have e := ih (i + 1) (acc ++ [0] ++ t[i]) (by omega) (by omega) (by simp only [List.length_append, List.length_singleton]; omega)
      rw [List.drop_eq_getElem_cons hil, List.flatMap_cons]
      rw [show acc ++ [0] ++ t[i] ++ (t.drop (i + 1)).flatMap (fun x => 0 :: x) = acc ++ ((0 :: t[i]) ++ (t.drop (i + 1)).flatMap fun x => 0 :: x) by simp] at e
      refine Ev.step (f := fun k => haulierref09_Join.l0 k (acc ++ [0] ++ t[i]) ((i + 1 : Nat) : Int) t) (fun k => ?_) e
      rw [haulierref09_Join.l0, if_pos (by omega), if_pos (by omega), if_pos (by omega), Option.bind_some, if_pos (by omega), rdT hil, if_pos (by simp only [List.length_append, List.length_singleton]; omega), wrapN i (by omega)]
  cases t with
  | nil => exact Ev.step (f := fun _ => some []) (fun k => by rw [haulierref09_Join.l0, if_neg (by simp)]) (Ev.now _)
  | cons r l =>
    have hr0 := hr r List.mem_cons_self
    have e := go l.length 1 r (by omega) (by rw [List.length_cons]; omega) (by omega)
    refine Ev.step (f := fun k => haulierref09_Join.l0 k r ((1 : Nat) : Int) (r :: l)) (fun k => ?_) e
    have h1 : (0 : Int) < ((r :: l).length : Int) := by rw [List.length_cons]; omega
    have h2 : rd_L1 (r :: l) 0 = r := rfl
    rw [haulierref09_Join.l0, if_pos h1, if_neg (by omega), if_pos (by omega), h2, if_pos (by rw [List.length_nil]; omega), List.nil_append, show wrap64 (0 + 1) = ((1 : Nat) : Int) by rw [wrapT (by omega) (by omega)]; rfl]
theorem ref_join {l : List (List Int)} (h : fewB l = true) : Ev (fun k => haulierref09_Join.f k l) (joinR (sortR (posR l))) := by
  unfold haulierref09_Join.f
  have hf := few_of h
  exact Ev.bind (ref_sorted l hf.1 hf.2) (ref_from _ (sortR_len h).1 (sortR_len h).2)
end Go.Proofs.Ytblpfjocmbppbaa.Tour
