/- Which nodes leave others without use, and which of any are left, by the document. No condition. -/
import Derived.Test.YtkcdpnigcbcalaaPBx5
import Derived.Test.YtkcdpnigcbcalaaPBx6
import Derived.Test.YtkcdpnigcbcalaaPBx4
import Derived.Test.YtkcdpnigcbcalaaNodeFront
namespace Go.Proofs.Ytkcdpnigcbcalaa.Sets
open Go.RowKit Go.Proofs.Ytkcdpnigcbcalaa.PB Go.Proofs.YtkcdpnigcbcalaaW.PrintWords Go.Proofs.YtkcdpnigcbcalaaW.PrintLast Go.Proofs.Ytkcdpnigcbcalaa.FrontPure
set_option linter.unusedVariables false
set_option linter.unusedSimpArgs false
theorem rthan_ev {a b : Nd} (ha : ON a) (hb : ON b) (l m : List Int) : Ev (fun k => haulierref13_Than.f k a.f0.f0 a.f0.f1 a.f0.f2 a.f0.f3 a.f0.f4 a.f0.f5 a.f0.f6 a.f0.f7 a.f1 l b.f0.f0 b.f0.f1 b.f0.f2 b.f0.f3 b.f0.f4 b.f0.f5 b.f0.f6 b.f0.f7 b.f1 m) (th a b) := by
  simp only [haulierref13_Than.f]
  refine Ev.bind (rcovers_ev ha hb) ?_
  refine Ev.congr (f := fun _ => some (th a b)) (fun k => ?_) (Ev.now _)
  by_cases h : Th a b
  · rw [show th a b = true from decide_eq_true h]
    rw [if_pos h.2.1.1, if_pos h.2.1.2.1, if_pos h.2.1.2.2, if_pos (decide_eq_true h.2.2), decide_eq_true h.1]
  · rw [show th a b = false from decide_eq_false h]
    by_cases h1 : a.f0.f5 = b.f0.f5
    · rw [if_pos h1]
      by_cases h2 : a.f0.f6 = b.f0.f6
      · rw [if_pos h2]
        by_cases h3 : a.f0.f7 = b.f0.f7
        · rw [if_pos h3]
          by_cases h4 : Cov a.f0 b.f0
          · rw [if_pos (decide_eq_true h4), decide_eq_false (fun h5 => h ⟨h5, ⟨h1, h2, h3⟩, h4⟩)]
          · rw [if_neg (by simpa using h4)]
        · rw [if_neg h3]
      · rw [if_neg h2]
    · rw [if_neg h1]
def bad (l : List Nd) (k i : Nat) : Bool := i != k && th (l.getD i default) (l.getD k default) && (decide (i < k) || !th (l.getD k default) (l.getD i default))
theorem gD {l : List Nd} {i : Nat} (h : i < l.length) : l.getD i default = l[i] := by rw [List.getD, List.getElem?_eq_getElem h]; rfl
theorem rf1 (l out : List Nd) (hl : l.length ≤ 60) (ho : out.length ≤ 60) (ol : ∀ x, x ∈ l → ON x) (k : Nat) (hk : k < l.length) (R : List Nd) (d : Nat) : ∀ (i : Nat) (left : Bool), i + d = l.length →
    (∀ b : Bool, b = (left && !((List.range' i d).any (bad l k))) → Ev (fun q => haulierref13_Front.l0 q l (if b = true then out ++ [l[k]] else out) ((k + 1 : Nat) : Int)) R) →
    Ev (fun q => haulierref13_Front.l1 q l out (k : Int) left (i : Int)) R := by
  induction d with
  | zero =>
    intro i left hi h
    have h := h left (by simp)
    refine Ev.step (fun q => ?_) h
    simp only [haulierref13_Front.l1]
    rw [if_neg (by omega), nxt (by omega)]
    cases left with
    | true =>
      rw [if_pos rfl, if_pos (by omega), if_pos (by omega), if_pos (by omega), rd_T_at hk, if_pos rfl]
    | false => rfl
  | succ d ih =>
    intro i left hi h
    have hlt : i < l.length := by omega
    have hb : bad l k i = (i != k && th l[i] l[k] && (decide (i < k) || !th l[k] l[i])) := by unfold bad; rw [gD hlt, gD hk]
    have e : ∀ b' : Bool, b' = (left && !bad l k i) → Ev (fun q => haulierref13_Front.l1 q l out (k : Int) b' ((i + 1 : Nat) : Int)) R := by
      intro b' hb'
      refine ih (i + 1) b' (by omega) (fun b hb2 => h b ?_)
      rw [hb2, hb', List.range'_succ, List.any_cons, Bool.not_or, Bool.and_assoc]
    apply Ev.succ
    refine Ev.congr (f := fun q => (haulierref13_Than.f q l[i].f0.f0 l[i].f0.f1 l[i].f0.f2 l[i].f0.f3 l[i].f0.f4 l[i].f0.f5 l[i].f0.f6 l[i].f0.f7 l[i].f1 l[i].f2 l[k].f0.f0 l[k].f0.f1 l[k].f0.f2 l[k].f0.f3 l[k].f0.f4 l[k].f0.f5 l[k].f0.f6 l[k].f0.f7 l[k].f1 l[k].f2).bind fun x => (haulierref13_Than.f q l[k].f0.f0 l[k].f0.f1 l[k].f0.f2 l[k].f0.f3 l[k].f0.f4 l[k].f0.f5 l[k].f0.f6 l[k].f0.f7 l[k].f1 l[k].f2 l[i].f0.f0 l[i].f0.f1 l[i].f0.f2 l[i].f0.f3 l[i].f0.f4 l[i].f0.f5 l[i].f0.f6 l[i].f0.f7 l[i].f1 l[i].f2).bind fun y => haulierref13_Front.l1 q l out (k : Int) (left && !(i != k && x && (decide (i < k) || !y))) ((i + 1 : Nat) : Int)) (fun q => ?_) ?_
    · simp only [haulierref13_Front.l1]
      rw [if_pos (by omega), if_pos (by omega), if_pos (by omega), if_pos (by omega), rd_T_at hlt, rd_T_at hk, nxt (by omega)]
      congr 1
      funext x
      congr 1
      funext y
      by_cases h1 : i = k
      · rw [if_pos (by omega), bne_eq_false_iff_eq.2 h1]
        simp
      · rw [if_neg (by omega), bne_iff_ne.2 h1]
        cases x with
        | false => simp
        | true =>
          rw [if_pos rfl]
          by_cases h2 : i < k
          · rw [if_pos (by omega), decide_eq_true h2]; simp
          · rw [if_neg (by omega), decide_eq_false h2]
            cases y <;> simp
    · refine Ev.bind (rthan_ev (ol _ (List.getElem_mem hlt)) (ol _ (List.getElem_mem hk)) _ _) (Ev.bind (rthan_ev (ol _ (List.getElem_mem hk)) (ol _ (List.getElem_mem hlt)) _ _) ?_)
      exact e _ (by rw [hb])
theorem rf0 (l : List Nd) (hl : l.length ≤ 60) (ol : ∀ x, x ∈ l → ON x) (d : Nat) : ∀ (k : Nat) (out : List Nd), k + d = l.length → out.length ≤ k →
    Ev (fun q => haulierref13_Front.l0 q l out (k : Int)) (out ++ ((List.range' k d).filter (keepAt th l)).map fun k => l.getD k default) := by
  induction d with
  | zero =>
    intro k out hk ho
    refine Ev.step (f := fun _ => some out) (fun q => ?_) (by simpa using Ev.now out)
    simp only [haulierref13_Front.l0]
    rw [if_neg (by omega)]
  | succ d ih =>
    intro k out hk ho
    have hlt : k < l.length := by omega
    have hrun := rf1 l out hl (by omega) ol k hlt (out ++ ((List.range' k (d + 1)).filter (keepAt th l)).map fun k => l.getD k default) l.length 0 true (by omega) (fun b hb => by
      have hkeep : b = keepAt th l k := by
        rw [hb]
        unfold keepAt
        rw [List.range_eq_range']
        rfl
      rw [hkeep, List.range'_succ, List.filter_cons]
      cases hq : keepAt th l k with
      | true =>
        rw [if_pos rfl, if_pos rfl, List.map_cons, gD hlt]
        have := ih (k + 1) (out ++ [l[k]]) (by omega) (by simp; omega)
        simpa using this
      | false =>
        rw [if_neg (by decide), if_neg (by decide)]
        exact ih (k + 1) out (by omega) (by omega))
    refine Ev.step (fun q => ?_) hrun
    simp only [haulierref13_Front.l0]
    rw [if_pos (by omega)]
    rfl
theorem rfront_ev (l : List Nd) (hl : l.length ≤ 60) (ol : ∀ x, x ∈ l → ON x) : Ev (fun q => haulierref13_Front.f q l) (frontL th l) := by
  have h := rf0 l hl ol l.length 0 [] (by omega) (by simp)
  rw [← List.range_eq_range', List.nil_append] at h
  rw [← refL_eq th_refl th_trans l]
  exact h
theorem rd_int {l : List Int} {i : Nat} (h : i < l.length) : rd l (i : Int) = l[i] := by
  unfold rd
  simp [rdOf, List.getD, List.getElem?_eq_getElem h]
theorem same2_loop (l : List Int) (hl : l.length ≤ 100000) (d : Nat) : ∀ i : Nat, i + d = l.length → Ev (fun k => haulierref02_Same.l0 k l l (i : Int)) true := by
  induction d with
  | zero =>
    intro i hi
    refine Ev.step (f := fun _ => some true) (fun k => ?_) (Ev.now _)
    simp only [haulierref02_Same.l0]
    rw [if_neg (by omega)]
  | succ d ih =>
    intro i hi
    refine Ev.step (fun k => ?_) (ih (i + 1) (by omega))
    simp only [haulierref02_Same.l0]
    rw [if_pos (by omega), if_pos (by omega), if_pos (by omega), if_pos trivial, w64 (by omega) (by omega)]
    rfl
theorem same2_ev (l : List Int) (hl : l.length ≤ 100000) : Ev (fun k => haulierref02_Same.f k l l) true := by
  refine Ev.congr (fun k => ?_) (same2_loop l hl l.length 0 (by omega))
  simp only [haulierref02_Same.f]
  rfl
theorem same_loop (l : List Nd) (hl : l.length ≤ 60) (hp : ∀ x, x ∈ l → x.f2.length ≤ 100) (d : Nat) : ∀ i : Nat, i + d = l.length → Ev (fun k => haulierref13_Same.l0 k l l (i : Int)) true := by
  induction d with
  | zero =>
    intro i hi
    refine Ev.step (f := fun _ => some true) (fun k => ?_) (Ev.now _)
    simp only [haulierref13_Same.l0]
    rw [if_neg (by omega)]
  | succ d ih =>
    intro i hi
    have hlt : i < l.length := by omega
    apply Ev.succ
    refine Ev.congr (f := fun q => (haulierref02_Same.f q l[i].f2 l[i].f2).bind fun t => if t = true then haulierref13_Same.l0 q l l ((i + 1 : Nat) : Int) else some false) (fun q => ?_) ?_
    · simp only [haulierref13_Same.l0]
      rw [if_pos (by omega), if_pos (by omega), if_pos (by omega), rd_T_at hlt, nxt (by omega)]
      simp
    · refine Ev.bind (same2_ev _ (by have := hp _ (List.getElem_mem hlt); omega)) ?_
      simp only [if_true]
      exact ih (i + 1) (by omega)
theorem same_ev (l : List Nd) (hl : l.length ≤ 60) (hp : ∀ x, x ∈ l → x.f2.length ≤ 100) : Ev (fun k => haulierref13_Same.f k l l) true := by
  refine Ev.congr (fun k => ?_) (same_loop l hl hp l.length 0 (by omega))
  simp only [haulierref13_Same.f]
  rfl
end Go.Proofs.Ytkcdpnigcbcalaa.Sets
