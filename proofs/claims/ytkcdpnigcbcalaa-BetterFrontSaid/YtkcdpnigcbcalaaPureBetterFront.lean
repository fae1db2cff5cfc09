import Derived.Test.YtkcdpnigcbcalaaDefBetterFront
import Derived.Test.YtkcdpnigcbcalaaNodeFront
namespace Go.Proofs.Ytkcdpnigcbcalaa.Pure
open Go.RowKit Go.Proofs.Ytkcdpnigcbcalaa.PB Go.Proofs.YtkcdpnigcbcalaaW.PrintWords Go.Proofs.YtkcdpnigcbcalaaW.PrintLast Go.Proofs.Ytkcdpnigcbcalaa.Sets Go.Proofs.Ytkcdpnigcbcalaa.FrontPure
set_option linter.unusedVariables false
theorem bf3 (l f : List Nd) (hf : f.length ≤ 60) (ho : ∀ x, x ∈ f → ON x) (ha : Anti (th := th) f) (i : Nat) (hi : i < f.length) (R : Bool) (d : Nat) : ∀ j : Nat, j + d = f.length →
    Ev (fun k => haulierlaw13_BetterFront.l2 k l f ((i + 1 : Nat) : Int)) R → Ev (fun k => haulierlaw13_BetterFront.l3 k l f (i : Int) (j : Int)) R := by
  induction d with
  | zero =>
    intro j hj h
    refine Ev.step (fun k => ?_) h
    simp only [haulierlaw13_BetterFront.l3]
    rw [if_neg (by omega), nxt (by omega)]
  | succ d ih =>
    intro j hj h
    have hlt : j < f.length := by omega
    refine Ev.step (fun k => ?_) (ih (j + 1) (by omega) h)
    simp only [haulierlaw13_BetterFront.l3]
    rw [if_pos (by omega), nxt (by omega)]
    by_cases hji : j = i
    · rw [if_pos (by omega)]
    · rw [if_neg (by omega), if_pos (by omega), if_pos (by omega), if_pos (by omega), rd_T_at hlt, rd_T_at hi, than_th (ho _ (List.getElem_mem hlt)) (ho _ (List.getElem_mem hi))]
      have e := anti_at ha hlt hi hji
      have e1 : ∀ (q : Nat) (hq : q < f.length), f.getD q default = f[q] := fun q hq => by rw [List.getD, List.getElem?_eq_getElem hq]; rfl
      rw [e1 j hlt, e1 i hi] at e
      rw [e, Option.bind_some, if_neg (by decide)]
theorem bf2 (l f : List Nd) (hf : f.length ≤ 60) (hlf : f.length ≤ l.length) (ho : ∀ x, x ∈ f → ON x) (ha : Anti (th := th) f) (d : Nat) : ∀ i : Nat, i + d = f.length → Ev (fun k => haulierlaw13_BetterFront.l2 k l f (i : Int)) true := by
  induction d with
  | zero =>
    intro i hi
    refine Ev.step (f := fun _ => some true) (fun k => ?_) (Ev.now _)
    simp only [haulierlaw13_BetterFront.l2]
    rw [if_neg (by omega), decide_eq_true (by omega)]
  | succ d ih =>
    intro i hi
    refine Ev.step (fun k => ?_) (bf3 l f hf ho ha i (by omega) true f.length 0 (by omega) (ih (i + 1) (by omega)))
    simp only [haulierlaw13_BetterFront.l2]
    rw [if_pos (by omega)]
    rfl
theorem bf1 (l f : List Nd) (hf : f.length ≤ 60) (hl : l.length ≤ 60) (of : ∀ x, x ∈ f → ON x) (ol : ∀ x, x ∈ l → ON x) (i : Nat) (hi : i < l.length) (hc : ∃ a, a ∈ f ∧ th a l[i] = true) (R : Bool) (d : Nat) : ∀ (j : Nat) (some_ : Bool), j + d = f.length →
    some_ = ((f.take j).any fun a => th a l[i]) → Ev (fun k => haulierlaw13_BetterFront.l0 k l f ((i + 1 : Nat) : Int)) R → Ev (fun k => haulierlaw13_BetterFront.l1 k l f (i : Int) some_ (j : Int)) R := by
  induction d with
  | zero =>
    intro j s hj hs h
    have hs1 : s = true := by
      obtain ⟨a, ha, hb⟩ := hc
      rw [hs, List.take_of_length_le (by omega)]
      exact List.any_eq_true.2 ⟨a, ha, hb⟩
    refine Ev.step (fun k => ?_) h
    simp only [haulierlaw13_BetterFront.l1]
    rw [if_neg (by omega), if_pos hs1, nxt (by omega)]
  | succ d ih =>
    intro j s hj hs h
    have hlt : j < f.length := by omega
    have e : ((f.take (j + 1)).any fun a => th a l[i]) = (s || th f[j] l[i]) := by
      rw [List.take_succ_eq_append_getElem hlt, List.any_append, ← hs]
      simp
    cases s with
    | true =>
      refine Ev.step (fun k => ?_) (ih (j + 1) true (by omega) (by rw [e]; rfl) h)
      simp only [haulierlaw13_BetterFront.l1]
      rw [if_pos (by omega), nxt (by omega), if_pos trivial]
    | false =>
      refine Ev.step (fun k => ?_) (ih (j + 1) (th f[j] l[i]) (by omega) (by rw [e]; rfl) h)
      simp only [haulierlaw13_BetterFront.l1]
      rw [if_pos (by omega), nxt (by omega), if_neg (by decide), if_pos (by omega), if_pos (by omega), if_pos (by omega), rd_T_at hlt, rd_T_at hi, than_th (of _ (List.getElem_mem hlt)) (ol _ (List.getElem_mem hi)), Option.bind_some]
theorem bf0 (l f : List Nd) (hf : f.length ≤ 60) (hl : l.length ≤ 60) (of : ∀ x, x ∈ f → ON x) (ol : ∀ x, x ∈ l → ON x) (hc : ∀ x, x ∈ l → ∃ a, a ∈ f ∧ th a x = true)
    (h : Ev (fun k => haulierlaw13_BetterFront.l2 k l f ((0 : Nat) : Int)) true) (d : Nat) : ∀ i : Nat, i + d = l.length → Ev (fun k => haulierlaw13_BetterFront.l0 k l f (i : Int)) true := by
  induction d with
  | zero =>
    intro i hi
    refine Ev.step (fun k => ?_) h
    simp only [haulierlaw13_BetterFront.l0]
    rw [if_neg (by omega)]
    rfl
  | succ d ih =>
    intro i hi
    have hlt : i < l.length := by omega
    refine Ev.step (fun k => ?_) (bf1 l f hf hl of ol i hlt (hc _ (List.getElem_mem hlt)) true f.length 0 false (by omega) rfl (ih (i + 1) (by omega)))
    simp only [haulierlaw13_BetterFront.l0]
    rw [if_pos (by omega)]
    rfl
theorem BetterFront : haulierlaw13_BetterFront.Claim := by
  intro l hl
  apply Ev.rounds
  have ol : ∀ x, x ∈ l → ON x := fun x hx => on_wf (hl.2 x hx)
  simp only [haulierlaw13_BetterFront.f, awake_eq, Option.bind_some, if_true]
  refine Ev.bind (few_ev l) ?_
  apply Ev.succ
  simp only [haulierlaw13_BetterFront.j0]
  cases hF : Few l with
  | false => simp only [Bool.not_false, if_true]; exact Ev.now _
  | true =>
    simp only [Bool.not_true, Bool.false_eq_true, if_false]
    rw [few_front hF ol]
    simp only [Option.bind_some]
    have h60 : l.length ≤ 60 := by
      unfold Few at hF
      rw [Bool.and_eq_true] at hF
      exact of_decide_eq_true hF.1
    have hlen := frontL_length (th := th) l
    have of : ∀ x, x ∈ frontL th l → ON x := fun x hx => ol x (frontL_mem hx)
    exact bf0 l (frontL th l) (by omega) h60 of ol (fun x hx => frontL_cover th_refl th_trans hx) (bf2 l (frontL th l) (by omega) hlen of (frontL_anti l) (frontL th l).length 0 (by omega)) l.length 0 (by omega)
end Go.Proofs.Ytkcdpnigcbcalaa.Pure
