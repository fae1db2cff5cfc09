import Derived.Test.YtkcdpnigcbcalaaDefRelaxJoins
import Derived.Test.YtkcdpnigcbcalaaRelaxBase
namespace Go.Proofs.Ytkcdpnigcbcalaa.Pure
open Go.RowKit Go.Proofs.Ytkcdpnigcbcalaa.PA Go.Proofs.YtkcdpnigcbcalaaW.PrintWords Go.Proofs.YtkcdpnigcbcalaaW.PrintLast Go.Proofs.Ytkcdpnigcbcalaa.Sets Go.Proofs.Ytkcdpnigcbcalaa.Rel
theorem tells_loop (l : List St) (a s : St) (hl : l.length ≤ 60) (ol : ∀ t ∈ l, OK t) (oa : OK a) (os : OK s) (hb : ∀ t ∈ l, Cov s t) (hg : (∀ t ∈ l, Cov a t) → Cov a s) (d : Nat) : ∀ (i : Nat) (all : Bool), i + d = l.length → (all = true → ∀ t ∈ l.take i, Cov a t) →
    Ev (fun k => haulierlaw11_RelaxJoins.l0 k l all (i : Int) a.f0 a.f1 a.f2 a.f3 a.f4 a.f5 a.f6 a.f7 s.f0 s.f1 s.f2 s.f3 s.f4 s.f5 s.f6 s.f7) true := by
  induction d with
  | zero =>
    intro i all hi h
    refine Ev.step (f := fun _ => some true) (fun k => ?_) (Ev.now _)
    simp only [haulierlaw11_RelaxJoins.l0]
    rw [if_neg (by omega)]
    cases all with
    | false => rfl
    | true =>
      have h := h rfl
      rw [List.take_of_length_le (by omega)] at h
      rw [if_pos rfl, covers_eq oa os, decide_eq_true (hg h)]
      rfl
  | succ d ih =>
    intro i all hi h
    have hlt : i < l.length := by omega
    have hm : l[i] ∈ l := List.getElem_mem _
    apply Ev.succ
    simp only [haulierlaw11_RelaxJoins.l0]
    have h1 : (i : Int) < (l.length : Int) := by omega
    have h2 : 0 ≤ (i : Int) := by omega
    simp only [if_pos h1, if_pos h2, nxt (show i < 100 by omega), rdT_nat l i hlt, covers_eq os (ol _ hm), covers_eq oa (ol _ hm), decide_eq_true (hb _ hm), Option.bind_some, if_true]
    cases all with
    | false =>
      simp only [Bool.false_eq_true, if_false]
      exact ih (i + 1) false (by omega) (fun h => absurd h (by simp))
    | true =>
      simp only [if_true]
      refine ih (i + 1) _ (by omega) (fun hc t ht => ?_)
      rw [List.take_succ_eq_append_getElem hlt] at ht
      rcases List.mem_append.1 ht with ht | ht
      · exact h rfl t ht
      · rw [List.mem_singleton.1 ht]
        exact of_decide_eq_true hc
theorem RelaxJoins : haulierlaw11_RelaxJoins.Claim := by
  intro l a hl ha
  apply Ev.rounds
  have oa := ok_wf ha
  have ol : ∀ t ∈ l, OK t := fun t ht => ok_wf (hl.2 t ht)
  simp only [haulierlaw11_RelaxJoins.f, awake_eq, Option.bind_some, if_true]
  apply Ev.succ
  simp only [haulierlaw11_RelaxJoins.j0]
  by_cases h60 : (l.length : Int) > 60
  · simp only [h60, decide_true, if_true]
    exact Ev.now _
  · simp only [h60, decide_false, Bool.false_eq_true, if_false]
    rw [join_eq (by omega)]
    simp only [Option.bind_some]
    rcases joinP_cases l ol with ⟨e, c⟩ | ⟨e, n, s, o, b, g⟩
    · rw [e]
      simp only [tup, zeroS, Bool.false_eq_true, if_false]
      exact Ev.now _
    · have e2 : (tup (joinP l)).2.2.2.2.2.2.2.2 = true := e
      simp only [e2, if_true]
      exact tells_loop l a (joinP l).1 (by omega) ol oa o b (fun h => g a h) l.length 0 true (by omega) (fun _ t ht => by simp at ht)
end Go.Proofs.Ytkcdpnigcbcalaa.Pure
