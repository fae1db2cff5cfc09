import Derived.Test.YtkcdpnigcbcalaaDefBetterOrder
import Derived.Test.YtkcdpnigcbcalaaNodeFront
namespace Go.Proofs.Ytkcdpnigcbcalaa.Pure
open Go.RowKit Go.Proofs.Ytkcdpnigcbcalaa.PB Go.Proofs.YtkcdpnigcbcalaaW.PrintWords Go.Proofs.YtkcdpnigcbcalaaW.PrintLast Go.Proofs.Ytkcdpnigcbcalaa.Sets
theorem BetterOrder : haulierlaw13_BetterOrder.Claim := by
  intro a b c ha hb hc
  have oa := on_wf ha
  have ob := on_wf hb
  have oc := on_wf hc
  haveI : Decidable (a.f0 = b.f0) := Classical.propDecidable _
  simp only [haulierlaw13_BetterOrder.f, awake_eq, than_th oa ob, than_th ob oa, than_th ob oc, than_th oa oc, than_th oa oa, Option.bind_some, th_refl, if_true]
  have same : (a.f0.f0 == b.f0.f0 && (a.f0.f1 == b.f0.f1 && (a.f0.f2 == b.f0.f2 && (a.f0.f3 == b.f0.f3 && (a.f0.f4 == b.f0.f4 && (a.f0.f5 == b.f0.f5 && (a.f0.f6 == b.f0.f6 && (a.f0.f7 == b.f0.f7)))))))) = decide (a.f0 = b.f0) := by
    rw [Bool.eq_iff_iff, decide_eq_true_eq]
    constructor
    · intro h
      obtain ⟨⟨x0, x1, x2, x3, x4, x5, x6, x7⟩, xa, xb⟩ := a
      obtain ⟨⟨y0, y1, y2, y3, y4, y5, y6, y7⟩, ya, yb⟩ := b
      simpa using h
    · intro h
      rw [h]
      simp
  rw [same]
  have anti : th a b = true → th b a = true → a.f0 = b.f0 ∧ a.f1 = b.f1 := by
    intro h h'
    have h := of_decide_eq_true h
    have h' := of_decide_eq_true h'
    exact ⟨cov_anti oa ob h.2.2 h'.2.2, Int.le_antisymm h.1 h'.1⟩
  have back : a.f0 = b.f0 → a.f1 = b.f1 → th a b = true ∧ th b a = true := by
    intro e e'
    have r : ∀ x y : Nd, x.f0 = y.f0 → x.f1 = y.f1 → th x y = true := fun x y e e' => decide_eq_true ⟨by rw [e']; omega, ⟨by rw [e], by rw [e], by rw [e]⟩, by rw [e]; exact cov_refl _⟩
    exact ⟨r a b e e', r b a e.symm e'.symm⟩
  cases h1 : th a b with
  | false =>
    simp only [Bool.false_eq_true, if_false]
    by_cases e : a.f0 = b.f0
    · rw [decide_eq_true e, if_pos rfl]
      by_cases e' : a.f1 = b.f1
      · rw [(back e e').1] at h1; cases h1
      · rw [beq_eq_false_iff_ne.2 e']; rfl
    · rw [decide_eq_false e]; rfl
  | true =>
    simp only [if_true]
    have key : (if decide (a.f0 = b.f0) = true then some (th b a == (a.f1 == b.f1)) else some (th b a == false)) = some true := by
      by_cases e : a.f0 = b.f0
      · rw [decide_eq_true e, if_pos rfl]
        by_cases e' : a.f1 = b.f1
        · rw [(back e e').2, beq_iff_eq.2 e']; rfl
        · cases h2 : th b a with
          | true => exact absurd (anti h1 h2).2 e'
          | false => rw [beq_eq_false_iff_ne.2 e']; rfl
      · rw [decide_eq_false e, if_neg (by decide)]
        cases h2 : th b a with
        | true => exact absurd (anti h1 h2).1 e
        | false => rfl
    cases h3 : th b c with
    | false => simp only [Bool.false_eq_true, if_false]; exact key
    | true =>
      simp only [if_true, th_trans a b c h1 h3]
      exact key
end Go.Proofs.Ytkcdpnigcbcalaa.Pure
