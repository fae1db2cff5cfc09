import Derived.Test.YtgnhokepcdopgaaDoorDefSetOrder
import Derived.Test.YtgnhokepcdopgaaDoorSetB
namespace Go.Proofs.YtgnhokepcdopgaaDoor.Pure
open Go.RowKit Go.Proofs.YtgnhokepcdopgaaDoor.PA Go.Proofs.YtgnhokepcdopgaaDoorW.PrintWords Go.Proofs.YtgnhokepcdopgaaDoorW.PrintLast Go.Proofs.YtgnhokepcdopgaaDoor.Sets
theorem SetOrder : haulierlaw02_SetOrder.Claim := by
  intro a b c ha hb hc
  obtain ⟨a, rfl, la⟩ := wfu_nat ha
  obtain ⟨b, rfl, lb⟩ := wfu_nat hb
  obtain ⟨c, rfl, lc⟩ := wfu_nat hc
  refine Ev.rounds ?_
  simp only [haulierlaw02_SetOrder.f]
  refine Ev.bind awake_ev ?_
  have e0 : set_Within.f 0 (a : Int) = some true := by
    have := within_eq 0 a
    rw [decide_eq_true (sub_zero a)] at this
    exact this
  simp only [within_eq, e0, Option.bind_some, if_true, decide_eq_true (sub_refl a), decide_eq_true_eq]
  have same : ((a : Int) == (b : Int)) = decide (Sub a b ∧ Sub b a) := by
    rw [Bool.eq_iff_iff, decide_eq_true_eq, beq_iff_eq]
    constructor
    · intro h
      have e : a = b := by omega
      rw [e]
      exact ⟨sub_refl b, sub_refl b⟩
    · rintro ⟨h, h'⟩
      rw [sub_anti la lb h h']
  rw [same]
  by_cases h1 : Sub a b
  · by_cases h2 : Sub b c
    · simp only [h1, h2, sub_trans h1 h2, if_true, true_and, BEq.rfl]
      exact Ev.now _
    · simp only [h1, h2, if_true, if_false, true_and, BEq.rfl]
      exact Ev.now _
  · simp only [h1, if_false, false_and, decide_false, BEq.rfl, if_true]
    exact Ev.now _
end Go.Proofs.YtgnhokepcdopgaaDoor.Pure
