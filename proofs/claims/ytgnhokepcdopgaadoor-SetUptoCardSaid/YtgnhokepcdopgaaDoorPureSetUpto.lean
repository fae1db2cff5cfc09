import Derived.Test.YtgnhokepcdopgaaDoorDefSetUpto
import Derived.Test.YtgnhokepcdopgaaDoorSetLen
import Derived.Test.YtgnhokepcdopgaaDoorSetUp
namespace Go.Proofs.YtgnhokepcdopgaaDoor.Pure
open Go.RowKit Go.Proofs.YtgnhokepcdopgaaDoor.PA Go.Proofs.YtgnhokepcdopgaaDoorW.PrintWords Go.Proofs.YtgnhokepcdopgaaDoorW.PrintLast Go.Proofs.YtgnhokepcdopgaaDoor.Sets
theorem cnt_upN : ∀ j, j < 64 → cnt 64 (upN j) = j := by decide +kernel
theorem bit_upN : ∀ j, j < 64 → ∀ i, i < 64 → (upN j).testBit i = decide (1 ≤ i ∧ i ≤ j) := by decide +kernel
theorem SetUpto : haulierlaw02_SetUpto.Claim := by
  intro n i hn hi
  refine Ev.rounds ?_
  simp only [haulierlaw02_SetUpto.f]
  refine Ev.bind awake_ev ?_
  simp only [if_true]
  have out : Ev (fun k => haulierlaw02_SetUpto.j0 k n i true true) true := by
    apply Ev.succ
    simp only [haulierlaw02_SetUpto.j0, if_true]
    exact Ev.now _
  by_cases h0 : n < 0
  · simp only [if_pos h0]; exact out
  simp only [if_neg h0]
  by_cases h1 : n > 63
  · simp only [decide_eq_true h1]; exact out
  simp only [decide_eq_false h1]
  obtain ⟨n, rfl⟩ : ∃ m : Nat, n = m := ⟨n.toNat, by omega⟩
  have hn' : n < 64 := by omega
  apply Ev.succ
  simp only [haulierlaw02_SetUpto.j0, Bool.false_eq_true, if_false]
  refine Ev.bind (upto_ev n (by omega)) ?_
  simp only [len_eq (upN_lt n hn'), Option.bind_some, cnt_upN n hn', if_true]
  refine Ev.bind (upto_ev n (by omega)) ?_
  simp only [has_eq (upN_lt n hn'), Option.bind_some]
  have hb : hasB (upN n) i = decide (1 ≤ i ∧ i ≤ n) := by
    unfold hasB
    by_cases hi : 0 ≤ i ∧ i ≤ 63
    · rw [decide_eq_true hi, Bool.true_and, bit_upN n hn' _ (by omega), decide_eq_decide]
      omega
    · rw [decide_eq_false hi, Bool.false_and]
      symm
      rw [decide_eq_false_iff_not]
      omega
  rw [hb]
  by_cases h : i ≥ 1
  · have e : decide (1 ≤ i ∧ i ≤ (n : Int)) = decide (i ≤ (n : Int)) := by rw [decide_eq_decide]; omega
    simp only [if_pos h, e, BEq.rfl]
    exact Ev.now _
  · have e : decide (1 ≤ i ∧ i ≤ (n : Int)) = false := by rw [decide_eq_false_iff_not]; omega
    simp only [if_neg h, e, BEq.rfl]
    exact Ev.now _
end Go.Proofs.YtgnhokepcdopgaaDoor.Pure
