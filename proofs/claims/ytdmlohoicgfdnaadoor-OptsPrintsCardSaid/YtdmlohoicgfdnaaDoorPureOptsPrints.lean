/- The text that the program prints of options, or that they may not be, is the reference's. -/
import Derived.Test.YtdmlohoicgfdnaaDoorDefOptsPrints
import Derived.Test.YtdmlohoicgfdnaaDoorPrintEnd
import Derived.Test.YtdmlohoicgfdnaaDoorPAx9
import Derived.Test.YtdmlohoicgfdnaaDoorPAx2
import Derived.Test.YtdmlohoicgfdnaaDoorPAx10
namespace Go.Proofs.YtdmlohoicgfdnaaDoor.Pure
open Go.RowKit Go.Proofs.YtdmlohoicgfdnaaDoor.PA Go.Proofs.YtdmlohoicgfdnaaDoorW.PrintWords Go.Proofs.YtdmlohoicgfdnaaDoorW.PrintLast Go.Proofs.YtdmlohoicgfdnaaDoorW.PrintMore Go.Proofs.YtdmlohoicgfdnaaDoor.Scan
set_option linter.unusedVariables false
theorem opts_awake : haulierlaw18_awake.f = some true := by
  unfold haulierlaw18_awake.f opts_Parse.f
  rw [scan_out]
  rfl
def mayP (a b c : Int) : Bool := decide (1 ≤ a ∧ a ≤ 1048576 ∧ 0 ≤ b ∧ b ≤ 2 ∧ 0 ≤ c ∧ c ≤ 549755813888)
theorem clamp_eq {x lo hi : Int} (h : lo ≤ hi) : (x == mn (mx x lo) hi) = decide (lo ≤ x ∧ x ≤ hi) := by
  unfold mn mx
  by_cases h1 : x < lo
  · rw [if_pos h1, if_neg (by omega), decide_eq_false (by omega)]
    exact beq_eq_false_iff_ne.mpr (by omega)
  · rw [if_neg h1]
    by_cases h2 : hi < x
    · rw [if_pos h2, decide_eq_false (by omega)]
      exact beq_eq_false_iff_ne.mpr (by omega)
    · rw [if_neg h2, decide_eq_true (by omega)]
      exact beq_self_eq_true x
theorem may_prog (a b c : Int) : opts_May.f a b c = some (mayP a b c) := by
  unfold opts_May.f opts_bounded.f mayP
  simp only [Option.bind_some]
  rw [clamp_eq (by decide), clamp_eq (by decide), clamp_eq (by decide)]
  congr 1
  rw [← Bool.decide_and, ← Bool.decide_and]
  apply decide_eq_decide.mpr
  omega
theorem may_ref (a b c : Int) : haulierref18_May.f a b c = some (mayP a b c) := by
  unfold haulierref18_May.f mayP
  by_cases h1 : a ≥ 1
  · rw [if_pos h1]
    by_cases h2 : a ≤ 1048576
    · rw [if_pos h2]
      by_cases h3 : b ≥ 0
      · rw [if_pos h3]
        by_cases h4 : b ≤ 2
        · rw [if_pos h4]
          by_cases h5 : c ≥ 0
          · rw [if_pos h5]; congr 1; apply decide_eq_decide.mpr; omega
          · rw [if_neg h5]; congr 1; exact (decide_eq_false (by omega)).symm
        · rw [if_neg h4]; congr 1; exact (decide_eq_false (by omega)).symm
      · rw [if_neg h3]; congr 1; exact (decide_eq_false (by omega)).symm
    · rw [if_neg h2]; congr 1; exact (decide_eq_false (by omega)).symm
  · rw [if_neg h1]; congr 1; exact (decide_eq_false (by omega)).symm
theorem may_bound {a b c : Int} (h : mayP a b c = true) : Prints [[a, b, c]] := by
  unfold mayP at h
  have := of_decide_eq_true h
  refine ⟨by simp, fun x hx => ?_⟩
  simp only [List.mem_singleton] at hx
  subst hx
  refine ⟨by simp, fun n hn => ?_⟩
  simp only [List.mem_cons, List.not_mem_nil, or_false] at hn
  omega
theorem OptsPrints : haulierlaw18_OptsPrints.Claim := by
  intro x hx
  obtain ⟨a, b, c⟩ := x
  show ∃ k, haulierlaw18_OptsPrints.f k a b c = some true
  suffices h : Ev (fun k => haulierlaw18_OptsPrints.f k a b c) true from h.rounds
  cases hm : mayP a b c with
  | true =>
    have hp := may_bound hm
    refine Ev.congr (f := fun k => (haulierref04_Print.f k [[a, b, c]]).bind fun t => if (strOfNums (textP [[a, b, c]])).toList = (strOfNums t).toList then some true else none) (fun k => ?_) (Ev.bind (Print_ev hp) ?_)
    · simp only [haulierlaw18_OptsPrints.f, opts_awake, opts_Print.f, haulierref18_Print.f, may_prog, may_ref, hm, Option.bind_some, if_true, print_out hp]
      cases haulierref04_Print.f k [[a, b, c]] with
      | none => rfl
      | some t => simp
    · refine Ev.congr (f := fun _ => some true) (fun k => ?_) (Ev.now _)
      rw [if_pos rfl]
  | false =>
    refine Ev.congr (f := fun _ => some true) (fun k => ?_) (Ev.now _)
    simp [haulierlaw18_OptsPrints.f, opts_awake, opts_Print.f, haulierref18_Print.f, may_prog, may_ref, hm]
end Go.Proofs.YtdmlohoicgfdnaaDoor.Pure
