/- What the program prints of lines it reads as they were, without lines that have no numbers. -/
import Derived.Test.YtdmlohoicgfdnaaDoorDefScanBack
import Derived.Test.YtdmlohoicgfdnaaDoorPrintFew
namespace Go.Proofs.YtdmlohoicgfdnaaDoor.Pure
open Go.RowKit Go.Proofs.YtdmlohoicgfdnaaDoor.PA Go.Proofs.YtdmlohoicgfdnaaDoorW.PrintWords Go.Proofs.YtdmlohoicgfdnaaDoorW.PrintLast Go.Proofs.YtdmlohoicgfdnaaDoor.Scan
theorem in_range {x : List (List Int)} (h : haulierlaw04_ScanBack.outB x = false) : ∀ l ∈ x, ∀ n ∈ l, Num12 n := by
  intro l hl n hn
  unfold haulierlaw04_ScanBack.outB at h
  rw [List.any_eq_false] at h
  have h1 := h l hl
  rw [Bool.not_eq_true, List.any_eq_false] at h1
  have h2 := h1 n hn
  unfold haulierlaw04_ScanBack.outN at h2
  rw [Bool.or_eq_true, decide_eq_true_eq, decide_eq_true_eq] at h2
  unfold Num12
  omega
theorem ScanBack : haulierlaw04_ScanBack.Claim := by
  intro x hx
  have hwf : ∀ a ∈ x, ∀ n ∈ a, (Lit.int .i64 n).wf = true := fun a ha n hn => (hx.2 a ha).2 n hn
  suffices h : Ev (fun k => haulierlaw04_ScanBack.f k x) true from h.rounds
  unfold haulierlaw04_ScanBack.f
  refine Ev.congr (f := fun k => (haulierlaw04_few.f k x).bind fun ok => if ok = true then (if haulierlaw04_ScanBack.outB x = true then some true else haulierlaw04_ScanBack.g k x) else some true) (fun k => ?_) (Ev.bind (few_ev x) ?_)
  · rw [awake_true]; simp
  · by_cases h : x.length ≤ 100 ∧ ∀ l ∈ x, l.length ≤ 100
    · rw [decide_eq_true h]
      have hp := prints_few hwf h
      cases ho : haulierlaw04_ScanBack.outB x with
      | true => exact Ev.congr (f := fun _ => some true) (fun k => by simp) (Ev.now _)
      | false =>
        have hr := textF_textP x (in_range ho)
        have hs : Ev (fun k => haulierref04_Same.f k (haulierlaw04_ScanBack.full x) (haulierlaw04_ScanBack.full x)) true := by
          refine same_refl _ ?_ ?_
          · unfold haulierlaw04_ScanBack.full
            have := List.length_filter_le (fun y : List Int => !y.isEmpty) x; omega
          · intro l hl
            unfold haulierlaw04_ScanBack.full at hl
            have := h.2 l (List.mem_filter.mp hl).1; omega
        by_cases hlen : ((textP x).length : Int) > 4096
        · refine Ev.congr (f := fun _ => some true) (fun k => ?_) (Ev.now _)
          have e : linesOut (textP x) = ([], 6) := by unfold linesOut; rw [if_pos hlen]
          simp only [if_true, Bool.false_eq_true, if_false]
          unfold haulierlaw04_ScanBack.g
          rw [print_out hp, Option.bind_some, scan_out, Option.bind_some, if_pos hlen, e]; rfl
        · have e : linesOut (textP x) = (haulierlaw04_ScanBack.full x, 0) := by unfold linesOut; rw [if_neg hlen, hr]; rfl
          refine Ev.congr (f := fun k => (haulierref04_Same.f k (haulierlaw04_ScanBack.full x) (haulierlaw04_ScanBack.full x)).bind fun same => some ((0 : Int) == 0 && same)) (fun k => ?_) (Ev.bind hs (Ev.congr (f := fun _ => some true) (fun k => rfl) (Ev.now _)))
          simp only [if_true, Bool.false_eq_true, if_false]
          unfold haulierlaw04_ScanBack.g
          rw [print_out hp, Option.bind_some, scan_out, Option.bind_some, if_neg hlen, e]
    · rw [decide_eq_false h]
      exact Ev.congr (f := fun _ => some true) (fun k => by simp) (Ev.now _)
end Go.Proofs.YtdmlohoicgfdnaaDoor.Pure
