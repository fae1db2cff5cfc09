import Derived.Test.YtdmlohoicgfdnaaDoorPrintEnd
import Derived.Test.YtdmlohoicgfdnaaDoorPAx4
/-! The chapter's guard: few lines of few numbers. -/
namespace Go.Proofs.YtdmlohoicgfdnaaDoor.Scan
open Go.RowKit Go.Proofs.YtdmlohoicgfdnaaDoorW.PrintWords Go.Proofs.YtdmlohoicgfdnaaDoorW.PrintLast Go.Proofs.YtdmlohoicgfdnaaDoor.PA
set_option linter.unusedVariables false
theorem wf64 {x : Int} (h : (Lit.int .i64 x).wf = true) : -9223372036854775808 ≤ x ∧ x ≤ 9223372036854775807 := by
  simp [Lit.wf, IntKind.min, IntKind.max, IntKind.bits, IntKind.signed] at h
  omega
theorem few_ev (x : List (List Int)) : Ev (fun k => haulierlaw04_few.f k x) (decide (x.length ≤ 100 ∧ (∀ l ∈ x, l.length ≤ 100))) := by
  by_cases h1 : (x.length : Int) > 100
  · refine Ev.congr (f := fun _ => some _) (fun k => ?_) (Ev.now _)
    simp only [haulierlaw04_few.f]
    rw [if_pos h1, decide_eq_false (by omega)]
  · have hl : ∀ (d i : Nat), i + d = x.length → Ev (fun k => haulierlaw04_few.l0 k x (i : Int)) (decide (∀ l ∈ x.drop i, l.length ≤ 100)) := by
      intro d
      induction d with
      | zero =>
        intro i hi
        refine Ev.step (f := fun _ => some _) (fun k => ?_) (Ev.now _)
        simp only [haulierlaw04_few.l0]
        rw [if_neg (by omega), List.drop_eq_nil_of_le (by omega)]; simp
      | succ d ih =>
        intro i hi
        have hlt : i < x.length := by omega
        have hil : (i : Int) < (x.length : Int) := by omega
        have hw : wrap64 ((i : Int) + 1) = ((i + 1 : Nat) : Int) := by rw [wrapS (by omega) (by omega)]; omega
        have hi0 : (0 : Int) ≤ (i : Int) := by omega
        rw [List.drop_eq_getElem_cons hlt]
        by_cases h : (x[i].length : Int) > 100
        · refine Ev.step (f := fun _ => some _) (fun k => ?_) (Ev.now _)
          simp only [haulierlaw04_few.l0]
          rw [if_pos hil, if_pos hi0, rd_L2_at' hlt, if_pos h, decide_eq_false]
          intro hall
          have := hall x[i] List.mem_cons_self
          omega
        · refine Ev.step (f := fun k => haulierlaw04_few.l0 k x ((i + 1 : Nat) : Int)) (fun k => ?_) ?_
          · simp only [haulierlaw04_few.l0]
            rw [if_pos hil, if_pos hi0, rd_L2_at' hlt, if_neg h, hw]
          · have e2 : (∀ l ∈ x[i] :: x.drop (i + 1), l.length ≤ 100) ↔ (∀ l ∈ x.drop (i + 1), l.length ≤ 100) := by
              constructor
              · intro h l hl; exact h l (List.mem_cons_of_mem _ hl)
              · intro h' l hl
                rcases List.mem_cons.mp hl with rfl | hl
                · omega
                · exact h' l hl
            rw [decide_eq_decide.mpr e2]
            exact ih (i + 1) (by omega)
    have := hl x.length 0 (by omega)
    refine Ev.congr (f := fun k => haulierlaw04_few.l0 k x ((0 : Nat) : Int)) (fun k => ?_) (by simpa [show x.length ≤ 100 by omega] using this)
    simp only [haulierlaw04_few.f]
    rw [if_neg h1]; rfl
/-- Lines that the statement's guard lets in. -/
theorem prints_few {x : List (List Int)} (hw : ∀ a ∈ x, ∀ n ∈ a, (Lit.int .i64 n).wf = true) (h : x.length ≤ 100 ∧ ∀ l ∈ x, l.length ≤ 100) : Prints x := by
  refine ⟨by omega, fun l hl => ⟨by have := h.2 l hl; omega, fun n hn => ?_⟩⟩
  exact wf64 (hw l hl n hn)
end Go.Proofs.YtdmlohoicgfdnaaDoor.Scan
