/- The options that a text is, or why it is none, are what the reference says, for every text of at most 6000 bytes. -/
import Derived.Test.YtdmlohoicgfdnaaDefOptsParses
import Derived.Test.YtdmlohoicgfdnaaScanRef
import Derived.Test.YtdmlohoicgfdnaaPAx9
import Derived.Test.YtdmlohoicgfdnaaPAx10
import Derived.Test.YtdmlohoicgfdnaaPAx2
namespace Go.Proofs.Ytdmlohoicgfdnaa.Pure
open Go.RowKit Go.Proofs.Ytdmlohoicgfdnaa.PA Go.Proofs.YtdmlohoicgfdnaaW.PrintWords Go.Proofs.YtdmlohoicgfdnaaW.PrintLast Go.Proofs.YtdmlohoicgfdnaaW.PrintMore Go.Proofs.Ytdmlohoicgfdnaa.Scan
set_option linter.unusedVariables false
theorem opts_awake : haulierlaw18_awake.f = some true := by
  unfold haulierlaw18_awake.f opts_Parse.f
  rw [scan_out]
  rfl
def mayP (a b c : Int) : Bool := decide (1 ≤ a ∧ a ≤ 1048576 ∧ 0 ≤ b ∧ b ≤ 2 ∧ 0 ≤ c ∧ c ≤ 549755813888)
theorem clamp_eq {x lo hi : Int} (h : lo ≤ hi) : (x == mn (mx x lo) hi) = decide (lo ≤ x ∧ x ≤ hi) := by
  unfold mn mx
  by_cases h1 : x < lo
  · rw [if_pos h1, if_neg (by omega), decide_eq_false (by omega)]
    exact beq_eq_false_iff_ne.mpr (by omega)
  · rw [if_neg h1]
    by_cases h2 : hi < x
    · rw [if_pos h2, decide_eq_false (by omega)]
      exact beq_eq_false_iff_ne.mpr (by omega)
    · rw [if_neg h2, decide_eq_true (by omega)]
      exact beq_self_eq_true x
theorem may_prog (a b c : Int) : opts_May.f a b c = some (mayP a b c) := by
  unfold opts_May.f opts_bounded.f mayP
  simp only [Option.bind_some]
  rw [clamp_eq (by decide), clamp_eq (by decide), clamp_eq (by decide)]
  congr 1
  rw [← Bool.decide_and, ← Bool.decide_and]
  apply decide_eq_decide.mpr
  omega
theorem may_ref (a b c : Int) : haulierref18_May.f a b c = some (mayP a b c) := by
  unfold haulierref18_May.f mayP
  by_cases h1 : a ≥ 1
  · rw [if_pos h1]
    by_cases h2 : a ≤ 1048576
    · rw [if_pos h2]
      by_cases h3 : b ≥ 0
      · rw [if_pos h3]
        by_cases h4 : b ≤ 2
        · rw [if_pos h4]
          by_cases h5 : c ≥ 0
          · rw [if_pos h5]; congr 1; apply decide_eq_decide.mpr; omega
          · rw [if_neg h5]; congr 1; exact (decide_eq_false (by omega)).symm
        · rw [if_neg h4]; congr 1; exact (decide_eq_false (by omega)).symm
      · rw [if_neg h3]; congr 1; exact (decide_eq_false (by omega)).symm
    · rw [if_neg h2]; congr 1; exact (decide_eq_false (by omega)).symm
  · rw [if_neg h1]; congr 1; exact (decide_eq_false (by omega)).symm
def optsOut (l : List (List Int) × Int) : Int × Int × Int × Int :=
  if l.2 = 0 then (if (l.1.length : Int) = 1 then (if ((rd_L2 l.1 0).length : Int) = 3 then (if mayP (rd (rd_L2 l.1 0) 0) (rd (rd_L2 l.1 0) 1) (rd (rd_L2 l.1 0) 2) = true then (rd (rd_L2 l.1 0) 0, rd (rd_L2 l.1 0) 1, rd (rd_L2 l.1 0) 2, 0) else (0, 0, 0, 1)) else (0, 0, 0, 2)) else (0, 0, 0, 2)) else (0, 0, 0, l.2)
theorem opts_prog (b : List Int) : opts_Parse.f b = some (optsOut (linesOut b)) := by
  unfold opts_Parse.f optsOut
  rw [scan_out]
  simp only [Option.bind_some, may_prog]
  split
  · split
    · split
      · split <;> rfl
      · rfl
    · rfl
  · rfl
theorem opts_ref (b : List Int) (hb : Bytes b) : Ev (fun k => haulierref18_Parse.f k b) (optsOut (linesOut b)) := by
  refine Ev.bind (Lines_all b hb) ?_
  generalize linesOut b = l
  unfold optsOut
  by_cases h1 : l.2 = 0
  · rw [if_pos h1]
    by_cases h2 : (l.1.length : Int) = 1
    · rw [if_pos h2]
      refine Ev.congr (f := fun k => haulierref18_Parse.j0 k l.1 (((rd_L2 l.1 0).length : Int) != 3)) (fun k => ?_) ?_
      · rw [if_pos h1, if_pos h2, if_pos (by omega)]
      · by_cases h3 : ((rd_L2 l.1 0).length : Int) = 3
        · rw [if_pos h3, show (((rd_L2 l.1 0).length : Int) != 3) = false by simp [h3]]
          refine Ev.step (f := fun _ => some _) (fun k => ?_) (Ev.now _)
          simp only [haulierref18_Parse.j0]
          rw [if_neg (by decide), if_pos (by omega), if_pos (by omega), if_pos (by omega), if_pos (by omega), may_ref]
          simp only [Option.bind_some]
          split <;> rfl
        · rw [if_neg h3, show (((rd_L2 l.1 0).length : Int) != 3) = true from bne_iff_ne.mpr h3]
          refine Ev.step (f := fun _ => some _) (fun k => ?_) (Ev.now _)
          simp [haulierref18_Parse.j0]
    · rw [if_neg h2]
      refine Ev.congr (f := fun k => haulierref18_Parse.j0 k l.1 true) (fun k => ?_) (Ev.step (f := fun _ => some _) (fun k => ?_) (Ev.now _))
      · rw [if_pos h1, if_neg h2]
      · simp [haulierref18_Parse.j0]
  · rw [if_neg h1]
    refine Ev.congr (f := fun _ => some _) (fun k => ?_) (Ev.now _)
    rw [if_neg h1]
theorem OptsParses : haulierlaw18_OptsParses.Claim := by
  intro x hx
  have hb := bytes_of hx.2
  suffices h : Ev (fun k => haulierlaw18_OptsParses.f k x) true from h.rounds
  by_cases hl : (x.length : Int) > 6000
  · refine Ev.congr (f := fun k => haulierlaw18_OptsParses.j0 k x true true) (fun k => ?_) (Ev.step (f := fun _ => some true) (fun k => ?_) (Ev.now _))
    · simp only [haulierlaw18_OptsParses.f, opts_awake, Option.bind_some, if_true]
      rw [show decide ((x.length : Int) > 6000) = true from decide_eq_true hl]
    · simp [haulierlaw18_OptsParses.j0]
  · refine Ev.congr (f := fun k => haulierlaw18_OptsParses.j0 k x true false) (fun k => ?_) ?_
    · simp only [haulierlaw18_OptsParses.f, opts_awake, Option.bind_some, if_true]
      rw [show decide ((x.length : Int) > 6000) = false from decide_eq_false hl]
    · refine Ev.step (f := fun k => (haulierref18_Parse.f k x).bind fun bt278 => (if ((optsOut (linesOut x)).1 == bt278.1 && ((optsOut (linesOut x)).2.1 == bt278.2.1 && ((optsOut (linesOut x)).2.2.1 == bt278.2.2.1))) = true then (some ((optsOut (linesOut x)).2.2.2 == bt278.2.2.2)) else (none))) (fun k => ?_) ?_
      · simp only [haulierlaw18_OptsParses.j0, opts_prog, Option.bind_some]
        rw [if_neg (by decide)]
      · refine Ev.bind (opts_ref x hb) ?_
        refine Ev.congr (f := fun _ => some true) (fun k => ?_) (Ev.now _)
        simp
end Go.Proofs.Ytdmlohoicgfdnaa.Pure
