/- What is parsed may be, and is printed as a text that is parsed, and printed, the same, for every text of at most 6000 bytes. -/
import Derived.Test.YtifekgemngfidaaDoorDefInstAgain
import Derived.Test.YtifekgemngfidaaDoorInstLaw
import Derived.Test.YtifekgemngfidaaDoorInstEq
namespace Go.Proofs.YtifekgemngfidaaDoor.Pure
open Go.RowKit Go.Proofs.YtifekgemngfidaaDoor.PA Go.Proofs.YtifekgemngfidaaDoorW.PrintWords Go.Proofs.YtifekgemngfidaaDoorW.PrintLast
open Go.Proofs.YtifekgemngfidaaDoor.Inst
set_option linter.unusedVariables false
theorem InstAgain : haulierlaw05_InstAgain.Claim := by
  intro x hx
  suffices h : Ev (fun k => haulierlaw05_InstAgain.f k x) true from h.rounds
  by_cases hl : (x.length : Int) > 6000
  · refine Ev.congr (f := fun k => (haulierlaw05_awake.f k).bind fun t => haulierlaw05_InstAgain.j0 k x t true) (fun k => ?_) (Ev.bind awake_ev (Ev.step (f := fun _ => some true) (fun k => ?_) (Ev.now _)))
    · simp only [haulierlaw05_InstAgain.f]
      rw [show decide ((x.length : Int) > 6000) = true from decide_eq_true hl]
      cases haulierlaw05_awake.f k with
      | none => rfl
      | some t => cases t <;> rfl
    · simp only [haulierlaw05_InstAgain.j0]; rw [if_pos trivial]
  · refine Ev.congr (f := fun k => (haulierlaw05_awake.f k).bind fun t => if t = true then haulierlaw05_InstAgain.j0 k x t false else haulierlaw05_InstAgain.j0 k x t true) (fun k => ?_) (Ev.bind awake_ev ?_)
    · simp only [haulierlaw05_InstAgain.f]
      rw [show decide ((x.length : Int) > 6000) = false from decide_eq_false hl]
    · simp only [if_true]
      have hlen := parse_len x
      have h1 := parse_ev x
      have hm := parse_may (Go.Proofs.YtifekgemngfidaaDoor.Scan.linesOut x)
      have hn := parse_none (Go.Proofs.YtifekgemngfidaaDoor.Scan.linesOut x)
      generalize parseOut (Go.Proofs.YtifekgemngfidaaDoor.Scan.linesOut x) = o at *
      obtain ⟨p, c, r, l, e⟩ := o
      simp only at hm hn hlen
      have hstep : ∀ k, haulierlaw05_InstAgain.j0 (k + 1) x true false = (inst_Parse.f k x).bind _ := fun k => by simp only [haulierlaw05_InstAgain.j0]; rw [if_neg (by decide)]
      refine Ev.step hstep (Ev.bind h1 ?_)
      by_cases h0 : e = 0
      · have hmay := hm h0
        have h2 := print_ev p c r l
        have ho : printOut p c r l = (Go.Proofs.YtifekgemngfidaaDoor.Scan.textP (rows p c r l), 0) := by unfold printOut; rw [if_pos hmay]
        rw [ho] at h2
        have h3 := parse_ev (Go.Proofs.YtifekgemngfidaaDoor.Scan.textP (rows p c r l))
        rw [back hmay] at h3
        have h4 := may_ev p c r l
        rw [hmay] at h4
        have h5 := same_ev p c r l p c r l (by omega)
        have hs : sameB p c r l p c r l = true := by simp [sameB]
        rw [hs] at h5
        simp only [if_pos h0]
        refine Ev.bind h2 (Ev.bind h3 (Ev.bind h2 (Ev.bind h4 ?_)))
        simp only [if_true]
        refine Ev.bind h5 ?_
        exact Ev.congr (f := fun _ => some true) (fun k => by rw [if_pos rfl, beq_self_eq_true]) (Ev.now _)
      · obtain ⟨hp, hl0⟩ := hn h0
        refine Ev.congr (f := fun _ => some true) (fun k => ?_) (Ev.now _)
        simp only [if_neg h0]
        rw [if_pos hp, hl0]; rfl
end Go.Proofs.YtifekgemngfidaaDoor.Pure
