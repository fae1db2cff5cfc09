/- The instance that a text is, or why it is none, is what the reference says, for every text of at most 6000 bytes. -/
import Derived.Test.YtifekgemngfidaaDoorDefInstParses
import Derived.Test.YtifekgemngfidaaDoorInstRefParse
import Derived.Test.YtifekgemngfidaaDoorInstRefSame
import Derived.Test.YtifekgemngfidaaDoorInstLaw
namespace Go.Proofs.YtifekgemngfidaaDoor.Pure
open Go.RowKit Go.Proofs.YtifekgemngfidaaDoor.PA Go.Proofs.YtifekgemngfidaaDoorW.PrintWords Go.Proofs.YtifekgemngfidaaDoorW.PrintLast
open Go.Proofs.YtifekgemngfidaaDoor.Inst
set_option linter.unusedVariables false
theorem InstParses : haulierlaw05_InstParses.Claim := by
  intro x hx
  have hb := Go.Proofs.YtifekgemngfidaaDoor.Scan.bytes_of hx.2
  suffices h : Ev (fun k => haulierlaw05_InstParses.f k x) true from h.rounds
  by_cases hl : (x.length : Int) > 6000
  · refine Ev.congr (f := fun k => (haulierlaw05_awake.f k).bind fun t => haulierlaw05_InstParses.j0 k x t true) (fun k => ?_) (Ev.bind awake_ev (Ev.step (f := fun _ => some true) (fun k => ?_) (Ev.now _)))
    · simp only [haulierlaw05_InstParses.f]
      rw [show decide ((x.length : Int) > 6000) = true from decide_eq_true hl]
      cases haulierlaw05_awake.f k with
      | none => rfl
      | some t => cases t <;> rfl
    · simp only [haulierlaw05_InstParses.j0]; rw [if_pos trivial]
  · refine Ev.congr (f := fun k => (haulierlaw05_awake.f k).bind fun t => if t = true then haulierlaw05_InstParses.j0 k x t false else haulierlaw05_InstParses.j0 k x t true) (fun k => ?_) (Ev.bind awake_ev ?_)
    · simp only [haulierlaw05_InstParses.f]
      rw [show decide ((x.length : Int) > 6000) = false from decide_eq_false hl]
    · simp only [if_true]
      have hlen := parse_len x
      have h1 := parse_ev x
      have h2 := rparse_ev x hb
      generalize parseOut (Go.Proofs.YtifekgemngfidaaDoor.Scan.linesOut x) = o at *
      have h3 := rsame_ev o.1 o.2.1 o.2.2.1 o.2.2.2.1 o.1 o.2.1 o.2.2.1 o.2.2.2.1 (by omega)
      have hs : sameB o.1 o.2.1 o.2.2.1 o.2.2.2.1 o.1 o.2.1 o.2.2.1 o.2.2.2.1 = true := by simp [sameB]
      rw [hs] at h3
      refine Ev.step (f := fun k => (inst_Parse.f k x).bind fun a => (haulierref05_Parse.f k x).bind fun b => (haulierref05_Same.f k a.1 a.2.1 a.2.2.1 a.2.2.2.1 b.1 b.2.1 b.2.2.1 b.2.2.2.1).bind fun t => if t = true then some (a.2.2.2.2 == b.2.2.2.2) else none) (fun k => ?_) (Ev.bind h1 (Ev.bind h2 (Ev.bind h3 ?_)))
      · simp only [haulierlaw05_InstParses.j0]; rw [if_neg (by decide)]
      · exact Ev.congr (f := fun _ => some true) (fun k => by rw [if_pos rfl, beq_self_eq_true]) (Ev.now _)
end Go.Proofs.YtifekgemngfidaaDoor.Pure
