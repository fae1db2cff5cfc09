/- An instance is the same as itself, and as none that differs in one number, for at most 33 stops. -/
import Derived.Test.YtifekgemngfidaaDoorDefInstSame
import Derived.Test.YtifekgemngfidaaDoorInstLaw
import Derived.Test.YtifekgemngfidaaDoorInstEq
import Derived.Test.YtifekgemngfidaaDoorPAx21
namespace Go.Proofs.YtifekgemngfidaaDoor.Pure
open Go.RowKit Go.Proofs.YtifekgemngfidaaDoor.PA Go.Proofs.YtifekgemngfidaaDoorW.PrintWords Go.Proofs.YtifekgemngfidaaDoorW.PrintLast
open Go.Proofs.YtifekgemngfidaaDoor.Inst
set_option linter.unusedVariables false
theorem wrap_ne (x : Int) : wrap64 (x + 1) ≠ x := by unfold wrap64; omega
theorem set_ne {l : List St} {n : Nat} (hn : n < l.length) {s : St} (h : s ≠ l[n]) : l ≠ l.set n s := by
  intro e
  have e1 : (l.set n s)[n]'(by rw [List.length_set]; exact hn) = s := List.getElem_set_self _
  have e2 : l[n] = (l.set n s)[n]'(by rw [List.length_set]; exact hn) := by congr 1
  exact h (e2.trans e1).symm
theorem same_self (p c r : Int) (l : List St) : sameB p c r l p c r l = true := by simp [sameB]
theorem same_not (p c r : Int) {l m : List St} (h : l ≠ m) : sameB p c r l p c r m = false := by unfold sameB; rw [decide_eq_false h, Bool.and_false]
/-- The law's end, where two rows of stops differ. -/
theorem same_end (p c r : Int) (l m : List St) (hl : l.length ≤ 1000) (hm : m.length ≤ 1000) (h : l ≠ m) : Ev (fun k => (inst_Same.f k p c r l p c r m).bind fun t => if t = true then none else (inst_Same.f k p c r m p c r l).bind fun t => some (!t)) true := by
  have h1 := same_ev p c r l p c r m (by omega)
  rw [same_not p c r h] at h1
  have h2 := same_ev p c r m p c r l (by omega)
  rw [same_not p c r (Ne.symm h)] at h2
  refine Ev.bind h1 ?_
  simp only [Bool.false_eq_true, if_false]
  exact Ev.bind h2 (Ev.now _)
theorem InstSame : haulierlaw05_InstSame.Claim := by
  intro x i w hx hi0 hw0
  obtain ⟨p, c, r, l⟩ := x
  show ∃ k, haulierlaw05_InstSame.f k p c r l i w = some true
  suffices h : Ev (fun k => haulierlaw05_InstSame.f k p c r l i w) true from h.rounds
  have out : ∀ (b : Bool), b = true → Ev (fun k => haulierlaw05_InstSame.j0 k i w true b p c r l) true := by
    rintro _ rfl
    refine Ev.step (f := fun _ => some true) (fun k => ?_) (Ev.now _)
    simp only [haulierlaw05_InstSame.j0]; rw [if_pos trivial]
  unfold haulierlaw05_InstSame.f
  refine Ev.bind awake_ev ?_
  simp only [if_true]
  by_cases hl : (l.length : Int) > 33
  · simp only [if_pos hl]; exact out true rfl
  simp only [if_neg hl]
  by_cases h1 : i < 0
  · simp only [if_pos h1]; exact out true rfl
  simp only [if_neg h1]
  by_cases h2 : i ≥ (l.length : Int)
  · exact out _ (decide_eq_true h2)
  rw [decide_eq_false h2]
  obtain ⟨n, rfl⟩ : ∃ n : Nat, i = n := ⟨i.toNat, by omega⟩
  have hn : n < l.length := by omega
  have g3 : ([] : List St).length + l.length < 2932031007402 := by simp only [List.length_nil]; omega
  have g4 : (0 : Int) ≤ (n : Int) := by omega
  have g5 : (n : Int) < (l.length : Int) := by omega
  have hself := same_ev p c r l p c r l (by omega)
  rw [same_self] at hself
  have hlen : ∀ s, (l.set n s).length ≤ 1000 := fun s => by rw [List.length_set]; omega
  refine Ev.step (g := fun k => haulierlaw05_InstSame.j0 k n w true false p c r l) (fun k => by
    simp only [haulierlaw05_InstSame.j0]
    rw [if_neg (by decide), if_pos g3]) ?_
  simp only [Option.bind_some, List.nil_append, Int.toNat_natCast, if_pos g4, if_pos g5, rdS_at hn]
  refine Ev.bind hself ?_
  simp only [if_true]
  by_cases w0 : w = 0
  · simp only [if_pos w0]
    exact same_end p c r l _ (by omega) (hlen _) (set_ne hn (fun e => wrap_ne _ (congrArg S34.f0 e)))
  simp only [if_neg w0]
  by_cases w1 : w = 1
  · simp only [if_pos w1]
    exact same_end p c r l _ (by omega) (hlen _) (set_ne hn (fun e => wrap_ne _ (congrArg S34.f4 e)))
  simp only [if_neg w1]
  by_cases w2 : w = 2
  · simp only [if_pos w2]
    exact same_end p c r l _ (by omega) (hlen _) (set_ne hn (fun e => wrap_ne _ (congrArg S34.f2 e)))
  simp only [if_neg w2]
  have e1 : sameB p c r l p c (wrap64 (r + 1)) l = false := by unfold sameB; rw [beq_eq_false_iff_ne.mpr (Ne.symm (wrap_ne r))]; simp
  have e2 : sameB p c (wrap64 (r + 1)) l p c r l = false := by unfold sameB; rw [beq_eq_false_iff_ne.mpr (wrap_ne r)]; simp
  have h1 := same_ev p c r l p c (wrap64 (r + 1)) l (by omega)
  rw [e1] at h1
  have h2 := same_ev p c (wrap64 (r + 1)) l p c r l (by omega)
  rw [e2] at h2
  refine Ev.bind h1 ?_
  simp only [Bool.false_eq_true, if_false]
  exact Ev.bind h2 (Ev.now _)
end Go.Proofs.YtifekgemngfidaaDoor.Pure
