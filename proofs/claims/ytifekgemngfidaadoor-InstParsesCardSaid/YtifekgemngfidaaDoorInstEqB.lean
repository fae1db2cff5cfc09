import Derived.Test.YtifekgemngfidaaDoorMayBase
/-! Whether two are the same. -/
namespace Go.Proofs.YtifekgemngfidaaDoor.Inst
open Go.RowKit Go.Proofs.YtifekgemngfidaaDoorW.PrintWords Go.Proofs.YtifekgemngfidaaDoorW.PrintLast Go.Proofs.YtifekgemngfidaaDoor.PA
set_option linter.unusedVariables false
instance : DecidableEq St := fun a b => decidable_of_iff (a.f0 = b.f0 ∧ a.f1 = b.f1 ∧ a.f2 = b.f2 ∧ a.f3 = b.f3 ∧ a.f4 = b.f4 ∧ a.f5 = b.f5) (by
  cases a; cases b; simp)
theorem ne_b (a b : St) : (!(a.f0 == b.f0) || (!(a.f1 == b.f1) || (!(a.f2 == b.f2) || (!(a.f3 == b.f3) || (!(a.f4 == b.f4) || (!(a.f5 == b.f5))))))) = !decide (a = b) := by
  have e : decide (a = b) = (a.f0 == b.f0 && (a.f1 == b.f1 && (a.f2 == b.f2 && (a.f3 == b.f3 && (a.f4 == b.f4 && (a.f5 == b.f5)))))) := by
    cases a; cases b
    rw [Bool.eq_iff_iff]
    simp
  rw [e]
  simp only [Bool.not_and]
/-- Are two the same? -/
def sameB (p c r : Int) (l : List St) (p' c' r' : Int) (l' : List St) : Bool := (p == p' && (c == c' && r == r')) && decide (l = l')
end Go.Proofs.YtifekgemngfidaaDoor.Inst
