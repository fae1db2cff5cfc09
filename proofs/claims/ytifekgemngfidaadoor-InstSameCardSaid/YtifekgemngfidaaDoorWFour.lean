-- The kit's words as print.sh laid them for this seat, without what the claim does not use (wip/tools/prune_words.py).
import Derived.Test.YtifekgemngfidaaDoorWTab
/-! ### 56. Four, five, six operations that may come up next, in any order -/
namespace Go.Proofs.YtifekgemngfidaaDoorW.PrintLast
section
variable {P : Program} {ops : Array Oper} {Q : Exit → Act → World → Prop} {md : Region.Mode} {S : World → Prop} {ds : List Nat} {T : Bool × List (List Nat × List Nat)}
end
end Go.Proofs.YtifekgemngfidaaDoorW.PrintLast
