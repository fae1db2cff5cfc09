-- The kit's words as print.sh laid them for this seat, without what the claim does not use (wip/tools/prune_words.py).
import Derived.Test.YtifekgemngfidaaDoorWInv
import Derived.Test.YtifekgemngfidaaDoorWFootNe
namespace Go.Proofs.YtifekgemngfidaaDoorW.PrintWords
open Go.RowKit
end Go.Proofs.YtifekgemngfidaaDoorW.PrintWords
namespace Go.Proofs.YtifekgemngfidaaDoorW.PrintLast
section
variable {ops : Array Oper} {a : Act} {o og : Oper} {g : Nat} {t : Tmp} {u : Bool}
end
end Go.Proofs.YtifekgemngfidaaDoorW.PrintLast
