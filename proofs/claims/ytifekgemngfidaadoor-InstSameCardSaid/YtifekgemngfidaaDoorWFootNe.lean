-- The kit's words as print.sh laid them for this seat, without what the claim does not use (wip/tools/prune_words.py).
import Derived.Test.YtifekgemngfidaaDoorWN
/-! ### 52. A row that stays read whatever happens to a block (a set of blocks) doesn't lie there -/
namespace Go.Proofs.YtifekgemngfidaaDoorW.PrintWords
open Go.RowKit
namespace Kd
section
variable {α : Type} {d : Kd α} {W : World} {g n : Nat} {S ok : Nat → Prop} {A : Option Addr} {ad : Addr} {xs : List α}
end
end Kd
end Go.Proofs.YtifekgemngfidaaDoorW.PrintWords
