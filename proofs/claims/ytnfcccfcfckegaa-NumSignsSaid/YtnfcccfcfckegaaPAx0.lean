-- Printed for this claim by wip/tools/xprint.py over the kit's print; the contracts marked BY HAND are this session's own.
import Derived.Test.YtnfcccfcfckegaaProg
import Derived.Below
import Derived.Deep.Draws
import Derived.Deep.AppendLies
import Derived.Maps.AppendAt
import Derived.OwnWalk
import Derived.Laws.BytesArg
import Derived.Laws.MakeOwn
import Derived.Laws.OwnMore
import Derived.Deep.OwnRows
import Derived.Tactics
import Derived.Lib.ConvBytes
import Derived.Laws.Slices
import Derived.WalkKit
import Derived.KernelRfl
import Derived.RowKit3
import Derived.Deep.LoopGhost
import Derived.Deep.QuietTactic
import Derived.BigQuiet
import Derived.WideLaws
import Derived.Deep.DeepCutAuto
import Derived.Deep.CutBlock
import Derived.Deep.RegionHeld3
import Derived.Laws.Rows
import Derived.Lib.AppendStr
import Derived.ArgAppend
import Derived.Laws.IdiomCopy
import Derived.OrdersHeld
import Derived.Laws.BitsLemmas
import Derived.RowKit
import Derived.Laws.Shifts
import Derived.ScopeJumps
import Derived.WalkLawsBesides
import Derived.Test.YtnfcccfcfckegaaWWords
import Derived.Test.YtnfcccfcfckegaaWLast
import Derived.Test.YtnfcccfcfckegaaWTab
import Derived.Test.YtnfcccfcfckegaaWFour
import Derived.Test.YtnfcccfcfckegaaWQPut
import Derived.Test.YtnfcccfcfckegaaWApart
import Derived.Test.YtnfcccfcfckegaaWArr
import Derived.Test.YtnfcccfcfckegaaWZeros
import Derived.Test.YtnfcccfcfckegaaWFoot
import Derived.Test.YtnfcccfcfckegaaWKept
import Derived.Test.YtnfcccfcfckegaaWShare
import Derived.Test.YtnfcccfcfckegaaWN
import Derived.Test.YtnfcccfcfckegaaWFootNe
import Derived.Test.YtnfcccfcfckegaaWAt
import Derived.Test.YtnfcccfcfckegaaWEqStruct
import Derived.Test.YtnfcccfcfckegaaWRepsOne
import Derived.Test.YtnfcccfcfckegaaWInv
import Derived.Test.YtnfcccfcfckegaaWInvWords
import Derived.Test.YtnfcccfcfckegaaWGuard
import Derived.Test.YtnfcccfcfckegaaWNEv
import Derived.Test.YtnfcccfcfckegaaWMore
namespace Go.Proofs.Ytnfcccfcfckegaa.PA
open Go.RowKit Go.Proofs.YtnfcccfcfckegaaW.PrintWords Go.Proofs.YtnfcccfcfckegaaW.PrintLast Go.Proofs.YtnfcccfcfckegaaW.PrintMore
attribute [local go_sem] max2_int min2_int max_two min_two max_three min_three max_four min_four   -- for this text's walks alone
set_option linter.unusedVariables false
set_option linter.unusedSimpArgs false



def errW : Option Int → Value
  | none => .nilIface
  | some c => .iface 0 (.int .i64 c)
theorem errW_none : errW none = .nilIface := rfl
theorem errW_some (c : Int) : errW (some c) = .iface 0 (.int .i64 c) := rfl

theorem info3 : (Try.prog.info? 3).map (fun i => (i.zero, i.size, i.bytes)) = some (some (.int .i64 0), 1, 8) := by kernel_rfl
-- the values' own types

end Go.Proofs.Ytnfcccfcfckegaa.PA
