/-
  No cell of these rows narrows 'for every input' (looked for: loops, veiled, ifaces, maps, wideKeys, modest, calm, conditions, laid).
  DERIVED. THE GIVEN ROWS OF THIS SEAT. 7 by the template 'for every input the law returns true; each argument reads behind the call as it read before'; 0 by the template 'total and deterministic' (their statements: YtjiammiihamkiaaTotals.lean).
  GIVEN WITH THE SEED: the statements are not yours to turn. If you find one false, say at which input.
  Laid BY PROGRAM, IN A SANDBOX (cutbox-rows.mjs): the forced cells as the released guide's own fill.sh prints them over the translation 79fb0c7f0c7a9837… (all of the seat's roots in one cut). By AI agents, Wed Nov 11 2026. No macro, syntax, notation, axiom, sorry.
-/
import Derived.Test.YtjiammiihamkiaaChecked
import GoSem.Claim
import GoSem.ClaimJoined
import GoSem.ClaimMapViews
import Derived.JoinedTies
import Derived.KernelRfl
namespace Go.Proofs.Ytjiammiihamkiaa
/- THE CELL 'sum', in the pinned program and in every row, IS THE sha256 OF THE DUMP (.gsa) THAT YtjiammiihamkiaaProg.lean LOADS. Nothing in Lean hashes anything: it is a label: what it is worth is what the hold of that sum in a sandbox is worth. -/
noncomputable def Try.pinned : Pinned := { name := "ytjiammiihamkiaa", sum := "79fb0c7f0c7a9837f9d14e49ac78187369c615a980e289ca9eb8533ef0356c09", checked := Try.checked }
namespace Rows
def none {H : Type} : Left H := { results := [], args := [] }

/-- 'haulierlaw06.PlaneTells': WHATEVER THE INPUT: true; the input reads as it did. -/
def planeTellsSpec : ChangeSpec := { name := "planeTells", fn := fun _ => fun
  | [d1, d2, d3] => { results := [.lit (.bool true)], args := [d1, d2, d3] }
  | _ => none }
def planeTellsRow : OpenClaim := { program := "ytjiammiihamkiaa", sum := "79fb0c7f0c7a9837f9d14e49ac78187369c615a980e289ca9eb8533ef0356c09", func := "haulier/haulierlaw06.PlaneTells", spec := "planeTells", unfollowed := true, recurses := true, apart := false }
def PlaneTellsSaid : Prop := planeTellsRow.holds Try.pinned (OpenSpec.ofChange planeTellsSpec)

/-- ITS FALSE NEIGHBOUR: 'it returns false'. Refute it at one input. -/
def planeTellsWrong : ChangeSpec := { name := "planeTells", fn := fun _ => fun
  | [d1, d2, d3] => { results := [.lit (.bool false)], args := [d1, d2, d3] }
  | _ => none }
def PlaneTellsWrongFalsely : Prop := planeTellsRow.holds Try.pinned (OpenSpec.ofChange planeTellsWrong)

/-- 'haulierlaw06.PlaneNear': WHATEVER THE INPUT: true; the input reads as it did. -/
def planeNearSpec : ChangeSpec := { name := "planeNear", fn := fun _ => fun
  | [d] => { results := [.lit (.bool true)], args := [d] }
  | _ => none }
def planeNearRow : OpenClaim := { program := "ytjiammiihamkiaa", sum := "79fb0c7f0c7a9837f9d14e49ac78187369c615a980e289ca9eb8533ef0356c09", func := "haulier/haulierlaw06.PlaneNear", spec := "planeNear", unfollowed := true, recurses := true, apart := false }
def PlaneNearSaid : Prop := planeNearRow.holds Try.pinned (OpenSpec.ofChange planeNearSpec)

/-- ITS FALSE NEIGHBOUR: 'it returns false'. Refute it at one input. -/
def planeNearWrong : ChangeSpec := { name := "planeNear", fn := fun _ => fun
  | [d] => { results := [.lit (.bool false)], args := [d] }
  | _ => none }
def PlaneNearWrongFalsely : Prop := planeNearRow.holds Try.pinned (OpenSpec.ofChange planeNearWrong)

/-- 'haulierlaw06.PlaneSame': WHATEVER THE INPUT: true; the input reads as it did. -/
def planeSameSpec : ChangeSpec := { name := "planeSame", fn := fun _ => fun
  | [d1, d2, d3] => { results := [.lit (.bool true)], args := [d1, d2, d3] }
  | _ => none }
def planeSameRow : OpenClaim := { program := "ytjiammiihamkiaa", sum := "79fb0c7f0c7a9837f9d14e49ac78187369c615a980e289ca9eb8533ef0356c09", func := "haulier/haulierlaw06.PlaneSame", spec := "planeSame", unfollowed := true, recurses := true, apart := false }
def PlaneSameSaid : Prop := planeSameRow.holds Try.pinned (OpenSpec.ofChange planeSameSpec)

/-- ITS FALSE NEIGHBOUR: 'it returns false'. Refute it at one input. -/
def planeSameWrong : ChangeSpec := { name := "planeSame", fn := fun _ => fun
  | [d1, d2, d3] => { results := [.lit (.bool false)], args := [d1, d2, d3] }
  | _ => none }
def PlaneSameWrongFalsely : Prop := planeSameRow.holds Try.pinned (OpenSpec.ofChange planeSameWrong)

/-- 'haulierlaw11.RelaxWays': WHATEVER THE INPUT: true; the input reads as it did. -/
def relaxWaysSpec : ChangeSpec := { name := "relaxWays", fn := fun _ => fun
  | [d1, d2, d3, d4] => { results := [.lit (.bool true)], args := [d1, d2, d3, d4] }
  | _ => none }
def relaxWaysRow : OpenClaim := { program := "ytjiammiihamkiaa", sum := "79fb0c7f0c7a9837f9d14e49ac78187369c615a980e289ca9eb8533ef0356c09", func := "haulier/haulierlaw11.RelaxWays", spec := "relaxWays", unfollowed := true, recurses := true, apart := false }
def RelaxWaysSaid : Prop := relaxWaysRow.holds Try.pinned (OpenSpec.ofChange relaxWaysSpec)

/-- ITS FALSE NEIGHBOUR: 'it returns false'. Refute it at one input. -/
def relaxWaysWrong : ChangeSpec := { name := "relaxWays", fn := fun _ => fun
  | [d1, d2, d3, d4] => { results := [.lit (.bool false)], args := [d1, d2, d3, d4] }
  | _ => none }
def RelaxWaysWrongFalsely : Prop := relaxWaysRow.holds Try.pinned (OpenSpec.ofChange relaxWaysWrong)

/-- 'haulierlaw11.RelaxMoves': WHATEVER THE INPUT: true; the input reads as it did. -/
def relaxMovesSpec : ChangeSpec := { name := "relaxMoves", fn := fun _ => fun
  | [d1, d2, d3] => { results := [.lit (.bool true)], args := [d1, d2, d3] }
  | _ => none }
def relaxMovesRow : OpenClaim := { program := "ytjiammiihamkiaa", sum := "79fb0c7f0c7a9837f9d14e49ac78187369c615a980e289ca9eb8533ef0356c09", func := "haulier/haulierlaw11.RelaxMoves", spec := "relaxMoves", unfollowed := true, recurses := true, apart := false }
def RelaxMovesSaid : Prop := relaxMovesRow.holds Try.pinned (OpenSpec.ofChange relaxMovesSpec)

/-- ITS FALSE NEIGHBOUR: 'it returns false'. Refute it at one input. -/
def relaxMovesWrong : ChangeSpec := { name := "relaxMoves", fn := fun _ => fun
  | [d1, d2, d3] => { results := [.lit (.bool false)], args := [d1, d2, d3] }
  | _ => none }
def RelaxMovesWrongFalsely : Prop := relaxMovesRow.holds Try.pinned (OpenSpec.ofChange relaxMovesWrong)

/-- 'haulierlaw13.BetterWays': WHATEVER THE INPUT: true; the input reads as it did. -/
def betterWaysSpec : ChangeSpec := { name := "betterWays", fn := fun _ => fun
  | [d1, d2, d3, d4] => { results := [.lit (.bool true)], args := [d1, d2, d3, d4] }
  | _ => none }
def betterWaysRow : OpenClaim := { program := "ytjiammiihamkiaa", sum := "79fb0c7f0c7a9837f9d14e49ac78187369c615a980e289ca9eb8533ef0356c09", func := "haulier/haulierlaw13.BetterWays", spec := "betterWays", unfollowed := true, recurses := true, apart := false }
def BetterWaysSaid : Prop := betterWaysRow.holds Try.pinned (OpenSpec.ofChange betterWaysSpec)

/-- ITS FALSE NEIGHBOUR: 'it returns false'. Refute it at one input. -/
def betterWaysWrong : ChangeSpec := { name := "betterWays", fn := fun _ => fun
  | [d1, d2, d3, d4] => { results := [.lit (.bool false)], args := [d1, d2, d3, d4] }
  | _ => none }
def BetterWaysWrongFalsely : Prop := betterWaysRow.holds Try.pinned (OpenSpec.ofChange betterWaysWrong)

/-- 'haulierlaw07.SchedOne': WHATEVER THE INPUT: true; the input reads as it did. -/
def schedOneSpec : ChangeSpec := { name := "schedOne", fn := fun _ => fun
  | [d1, d2] => { results := [.lit (.bool true)], args := [d1, d2] }
  | _ => none }
def schedOneRow : OpenClaim := { program := "ytjiammiihamkiaa", sum := "79fb0c7f0c7a9837f9d14e49ac78187369c615a980e289ca9eb8533ef0356c09", func := "haulier/haulierlaw07.SchedOne", spec := "schedOne", unfollowed := true, recurses := true, apart := false }
def SchedOneSaid : Prop := schedOneRow.holds Try.pinned (OpenSpec.ofChange schedOneSpec)

/-- ITS FALSE NEIGHBOUR: 'it returns false'. Refute it at one input. -/
def schedOneWrong : ChangeSpec := { name := "schedOne", fn := fun _ => fun
  | [d1, d2] => { results := [.lit (.bool false)], args := [d1, d2] }
  | _ => none }
def SchedOneWrongFalsely : Prop := schedOneRow.holds Try.pinned (OpenSpec.ofChange schedOneWrong)

/- THE SECOND FORM. 'bulk': how many values and letters a reading holds, each counted each time it is reached (what is shared counts as often as it is met; a slice's spare places count too). A statement '..UptoSaid' is the law's where the arguments, and the package variables that the reading takes, are together of bulk at most 1048576: NARROWER than '..Said'. Prove '..Said' where nothing that the law and all that it calls make is longer than what came in: it says more and counts as full. Else prove '..UptoSaid'. A law counts once. -/
mutual
def uptoBulk {H : Type} : DataW H → Nat
  | .lit (.string bytes) => bytes.length + 1
  | .lit _ => 1
  | .nil => 1
  | .ptr d => uptoBulk d + 1
  | .slice elems spare => uptoBulkAll elems + uptoBulkAll spare + 1
  | .agg parts => uptoBulkAll parts + 1
  | .iface _ d => uptoBulk d + 1
  | .map entries => uptoBulkEntries entries + 1
  | .held _ => 1
def uptoBulkAll {H : Type} : List (DataW H) → Nat
  | [] => 0
  | d :: r => uptoBulk d + uptoBulkAll r
def uptoBulkEntries {H : Type} : List (Lit × DataW H) → Nat
  | [] => 0
  | x :: r => uptoBulkEntry x + uptoBulkEntries r
def uptoBulkEntry {H : Type} : Lit × DataW H → Nat
  | (.string bytes, d) => bytes.length + uptoBulk d + 1
  | (_, d) => uptoBulk d + 1
 end
def uptoSmall : (H : Type) → List (DataW H) → Bool := fun _ ds => decide (uptoBulkAll ds ≤ 1048576)
def OpenSpec.upto (s : _root_.Go.ChangeSpec) : _root_.Go.OpenSpec := { _root_.Go.OpenSpec.ofChange s with cond := some uptoSmall }

/-- 'haulierlaw06.PlaneTells', WHERE WHAT IT READS IS OF BULK AT MOST 1048576: true; the input reads as it did. -/
def planeTellsUptoRow : OpenClaim := { program := "ytjiammiihamkiaa", sum := "79fb0c7f0c7a9837f9d14e49ac78187369c615a980e289ca9eb8533ef0356c09", func := "haulier/haulierlaw06.PlaneTells", spec := "planeTells", unfollowed := true, recurses := true, apart := false, narrowed := true }
def PlaneTellsUptoSaid : Prop := planeTellsUptoRow.holds Try.pinned (OpenSpec.upto planeTellsSpec)

/-- 'haulierlaw06.PlaneNear', WHERE WHAT IT READS IS OF BULK AT MOST 1048576: true; the input reads as it did. -/
def planeNearUptoRow : OpenClaim := { program := "ytjiammiihamkiaa", sum := "79fb0c7f0c7a9837f9d14e49ac78187369c615a980e289ca9eb8533ef0356c09", func := "haulier/haulierlaw06.PlaneNear", spec := "planeNear", unfollowed := true, recurses := true, apart := false, narrowed := true }
def PlaneNearUptoSaid : Prop := planeNearUptoRow.holds Try.pinned (OpenSpec.upto planeNearSpec)

/-- 'haulierlaw06.PlaneSame', WHERE WHAT IT READS IS OF BULK AT MOST 1048576: true; the input reads as it did. -/
def planeSameUptoRow : OpenClaim := { program := "ytjiammiihamkiaa", sum := "79fb0c7f0c7a9837f9d14e49ac78187369c615a980e289ca9eb8533ef0356c09", func := "haulier/haulierlaw06.PlaneSame", spec := "planeSame", unfollowed := true, recurses := true, apart := false, narrowed := true }
def PlaneSameUptoSaid : Prop := planeSameUptoRow.holds Try.pinned (OpenSpec.upto planeSameSpec)

/-- 'haulierlaw11.RelaxWays', WHERE WHAT IT READS IS OF BULK AT MOST 1048576: true; the input reads as it did. -/
def relaxWaysUptoRow : OpenClaim := { program := "ytjiammiihamkiaa", sum := "79fb0c7f0c7a9837f9d14e49ac78187369c615a980e289ca9eb8533ef0356c09", func := "haulier/haulierlaw11.RelaxWays", spec := "relaxWays", unfollowed := true, recurses := true, apart := false, narrowed := true }
def RelaxWaysUptoSaid : Prop := relaxWaysUptoRow.holds Try.pinned (OpenSpec.upto relaxWaysSpec)

/-- 'haulierlaw11.RelaxMoves', WHERE WHAT IT READS IS OF BULK AT MOST 1048576: true; the input reads as it did. -/
def relaxMovesUptoRow : OpenClaim := { program := "ytjiammiihamkiaa", sum := "79fb0c7f0c7a9837f9d14e49ac78187369c615a980e289ca9eb8533ef0356c09", func := "haulier/haulierlaw11.RelaxMoves", spec := "relaxMoves", unfollowed := true, recurses := true, apart := false, narrowed := true }
def RelaxMovesUptoSaid : Prop := relaxMovesUptoRow.holds Try.pinned (OpenSpec.upto relaxMovesSpec)

/-- 'haulierlaw13.BetterWays', WHERE WHAT IT READS IS OF BULK AT MOST 1048576: true; the input reads as it did. -/
def betterWaysUptoRow : OpenClaim := { program := "ytjiammiihamkiaa", sum := "79fb0c7f0c7a9837f9d14e49ac78187369c615a980e289ca9eb8533ef0356c09", func := "haulier/haulierlaw13.BetterWays", spec := "betterWays", unfollowed := true, recurses := true, apart := false, narrowed := true }
def BetterWaysUptoSaid : Prop := betterWaysUptoRow.holds Try.pinned (OpenSpec.upto betterWaysSpec)

/-- 'haulierlaw07.SchedOne', WHERE WHAT IT READS IS OF BULK AT MOST 1048576: true; the input reads as it did. -/
def schedOneUptoRow : OpenClaim := { program := "ytjiammiihamkiaa", sum := "79fb0c7f0c7a9837f9d14e49ac78187369c615a980e289ca9eb8533ef0356c09", func := "haulier/haulierlaw07.SchedOne", spec := "schedOne", unfollowed := true, recurses := true, apart := false, narrowed := true }
def SchedOneUptoSaid : Prop := schedOneUptoRow.holds Try.pinned (OpenSpec.upto schedOneSpec)

end Rows
end Go.Proofs.Ytjiammiihamkiaa
