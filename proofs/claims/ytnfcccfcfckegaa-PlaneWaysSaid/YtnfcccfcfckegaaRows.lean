/-
  No cell of these rows narrows 'for every input' (looked for: loops, veiled, ifaces, maps, wideKeys, modest, calm, conditions, laid).
  DERIVED. THE GIVEN ROWS OF THIS SEAT. 10 by the template 'for every input the law returns true; each argument reads behind the call as it read before'; 0 by the template 'total and deterministic' (their statements: YtnfcccfcfckegaaTotals.lean).
  GIVEN WITH THE SEED: the statements are not yours to turn. If you find one false, say at which input.
  Laid BY PROGRAM, IN A SANDBOX (cutbox-rows.mjs): the forced cells as the released guide's own fill.sh prints them over the translation f3eea26806cb6f8f… (all of the seat's roots in one cut). By AI agents, Wed Nov 11 2026. No macro, syntax, notation, axiom, sorry.
-/
import Derived.Test.YtnfcccfcfckegaaChecked
import GoSem.Claim
import GoSem.ClaimJoined
import GoSem.ClaimMapViews
import Derived.JoinedTies
import Derived.KernelRfl
namespace Go.Proofs.Ytnfcccfcfckegaa
/- THE CELL 'sum', in the pinned program and in every row, IS THE sha256 OF THE DUMP (.gsa) THAT YtnfcccfcfckegaaProg.lean LOADS. Nothing in Lean hashes anything: it is a label: what it is worth is what the hold of that sum in a sandbox is worth. -/
noncomputable def Try.pinned : Pinned := { name := "ytnfcccfcfckegaa", sum := "f3eea26806cb6f8fc7cc4f2b3980b0ef673a6485e18975351abc8040bdd2e5d7", checked := Try.checked }
namespace Rows
def none {H : Type} : Left H := { results := [], args := [] }

/-- 'haulierlaw01.NumSums': WHATEVER THE INPUT: true; the input reads as it did. -/
def numSumsSpec : ChangeSpec := { name := "numSums", fn := fun _ => fun
  | [d1, d2] => { results := [.lit (.bool true)], args := [d1, d2] }
  | _ => none }
def numSumsRow : OpenClaim := { program := "ytnfcccfcfckegaa", sum := "f3eea26806cb6f8fc7cc4f2b3980b0ef673a6485e18975351abc8040bdd2e5d7", func := "haulier/haulierlaw01.NumSums", spec := "numSums", apart := false }
def NumSumsSaid : Prop := numSumsRow.holds Try.pinned (OpenSpec.ofChange numSumsSpec)

/-- ITS FALSE NEIGHBOUR: 'it returns false'. Refute it at one input. -/
def numSumsWrong : ChangeSpec := { name := "numSums", fn := fun _ => fun
  | [d1, d2] => { results := [.lit (.bool false)], args := [d1, d2] }
  | _ => none }
def NumSumsWrongFalsely : Prop := numSumsRow.holds Try.pinned (OpenSpec.ofChange numSumsWrong)

/-- 'haulierlaw01.NumRoot': WHATEVER THE INPUT: true; the input reads as it did. -/
def numRootSpec : ChangeSpec := { name := "numRoot", fn := fun _ => fun
  | [d] => { results := [.lit (.bool true)], args := [d] }
  | _ => none }
def numRootRow : OpenClaim := { program := "ytnfcccfcfckegaa", sum := "f3eea26806cb6f8fc7cc4f2b3980b0ef673a6485e18975351abc8040bdd2e5d7", func := "haulier/haulierlaw01.NumRoot", spec := "numRoot", apart := false }
def NumRootSaid : Prop := numRootRow.holds Try.pinned (OpenSpec.ofChange numRootSpec)

/-- ITS FALSE NEIGHBOUR: 'it returns false'. Refute it at one input. -/
def numRootWrong : ChangeSpec := { name := "numRoot", fn := fun _ => fun
  | [d] => { results := [.lit (.bool false)], args := [d] }
  | _ => none }
def NumRootWrongFalsely : Prop := numRootRow.holds Try.pinned (OpenSpec.ofChange numRootWrong)

/-- 'haulierlaw01.NumRises': WHATEVER THE INPUT: true; the input reads as it did. -/
def numRisesSpec : ChangeSpec := { name := "numRises", fn := fun _ => fun
  | [d1, d2, d3] => { results := [.lit (.bool true)], args := [d1, d2, d3] }
  | _ => none }
def numRisesRow : OpenClaim := { program := "ytnfcccfcfckegaa", sum := "f3eea26806cb6f8fc7cc4f2b3980b0ef673a6485e18975351abc8040bdd2e5d7", func := "haulier/haulierlaw01.NumRises", spec := "numRises", apart := false }
def NumRisesSaid : Prop := numRisesRow.holds Try.pinned (OpenSpec.ofChange numRisesSpec)

/-- ITS FALSE NEIGHBOUR: 'it returns false'. Refute it at one input. -/
def numRisesWrong : ChangeSpec := { name := "numRises", fn := fun _ => fun
  | [d1, d2, d3] => { results := [.lit (.bool false)], args := [d1, d2, d3] }
  | _ => none }
def NumRisesWrongFalsely : Prop := numRisesRow.holds Try.pinned (OpenSpec.ofChange numRisesWrong)

/-- 'haulierlaw01.NumSquares': WHATEVER THE INPUT: true; the input reads as it did. -/
def numSquaresSpec : ChangeSpec := { name := "numSquares", fn := fun _ => fun
  | [d1, d2] => { results := [.lit (.bool true)], args := [d1, d2] }
  | _ => none }
def numSquaresRow : OpenClaim := { program := "ytnfcccfcfckegaa", sum := "f3eea26806cb6f8fc7cc4f2b3980b0ef673a6485e18975351abc8040bdd2e5d7", func := "haulier/haulierlaw01.NumSquares", spec := "numSquares", apart := false }
def NumSquaresSaid : Prop := numSquaresRow.holds Try.pinned (OpenSpec.ofChange numSquaresSpec)

/-- ITS FALSE NEIGHBOUR: 'it returns false'. Refute it at one input. -/
def numSquaresWrong : ChangeSpec := { name := "numSquares", fn := fun _ => fun
  | [d1, d2] => { results := [.lit (.bool false)], args := [d1, d2] }
  | _ => none }
def NumSquaresWrongFalsely : Prop := numSquaresRow.holds Try.pinned (OpenSpec.ofChange numSquaresWrong)

/-- 'haulierlaw01.NumSigns': WHATEVER THE INPUT: true; the input reads as it did. -/
def numSignsSpec : ChangeSpec := { name := "numSigns", fn := fun _ => fun
  | [d1, d2] => { results := [.lit (.bool true)], args := [d1, d2] }
  | _ => none }
def numSignsRow : OpenClaim := { program := "ytnfcccfcfckegaa", sum := "f3eea26806cb6f8fc7cc4f2b3980b0ef673a6485e18975351abc8040bdd2e5d7", func := "haulier/haulierlaw01.NumSigns", spec := "numSigns", apart := false }
def NumSignsSaid : Prop := numSignsRow.holds Try.pinned (OpenSpec.ofChange numSignsSpec)

/-- ITS FALSE NEIGHBOUR: 'it returns false'. Refute it at one input. -/
def numSignsWrong : ChangeSpec := { name := "numSigns", fn := fun _ => fun
  | [d1, d2] => { results := [.lit (.bool false)], args := [d1, d2] }
  | _ => none }
def NumSignsWrongFalsely : Prop := numSignsRow.holds Try.pinned (OpenSpec.ofChange numSignsWrong)

/-- 'haulierlaw01.NumAdds': WHATEVER THE INPUT: true; the input reads as it did. -/
def numAddsSpec : ChangeSpec := { name := "numAdds", fn := fun _ => fun
  | [d1, d2] => { results := [.lit (.bool true)], args := [d1, d2] }
  | _ => none }
def numAddsRow : OpenClaim := { program := "ytnfcccfcfckegaa", sum := "f3eea26806cb6f8fc7cc4f2b3980b0ef673a6485e18975351abc8040bdd2e5d7", func := "haulier/haulierlaw01.NumAdds", spec := "numAdds", apart := false }
def NumAddsSaid : Prop := numAddsRow.holds Try.pinned (OpenSpec.ofChange numAddsSpec)

/-- ITS FALSE NEIGHBOUR: 'it returns false'. Refute it at one input. -/
def numAddsWrong : ChangeSpec := { name := "numAdds", fn := fun _ => fun
  | [d1, d2] => { results := [.lit (.bool false)], args := [d1, d2] }
  | _ => none }
def NumAddsWrongFalsely : Prop := numAddsRow.holds Try.pinned (OpenSpec.ofChange numAddsWrong)

/-- 'haulierlaw01.NumBack': WHATEVER THE INPUT: true; the input reads as it did. -/
def numBackSpec : ChangeSpec := { name := "numBack", fn := fun _ => fun
  | [d1, d2] => { results := [.lit (.bool true)], args := [d1, d2] }
  | _ => none }
def numBackRow : OpenClaim := { program := "ytnfcccfcfckegaa", sum := "f3eea26806cb6f8fc7cc4f2b3980b0ef673a6485e18975351abc8040bdd2e5d7", func := "haulier/haulierlaw01.NumBack", spec := "numBack", apart := false }
def NumBackSaid : Prop := numBackRow.holds Try.pinned (OpenSpec.ofChange numBackSpec)

/-- ITS FALSE NEIGHBOUR: 'it returns false'. Refute it at one input. -/
def numBackWrong : ChangeSpec := { name := "numBack", fn := fun _ => fun
  | [d1, d2] => { results := [.lit (.bool false)], args := [d1, d2] }
  | _ => none }
def NumBackWrongFalsely : Prop := numBackRow.holds Try.pinned (OpenSpec.ofChange numBackWrong)

/-- 'haulierlaw01.NumOver': WHATEVER THE INPUT: true; the input reads as it did. -/
def numOverSpec : ChangeSpec := { name := "numOver", fn := fun _ => fun
  | [d] => { results := [.lit (.bool true)], args := [d] }
  | _ => none }
def numOverRow : OpenClaim := { program := "ytnfcccfcfckegaa", sum := "f3eea26806cb6f8fc7cc4f2b3980b0ef673a6485e18975351abc8040bdd2e5d7", func := "haulier/haulierlaw01.NumOver", spec := "numOver", apart := false }
def NumOverSaid : Prop := numOverRow.holds Try.pinned (OpenSpec.ofChange numOverSpec)

/-- ITS FALSE NEIGHBOUR: 'it returns false'. Refute it at one input. -/
def numOverWrong : ChangeSpec := { name := "numOver", fn := fun _ => fun
  | [d] => { results := [.lit (.bool false)], args := [d] }
  | _ => none }
def NumOverWrongFalsely : Prop := numOverRow.holds Try.pinned (OpenSpec.ofChange numOverWrong)

/-- 'haulierlaw06.PlaneWays': WHATEVER THE INPUT: true; the input reads as it did. -/
def planeWaysSpec : ChangeSpec := { name := "planeWays", fn := fun _ => fun
  | [d1, d2, d3] => { results := [.lit (.bool true)], args := [d1, d2, d3] }
  | _ => none }
def planeWaysRow : OpenClaim := { program := "ytnfcccfcfckegaa", sum := "f3eea26806cb6f8fc7cc4f2b3980b0ef673a6485e18975351abc8040bdd2e5d7", func := "haulier/haulierlaw06.PlaneWays", spec := "planeWays", unfollowed := true, recurses := true, apart := false }
def PlaneWaysSaid : Prop := planeWaysRow.holds Try.pinned (OpenSpec.ofChange planeWaysSpec)

/-- ITS FALSE NEIGHBOUR: 'it returns false'. Refute it at one input. -/
def planeWaysWrong : ChangeSpec := { name := "planeWays", fn := fun _ => fun
  | [d1, d2, d3] => { results := [.lit (.bool false)], args := [d1, d2, d3] }
  | _ => none }
def PlaneWaysWrongFalsely : Prop := planeWaysRow.holds Try.pinned (OpenSpec.ofChange planeWaysWrong)

/-- 'haulierlaw06.PlaneMoves': WHATEVER THE INPUT: true; the input reads as it did. -/
def planeMovesSpec : ChangeSpec := { name := "planeMoves", fn := fun _ => fun
  | [d1, d2, d3, d4] => { results := [.lit (.bool true)], args := [d1, d2, d3, d4] }
  | _ => none }
def planeMovesRow : OpenClaim := { program := "ytnfcccfcfckegaa", sum := "f3eea26806cb6f8fc7cc4f2b3980b0ef673a6485e18975351abc8040bdd2e5d7", func := "haulier/haulierlaw06.PlaneMoves", spec := "planeMoves", unfollowed := true, recurses := true, apart := false }
def PlaneMovesSaid : Prop := planeMovesRow.holds Try.pinned (OpenSpec.ofChange planeMovesSpec)

/-- ITS FALSE NEIGHBOUR: 'it returns false'. Refute it at one input. -/
def planeMovesWrong : ChangeSpec := { name := "planeMoves", fn := fun _ => fun
  | [d1, d2, d3, d4] => { results := [.lit (.bool false)], args := [d1, d2, d3, d4] }
  | _ => none }
def PlaneMovesWrongFalsely : Prop := planeMovesRow.holds Try.pinned (OpenSpec.ofChange planeMovesWrong)

/- THE SECOND FORM. 'bulk': how many values and letters a reading holds, each counted each time it is reached (what is shared counts as often as it is met; a slice's spare places count too). A statement '..UptoSaid' is the law's where the arguments, and the package variables that the reading takes, are together of bulk at most 1048576: NARROWER than '..Said'. Prove '..Said' where nothing that the law and all that it calls make is longer than what came in: it says more and counts as full. Else prove '..UptoSaid'. A law counts once. -/
mutual
def uptoBulk {H : Type} : DataW H → Nat
  | .lit (.string bytes) => bytes.length + 1
  | .lit _ => 1
  | .nil => 1
  | .ptr d => uptoBulk d + 1
  | .slice elems spare => uptoBulkAll elems + uptoBulkAll spare + 1
  | .agg parts => uptoBulkAll parts + 1
  | .iface _ d => uptoBulk d + 1
  | .map entries => uptoBulkEntries entries + 1
  | .held _ => 1
def uptoBulkAll {H : Type} : List (DataW H) → Nat
  | [] => 0
  | d :: r => uptoBulk d + uptoBulkAll r
def uptoBulkEntries {H : Type} : List (Lit × DataW H) → Nat
  | [] => 0
  | x :: r => uptoBulkEntry x + uptoBulkEntries r
def uptoBulkEntry {H : Type} : Lit × DataW H → Nat
  | (.string bytes, d) => bytes.length + uptoBulk d + 1
  | (_, d) => uptoBulk d + 1
 end
def uptoSmall : (H : Type) → List (DataW H) → Bool := fun _ ds => decide (uptoBulkAll ds ≤ 1048576)
def OpenSpec.upto (s : _root_.Go.ChangeSpec) : _root_.Go.OpenSpec := { _root_.Go.OpenSpec.ofChange s with cond := some uptoSmall }

/-- 'haulierlaw01.NumSums', WHERE WHAT IT READS IS OF BULK AT MOST 1048576: true; the input reads as it did. -/
def numSumsUptoRow : OpenClaim := { program := "ytnfcccfcfckegaa", sum := "f3eea26806cb6f8fc7cc4f2b3980b0ef673a6485e18975351abc8040bdd2e5d7", func := "haulier/haulierlaw01.NumSums", spec := "numSums", apart := false, narrowed := true }
def NumSumsUptoSaid : Prop := numSumsUptoRow.holds Try.pinned (OpenSpec.upto numSumsSpec)

/-- 'haulierlaw01.NumRoot', WHERE WHAT IT READS IS OF BULK AT MOST 1048576: true; the input reads as it did. -/
def numRootUptoRow : OpenClaim := { program := "ytnfcccfcfckegaa", sum := "f3eea26806cb6f8fc7cc4f2b3980b0ef673a6485e18975351abc8040bdd2e5d7", func := "haulier/haulierlaw01.NumRoot", spec := "numRoot", apart := false, narrowed := true }
def NumRootUptoSaid : Prop := numRootUptoRow.holds Try.pinned (OpenSpec.upto numRootSpec)

/-- 'haulierlaw01.NumRises', WHERE WHAT IT READS IS OF BULK AT MOST 1048576: true; the input reads as it did. -/
def numRisesUptoRow : OpenClaim := { program := "ytnfcccfcfckegaa", sum := "f3eea26806cb6f8fc7cc4f2b3980b0ef673a6485e18975351abc8040bdd2e5d7", func := "haulier/haulierlaw01.NumRises", spec := "numRises", apart := false, narrowed := true }
def NumRisesUptoSaid : Prop := numRisesUptoRow.holds Try.pinned (OpenSpec.upto numRisesSpec)

/-- 'haulierlaw01.NumSquares', WHERE WHAT IT READS IS OF BULK AT MOST 1048576: true; the input reads as it did. -/
def numSquaresUptoRow : OpenClaim := { program := "ytnfcccfcfckegaa", sum := "f3eea26806cb6f8fc7cc4f2b3980b0ef673a6485e18975351abc8040bdd2e5d7", func := "haulier/haulierlaw01.NumSquares", spec := "numSquares", apart := false, narrowed := true }
def NumSquaresUptoSaid : Prop := numSquaresUptoRow.holds Try.pinned (OpenSpec.upto numSquaresSpec)

/-- 'haulierlaw01.NumSigns', WHERE WHAT IT READS IS OF BULK AT MOST 1048576: true; the input reads as it did. -/
def numSignsUptoRow : OpenClaim := { program := "ytnfcccfcfckegaa", sum := "f3eea26806cb6f8fc7cc4f2b3980b0ef673a6485e18975351abc8040bdd2e5d7", func := "haulier/haulierlaw01.NumSigns", spec := "numSigns", apart := false, narrowed := true }
def NumSignsUptoSaid : Prop := numSignsUptoRow.holds Try.pinned (OpenSpec.upto numSignsSpec)

/-- 'haulierlaw01.NumAdds', WHERE WHAT IT READS IS OF BULK AT MOST 1048576: true; the input reads as it did. -/
def numAddsUptoRow : OpenClaim := { program := "ytnfcccfcfckegaa", sum := "f3eea26806cb6f8fc7cc4f2b3980b0ef673a6485e18975351abc8040bdd2e5d7", func := "haulier/haulierlaw01.NumAdds", spec := "numAdds", apart := false, narrowed := true }
def NumAddsUptoSaid : Prop := numAddsUptoRow.holds Try.pinned (OpenSpec.upto numAddsSpec)

/-- 'haulierlaw01.NumBack', WHERE WHAT IT READS IS OF BULK AT MOST 1048576: true; the input reads as it did. -/
def numBackUptoRow : OpenClaim := { program := "ytnfcccfcfckegaa", sum := "f3eea26806cb6f8fc7cc4f2b3980b0ef673a6485e18975351abc8040bdd2e5d7", func := "haulier/haulierlaw01.NumBack", spec := "numBack", apart := false, narrowed := true }
def NumBackUptoSaid : Prop := numBackUptoRow.holds Try.pinned (OpenSpec.upto numBackSpec)

/-- 'haulierlaw01.NumOver', WHERE WHAT IT READS IS OF BULK AT MOST 1048576: true; the input reads as it did. -/
def numOverUptoRow : OpenClaim := { program := "ytnfcccfcfckegaa", sum := "f3eea26806cb6f8fc7cc4f2b3980b0ef673a6485e18975351abc8040bdd2e5d7", func := "haulier/haulierlaw01.NumOver", spec := "numOver", apart := false, narrowed := true }
def NumOverUptoSaid : Prop := numOverUptoRow.holds Try.pinned (OpenSpec.upto numOverSpec)

/-- 'haulierlaw06.PlaneWays', WHERE WHAT IT READS IS OF BULK AT MOST 1048576: true; the input reads as it did. -/
def planeWaysUptoRow : OpenClaim := { program := "ytnfcccfcfckegaa", sum := "f3eea26806cb6f8fc7cc4f2b3980b0ef673a6485e18975351abc8040bdd2e5d7", func := "haulier/haulierlaw06.PlaneWays", spec := "planeWays", unfollowed := true, recurses := true, apart := false, narrowed := true }
def PlaneWaysUptoSaid : Prop := planeWaysUptoRow.holds Try.pinned (OpenSpec.upto planeWaysSpec)

/-- 'haulierlaw06.PlaneMoves', WHERE WHAT IT READS IS OF BULK AT MOST 1048576: true; the input reads as it did. -/
def planeMovesUptoRow : OpenClaim := { program := "ytnfcccfcfckegaa", sum := "f3eea26806cb6f8fc7cc4f2b3980b0ef673a6485e18975351abc8040bdd2e5d7", func := "haulier/haulierlaw06.PlaneMoves", spec := "planeMoves", unfollowed := true, recurses := true, apart := false, narrowed := true }
def PlaneMovesUptoSaid : Prop := planeMovesUptoRow.holds Try.pinned (OpenSpec.upto planeMovesSpec)

end Rows
end Go.Proofs.Ytnfcccfcfckegaa
