/-
  NARROWER THAN 'FOR EVERY INPUT', by the rows' own cells (each row's printed sentence says how): SetShifts: laid · SetUpto: laid · SetOrder: laid · SetLaws: laid · SetMakes: laid · SetBack: laid · SetOf: laid · SetTells: laid.
  DERIVED. THE GIVEN ROWS OF THIS SEAT. 8 by the template 'for every input the law returns true; each argument reads behind the call as it read before'; 0 by the template 'total and deterministic' (their statements: YtgnhokepcdopgaaDoorTotals.lean).
  GIVEN WITH THE SEED: the statements are not yours to turn. If you find one false, say at which input.
  Laid BY PROGRAM, IN A SANDBOX (cutbox-rows.mjs): the forced cells as the released guide's own fill.sh prints them over the translation 66ab37189773d7a7… (all of the seat's roots in one cut). By AI agents, Wed Nov 11 2026. No macro, syntax, notation, axiom, sorry.
-/
import Derived.Test.YtgnhokepcdopgaaDoorChecked
import GoSem.Claim
import GoSem.ClaimJoined
import GoSem.ClaimMapViews
import Derived.JoinedTies
import Derived.KernelRfl
namespace Go.Proofs.YtgnhokepcdopgaaDoor
/- THE CELL 'sum', in the pinned program and in every row, IS THE sha256 OF THE DUMP (.gsa) THAT YtgnhokepcdopgaaDoorProg.lean LOADS. Nothing in Lean hashes anything: it is a label: what it is worth is what the hold of that sum in a sandbox is worth. -/
noncomputable def Tryd.pinned : Pinned := { name := "ytgnhokepcdopgaadoor", sum := "66ab37189773d7a7005cec3b216f6384468b07b75df588afbb001c6fa2fe31e6", checked := Tryd.checked }
namespace Rows
def none {H : Type} : Left H := { results := [], args := [] }

/- WHAT THE LISTED PACKAGE-LEVEL VARIABLES READ AS WHEN THE CALL BEGINS. Each datum BY PROGRAM (the guide's laid-datum.mjs) off the statement by which the dump's own 'gosem.cut.vars' lays the variable. In a bare row this is a premise. The card (YtgnhokepcdopgaaDoorCards.lean) ties it to the program's text. -/
def laid_math_bits_deBruijn64tab {H : Type} : DataW H := .agg [.lit (.int .u8 0), .lit (.int .u8 1), .lit (.int .u8 56), .lit (.int .u8 2), .lit (.int .u8 57), .lit (.int .u8 49), .lit (.int .u8 28), .lit (.int .u8 3), .lit (.int .u8 61), .lit (.int .u8 58), .lit (.int .u8 42), .lit (.int .u8 50), .lit (.int .u8 38), .lit (.int .u8 29), .lit (.int .u8 17), .lit (.int .u8 4), .lit (.int .u8 62), .lit (.int .u8 47), .lit (.int .u8 59), .lit (.int .u8 36), .lit (.int .u8 45), .lit (.int .u8 43), .lit (.int .u8 51), .lit (.int .u8 22), .lit (.int .u8 53), .lit (.int .u8 39), .lit (.int .u8 33), .lit (.int .u8 30), .lit (.int .u8 24), .lit (.int .u8 18), .lit (.int .u8 12), .lit (.int .u8 5), .lit (.int .u8 63), .lit (.int .u8 55), .lit (.int .u8 48), .lit (.int .u8 27), .lit (.int .u8 60), .lit (.int .u8 41), .lit (.int .u8 37), .lit (.int .u8 16), .lit (.int .u8 46), .lit (.int .u8 35), .lit (.int .u8 44), .lit (.int .u8 21), .lit (.int .u8 52), .lit (.int .u8 32), .lit (.int .u8 23), .lit (.int .u8 11), .lit (.int .u8 54), .lit (.int .u8 26), .lit (.int .u8 40), .lit (.int .u8 15), .lit (.int .u8 34), .lit (.int .u8 20), .lit (.int .u8 31), .lit (.int .u8 10), .lit (.int .u8 25), .lit (.int .u8 14), .lit (.int .u8 19), .lit (.int .u8 9), .lit (.int .u8 13), .lit (.int .u8 8), .lit (.int .u8 7), .lit (.int .u8 6)]

/-- 'haulierlaw02.SetShifts': WHATEVER THE INPUT: true; the input reads as it did. -/
def setShiftsSpec : ChangeSpec := { name := "setShifts", fn := fun _ => fun
  | [d1, d2, d3] => { results := [.lit (.bool true)], args := [d1, d2, d3] }
  | _ => none }
def setShiftsRow : OpenClaim := { program := "ytgnhokepcdopgaadoor", sum := "66ab37189773d7a7005cec3b216f6384468b07b75df588afbb001c6fa2fe31e6", func := "haulier/haulierlaw02.SetShifts", spec := "setShifts", unfollowed := true, recurses := true, named := ["math/bits.deBruijn64tab"], apart := false, laid := [("math/bits.deBruijn64tab", laid_math_bits_deBruijn64tab)] }
def SetShiftsSaid : Prop := setShiftsRow.holds Tryd.pinned (OpenSpec.ofChange setShiftsSpec)

/-- ITS FALSE NEIGHBOUR: 'it returns false'. Refute it at one input. -/
def setShiftsWrong : ChangeSpec := { name := "setShifts", fn := fun _ => fun
  | [d1, d2, d3] => { results := [.lit (.bool false)], args := [d1, d2, d3] }
  | _ => none }
def SetShiftsWrongFalsely : Prop := setShiftsRow.holds Tryd.pinned (OpenSpec.ofChange setShiftsWrong)

/-- 'haulierlaw02.SetUpto': WHATEVER THE INPUT: true; the input reads as it did. -/
def setUptoSpec : ChangeSpec := { name := "setUpto", fn := fun _ => fun
  | [d1, d2] => { results := [.lit (.bool true)], args := [d1, d2] }
  | _ => none }
def setUptoRow : OpenClaim := { program := "ytgnhokepcdopgaadoor", sum := "66ab37189773d7a7005cec3b216f6384468b07b75df588afbb001c6fa2fe31e6", func := "haulier/haulierlaw02.SetUpto", spec := "setUpto", unfollowed := true, recurses := true, named := ["math/bits.deBruijn64tab"], apart := false, laid := [("math/bits.deBruijn64tab", laid_math_bits_deBruijn64tab)] }
def SetUptoSaid : Prop := setUptoRow.holds Tryd.pinned (OpenSpec.ofChange setUptoSpec)

/-- ITS FALSE NEIGHBOUR: 'it returns false'. Refute it at one input. -/
def setUptoWrong : ChangeSpec := { name := "setUpto", fn := fun _ => fun
  | [d1, d2] => { results := [.lit (.bool false)], args := [d1, d2] }
  | _ => none }
def SetUptoWrongFalsely : Prop := setUptoRow.holds Tryd.pinned (OpenSpec.ofChange setUptoWrong)

/-- 'haulierlaw02.SetOrder': WHATEVER THE INPUT: true; the input reads as it did. -/
def setOrderSpec : ChangeSpec := { name := "setOrder", fn := fun _ => fun
  | [d1, d2, d3] => { results := [.lit (.bool true)], args := [d1, d2, d3] }
  | _ => none }
def setOrderRow : OpenClaim := { program := "ytgnhokepcdopgaadoor", sum := "66ab37189773d7a7005cec3b216f6384468b07b75df588afbb001c6fa2fe31e6", func := "haulier/haulierlaw02.SetOrder", spec := "setOrder", unfollowed := true, recurses := true, named := ["math/bits.deBruijn64tab"], apart := false, laid := [("math/bits.deBruijn64tab", laid_math_bits_deBruijn64tab)] }
def SetOrderSaid : Prop := setOrderRow.holds Tryd.pinned (OpenSpec.ofChange setOrderSpec)

/-- ITS FALSE NEIGHBOUR: 'it returns false'. Refute it at one input. -/
def setOrderWrong : ChangeSpec := { name := "setOrder", fn := fun _ => fun
  | [d1, d2, d3] => { results := [.lit (.bool false)], args := [d1, d2, d3] }
  | _ => none }
def SetOrderWrongFalsely : Prop := setOrderRow.holds Tryd.pinned (OpenSpec.ofChange setOrderWrong)

/-- 'haulierlaw02.SetLaws': WHATEVER THE INPUT: true; the input reads as it did. -/
def setLawsSpec : ChangeSpec := { name := "setLaws", fn := fun _ => fun
  | [d1, d2, d3] => { results := [.lit (.bool true)], args := [d1, d2, d3] }
  | _ => none }
def setLawsRow : OpenClaim := { program := "ytgnhokepcdopgaadoor", sum := "66ab37189773d7a7005cec3b216f6384468b07b75df588afbb001c6fa2fe31e6", func := "haulier/haulierlaw02.SetLaws", spec := "setLaws", unfollowed := true, recurses := true, named := ["math/bits.deBruijn64tab"], apart := false, laid := [("math/bits.deBruijn64tab", laid_math_bits_deBruijn64tab)] }
def SetLawsSaid : Prop := setLawsRow.holds Tryd.pinned (OpenSpec.ofChange setLawsSpec)

/-- ITS FALSE NEIGHBOUR: 'it returns false'. Refute it at one input. -/
def setLawsWrong : ChangeSpec := { name := "setLaws", fn := fun _ => fun
  | [d1, d2, d3] => { results := [.lit (.bool false)], args := [d1, d2, d3] }
  | _ => none }
def SetLawsWrongFalsely : Prop := setLawsRow.holds Tryd.pinned (OpenSpec.ofChange setLawsWrong)

/-- 'haulierlaw02.SetMakes': WHATEVER THE INPUT: true; the input reads as it did. -/
def setMakesSpec : ChangeSpec := { name := "setMakes", fn := fun _ => fun
  | [d1, d2, d3] => { results := [.lit (.bool true)], args := [d1, d2, d3] }
  | _ => none }
def setMakesRow : OpenClaim := { program := "ytgnhokepcdopgaadoor", sum := "66ab37189773d7a7005cec3b216f6384468b07b75df588afbb001c6fa2fe31e6", func := "haulier/haulierlaw02.SetMakes", spec := "setMakes", unfollowed := true, recurses := true, named := ["math/bits.deBruijn64tab"], apart := false, laid := [("math/bits.deBruijn64tab", laid_math_bits_deBruijn64tab)] }
def SetMakesSaid : Prop := setMakesRow.holds Tryd.pinned (OpenSpec.ofChange setMakesSpec)

/-- ITS FALSE NEIGHBOUR: 'it returns false'. Refute it at one input. -/
def setMakesWrong : ChangeSpec := { name := "setMakes", fn := fun _ => fun
  | [d1, d2, d3] => { results := [.lit (.bool false)], args := [d1, d2, d3] }
  | _ => none }
def SetMakesWrongFalsely : Prop := setMakesRow.holds Tryd.pinned (OpenSpec.ofChange setMakesWrong)

/-- 'haulierlaw02.SetBack': WHATEVER THE INPUT: true; the input reads as it did. -/
def setBackSpec : ChangeSpec := { name := "setBack", fn := fun _ => fun
  | [d1, d2, d3] => { results := [.lit (.bool true)], args := [d1, d2, d3] }
  | _ => none }
def setBackRow : OpenClaim := { program := "ytgnhokepcdopgaadoor", sum := "66ab37189773d7a7005cec3b216f6384468b07b75df588afbb001c6fa2fe31e6", func := "haulier/haulierlaw02.SetBack", spec := "setBack", unfollowed := true, recurses := true, named := ["math/bits.deBruijn64tab"], apart := false, laid := [("math/bits.deBruijn64tab", laid_math_bits_deBruijn64tab)] }
def SetBackSaid : Prop := setBackRow.holds Tryd.pinned (OpenSpec.ofChange setBackSpec)

/-- ITS FALSE NEIGHBOUR: 'it returns false'. Refute it at one input. -/
def setBackWrong : ChangeSpec := { name := "setBack", fn := fun _ => fun
  | [d1, d2, d3] => { results := [.lit (.bool false)], args := [d1, d2, d3] }
  | _ => none }
def SetBackWrongFalsely : Prop := setBackRow.holds Tryd.pinned (OpenSpec.ofChange setBackWrong)

/-- 'haulierlaw02.SetOf': WHATEVER THE INPUT: true; the input reads as it did. -/
def setOfSpec : ChangeSpec := { name := "setOf", fn := fun _ => fun
  | [d] => { results := [.lit (.bool true)], args := [d] }
  | _ => none }
def setOfRow : OpenClaim := { program := "ytgnhokepcdopgaadoor", sum := "66ab37189773d7a7005cec3b216f6384468b07b75df588afbb001c6fa2fe31e6", func := "haulier/haulierlaw02.SetOf", spec := "setOf", unfollowed := true, recurses := true, named := ["math/bits.deBruijn64tab"], apart := false, laid := [("math/bits.deBruijn64tab", laid_math_bits_deBruijn64tab)] }
def SetOfSaid : Prop := setOfRow.holds Tryd.pinned (OpenSpec.ofChange setOfSpec)

/-- ITS FALSE NEIGHBOUR: 'it returns false'. Refute it at one input. -/
def setOfWrong : ChangeSpec := { name := "setOf", fn := fun _ => fun
  | [d] => { results := [.lit (.bool false)], args := [d] }
  | _ => none }
def SetOfWrongFalsely : Prop := setOfRow.holds Tryd.pinned (OpenSpec.ofChange setOfWrong)

/-- 'haulierlaw02.SetTells': WHATEVER THE INPUT: true; the input reads as it did. -/
def setTellsSpec : ChangeSpec := { name := "setTells", fn := fun _ => fun
  | [d1, d2, d3] => { results := [.lit (.bool true)], args := [d1, d2, d3] }
  | _ => none }
def setTellsRow : OpenClaim := { program := "ytgnhokepcdopgaadoor", sum := "66ab37189773d7a7005cec3b216f6384468b07b75df588afbb001c6fa2fe31e6", func := "haulier/haulierlaw02.SetTells", spec := "setTells", unfollowed := true, recurses := true, named := ["math/bits.deBruijn64tab"], apart := false, laid := [("math/bits.deBruijn64tab", laid_math_bits_deBruijn64tab)] }
def SetTellsSaid : Prop := setTellsRow.holds Tryd.pinned (OpenSpec.ofChange setTellsSpec)

/-- ITS FALSE NEIGHBOUR: 'it returns false'. Refute it at one input. -/
def setTellsWrong : ChangeSpec := { name := "setTells", fn := fun _ => fun
  | [d1, d2, d3] => { results := [.lit (.bool false)], args := [d1, d2, d3] }
  | _ => none }
def SetTellsWrongFalsely : Prop := setTellsRow.holds Tryd.pinned (OpenSpec.ofChange setTellsWrong)

/- THE SECOND FORM. 'bulk': how many values and letters a reading holds, each counted each time it is reached (what is shared counts as often as it is met; a slice's spare places count too). A statement '..UptoSaid' is the law's where the arguments, and the package variables that the reading takes, are together of bulk at most 1048576: NARROWER than '..Said'. Prove '..Said' where nothing that the law and all that it calls make is longer than what came in: it says more and counts as full. Else prove '..UptoSaid'. A law counts once. -/
mutual
def uptoBulk {H : Type} : DataW H → Nat
  | .lit (.string bytes) => bytes.length + 1
  | .lit _ => 1
  | .nil => 1
  | .ptr d => uptoBulk d + 1
  | .slice elems spare => uptoBulkAll elems + uptoBulkAll spare + 1
  | .agg parts => uptoBulkAll parts + 1
  | .iface _ d => uptoBulk d + 1
  | .map entries => uptoBulkEntries entries + 1
  | .held _ => 1
def uptoBulkAll {H : Type} : List (DataW H) → Nat
  | [] => 0
  | d :: r => uptoBulk d + uptoBulkAll r
def uptoBulkEntries {H : Type} : List (Lit × DataW H) → Nat
  | [] => 0
  | x :: r => uptoBulkEntry x + uptoBulkEntries r
def uptoBulkEntry {H : Type} : Lit × DataW H → Nat
  | (.string bytes, d) => bytes.length + uptoBulk d + 1
  | (_, d) => uptoBulk d + 1
 end
def uptoSmall : (H : Type) → List (DataW H) → Bool := fun _ ds => decide (uptoBulkAll ds ≤ 1048576)
def OpenSpec.upto (s : _root_.Go.ChangeSpec) : _root_.Go.OpenSpec := { _root_.Go.OpenSpec.ofChange s with cond := some uptoSmall }

/-- 'haulierlaw02.SetShifts', WHERE WHAT IT READS IS OF BULK AT MOST 1048576: true; the input reads as it did. -/
def setShiftsUptoRow : OpenClaim := { program := "ytgnhokepcdopgaadoor", sum := "66ab37189773d7a7005cec3b216f6384468b07b75df588afbb001c6fa2fe31e6", func := "haulier/haulierlaw02.SetShifts", spec := "setShifts", unfollowed := true, recurses := true, named := ["math/bits.deBruijn64tab"], apart := false, laid := [("math/bits.deBruijn64tab", laid_math_bits_deBruijn64tab)], narrowed := true }
def SetShiftsUptoSaid : Prop := setShiftsUptoRow.holds Tryd.pinned (OpenSpec.upto setShiftsSpec)

/-- 'haulierlaw02.SetUpto', WHERE WHAT IT READS IS OF BULK AT MOST 1048576: true; the input reads as it did. -/
def setUptoUptoRow : OpenClaim := { program := "ytgnhokepcdopgaadoor", sum := "66ab37189773d7a7005cec3b216f6384468b07b75df588afbb001c6fa2fe31e6", func := "haulier/haulierlaw02.SetUpto", spec := "setUpto", unfollowed := true, recurses := true, named := ["math/bits.deBruijn64tab"], apart := false, laid := [("math/bits.deBruijn64tab", laid_math_bits_deBruijn64tab)], narrowed := true }
def SetUptoUptoSaid : Prop := setUptoUptoRow.holds Tryd.pinned (OpenSpec.upto setUptoSpec)

/-- 'haulierlaw02.SetOrder', WHERE WHAT IT READS IS OF BULK AT MOST 1048576: true; the input reads as it did. -/
def setOrderUptoRow : OpenClaim := { program := "ytgnhokepcdopgaadoor", sum := "66ab37189773d7a7005cec3b216f6384468b07b75df588afbb001c6fa2fe31e6", func := "haulier/haulierlaw02.SetOrder", spec := "setOrder", unfollowed := true, recurses := true, named := ["math/bits.deBruijn64tab"], apart := false, laid := [("math/bits.deBruijn64tab", laid_math_bits_deBruijn64tab)], narrowed := true }
def SetOrderUptoSaid : Prop := setOrderUptoRow.holds Tryd.pinned (OpenSpec.upto setOrderSpec)

/-- 'haulierlaw02.SetLaws', WHERE WHAT IT READS IS OF BULK AT MOST 1048576: true; the input reads as it did. -/
def setLawsUptoRow : OpenClaim := { program := "ytgnhokepcdopgaadoor", sum := "66ab37189773d7a7005cec3b216f6384468b07b75df588afbb001c6fa2fe31e6", func := "haulier/haulierlaw02.SetLaws", spec := "setLaws", unfollowed := true, recurses := true, named := ["math/bits.deBruijn64tab"], apart := false, laid := [("math/bits.deBruijn64tab", laid_math_bits_deBruijn64tab)], narrowed := true }
def SetLawsUptoSaid : Prop := setLawsUptoRow.holds Tryd.pinned (OpenSpec.upto setLawsSpec)

/-- 'haulierlaw02.SetMakes', WHERE WHAT IT READS IS OF BULK AT MOST 1048576: true; the input reads as it did. -/
def setMakesUptoRow : OpenClaim := { program := "ytgnhokepcdopgaadoor", sum := "66ab37189773d7a7005cec3b216f6384468b07b75df588afbb001c6fa2fe31e6", func := "haulier/haulierlaw02.SetMakes", spec := "setMakes", unfollowed := true, recurses := true, named := ["math/bits.deBruijn64tab"], apart := false, laid := [("math/bits.deBruijn64tab", laid_math_bits_deBruijn64tab)], narrowed := true }
def SetMakesUptoSaid : Prop := setMakesUptoRow.holds Tryd.pinned (OpenSpec.upto setMakesSpec)

/-- 'haulierlaw02.SetBack', WHERE WHAT IT READS IS OF BULK AT MOST 1048576: true; the input reads as it did. -/
def setBackUptoRow : OpenClaim := { program := "ytgnhokepcdopgaadoor", sum := "66ab37189773d7a7005cec3b216f6384468b07b75df588afbb001c6fa2fe31e6", func := "haulier/haulierlaw02.SetBack", spec := "setBack", unfollowed := true, recurses := true, named := ["math/bits.deBruijn64tab"], apart := false, laid := [("math/bits.deBruijn64tab", laid_math_bits_deBruijn64tab)], narrowed := true }
def SetBackUptoSaid : Prop := setBackUptoRow.holds Tryd.pinned (OpenSpec.upto setBackSpec)

/-- 'haulierlaw02.SetOf', WHERE WHAT IT READS IS OF BULK AT MOST 1048576: true; the input reads as it did. -/
def setOfUptoRow : OpenClaim := { program := "ytgnhokepcdopgaadoor", sum := "66ab37189773d7a7005cec3b216f6384468b07b75df588afbb001c6fa2fe31e6", func := "haulier/haulierlaw02.SetOf", spec := "setOf", unfollowed := true, recurses := true, named := ["math/bits.deBruijn64tab"], apart := false, laid := [("math/bits.deBruijn64tab", laid_math_bits_deBruijn64tab)], narrowed := true }
def SetOfUptoSaid : Prop := setOfUptoRow.holds Tryd.pinned (OpenSpec.upto setOfSpec)

/-- 'haulierlaw02.SetTells', WHERE WHAT IT READS IS OF BULK AT MOST 1048576: true; the input reads as it did. -/
def setTellsUptoRow : OpenClaim := { program := "ytgnhokepcdopgaadoor", sum := "66ab37189773d7a7005cec3b216f6384468b07b75df588afbb001c6fa2fe31e6", func := "haulier/haulierlaw02.SetTells", spec := "setTells", unfollowed := true, recurses := true, named := ["math/bits.deBruijn64tab"], apart := false, laid := [("math/bits.deBruijn64tab", laid_math_bits_deBruijn64tab)], narrowed := true }
def SetTellsUptoSaid : Prop := setTellsUptoRow.holds Tryd.pinned (OpenSpec.upto setTellsSpec)

end Rows
end Go.Proofs.YtgnhokepcdopgaaDoor
