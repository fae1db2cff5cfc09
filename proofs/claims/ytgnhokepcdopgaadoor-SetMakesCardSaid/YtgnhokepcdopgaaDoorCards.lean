/-
  DERIVED. GIVEN WITH THE SEED: THE CARDS: each row of YtgnhokepcdopgaaDoorRows.lean that lists a variable, with what it lists TIED to the program's text (the seventh form; the later family's looks); each row that meets fmt, with fmt's text TOLD by the authors' own Lean function (tested against real Go, not proved from fmt's source: count such statements apart). THE CARD IS WHAT COUNTS. Prove the row's statement (the work); the ties are given (YtgnhokepcdopgaaDoorTie.lean); close each card by the builder's one call (the guide's Derived/Test/ToyasCard.lean, 'card_holds'). Laid BY PROGRAM, IN A SANDBOX (cutbox-door.mjs). By AI agents, Wed Nov 11 2026. No macro, syntax, notation, axiom, sorry.
-/
import Derived.Test.YtgnhokepcdopgaaDoorRows
import GoSem.ClaimSeven
namespace Go.Proofs.YtgnhokepcdopgaaDoor
namespace Rows

/-- THE TIED CARD OF 'haulierlaw02.SetShifts'. -/
def setShiftsCard : Claim7 := { stood := { row := setShiftsRow, standIns := [], harness := (true, "73ae128c4475d2a879b4792598d4f753882c8ba6b7bf918ac8220fcd33615fbf"), looks := false }, kinds := [], alts := [], laidByText := true, laidKinds := [.data], laidTests := true, laidLooks := .later }
def SetShiftsCardSaid : Prop := Claim7.holds Tryd.pinned (.plain (OpenSpec.ofChange setShiftsSpec)) setShiftsCard

/-- THE TIED CARD OF 'haulierlaw02.SetUpto'. -/
def setUptoCard : Claim7 := { stood := { row := setUptoRow, standIns := [], harness := (true, "73ae128c4475d2a879b4792598d4f753882c8ba6b7bf918ac8220fcd33615fbf"), looks := false }, kinds := [], alts := [], laidByText := true, laidKinds := [.data], laidTests := true, laidLooks := .later }
def SetUptoCardSaid : Prop := Claim7.holds Tryd.pinned (.plain (OpenSpec.ofChange setUptoSpec)) setUptoCard

/-- THE TIED CARD OF 'haulierlaw02.SetOrder'. -/
def setOrderCard : Claim7 := { stood := { row := setOrderRow, standIns := [], harness := (true, "73ae128c4475d2a879b4792598d4f753882c8ba6b7bf918ac8220fcd33615fbf"), looks := false }, kinds := [], alts := [], laidByText := true, laidKinds := [.data], laidTests := true, laidLooks := .later }
def SetOrderCardSaid : Prop := Claim7.holds Tryd.pinned (.plain (OpenSpec.ofChange setOrderSpec)) setOrderCard

/-- THE TIED CARD OF 'haulierlaw02.SetLaws'. -/
def setLawsCard : Claim7 := { stood := { row := setLawsRow, standIns := [], harness := (true, "73ae128c4475d2a879b4792598d4f753882c8ba6b7bf918ac8220fcd33615fbf"), looks := false }, kinds := [], alts := [], laidByText := true, laidKinds := [.data], laidTests := true, laidLooks := .later }
def SetLawsCardSaid : Prop := Claim7.holds Tryd.pinned (.plain (OpenSpec.ofChange setLawsSpec)) setLawsCard

/-- THE TIED CARD OF 'haulierlaw02.SetMakes'. -/
def setMakesCard : Claim7 := { stood := { row := setMakesRow, standIns := [], harness := (true, "73ae128c4475d2a879b4792598d4f753882c8ba6b7bf918ac8220fcd33615fbf"), looks := false }, kinds := [], alts := [], laidByText := true, laidKinds := [.data], laidTests := true, laidLooks := .later }
def SetMakesCardSaid : Prop := Claim7.holds Tryd.pinned (.plain (OpenSpec.ofChange setMakesSpec)) setMakesCard

/-- THE TIED CARD OF 'haulierlaw02.SetBack'. -/
def setBackCard : Claim7 := { stood := { row := setBackRow, standIns := [], harness := (true, "73ae128c4475d2a879b4792598d4f753882c8ba6b7bf918ac8220fcd33615fbf"), looks := false }, kinds := [], alts := [], laidByText := true, laidKinds := [.data], laidTests := true, laidLooks := .later }
def SetBackCardSaid : Prop := Claim7.holds Tryd.pinned (.plain (OpenSpec.ofChange setBackSpec)) setBackCard

/-- THE TIED CARD OF 'haulierlaw02.SetOf'. -/
def setOfCard : Claim7 := { stood := { row := setOfRow, standIns := [], harness := (true, "73ae128c4475d2a879b4792598d4f753882c8ba6b7bf918ac8220fcd33615fbf"), looks := false }, kinds := [], alts := [], laidByText := true, laidKinds := [.data], laidTests := true, laidLooks := .later }
def SetOfCardSaid : Prop := Claim7.holds Tryd.pinned (.plain (OpenSpec.ofChange setOfSpec)) setOfCard

/-- THE TIED CARD OF 'haulierlaw02.SetTells'. -/
def setTellsCard : Claim7 := { stood := { row := setTellsRow, standIns := [], harness := (true, "73ae128c4475d2a879b4792598d4f753882c8ba6b7bf918ac8220fcd33615fbf"), looks := false }, kinds := [], alts := [], laidByText := true, laidKinds := [.data], laidTests := true, laidLooks := .later }
def SetTellsCardSaid : Prop := Claim7.holds Tryd.pinned (.plain (OpenSpec.ofChange setTellsSpec)) setTellsCard

/-- THE SECOND FORM's CARD OF 'haulierlaw02.SetShifts'. -/
def setShiftsUptoCard : Claim7 := { stood := { row := setShiftsUptoRow, standIns := [], harness := (true, "73ae128c4475d2a879b4792598d4f753882c8ba6b7bf918ac8220fcd33615fbf"), looks := false }, kinds := [], alts := [], laidByText := true, laidKinds := [.data], laidTests := true, laidLooks := .later }
def SetShiftsUptoCardSaid : Prop := Claim7.holds Tryd.pinned (.plain (OpenSpec.upto setShiftsSpec)) setShiftsUptoCard

/-- THE SECOND FORM's CARD OF 'haulierlaw02.SetUpto'. -/
def setUptoUptoCard : Claim7 := { stood := { row := setUptoUptoRow, standIns := [], harness := (true, "73ae128c4475d2a879b4792598d4f753882c8ba6b7bf918ac8220fcd33615fbf"), looks := false }, kinds := [], alts := [], laidByText := true, laidKinds := [.data], laidTests := true, laidLooks := .later }
def SetUptoUptoCardSaid : Prop := Claim7.holds Tryd.pinned (.plain (OpenSpec.upto setUptoSpec)) setUptoUptoCard

/-- THE SECOND FORM's CARD OF 'haulierlaw02.SetOrder'. -/
def setOrderUptoCard : Claim7 := { stood := { row := setOrderUptoRow, standIns := [], harness := (true, "73ae128c4475d2a879b4792598d4f753882c8ba6b7bf918ac8220fcd33615fbf"), looks := false }, kinds := [], alts := [], laidByText := true, laidKinds := [.data], laidTests := true, laidLooks := .later }
def SetOrderUptoCardSaid : Prop := Claim7.holds Tryd.pinned (.plain (OpenSpec.upto setOrderSpec)) setOrderUptoCard

/-- THE SECOND FORM's CARD OF 'haulierlaw02.SetLaws'. -/
def setLawsUptoCard : Claim7 := { stood := { row := setLawsUptoRow, standIns := [], harness := (true, "73ae128c4475d2a879b4792598d4f753882c8ba6b7bf918ac8220fcd33615fbf"), looks := false }, kinds := [], alts := [], laidByText := true, laidKinds := [.data], laidTests := true, laidLooks := .later }
def SetLawsUptoCardSaid : Prop := Claim7.holds Tryd.pinned (.plain (OpenSpec.upto setLawsSpec)) setLawsUptoCard

/-- THE SECOND FORM's CARD OF 'haulierlaw02.SetMakes'. -/
def setMakesUptoCard : Claim7 := { stood := { row := setMakesUptoRow, standIns := [], harness := (true, "73ae128c4475d2a879b4792598d4f753882c8ba6b7bf918ac8220fcd33615fbf"), looks := false }, kinds := [], alts := [], laidByText := true, laidKinds := [.data], laidTests := true, laidLooks := .later }
def SetMakesUptoCardSaid : Prop := Claim7.holds Tryd.pinned (.plain (OpenSpec.upto setMakesSpec)) setMakesUptoCard

/-- THE SECOND FORM's CARD OF 'haulierlaw02.SetBack'. -/
def setBackUptoCard : Claim7 := { stood := { row := setBackUptoRow, standIns := [], harness := (true, "73ae128c4475d2a879b4792598d4f753882c8ba6b7bf918ac8220fcd33615fbf"), looks := false }, kinds := [], alts := [], laidByText := true, laidKinds := [.data], laidTests := true, laidLooks := .later }
def SetBackUptoCardSaid : Prop := Claim7.holds Tryd.pinned (.plain (OpenSpec.upto setBackSpec)) setBackUptoCard

/-- THE SECOND FORM's CARD OF 'haulierlaw02.SetOf'. -/
def setOfUptoCard : Claim7 := { stood := { row := setOfUptoRow, standIns := [], harness := (true, "73ae128c4475d2a879b4792598d4f753882c8ba6b7bf918ac8220fcd33615fbf"), looks := false }, kinds := [], alts := [], laidByText := true, laidKinds := [.data], laidTests := true, laidLooks := .later }
def SetOfUptoCardSaid : Prop := Claim7.holds Tryd.pinned (.plain (OpenSpec.upto setOfSpec)) setOfUptoCard

/-- THE SECOND FORM's CARD OF 'haulierlaw02.SetTells'. -/
def setTellsUptoCard : Claim7 := { stood := { row := setTellsUptoRow, standIns := [], harness := (true, "73ae128c4475d2a879b4792598d4f753882c8ba6b7bf918ac8220fcd33615fbf"), looks := false }, kinds := [], alts := [], laidByText := true, laidKinds := [.data], laidTests := true, laidLooks := .later }
def SetTellsUptoCardSaid : Prop := Claim7.holds Tryd.pinned (.plain (OpenSpec.upto setTellsSpec)) setTellsUptoCard
end Rows
end Go.Proofs.YtgnhokepcdopgaaDoor
