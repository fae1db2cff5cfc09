/-
  DERIVED. GIVEN WITH THE SEED: THE CARDS: each row of YtdmlohoicgfdnaaDoorRows.lean that lists a variable, with what it lists TIED to the program's text (the seventh form; the later family's looks); each row that meets fmt, with fmt's text TOLD by the authors' own Lean function (tested against real Go, not proved from fmt's source: count such statements apart). THE CARD IS WHAT COUNTS. Prove the row's statement (the work); the ties are given (YtdmlohoicgfdnaaDoorTie.lean); close each card by the builder's one call (the guide's Derived/Test/ToyasCard.lean, 'card_holds'). Laid BY PROGRAM, IN A SANDBOX (cutbox-door.mjs). By AI agents, Wed Nov 11 2026. No macro, syntax, notation, axiom, sorry.
-/
import Derived.Test.YtdmlohoicgfdnaaDoorRows
import GoSem.ClaimSeven
namespace Go.Proofs.YtdmlohoicgfdnaaDoor
namespace Rows

/-- THE TIED CARD OF 'haulierlaw04.ScanPrints'. -/
def scanPrintsCard : Claim7 := { stood := { row := scanPrintsRow, standIns := [], harness := (true, "ded108eec8d173166ee9ddca32630ca5395a77063a3abb951ce57a9b817b249f"), looks := false }, kinds := [], alts := [], laidByText := true, laidKinds := [.data, .data, .data], laidTests := true, laidLooks := .later }
def ScanPrintsCardSaid : Prop := Claim7.holds Tryd.pinned (.plain (OpenSpec.ofChange scanPrintsSpec)) scanPrintsCard

/-- THE TIED CARD OF 'haulierlaw04.ScanBack'. -/
def scanBackCard : Claim7 := { stood := { row := scanBackRow, standIns := [], harness := (true, "ded108eec8d173166ee9ddca32630ca5395a77063a3abb951ce57a9b817b249f"), looks := false }, kinds := [], alts := [], laidByText := true, laidKinds := [.data, .data, .data], laidTests := true, laidLooks := .later }
def ScanBackCardSaid : Prop := Claim7.holds Tryd.pinned (.plain (OpenSpec.ofChange scanBackSpec)) scanBackCard

/-- THE TIED CARD OF 'haulierlaw04.ScanAgain'. -/
def scanAgainCard : Claim7 := { stood := { row := scanAgainRow, standIns := [], harness := (true, "ded108eec8d173166ee9ddca32630ca5395a77063a3abb951ce57a9b817b249f"), looks := false }, kinds := [], alts := [], laidByText := true, laidKinds := [.data, .data, .data], laidTests := true, laidLooks := .later }
def ScanAgainCardSaid : Prop := Claim7.holds Tryd.pinned (.plain (OpenSpec.ofChange scanAgainSpec)) scanAgainCard

/-- THE TIED CARD OF 'haulierlaw04.ScanNumber'. -/
def scanNumberCard : Claim7 := { stood := { row := scanNumberRow, standIns := [], harness := (true, "ded108eec8d173166ee9ddca32630ca5395a77063a3abb951ce57a9b817b249f"), looks := false }, kinds := [], alts := [], laidByText := true, laidKinds := [.data, .data, .data], laidTests := true, laidLooks := .later }
def ScanNumberCardSaid : Prop := Claim7.holds Tryd.pinned (.plain (OpenSpec.ofChange scanNumberSpec)) scanNumberCard

/-- THE TIED CARD OF 'haulierlaw18.OptsPrints'. -/
def optsPrintsCard : Claim7 := { stood := { row := optsPrintsRow, standIns := [], harness := (true, "ded108eec8d173166ee9ddca32630ca5395a77063a3abb951ce57a9b817b249f"), looks := false }, kinds := [], alts := [], laidByText := true, laidKinds := [.data, .data, .data], laidTests := true, laidLooks := .later }
def OptsPrintsCardSaid : Prop := Claim7.holds Tryd.pinned (.plain (OpenSpec.ofChange optsPrintsSpec)) optsPrintsCard

/-- THE SECOND FORM's CARD OF 'haulierlaw04.ScanPrints'. -/
def scanPrintsUptoCard : Claim7 := { stood := { row := scanPrintsUptoRow, standIns := [], harness := (true, "ded108eec8d173166ee9ddca32630ca5395a77063a3abb951ce57a9b817b249f"), looks := false }, kinds := [], alts := [], laidByText := true, laidKinds := [.data, .data, .data], laidTests := true, laidLooks := .later }
def ScanPrintsUptoCardSaid : Prop := Claim7.holds Tryd.pinned (.plain (OpenSpec.upto scanPrintsSpec)) scanPrintsUptoCard

/-- THE SECOND FORM's CARD OF 'haulierlaw04.ScanBack'. -/
def scanBackUptoCard : Claim7 := { stood := { row := scanBackUptoRow, standIns := [], harness := (true, "ded108eec8d173166ee9ddca32630ca5395a77063a3abb951ce57a9b817b249f"), looks := false }, kinds := [], alts := [], laidByText := true, laidKinds := [.data, .data, .data], laidTests := true, laidLooks := .later }
def ScanBackUptoCardSaid : Prop := Claim7.holds Tryd.pinned (.plain (OpenSpec.upto scanBackSpec)) scanBackUptoCard

/-- THE SECOND FORM's CARD OF 'haulierlaw04.ScanAgain'. -/
def scanAgainUptoCard : Claim7 := { stood := { row := scanAgainUptoRow, standIns := [], harness := (true, "ded108eec8d173166ee9ddca32630ca5395a77063a3abb951ce57a9b817b249f"), looks := false }, kinds := [], alts := [], laidByText := true, laidKinds := [.data, .data, .data], laidTests := true, laidLooks := .later }
def ScanAgainUptoCardSaid : Prop := Claim7.holds Tryd.pinned (.plain (OpenSpec.upto scanAgainSpec)) scanAgainUptoCard

/-- THE SECOND FORM's CARD OF 'haulierlaw04.ScanNumber'. -/
def scanNumberUptoCard : Claim7 := { stood := { row := scanNumberUptoRow, standIns := [], harness := (true, "ded108eec8d173166ee9ddca32630ca5395a77063a3abb951ce57a9b817b249f"), looks := false }, kinds := [], alts := [], laidByText := true, laidKinds := [.data, .data, .data], laidTests := true, laidLooks := .later }
def ScanNumberUptoCardSaid : Prop := Claim7.holds Tryd.pinned (.plain (OpenSpec.upto scanNumberSpec)) scanNumberUptoCard

/-- THE SECOND FORM's CARD OF 'haulierlaw18.OptsPrints'. -/
def optsPrintsUptoCard : Claim7 := { stood := { row := optsPrintsUptoRow, standIns := [], harness := (true, "ded108eec8d173166ee9ddca32630ca5395a77063a3abb951ce57a9b817b249f"), looks := false }, kinds := [], alts := [], laidByText := true, laidKinds := [.data, .data, .data], laidTests := true, laidLooks := .later }
def OptsPrintsUptoCardSaid : Prop := Claim7.holds Tryd.pinned (.plain (OpenSpec.upto optsPrintsSpec)) optsPrintsUptoCard
end Rows
end Go.Proofs.YtdmlohoicgfdnaaDoor
