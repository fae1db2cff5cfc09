/-
  DERIVED. GIVEN WITH THE SEED: THE CARDS: each row of YtifekgemngfidaaDoorRows.lean that lists a variable, with what it lists TIED to the program's text (the seventh form; the later family's looks); each row that meets fmt, with fmt's text TOLD by the authors' own Lean function (tested against real Go, not proved from fmt's source: count such statements apart). THE CARD IS WHAT COUNTS. Prove the row's statement (the work); the ties are given (YtifekgemngfidaaDoorTie.lean); close each card by the builder's one call (the guide's Derived/Test/ToyasCard.lean, 'card_holds'). Laid BY PROGRAM, IN A SANDBOX (cutbox-door.mjs). By AI agents, Wed Nov 11 2026. No macro, syntax, notation, axiom, sorry.
-/
import Derived.Test.YtifekgemngfidaaDoorRows
import GoSem.ClaimSeven
namespace Go.Proofs.YtifekgemngfidaaDoor
namespace Rows

/-- THE TIED CARD OF 'haulierlaw05.InstParses'. -/
def instParsesCard : Claim7 := { stood := { row := instParsesRow, standIns := [], harness := (true, "9aa56a9bdf9f54a9e06d029167f63b2d79dc8ecc0faa419d8e125da2cd30f732"), looks := false }, kinds := [], alts := [], laidByText := true, laidKinds := [.data, .data, .data], laidTests := true, laidLooks := .later }
def InstParsesCardSaid : Prop := Claim7.holds Tryd.pinned (.plain (OpenSpec.ofChange instParsesSpec)) instParsesCard

/-- THE TIED CARD OF 'haulierlaw05.InstBounds'. -/
def instBoundsCard : Claim7 := { stood := { row := instBoundsRow, standIns := [], harness := (true, "9aa56a9bdf9f54a9e06d029167f63b2d79dc8ecc0faa419d8e125da2cd30f732"), looks := false }, kinds := [], alts := [], laidByText := true, laidKinds := [.data, .data, .data], laidTests := true, laidLooks := .later }
def InstBoundsCardSaid : Prop := Claim7.holds Tryd.pinned (.plain (OpenSpec.ofChange instBoundsSpec)) instBoundsCard

/-- THE TIED CARD OF 'haulierlaw05.InstPrints'. -/
def instPrintsCard : Claim7 := { stood := { row := instPrintsRow, standIns := [], harness := (true, "9aa56a9bdf9f54a9e06d029167f63b2d79dc8ecc0faa419d8e125da2cd30f732"), looks := false }, kinds := [], alts := [], laidByText := true, laidKinds := [.data, .data, .data], laidTests := true, laidLooks := .later }
def InstPrintsCardSaid : Prop := Claim7.holds Tryd.pinned (.plain (OpenSpec.ofChange instPrintsSpec)) instPrintsCard

/-- THE TIED CARD OF 'haulierlaw05.InstBack'. -/
def instBackCard : Claim7 := { stood := { row := instBackRow, standIns := [], harness := (true, "9aa56a9bdf9f54a9e06d029167f63b2d79dc8ecc0faa419d8e125da2cd30f732"), looks := false }, kinds := [], alts := [], laidByText := true, laidKinds := [.data, .data, .data], laidTests := true, laidLooks := .later }
def InstBackCardSaid : Prop := Claim7.holds Tryd.pinned (.plain (OpenSpec.ofChange instBackSpec)) instBackCard

/-- THE TIED CARD OF 'haulierlaw05.InstAgain'. -/
def instAgainCard : Claim7 := { stood := { row := instAgainRow, standIns := [], harness := (true, "9aa56a9bdf9f54a9e06d029167f63b2d79dc8ecc0faa419d8e125da2cd30f732"), looks := false }, kinds := [], alts := [], laidByText := true, laidKinds := [.data, .data, .data], laidTests := true, laidLooks := .later }
def InstAgainCardSaid : Prop := Claim7.holds Tryd.pinned (.plain (OpenSpec.ofChange instAgainSpec)) instAgainCard

/-- THE TIED CARD OF 'haulierlaw05.InstSame'. -/
def instSameCard : Claim7 := { stood := { row := instSameRow, standIns := [], harness := (true, "9aa56a9bdf9f54a9e06d029167f63b2d79dc8ecc0faa419d8e125da2cd30f732"), looks := false }, kinds := [], alts := [], laidByText := true, laidKinds := [.data, .data, .data], laidTests := true, laidLooks := .later }
def InstSameCardSaid : Prop := Claim7.holds Tryd.pinned (.plain (OpenSpec.ofChange instSameSpec)) instSameCard

/-- THE SECOND FORM's CARD OF 'haulierlaw05.InstParses'. -/
def instParsesUptoCard : Claim7 := { stood := { row := instParsesUptoRow, standIns := [], harness := (true, "9aa56a9bdf9f54a9e06d029167f63b2d79dc8ecc0faa419d8e125da2cd30f732"), looks := false }, kinds := [], alts := [], laidByText := true, laidKinds := [.data, .data, .data], laidTests := true, laidLooks := .later }
def InstParsesUptoCardSaid : Prop := Claim7.holds Tryd.pinned (.plain (OpenSpec.upto instParsesSpec)) instParsesUptoCard

/-- THE SECOND FORM's CARD OF 'haulierlaw05.InstBounds'. -/
def instBoundsUptoCard : Claim7 := { stood := { row := instBoundsUptoRow, standIns := [], harness := (true, "9aa56a9bdf9f54a9e06d029167f63b2d79dc8ecc0faa419d8e125da2cd30f732"), looks := false }, kinds := [], alts := [], laidByText := true, laidKinds := [.data, .data, .data], laidTests := true, laidLooks := .later }
def InstBoundsUptoCardSaid : Prop := Claim7.holds Tryd.pinned (.plain (OpenSpec.upto instBoundsSpec)) instBoundsUptoCard

/-- THE SECOND FORM's CARD OF 'haulierlaw05.InstPrints'. -/
def instPrintsUptoCard : Claim7 := { stood := { row := instPrintsUptoRow, standIns := [], harness := (true, "9aa56a9bdf9f54a9e06d029167f63b2d79dc8ecc0faa419d8e125da2cd30f732"), looks := false }, kinds := [], alts := [], laidByText := true, laidKinds := [.data, .data, .data], laidTests := true, laidLooks := .later }
def InstPrintsUptoCardSaid : Prop := Claim7.holds Tryd.pinned (.plain (OpenSpec.upto instPrintsSpec)) instPrintsUptoCard

/-- THE SECOND FORM's CARD OF 'haulierlaw05.InstBack'. -/
def instBackUptoCard : Claim7 := { stood := { row := instBackUptoRow, standIns := [], harness := (true, "9aa56a9bdf9f54a9e06d029167f63b2d79dc8ecc0faa419d8e125da2cd30f732"), looks := false }, kinds := [], alts := [], laidByText := true, laidKinds := [.data, .data, .data], laidTests := true, laidLooks := .later }
def InstBackUptoCardSaid : Prop := Claim7.holds Tryd.pinned (.plain (OpenSpec.upto instBackSpec)) instBackUptoCard

/-- THE SECOND FORM's CARD OF 'haulierlaw05.InstAgain'. -/
def instAgainUptoCard : Claim7 := { stood := { row := instAgainUptoRow, standIns := [], harness := (true, "9aa56a9bdf9f54a9e06d029167f63b2d79dc8ecc0faa419d8e125da2cd30f732"), looks := false }, kinds := [], alts := [], laidByText := true, laidKinds := [.data, .data, .data], laidTests := true, laidLooks := .later }
def InstAgainUptoCardSaid : Prop := Claim7.holds Tryd.pinned (.plain (OpenSpec.upto instAgainSpec)) instAgainUptoCard

/-- THE SECOND FORM's CARD OF 'haulierlaw05.InstSame'. -/
def instSameUptoCard : Claim7 := { stood := { row := instSameUptoRow, standIns := [], harness := (true, "9aa56a9bdf9f54a9e06d029167f63b2d79dc8ecc0faa419d8e125da2cd30f732"), looks := false }, kinds := [], alts := [], laidByText := true, laidKinds := [.data, .data, .data], laidTests := true, laidLooks := .later }
def InstSameUptoCardSaid : Prop := Claim7.holds Tryd.pinned (.plain (OpenSpec.upto instSameSpec)) instSameUptoCard
end Rows
end Go.Proofs.YtifekgemngfidaaDoor
