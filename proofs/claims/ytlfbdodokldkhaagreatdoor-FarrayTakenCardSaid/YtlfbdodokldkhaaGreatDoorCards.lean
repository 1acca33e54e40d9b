/-
  DERIVED. GIVEN WITH THE SEED: THE CARDS: each row of YtlfbdodokldkhaaGreatDoorRows.lean that lists a variable, with what it lists TIED to the program's text (the seventh form; the later family's looks); each row that meets fmt, with fmt's text TOLD by the authors' own Lean function (tested against real Go, not proved from fmt's source: count such statements apart). THE CARD IS WHAT COUNTS. Prove the row's statement (the work); the ties are given (YtlfbdodokldkhaaGreatDoorTie.lean); close each card by the builder's one call (the guide's Derived/Test/ToyasCard.lean, 'card_holds'). Laid BY PROGRAM, IN A SANDBOX (cutbox-door.mjs). By AI agents, Wed Nov 11 2026. No macro, syntax, notation, axiom, sorry.
-/
import Derived.Test.YtlfbdodokldkhaaGreatDoorRows
import GoSem.ClaimSeven
namespace Go.Proofs.YtlfbdodokldkhaaGreatDoor
namespace Rows

/-- THE TIED CARD OF 'counterpanelaw15.FarrayShapes'. -/
def farrayShapesCard : Claim7 := { stood := { row := farrayShapesRow, standIns := [], harness := (true, "0dec8425b789d9f7fc6c3b85610c4dc55a2bb73a874ea70ba44aa4b3572b0cd4"), looks := false }, kinds := [], alts := [], laidByText := true, laidKinds := [.data, .data, .data], laidTests := true, laidLooks := .later }
def FarrayShapesCardSaid : Prop := Claim7.holds Tryz.pinned (.plain (OpenSpec.ofChange farrayShapesSpec)) farrayShapesCard

/-- THE TIED CARD OF 'counterpanelaw15.FarrayParts'. -/
def farrayPartsCard : Claim7 := { stood := { row := farrayPartsRow, standIns := [], harness := (true, "0dec8425b789d9f7fc6c3b85610c4dc55a2bb73a874ea70ba44aa4b3572b0cd4"), looks := false }, kinds := [], alts := [], laidByText := true, laidKinds := [.data, .data, .data], laidTests := true, laidLooks := .later }
def FarrayPartsCardSaid : Prop := Claim7.holds Tryz.pinned (.plain (OpenSpec.ofChange farrayPartsSpec)) farrayPartsCard

/-- THE TIED CARD OF 'counterpanelaw15.FarraySequence'. -/
def farraySequenceCard : Claim7 := { stood := { row := farraySequenceRow, standIns := [], harness := (true, "0dec8425b789d9f7fc6c3b85610c4dc55a2bb73a874ea70ba44aa4b3572b0cd4"), looks := false }, kinds := [], alts := [], laidByText := true, laidKinds := [.data, .data, .data], laidTests := true, laidLooks := .later }
def FarraySequenceCardSaid : Prop := Claim7.holds Tryz.pinned (.plain (OpenSpec.ofChange farraySequenceSpec)) farraySequenceCard

/-- THE TIED CARD OF 'counterpanelaw15.FarrayFilter'. -/
def farrayFilterCard : Claim7 := { stood := { row := farrayFilterRow, standIns := [], harness := (true, "0dec8425b789d9f7fc6c3b85610c4dc55a2bb73a874ea70ba44aa4b3572b0cd4"), looks := false }, kinds := [], alts := [], laidByText := true, laidKinds := [.data, .data, .data], laidTests := true, laidLooks := .later }
def FarrayFilterCardSaid : Prop := Claim7.holds Tryz.pinned (.plain (OpenSpec.ofChange farrayFilterSpec)) farrayFilterCard

/-- THE TIED CARD OF 'counterpanelaw15.FarrayProduct'. -/
def farrayProductCard : Claim7 := { stood := { row := farrayProductRow, standIns := [], harness := (true, "0dec8425b789d9f7fc6c3b85610c4dc55a2bb73a874ea70ba44aa4b3572b0cd4"), looks := false }, kinds := [], alts := [], laidByText := true, laidKinds := [.data, .data, .data], laidTests := true, laidLooks := .later }
def FarrayProductCardSaid : Prop := Claim7.holds Tryz.pinned (.plain (OpenSpec.ofChange farrayProductSpec)) farrayProductCard

/-- THE TIED CARD OF 'counterpanelaw15.FarrayTaken'. -/
def farrayTakenCard : Claim7 := { stood := { row := farrayTakenRow, standIns := [], harness := (true, "0dec8425b789d9f7fc6c3b85610c4dc55a2bb73a874ea70ba44aa4b3572b0cd4"), looks := false }, kinds := [], alts := [], laidByText := true, laidKinds := [.data, .data, .data], laidTests := true, laidLooks := .later }
def FarrayTakenCardSaid : Prop := Claim7.holds Tryz.pinned (.plain (OpenSpec.ofChange farrayTakenSpec)) farrayTakenCard

/-- THE TIED CARD OF 'counterpanelaw15.FarrayMasks'. -/
def farrayMasksCard : Claim7 := { stood := { row := farrayMasksRow, standIns := [], harness := (true, "0dec8425b789d9f7fc6c3b85610c4dc55a2bb73a874ea70ba44aa4b3572b0cd4"), looks := false }, kinds := [], alts := [], laidByText := true, laidKinds := [.data, .data, .data], laidTests := true, laidLooks := .later }
def FarrayMasksCardSaid : Prop := Claim7.holds Tryz.pinned (.plain (OpenSpec.ofChange farrayMasksSpec)) farrayMasksCard

/-- THE TIED CARD OF 'counterpanelaw15.FarrayUnit'. -/
def farrayUnitCard : Claim7 := { stood := { row := farrayUnitRow, standIns := [], harness := (true, "0dec8425b789d9f7fc6c3b85610c4dc55a2bb73a874ea70ba44aa4b3572b0cd4"), looks := false }, kinds := [], alts := [], laidByText := true, laidKinds := [.data, .data, .data], laidTests := true, laidLooks := .later }
def FarrayUnitCardSaid : Prop := Claim7.holds Tryz.pinned (.plain (OpenSpec.ofChange farrayUnitSpec)) farrayUnitCard

/-- THE SECOND FORM's CARD OF 'counterpanelaw15.FarrayShapes'. -/
def farrayShapesUptoCard : Claim7 := { stood := { row := farrayShapesUptoRow, standIns := [], harness := (true, "0dec8425b789d9f7fc6c3b85610c4dc55a2bb73a874ea70ba44aa4b3572b0cd4"), looks := false }, kinds := [], alts := [], laidByText := true, laidKinds := [.data, .data, .data], laidTests := true, laidLooks := .later }
def FarrayShapesUptoCardSaid : Prop := Claim7.holds Tryz.pinned (.plain (OpenSpec.upto farrayShapesSpec)) farrayShapesUptoCard

/-- THE SECOND FORM's CARD OF 'counterpanelaw15.FarrayParts'. -/
def farrayPartsUptoCard : Claim7 := { stood := { row := farrayPartsUptoRow, standIns := [], harness := (true, "0dec8425b789d9f7fc6c3b85610c4dc55a2bb73a874ea70ba44aa4b3572b0cd4"), looks := false }, kinds := [], alts := [], laidByText := true, laidKinds := [.data, .data, .data], laidTests := true, laidLooks := .later }
def FarrayPartsUptoCardSaid : Prop := Claim7.holds Tryz.pinned (.plain (OpenSpec.upto farrayPartsSpec)) farrayPartsUptoCard

/-- THE SECOND FORM's CARD OF 'counterpanelaw15.FarraySequence'. -/
def farraySequenceUptoCard : Claim7 := { stood := { row := farraySequenceUptoRow, standIns := [], harness := (true, "0dec8425b789d9f7fc6c3b85610c4dc55a2bb73a874ea70ba44aa4b3572b0cd4"), looks := false }, kinds := [], alts := [], laidByText := true, laidKinds := [.data, .data, .data], laidTests := true, laidLooks := .later }
def FarraySequenceUptoCardSaid : Prop := Claim7.holds Tryz.pinned (.plain (OpenSpec.upto farraySequenceSpec)) farraySequenceUptoCard

/-- THE SECOND FORM's CARD OF 'counterpanelaw15.FarrayFilter'. -/
def farrayFilterUptoCard : Claim7 := { stood := { row := farrayFilterUptoRow, standIns := [], harness := (true, "0dec8425b789d9f7fc6c3b85610c4dc55a2bb73a874ea70ba44aa4b3572b0cd4"), looks := false }, kinds := [], alts := [], laidByText := true, laidKinds := [.data, .data, .data], laidTests := true, laidLooks := .later }
def FarrayFilterUptoCardSaid : Prop := Claim7.holds Tryz.pinned (.plain (OpenSpec.upto farrayFilterSpec)) farrayFilterUptoCard

/-- THE SECOND FORM's CARD OF 'counterpanelaw15.FarrayProduct'. -/
def farrayProductUptoCard : Claim7 := { stood := { row := farrayProductUptoRow, standIns := [], harness := (true, "0dec8425b789d9f7fc6c3b85610c4dc55a2bb73a874ea70ba44aa4b3572b0cd4"), looks := false }, kinds := [], alts := [], laidByText := true, laidKinds := [.data, .data, .data], laidTests := true, laidLooks := .later }
def FarrayProductUptoCardSaid : Prop := Claim7.holds Tryz.pinned (.plain (OpenSpec.upto farrayProductSpec)) farrayProductUptoCard

/-- THE SECOND FORM's CARD OF 'counterpanelaw15.FarrayTaken'. -/
def farrayTakenUptoCard : Claim7 := { stood := { row := farrayTakenUptoRow, standIns := [], harness := (true, "0dec8425b789d9f7fc6c3b85610c4dc55a2bb73a874ea70ba44aa4b3572b0cd4"), looks := false }, kinds := [], alts := [], laidByText := true, laidKinds := [.data, .data, .data], laidTests := true, laidLooks := .later }
def FarrayTakenUptoCardSaid : Prop := Claim7.holds Tryz.pinned (.plain (OpenSpec.upto farrayTakenSpec)) farrayTakenUptoCard

/-- THE SECOND FORM's CARD OF 'counterpanelaw15.FarrayMasks'. -/
def farrayMasksUptoCard : Claim7 := { stood := { row := farrayMasksUptoRow, standIns := [], harness := (true, "0dec8425b789d9f7fc6c3b85610c4dc55a2bb73a874ea70ba44aa4b3572b0cd4"), looks := false }, kinds := [], alts := [], laidByText := true, laidKinds := [.data, .data, .data], laidTests := true, laidLooks := .later }
def FarrayMasksUptoCardSaid : Prop := Claim7.holds Tryz.pinned (.plain (OpenSpec.upto farrayMasksSpec)) farrayMasksUptoCard

/-- THE SECOND FORM's CARD OF 'counterpanelaw15.FarrayUnit'. -/
def farrayUnitUptoCard : Claim7 := { stood := { row := farrayUnitUptoRow, standIns := [], harness := (true, "0dec8425b789d9f7fc6c3b85610c4dc55a2bb73a874ea70ba44aa4b3572b0cd4"), looks := false }, kinds := [], alts := [], laidByText := true, laidKinds := [.data, .data, .data], laidTests := true, laidLooks := .later }
def FarrayUnitUptoCardSaid : Prop := Claim7.holds Tryz.pinned (.plain (OpenSpec.upto farrayUnitSpec)) farrayUnitUptoCard
end Rows
end Go.Proofs.YtlfbdodokldkhaaGreatDoor
