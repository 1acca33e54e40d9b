/-
  DERIVED. GIVEN WITH THE SEED: THE CARDS: each row of YteigcfflljoioaaGreatDoorRows.lean that lists a variable, with what it lists TIED to the program's text (the seventh form; the later family's looks); each row that meets fmt, with fmt's text TOLD by the authors' own Lean function (tested against real Go, not proved from fmt's source: count such statements apart). THE CARD IS WHAT COUNTS. Prove the row's statement (the work); the ties are given (YteigcfflljoioaaGreatDoorTie.lean); close each card by the builder's one call (the guide's Derived/Test/ToyasCard.lean, 'card_holds'). Laid BY PROGRAM, IN A SANDBOX (cutbox-door.mjs). By AI agents, Wed Nov 11 2026. No macro, syntax, notation, axiom, sorry.
-/
import Derived.Test.YteigcfflljoioaaGreatDoorRows
import GoSem.ClaimSeven
namespace Go.Proofs.YteigcfflljoioaaGreatDoor
namespace Rows

/-- THE TIED CARD OF 'counterpanelaw14.FlookSorted'. -/
def flookSortedCard : Claim7 := { stood := { row := flookSortedRow, standIns := [], harness := (true, "11e273478c6bec70976cf581e70ecc0a07b795191f79dab52f7103dce6d13dec"), looks := false }, kinds := [], alts := [], laidByText := true, laidKinds := [.data, .data, .data], laidTests := true, laidLooks := .later }
def FlookSortedCardSaid : Prop := Claim7.holds Tryz.pinned (.plain (OpenSpec.ofChange flookSortedSpec)) flookSortedCard

/-- THE TIED CARD OF 'counterpanelaw14.FlookBack'. -/
def flookBackCard : Claim7 := { stood := { row := flookBackRow, standIns := [], harness := (true, "11e273478c6bec70976cf581e70ecc0a07b795191f79dab52f7103dce6d13dec"), looks := false }, kinds := [], alts := [], laidByText := true, laidKinds := [.data, .data, .data], laidTests := true, laidLooks := .later }
def FlookBackCardSaid : Prop := Claim7.holds Tryz.pinned (.plain (OpenSpec.ofChange flookBackSpec)) flookBackCard

/-- THE TIED CARD OF 'counterpanelaw10.OperOrder'. -/
def operOrderCard : Claim7 := { stood := { row := operOrderRow, standIns := [], harness := (true, "11e273478c6bec70976cf581e70ecc0a07b795191f79dab52f7103dce6d13dec"), looks := false }, kinds := [], alts := [], laidByText := true, laidKinds := [.data, .data, .data], laidTests := true, laidLooks := .later }
def OperOrderCardSaid : Prop := Claim7.holds Tryz.pinned (.plain (OpenSpec.ofChange operOrderSpec)) operOrderCard

/-- THE TIED CARD OF 'counterpanelaw10.OperFaults'. -/
def operFaultsCard : Claim7 := { stood := { row := operFaultsRow, standIns := [], harness := (true, "11e273478c6bec70976cf581e70ecc0a07b795191f79dab52f7103dce6d13dec"), looks := false }, kinds := [], alts := [], laidByText := true, laidKinds := [.data, .data, .data], laidTests := true, laidLooks := .later }
def OperFaultsCardSaid : Prop := Claim7.holds Tryz.pinned (.plain (OpenSpec.ofChange operFaultsSpec)) operFaultsCard

/-- THE TIED CARD OF 'counterpanelaw10.OperPlaces'. -/
def operPlacesCard : Claim7 := { stood := { row := operPlacesRow, standIns := [], harness := (true, "11e273478c6bec70976cf581e70ecc0a07b795191f79dab52f7103dce6d13dec"), looks := false }, kinds := [], alts := [], laidByText := true, laidKinds := [.data, .data, .data], laidTests := true, laidLooks := .later }
def OperPlacesCardSaid : Prop := Claim7.holds Tryz.pinned (.plain (OpenSpec.ofChange operPlacesSpec)) operPlacesCard

/-- THE TIED CARD OF 'counterpanelaw10.OperTwo'. -/
def operTwoCard : Claim7 := { stood := { row := operTwoRow, standIns := [], harness := (true, "11e273478c6bec70976cf581e70ecc0a07b795191f79dab52f7103dce6d13dec"), looks := false }, kinds := [], alts := [], laidByText := true, laidKinds := [.data, .data, .data], laidTests := true, laidLooks := .later }
def OperTwoCardSaid : Prop := Claim7.holds Tryz.pinned (.plain (OpenSpec.ofChange operTwoSpec)) operTwoCard

/-- THE TIED CARD OF 'counterpanelaw10.OperOne'. -/
def operOneCard : Claim7 := { stood := { row := operOneRow, standIns := [], harness := (true, "11e273478c6bec70976cf581e70ecc0a07b795191f79dab52f7103dce6d13dec"), looks := false }, kinds := [], alts := [], laidByText := true, laidKinds := [.data, .data, .data], laidTests := true, laidLooks := .later }
def OperOneCardSaid : Prop := Claim7.holds Tryz.pinned (.plain (OpenSpec.ofChange operOneSpec)) operOneCard

/-- THE TIED CARD OF 'counterpanelaw10.OperBack'. -/
def operBackCard : Claim7 := { stood := { row := operBackRow, standIns := [], harness := (true, "11e273478c6bec70976cf581e70ecc0a07b795191f79dab52f7103dce6d13dec"), looks := false }, kinds := [], alts := [], laidByText := true, laidKinds := [.data, .data, .data], laidTests := true, laidLooks := .later }
def OperBackCardSaid : Prop := Claim7.holds Tryz.pinned (.plain (OpenSpec.ofChange operBackSpec)) operBackCard

/-- THE SECOND FORM's CARD OF 'counterpanelaw14.FlookSorted'. -/
def flookSortedUptoCard : Claim7 := { stood := { row := flookSortedUptoRow, standIns := [], harness := (true, "11e273478c6bec70976cf581e70ecc0a07b795191f79dab52f7103dce6d13dec"), looks := false }, kinds := [], alts := [], laidByText := true, laidKinds := [.data, .data, .data], laidTests := true, laidLooks := .later }
def FlookSortedUptoCardSaid : Prop := Claim7.holds Tryz.pinned (.plain (OpenSpec.upto flookSortedSpec)) flookSortedUptoCard

/-- THE SECOND FORM's CARD OF 'counterpanelaw14.FlookBack'. -/
def flookBackUptoCard : Claim7 := { stood := { row := flookBackUptoRow, standIns := [], harness := (true, "11e273478c6bec70976cf581e70ecc0a07b795191f79dab52f7103dce6d13dec"), looks := false }, kinds := [], alts := [], laidByText := true, laidKinds := [.data, .data, .data], laidTests := true, laidLooks := .later }
def FlookBackUptoCardSaid : Prop := Claim7.holds Tryz.pinned (.plain (OpenSpec.upto flookBackSpec)) flookBackUptoCard

/-- THE SECOND FORM's CARD OF 'counterpanelaw10.OperOrder'. -/
def operOrderUptoCard : Claim7 := { stood := { row := operOrderUptoRow, standIns := [], harness := (true, "11e273478c6bec70976cf581e70ecc0a07b795191f79dab52f7103dce6d13dec"), looks := false }, kinds := [], alts := [], laidByText := true, laidKinds := [.data, .data, .data], laidTests := true, laidLooks := .later }
def OperOrderUptoCardSaid : Prop := Claim7.holds Tryz.pinned (.plain (OpenSpec.upto operOrderSpec)) operOrderUptoCard

/-- THE SECOND FORM's CARD OF 'counterpanelaw10.OperFaults'. -/
def operFaultsUptoCard : Claim7 := { stood := { row := operFaultsUptoRow, standIns := [], harness := (true, "11e273478c6bec70976cf581e70ecc0a07b795191f79dab52f7103dce6d13dec"), looks := false }, kinds := [], alts := [], laidByText := true, laidKinds := [.data, .data, .data], laidTests := true, laidLooks := .later }
def OperFaultsUptoCardSaid : Prop := Claim7.holds Tryz.pinned (.plain (OpenSpec.upto operFaultsSpec)) operFaultsUptoCard

/-- THE SECOND FORM's CARD OF 'counterpanelaw10.OperPlaces'. -/
def operPlacesUptoCard : Claim7 := { stood := { row := operPlacesUptoRow, standIns := [], harness := (true, "11e273478c6bec70976cf581e70ecc0a07b795191f79dab52f7103dce6d13dec"), looks := false }, kinds := [], alts := [], laidByText := true, laidKinds := [.data, .data, .data], laidTests := true, laidLooks := .later }
def OperPlacesUptoCardSaid : Prop := Claim7.holds Tryz.pinned (.plain (OpenSpec.upto operPlacesSpec)) operPlacesUptoCard

/-- THE SECOND FORM's CARD OF 'counterpanelaw10.OperTwo'. -/
def operTwoUptoCard : Claim7 := { stood := { row := operTwoUptoRow, standIns := [], harness := (true, "11e273478c6bec70976cf581e70ecc0a07b795191f79dab52f7103dce6d13dec"), looks := false }, kinds := [], alts := [], laidByText := true, laidKinds := [.data, .data, .data], laidTests := true, laidLooks := .later }
def OperTwoUptoCardSaid : Prop := Claim7.holds Tryz.pinned (.plain (OpenSpec.upto operTwoSpec)) operTwoUptoCard

/-- THE SECOND FORM's CARD OF 'counterpanelaw10.OperOne'. -/
def operOneUptoCard : Claim7 := { stood := { row := operOneUptoRow, standIns := [], harness := (true, "11e273478c6bec70976cf581e70ecc0a07b795191f79dab52f7103dce6d13dec"), looks := false }, kinds := [], alts := [], laidByText := true, laidKinds := [.data, .data, .data], laidTests := true, laidLooks := .later }
def OperOneUptoCardSaid : Prop := Claim7.holds Tryz.pinned (.plain (OpenSpec.upto operOneSpec)) operOneUptoCard

/-- THE SECOND FORM's CARD OF 'counterpanelaw10.OperBack'. -/
def operBackUptoCard : Claim7 := { stood := { row := operBackUptoRow, standIns := [], harness := (true, "11e273478c6bec70976cf581e70ecc0a07b795191f79dab52f7103dce6d13dec"), looks := false }, kinds := [], alts := [], laidByText := true, laidKinds := [.data, .data, .data], laidTests := true, laidLooks := .later }
def OperBackUptoCardSaid : Prop := Claim7.holds Tryz.pinned (.plain (OpenSpec.upto operBackSpec)) operBackUptoCard
end Rows
end Go.Proofs.YteigcfflljoioaaGreatDoor
