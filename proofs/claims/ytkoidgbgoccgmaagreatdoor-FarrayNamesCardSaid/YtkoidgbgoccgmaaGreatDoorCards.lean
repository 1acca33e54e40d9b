/-
  DERIVED. GIVEN WITH THE SEED: THE CARDS: each row of YtkoidgbgoccgmaaGreatDoorRows.lean that lists a variable, with what it lists TIED to the program's text (the seventh form; the later family's looks); each row that meets fmt, with fmt's text TOLD by the authors' own Lean function (tested against real Go, not proved from fmt's source: count such statements apart). THE CARD IS WHAT COUNTS. Prove the row's statement (the work); the ties are given (YtkoidgbgoccgmaaGreatDoorTie.lean); close each card by the builder's one call (the guide's Derived/Test/ToyasCard.lean, 'card_holds'). Laid BY PROGRAM, IN A SANDBOX (cutbox-door.mjs). By AI agents, Wed Nov 11 2026. No macro, syntax, notation, axiom, sorry.
-/
import Derived.Test.YtkoidgbgoccgmaaGreatDoorRows
import GoSem.ClaimSeven
namespace Go.Proofs.YtkoidgbgoccgmaaGreatDoor
namespace Rows

/-- THE TIED CARD OF 'counterpanelaw15.FarrayNames'. -/
def farrayNamesCard : Claim7 := { stood := { row := farrayNamesRow, standIns := [], harness := (true, "85bbc4bff165f3867dd5a0b7765dcb8ef0076c41da38a5cc91295ddd404eaf4f"), looks := false }, kinds := [], alts := [], laidByText := true, laidKinds := [.data, .data, .data], laidTests := true, laidLooks := .later }
def FarrayNamesCardSaid : Prop := Claim7.holds Tryz.pinned (.plain (OpenSpec.ofChange farrayNamesSpec)) farrayNamesCard

/-- THE SECOND FORM's CARD OF 'counterpanelaw15.FarrayNames'. -/
def farrayNamesUptoCard : Claim7 := { stood := { row := farrayNamesUptoRow, standIns := [], harness := (true, "85bbc4bff165f3867dd5a0b7765dcb8ef0076c41da38a5cc91295ddd404eaf4f"), looks := false }, kinds := [], alts := [], laidByText := true, laidKinds := [.data, .data, .data], laidTests := true, laidLooks := .later }
def FarrayNamesUptoCardSaid : Prop := Claim7.holds Tryz.pinned (.plain (OpenSpec.upto farrayNamesSpec)) farrayNamesUptoCard
end Rows
end Go.Proofs.YtkoidgbgoccgmaaGreatDoor
