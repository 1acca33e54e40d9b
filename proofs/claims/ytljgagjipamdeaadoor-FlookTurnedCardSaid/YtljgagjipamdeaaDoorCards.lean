/-
  DERIVED. GIVEN WITH THE SEED: THE CARDS: each row of YtljgagjipamdeaaDoorRows.lean that lists a variable, with what it lists TIED to the program's text (the seventh form; the later family's looks); each row that meets fmt, with fmt's text TOLD by the authors' own Lean function (tested against real Go, not proved from fmt's source: count such statements apart). THE CARD IS WHAT COUNTS. Prove the row's statement (the work); the ties are given (YtljgagjipamdeaaDoorTie.lean); close each card by the builder's one call (the guide's Derived/Test/ToyasCard.lean, 'card_holds'). Laid BY PROGRAM, IN A SANDBOX (cutbox-door.mjs). By AI agents, Wed Nov 11 2026. No macro, syntax, notation, axiom, sorry.
-/
import Derived.Test.YtljgagjipamdeaaDoorRows
import GoSem.ClaimSeven
namespace Go.Proofs.YtljgagjipamdeaaDoor
namespace Rows

/-- THE TIED CARD OF 'counterpanelaw14.FlookTurned'. -/
def flookTurnedCard : Claim7 := { stood := { row := flookTurnedRow, standIns := [], harness := (true, "afa94bf402239a695b51fb563dd1f1f692623d2f243b26efd7ecb96cb2c877b4"), looks := false }, kinds := [], alts := [], laidByText := true, laidKinds := [.data, .data, .data], laidTests := true, laidLooks := .later }
def FlookTurnedCardSaid : Prop := Claim7.holds Tryd.pinned (.plain (OpenSpec.ofChange flookTurnedSpec)) flookTurnedCard

/-- THE SECOND FORM's CARD OF 'counterpanelaw14.FlookTurned'. -/
def flookTurnedUptoCard : Claim7 := { stood := { row := flookTurnedUptoRow, standIns := [], harness := (true, "afa94bf402239a695b51fb563dd1f1f692623d2f243b26efd7ecb96cb2c877b4"), looks := false }, kinds := [], alts := [], laidByText := true, laidKinds := [.data, .data, .data], laidTests := true, laidLooks := .later }
def FlookTurnedUptoCardSaid : Prop := Claim7.holds Tryd.pinned (.plain (OpenSpec.upto flookTurnedSpec)) flookTurnedUptoCard
end Rows
end Go.Proofs.YtljgagjipamdeaaDoor
