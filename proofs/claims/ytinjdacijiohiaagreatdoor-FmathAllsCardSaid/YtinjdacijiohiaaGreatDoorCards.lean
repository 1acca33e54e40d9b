/-
  DERIVED. GIVEN WITH THE SEED: THE CARDS: each row of YtinjdacijiohiaaGreatDoorRows.lean that lists a variable, with what it lists TIED to the program's text (the seventh form; the later family's looks); each row that meets fmt, with fmt's text TOLD by the authors' own Lean function (tested against real Go, not proved from fmt's source: count such statements apart). THE CARD IS WHAT COUNTS. Prove the row's statement (the work); the ties are given (YtinjdacijiohiaaGreatDoorTie.lean); close each card by the builder's one call (the guide's Derived/Test/ToyasCard.lean, 'card_holds'). Laid BY PROGRAM, IN A SANDBOX (cutbox-door.mjs). By AI agents, Wed Nov 11 2026. No macro, syntax, notation, axiom, sorry.
-/
import Derived.Test.YtinjdacijiohiaaGreatDoorRows
import GoSem.ClaimSeven
namespace Go.Proofs.YtinjdacijiohiaaGreatDoor
namespace Rows

/-- THE TIED CARD OF 'counterpanelaw11.FmathCalls'. -/
def fmathCallsCard : Claim7 := { stood := { row := fmathCallsRow, standIns := [], harness := (true, "991ab1bd92467feffaaacd662de443653adb22adec0b81d07813134d3a95dc0f"), looks := false }, kinds := [], alts := [], laidByText := true, laidKinds := [.data, .data, .data, .data], laidTests := true, laidLooks := .later }
def FmathCallsCardSaid : Prop := Claim7.holds Tryz.pinned (.plain (OpenSpec.ofChange fmathCallsSpec)) fmathCallsCard

/-- THE TIED CARD OF 'counterpanelaw11.FmathAlls'. -/
def fmathAllsCard : Claim7 := { stood := { row := fmathAllsRow, standIns := [], harness := (true, "991ab1bd92467feffaaacd662de443653adb22adec0b81d07813134d3a95dc0f"), looks := false }, kinds := [], alts := [], laidByText := true, laidKinds := [.data, .data, .data, .data], laidTests := true, laidLooks := .later }
def FmathAllsCardSaid : Prop := Claim7.holds Tryz.pinned (.plain (OpenSpec.ofChange fmathAllsSpec)) fmathAllsCard

/-- THE SECOND FORM's CARD OF 'counterpanelaw11.FmathCalls'. -/
def fmathCallsUptoCard : Claim7 := { stood := { row := fmathCallsUptoRow, standIns := [], harness := (true, "991ab1bd92467feffaaacd662de443653adb22adec0b81d07813134d3a95dc0f"), looks := false }, kinds := [], alts := [], laidByText := true, laidKinds := [.data, .data, .data, .data], laidTests := true, laidLooks := .later }
def FmathCallsUptoCardSaid : Prop := Claim7.holds Tryz.pinned (.plain (OpenSpec.upto fmathCallsSpec)) fmathCallsUptoCard

/-- THE SECOND FORM's CARD OF 'counterpanelaw11.FmathAlls'. -/
def fmathAllsUptoCard : Claim7 := { stood := { row := fmathAllsUptoRow, standIns := [], harness := (true, "991ab1bd92467feffaaacd662de443653adb22adec0b81d07813134d3a95dc0f"), looks := false }, kinds := [], alts := [], laidByText := true, laidKinds := [.data, .data, .data, .data], laidTests := true, laidLooks := .later }
def FmathAllsUptoCardSaid : Prop := Claim7.holds Tryz.pinned (.plain (OpenSpec.upto fmathAllsSpec)) fmathAllsUptoCard
end Rows
end Go.Proofs.YtinjdacijiohiaaGreatDoor
