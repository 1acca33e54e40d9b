/-
  DERIVED. GIVEN WITH THE SEED: THE CARDS: each row of YtkcoikelcmpceaaGreatDoorRows.lean that lists a variable, with what it lists TIED to the program's text (the seventh form; the later family's looks); each row that meets fmt, with fmt's text TOLD by the authors' own Lean function (tested against real Go, not proved from fmt's source: count such statements apart). THE CARD IS WHAT COUNTS. Prove the row's statement (the work); the ties are given (YtkcoikelcmpceaaGreatDoorTie.lean); close each card by the builder's one call (the guide's Derived/Test/ToyasCard.lean, 'card_holds'). Laid BY PROGRAM, IN A SANDBOX (cutbox-door.mjs). By AI agents, Wed Nov 11 2026. No macro, syntax, notation, axiom, sorry.
-/
import Derived.Test.YtkcoikelcmpceaaGreatDoorRows
import GoSem.ClaimSeven
namespace Go.Proofs.YtkcoikelcmpceaaGreatDoor
namespace Rows

/-- THE TIED CARD OF 'counterpanelaw11.FmathParts'. -/
def fmathPartsCard : Claim7 := { stood := { row := fmathPartsRow, standIns := [], harness := (true, "724ec4f094c34d39339be7c09690868356944a1e0d43ed81430674fe02e68996"), looks := false }, kinds := [], alts := [], laidByText := true, laidKinds := [.data, .data, .data, .data], laidTests := true, laidLooks := .later }
def FmathPartsCardSaid : Prop := Claim7.holds Tryz.pinned (.plain (OpenSpec.ofChange fmathPartsSpec)) fmathPartsCard

/-- THE TIED CARD OF 'counterpanelaw11.FmathIfs'. -/
def fmathIfsCard : Claim7 := { stood := { row := fmathIfsRow, standIns := [], harness := (true, "724ec4f094c34d39339be7c09690868356944a1e0d43ed81430674fe02e68996"), looks := false }, kinds := [], alts := [], laidByText := true, laidKinds := [.data, .data, .data, .data], laidTests := true, laidLooks := .later }
def FmathIfsCardSaid : Prop := Claim7.holds Tryz.pinned (.plain (OpenSpec.ofChange fmathIfsSpec)) fmathIfsCard

/-- THE TIED CARD OF 'counterpanelaw11.FmathOrder'. -/
def fmathOrderCard : Claim7 := { stood := { row := fmathOrderRow, standIns := [], harness := (true, "724ec4f094c34d39339be7c09690868356944a1e0d43ed81430674fe02e68996"), looks := false }, kinds := [], alts := [], laidByText := true, laidKinds := [.data, .data, .data, .data], laidTests := true, laidLooks := .later }
def FmathOrderCardSaid : Prop := Claim7.holds Tryz.pinned (.plain (OpenSpec.ofChange fmathOrderSpec)) fmathOrderCard

/-- THE TIED CARD OF 'counterpanelaw11.FmathCalls'. -/
def fmathCallsCard : Claim7 := { stood := { row := fmathCallsRow, standIns := [], harness := (true, "724ec4f094c34d39339be7c09690868356944a1e0d43ed81430674fe02e68996"), looks := false }, kinds := [], alts := [], laidByText := true, laidKinds := [.data, .data, .data, .data], laidTests := true, laidLooks := .later }
def FmathCallsCardSaid : Prop := Claim7.holds Tryz.pinned (.plain (OpenSpec.ofChange fmathCallsSpec)) fmathCallsCard

/-- THE SECOND FORM's CARD OF 'counterpanelaw11.FmathParts'. -/
def fmathPartsUptoCard : Claim7 := { stood := { row := fmathPartsUptoRow, standIns := [], harness := (true, "724ec4f094c34d39339be7c09690868356944a1e0d43ed81430674fe02e68996"), looks := false }, kinds := [], alts := [], laidByText := true, laidKinds := [.data, .data, .data, .data], laidTests := true, laidLooks := .later }
def FmathPartsUptoCardSaid : Prop := Claim7.holds Tryz.pinned (.plain (OpenSpec.upto fmathPartsSpec)) fmathPartsUptoCard

/-- THE SECOND FORM's CARD OF 'counterpanelaw11.FmathIfs'. -/
def fmathIfsUptoCard : Claim7 := { stood := { row := fmathIfsUptoRow, standIns := [], harness := (true, "724ec4f094c34d39339be7c09690868356944a1e0d43ed81430674fe02e68996"), looks := false }, kinds := [], alts := [], laidByText := true, laidKinds := [.data, .data, .data, .data], laidTests := true, laidLooks := .later }
def FmathIfsUptoCardSaid : Prop := Claim7.holds Tryz.pinned (.plain (OpenSpec.upto fmathIfsSpec)) fmathIfsUptoCard

/-- THE SECOND FORM's CARD OF 'counterpanelaw11.FmathOrder'. -/
def fmathOrderUptoCard : Claim7 := { stood := { row := fmathOrderUptoRow, standIns := [], harness := (true, "724ec4f094c34d39339be7c09690868356944a1e0d43ed81430674fe02e68996"), looks := false }, kinds := [], alts := [], laidByText := true, laidKinds := [.data, .data, .data, .data], laidTests := true, laidLooks := .later }
def FmathOrderUptoCardSaid : Prop := Claim7.holds Tryz.pinned (.plain (OpenSpec.upto fmathOrderSpec)) fmathOrderUptoCard

/-- THE SECOND FORM's CARD OF 'counterpanelaw11.FmathCalls'. -/
def fmathCallsUptoCard : Claim7 := { stood := { row := fmathCallsUptoRow, standIns := [], harness := (true, "724ec4f094c34d39339be7c09690868356944a1e0d43ed81430674fe02e68996"), looks := false }, kinds := [], alts := [], laidByText := true, laidKinds := [.data, .data, .data, .data], laidTests := true, laidLooks := .later }
def FmathCallsUptoCardSaid : Prop := Claim7.holds Tryz.pinned (.plain (OpenSpec.upto fmathCallsSpec)) fmathCallsUptoCard
end Rows
end Go.Proofs.YtkcoikelcmpceaaGreatDoor
