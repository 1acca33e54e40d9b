/-
  DERIVED. GIVEN WITH THE SEED: THE CARDS: each row of YtmjmijjbijlhfaaGreatDoorRows.lean that lists a variable, with what it lists TIED to the program's text (the seventh form; the later family's looks); each row that meets fmt, with fmt's text TOLD by the authors' own Lean function (tested against real Go, not proved from fmt's source: count such statements apart). THE CARD IS WHAT COUNTS. Prove the row's statement (the work); the ties are given (YtmjmijjbijlhfaaGreatDoorTie.lean); close each card by the builder's one call (the guide's Derived/Test/ToyasCard.lean, 'card_holds'). Laid BY PROGRAM, IN A SANDBOX (cutbox-door.mjs). By AI agents, Wed Nov 11 2026. No macro, syntax, notation, axiom, sorry.
-/
import Derived.Test.YtmjmijjbijlhfaaGreatDoorRows
import GoSem.ClaimSeven
namespace Go.Proofs.YtmjmijjbijlhfaaGreatDoor
namespace Rows

/-- THE TIED CARD OF 'counterpanelaw15.FarrayNames'. -/
def farrayNamesCard : Claim7 := { stood := { row := farrayNamesRow, standIns := [], harness := (true, "67c9adb07ca248f6f5b629469be49587b9ef3a406685f192b3facd7f61bd8240"), looks := false }, kinds := [], alts := [], laidByText := true, laidKinds := [.data, .data, .data], laidTests := true, laidLooks := .later }
def FarrayNamesCardSaid : Prop := Claim7.holds Tryz.pinned (.plain (OpenSpec.ofChange farrayNamesSpec)) farrayNamesCard

/-- THE TIED CARD OF 'counterpanelaw15.FarraySorts'. -/
def farraySortsCard : Claim7 := { stood := { row := farraySortsRow, standIns := [], harness := (true, "67c9adb07ca248f6f5b629469be49587b9ef3a406685f192b3facd7f61bd8240"), looks := false }, kinds := [], alts := [], laidByText := true, laidKinds := [.data, .data, .data], laidTests := true, laidLooks := .later }
def FarraySortsCardSaid : Prop := Claim7.holds Tryz.pinned (.plain (OpenSpec.ofChange farraySortsSpec)) farraySortsCard

/-- THE TIED CARD OF 'counterpanelaw15.FarrayOrder'. -/
def farrayOrderCard : Claim7 := { stood := { row := farrayOrderRow, standIns := [], harness := (true, "67c9adb07ca248f6f5b629469be49587b9ef3a406685f192b3facd7f61bd8240"), looks := false }, kinds := [], alts := [], laidByText := true, laidKinds := [.data, .data, .data], laidTests := true, laidLooks := .later }
def FarrayOrderCardSaid : Prop := Claim7.holds Tryz.pinned (.plain (OpenSpec.ofChange farrayOrderSpec)) farrayOrderCard

/-- THE TIED CARD OF 'counterpanelaw15.FarrayAgain'. -/
def farrayAgainCard : Claim7 := { stood := { row := farrayAgainRow, standIns := [], harness := (true, "67c9adb07ca248f6f5b629469be49587b9ef3a406685f192b3facd7f61bd8240"), looks := false }, kinds := [], alts := [], laidByText := true, laidKinds := [.data, .data, .data], laidTests := true, laidLooks := .later }
def FarrayAgainCardSaid : Prop := Claim7.holds Tryz.pinned (.plain (OpenSpec.ofChange farrayAgainSpec)) farrayAgainCard

/-- THE TIED CARD OF 'counterpanelaw15.FarrayMasks'. -/
def farrayMasksCard : Claim7 := { stood := { row := farrayMasksRow, standIns := [], harness := (true, "67c9adb07ca248f6f5b629469be49587b9ef3a406685f192b3facd7f61bd8240"), looks := false }, kinds := [], alts := [], laidByText := true, laidKinds := [.data, .data, .data], laidTests := true, laidLooks := .later }
def FarrayMasksCardSaid : Prop := Claim7.holds Tryz.pinned (.plain (OpenSpec.ofChange farrayMasksSpec)) farrayMasksCard

/-- THE TIED CARD OF 'counterpanelaw15.FarrayCounts'. -/
def farrayCountsCard : Claim7 := { stood := { row := farrayCountsRow, standIns := [], harness := (true, "67c9adb07ca248f6f5b629469be49587b9ef3a406685f192b3facd7f61bd8240"), looks := false }, kinds := [], alts := [], laidByText := true, laidKinds := [.data, .data, .data], laidTests := true, laidLooks := .later }
def FarrayCountsCardSaid : Prop := Claim7.holds Tryz.pinned (.plain (OpenSpec.ofChange farrayCountsSpec)) farrayCountsCard

/-- THE SECOND FORM's CARD OF 'counterpanelaw15.FarrayNames'. -/
def farrayNamesUptoCard : Claim7 := { stood := { row := farrayNamesUptoRow, standIns := [], harness := (true, "67c9adb07ca248f6f5b629469be49587b9ef3a406685f192b3facd7f61bd8240"), looks := false }, kinds := [], alts := [], laidByText := true, laidKinds := [.data, .data, .data], laidTests := true, laidLooks := .later }
def FarrayNamesUptoCardSaid : Prop := Claim7.holds Tryz.pinned (.plain (OpenSpec.upto farrayNamesSpec)) farrayNamesUptoCard

/-- THE SECOND FORM's CARD OF 'counterpanelaw15.FarraySorts'. -/
def farraySortsUptoCard : Claim7 := { stood := { row := farraySortsUptoRow, standIns := [], harness := (true, "67c9adb07ca248f6f5b629469be49587b9ef3a406685f192b3facd7f61bd8240"), looks := false }, kinds := [], alts := [], laidByText := true, laidKinds := [.data, .data, .data], laidTests := true, laidLooks := .later }
def FarraySortsUptoCardSaid : Prop := Claim7.holds Tryz.pinned (.plain (OpenSpec.upto farraySortsSpec)) farraySortsUptoCard

/-- THE SECOND FORM's CARD OF 'counterpanelaw15.FarrayOrder'. -/
def farrayOrderUptoCard : Claim7 := { stood := { row := farrayOrderUptoRow, standIns := [], harness := (true, "67c9adb07ca248f6f5b629469be49587b9ef3a406685f192b3facd7f61bd8240"), looks := false }, kinds := [], alts := [], laidByText := true, laidKinds := [.data, .data, .data], laidTests := true, laidLooks := .later }
def FarrayOrderUptoCardSaid : Prop := Claim7.holds Tryz.pinned (.plain (OpenSpec.upto farrayOrderSpec)) farrayOrderUptoCard

/-- THE SECOND FORM's CARD OF 'counterpanelaw15.FarrayAgain'. -/
def farrayAgainUptoCard : Claim7 := { stood := { row := farrayAgainUptoRow, standIns := [], harness := (true, "67c9adb07ca248f6f5b629469be49587b9ef3a406685f192b3facd7f61bd8240"), looks := false }, kinds := [], alts := [], laidByText := true, laidKinds := [.data, .data, .data], laidTests := true, laidLooks := .later }
def FarrayAgainUptoCardSaid : Prop := Claim7.holds Tryz.pinned (.plain (OpenSpec.upto farrayAgainSpec)) farrayAgainUptoCard

/-- THE SECOND FORM's CARD OF 'counterpanelaw15.FarrayMasks'. -/
def farrayMasksUptoCard : Claim7 := { stood := { row := farrayMasksUptoRow, standIns := [], harness := (true, "67c9adb07ca248f6f5b629469be49587b9ef3a406685f192b3facd7f61bd8240"), looks := false }, kinds := [], alts := [], laidByText := true, laidKinds := [.data, .data, .data], laidTests := true, laidLooks := .later }
def FarrayMasksUptoCardSaid : Prop := Claim7.holds Tryz.pinned (.plain (OpenSpec.upto farrayMasksSpec)) farrayMasksUptoCard

/-- THE SECOND FORM's CARD OF 'counterpanelaw15.FarrayCounts'. -/
def farrayCountsUptoCard : Claim7 := { stood := { row := farrayCountsUptoRow, standIns := [], harness := (true, "67c9adb07ca248f6f5b629469be49587b9ef3a406685f192b3facd7f61bd8240"), looks := false }, kinds := [], alts := [], laidByText := true, laidKinds := [.data, .data, .data], laidTests := true, laidLooks := .later }
def FarrayCountsUptoCardSaid : Prop := Claim7.holds Tryz.pinned (.plain (OpenSpec.upto farrayCountsSpec)) farrayCountsUptoCard
end Rows
end Go.Proofs.YtmjmijjbijlhfaaGreatDoor
