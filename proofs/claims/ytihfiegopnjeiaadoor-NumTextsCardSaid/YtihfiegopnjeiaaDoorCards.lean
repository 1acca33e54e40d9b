/-
  DERIVED. GIVEN WITH THE SEED: THE CARDS: each row of YtihfiegopnjeiaaDoorRows.lean that lists a variable, with what it lists TIED to the program's text (the seventh form; the later family's looks); each row that meets fmt, with fmt's text TOLD by the authors' own Lean function (tested against real Go, not proved from fmt's source: count such statements apart). THE CARD IS WHAT COUNTS. Prove the row's statement (the work); the ties are given (YtihfiegopnjeiaaDoorTie.lean); close each card by the builder's one call (the guide's Derived/Test/ToyasCard.lean, 'card_holds'). Laid BY PROGRAM, IN A SANDBOX (cutbox-door.mjs). By AI agents, Wed Nov 11 2026. No macro, syntax, notation, axiom, sorry.
-/
import Derived.Test.YtihfiegopnjeiaaDoorRows
import GoSem.ClaimSeven
namespace Go.Proofs.YtihfiegopnjeiaaDoor
namespace Rows

/-- THE TIED CARD OF 'counterpanelaw01.NumMakes'. -/
def numMakesCard : Claim7 := { stood := { row := numMakesRow, standIns := [], harness := (true, "68c99534e2e4cb504aa0d7d1f23a41187ab74555d17dcc3bb48f36aa9316247a"), looks := false }, kinds := [], alts := [], laidByText := true, laidKinds := [.data, .data, .data], laidTests := true, laidLooks := .later }
def NumMakesCardSaid : Prop := Claim7.holds Tryd.pinned (.plain (OpenSpec.ofChange numMakesSpec)) numMakesCard

/-- THE TIED CARD OF 'counterpanelaw01.NumTexts'. -/
def numTextsCard : Claim7 := { stood := { row := numTextsRow, standIns := [], harness := (true, "68c99534e2e4cb504aa0d7d1f23a41187ab74555d17dcc3bb48f36aa9316247a"), looks := false }, kinds := [], alts := [], laidByText := true, laidKinds := [.data, .data, .data], laidTests := true, laidLooks := .later }
def NumTextsCardSaid : Prop := Claim7.holds Tryd.pinned (.plain (OpenSpec.ofChange numTextsSpec)) numTextsCard

/-- THE TIED CARD OF 'counterpanelaw01.NumRounds'. -/
def numRoundsCard : Claim7 := { stood := { row := numRoundsRow, standIns := [], harness := (true, "68c99534e2e4cb504aa0d7d1f23a41187ab74555d17dcc3bb48f36aa9316247a"), looks := false }, kinds := [], alts := [], laidByText := true, laidKinds := [.data, .data, .data], laidTests := true, laidLooks := .later }
def NumRoundsCardSaid : Prop := Claim7.holds Tryd.pinned (.plain (OpenSpec.ofChange numRoundsSpec)) numRoundsCard

/-- THE TIED CARD OF 'counterpanelaw01.NumTimes'. -/
def numTimesCard : Claim7 := { stood := { row := numTimesRow, standIns := [], harness := (true, "68c99534e2e4cb504aa0d7d1f23a41187ab74555d17dcc3bb48f36aa9316247a"), looks := false }, kinds := [], alts := [], laidByText := true, laidKinds := [.data, .data, .data], laidTests := true, laidLooks := .later }
def NumTimesCardSaid : Prop := Claim7.holds Tryd.pinned (.plain (OpenSpec.ofChange numTimesSpec)) numTimesCard

/-- THE TIED CARD OF 'counterpanelaw01.NumPlaces'. -/
def numPlacesCard : Claim7 := { stood := { row := numPlacesRow, standIns := [], harness := (true, "68c99534e2e4cb504aa0d7d1f23a41187ab74555d17dcc3bb48f36aa9316247a"), looks := false }, kinds := [], alts := [], laidByText := true, laidKinds := [.data, .data, .data], laidTests := true, laidLooks := .later }
def NumPlacesCardSaid : Prop := Claim7.holds Tryd.pinned (.plain (OpenSpec.ofChange numPlacesSpec)) numPlacesCard

/-- THE TIED CARD OF 'counterpanelaw01.NumPowers'. -/
def numPowersCard : Claim7 := { stood := { row := numPowersRow, standIns := [], harness := (true, "68c99534e2e4cb504aa0d7d1f23a41187ab74555d17dcc3bb48f36aa9316247a"), looks := false }, kinds := [], alts := [], laidByText := true, laidKinds := [.data, .data, .data], laidTests := true, laidLooks := .later }
def NumPowersCardSaid : Prop := Claim7.holds Tryd.pinned (.plain (OpenSpec.ofChange numPowersSpec)) numPowersCard

/-- THE TIED CARD OF 'counterpanelaw01.NumAdds'. -/
def numAddsCard : Claim7 := { stood := { row := numAddsRow, standIns := [], harness := (true, "68c99534e2e4cb504aa0d7d1f23a41187ab74555d17dcc3bb48f36aa9316247a"), looks := false }, kinds := [], alts := [], laidByText := true, laidKinds := [.data, .data, .data], laidTests := true, laidLooks := .later }
def NumAddsCardSaid : Prop := Claim7.holds Tryd.pinned (.plain (OpenSpec.ofChange numAddsSpec)) numAddsCard

/-- THE TIED CARD OF 'counterpanelaw01.NumNear'. -/
def numNearCard : Claim7 := { stood := { row := numNearRow, standIns := [], harness := (true, "68c99534e2e4cb504aa0d7d1f23a41187ab74555d17dcc3bb48f36aa9316247a"), looks := false }, kinds := [], alts := [], laidByText := true, laidKinds := [.data, .data, .data], laidTests := true, laidLooks := .later }
def NumNearCardSaid : Prop := Claim7.holds Tryd.pinned (.plain (OpenSpec.ofChange numNearSpec)) numNearCard

/-- THE TIED CARD OF 'counterpanelaw01.NumFloors'. -/
def numFloorsCard : Claim7 := { stood := { row := numFloorsRow, standIns := [], harness := (true, "68c99534e2e4cb504aa0d7d1f23a41187ab74555d17dcc3bb48f36aa9316247a"), looks := false }, kinds := [], alts := [], laidByText := true, laidKinds := [.data, .data, .data], laidTests := true, laidLooks := .later }
def NumFloorsCardSaid : Prop := Claim7.holds Tryd.pinned (.plain (OpenSpec.ofChange numFloorsSpec)) numFloorsCard

/-- THE TIED CARD OF 'counterpanelaw01.NumOrder'. -/
def numOrderCard : Claim7 := { stood := { row := numOrderRow, standIns := [], harness := (true, "68c99534e2e4cb504aa0d7d1f23a41187ab74555d17dcc3bb48f36aa9316247a"), looks := false }, kinds := [], alts := [], laidByText := true, laidKinds := [.data, .data, .data], laidTests := true, laidLooks := .later }
def NumOrderCardSaid : Prop := Claim7.holds Tryd.pinned (.plain (OpenSpec.ofChange numOrderSpec)) numOrderCard

/-- THE TIED CARD OF 'counterpanelaw01.NumSigns'. -/
def numSignsCard : Claim7 := { stood := { row := numSignsRow, standIns := [], harness := (true, "68c99534e2e4cb504aa0d7d1f23a41187ab74555d17dcc3bb48f36aa9316247a"), looks := false }, kinds := [], alts := [], laidByText := true, laidKinds := [.data, .data, .data], laidTests := true, laidLooks := .later }
def NumSignsCardSaid : Prop := Claim7.holds Tryd.pinned (.plain (OpenSpec.ofChange numSignsSpec)) numSignsCard

/-- THE SECOND FORM's CARD OF 'counterpanelaw01.NumMakes'. -/
def numMakesUptoCard : Claim7 := { stood := { row := numMakesUptoRow, standIns := [], harness := (true, "68c99534e2e4cb504aa0d7d1f23a41187ab74555d17dcc3bb48f36aa9316247a"), looks := false }, kinds := [], alts := [], laidByText := true, laidKinds := [.data, .data, .data], laidTests := true, laidLooks := .later }
def NumMakesUptoCardSaid : Prop := Claim7.holds Tryd.pinned (.plain (OpenSpec.upto numMakesSpec)) numMakesUptoCard

/-- THE SECOND FORM's CARD OF 'counterpanelaw01.NumTexts'. -/
def numTextsUptoCard : Claim7 := { stood := { row := numTextsUptoRow, standIns := [], harness := (true, "68c99534e2e4cb504aa0d7d1f23a41187ab74555d17dcc3bb48f36aa9316247a"), looks := false }, kinds := [], alts := [], laidByText := true, laidKinds := [.data, .data, .data], laidTests := true, laidLooks := .later }
def NumTextsUptoCardSaid : Prop := Claim7.holds Tryd.pinned (.plain (OpenSpec.upto numTextsSpec)) numTextsUptoCard

/-- THE SECOND FORM's CARD OF 'counterpanelaw01.NumRounds'. -/
def numRoundsUptoCard : Claim7 := { stood := { row := numRoundsUptoRow, standIns := [], harness := (true, "68c99534e2e4cb504aa0d7d1f23a41187ab74555d17dcc3bb48f36aa9316247a"), looks := false }, kinds := [], alts := [], laidByText := true, laidKinds := [.data, .data, .data], laidTests := true, laidLooks := .later }
def NumRoundsUptoCardSaid : Prop := Claim7.holds Tryd.pinned (.plain (OpenSpec.upto numRoundsSpec)) numRoundsUptoCard

/-- THE SECOND FORM's CARD OF 'counterpanelaw01.NumTimes'. -/
def numTimesUptoCard : Claim7 := { stood := { row := numTimesUptoRow, standIns := [], harness := (true, "68c99534e2e4cb504aa0d7d1f23a41187ab74555d17dcc3bb48f36aa9316247a"), looks := false }, kinds := [], alts := [], laidByText := true, laidKinds := [.data, .data, .data], laidTests := true, laidLooks := .later }
def NumTimesUptoCardSaid : Prop := Claim7.holds Tryd.pinned (.plain (OpenSpec.upto numTimesSpec)) numTimesUptoCard

/-- THE SECOND FORM's CARD OF 'counterpanelaw01.NumPlaces'. -/
def numPlacesUptoCard : Claim7 := { stood := { row := numPlacesUptoRow, standIns := [], harness := (true, "68c99534e2e4cb504aa0d7d1f23a41187ab74555d17dcc3bb48f36aa9316247a"), looks := false }, kinds := [], alts := [], laidByText := true, laidKinds := [.data, .data, .data], laidTests := true, laidLooks := .later }
def NumPlacesUptoCardSaid : Prop := Claim7.holds Tryd.pinned (.plain (OpenSpec.upto numPlacesSpec)) numPlacesUptoCard

/-- THE SECOND FORM's CARD OF 'counterpanelaw01.NumPowers'. -/
def numPowersUptoCard : Claim7 := { stood := { row := numPowersUptoRow, standIns := [], harness := (true, "68c99534e2e4cb504aa0d7d1f23a41187ab74555d17dcc3bb48f36aa9316247a"), looks := false }, kinds := [], alts := [], laidByText := true, laidKinds := [.data, .data, .data], laidTests := true, laidLooks := .later }
def NumPowersUptoCardSaid : Prop := Claim7.holds Tryd.pinned (.plain (OpenSpec.upto numPowersSpec)) numPowersUptoCard

/-- THE SECOND FORM's CARD OF 'counterpanelaw01.NumAdds'. -/
def numAddsUptoCard : Claim7 := { stood := { row := numAddsUptoRow, standIns := [], harness := (true, "68c99534e2e4cb504aa0d7d1f23a41187ab74555d17dcc3bb48f36aa9316247a"), looks := false }, kinds := [], alts := [], laidByText := true, laidKinds := [.data, .data, .data], laidTests := true, laidLooks := .later }
def NumAddsUptoCardSaid : Prop := Claim7.holds Tryd.pinned (.plain (OpenSpec.upto numAddsSpec)) numAddsUptoCard

/-- THE SECOND FORM's CARD OF 'counterpanelaw01.NumNear'. -/
def numNearUptoCard : Claim7 := { stood := { row := numNearUptoRow, standIns := [], harness := (true, "68c99534e2e4cb504aa0d7d1f23a41187ab74555d17dcc3bb48f36aa9316247a"), looks := false }, kinds := [], alts := [], laidByText := true, laidKinds := [.data, .data, .data], laidTests := true, laidLooks := .later }
def NumNearUptoCardSaid : Prop := Claim7.holds Tryd.pinned (.plain (OpenSpec.upto numNearSpec)) numNearUptoCard

/-- THE SECOND FORM's CARD OF 'counterpanelaw01.NumFloors'. -/
def numFloorsUptoCard : Claim7 := { stood := { row := numFloorsUptoRow, standIns := [], harness := (true, "68c99534e2e4cb504aa0d7d1f23a41187ab74555d17dcc3bb48f36aa9316247a"), looks := false }, kinds := [], alts := [], laidByText := true, laidKinds := [.data, .data, .data], laidTests := true, laidLooks := .later }
def NumFloorsUptoCardSaid : Prop := Claim7.holds Tryd.pinned (.plain (OpenSpec.upto numFloorsSpec)) numFloorsUptoCard

/-- THE SECOND FORM's CARD OF 'counterpanelaw01.NumOrder'. -/
def numOrderUptoCard : Claim7 := { stood := { row := numOrderUptoRow, standIns := [], harness := (true, "68c99534e2e4cb504aa0d7d1f23a41187ab74555d17dcc3bb48f36aa9316247a"), looks := false }, kinds := [], alts := [], laidByText := true, laidKinds := [.data, .data, .data], laidTests := true, laidLooks := .later }
def NumOrderUptoCardSaid : Prop := Claim7.holds Tryd.pinned (.plain (OpenSpec.upto numOrderSpec)) numOrderUptoCard

/-- THE SECOND FORM's CARD OF 'counterpanelaw01.NumSigns'. -/
def numSignsUptoCard : Claim7 := { stood := { row := numSignsUptoRow, standIns := [], harness := (true, "68c99534e2e4cb504aa0d7d1f23a41187ab74555d17dcc3bb48f36aa9316247a"), looks := false }, kinds := [], alts := [], laidByText := true, laidKinds := [.data, .data, .data], laidTests := true, laidLooks := .later }
def NumSignsUptoCardSaid : Prop := Claim7.holds Tryd.pinned (.plain (OpenSpec.upto numSignsSpec)) numSignsUptoCard
end Rows
end Go.Proofs.YtihfiegopnjeiaaDoor
