/-
  DERIVED. GIVEN WITH THE SEED: THE CARDS: each row of YtokmdghjgegclaaGreatDoorRows.lean that lists a variable, with what it lists TIED to the program's text (the seventh form; the later family's looks); each row that meets fmt, with fmt's text TOLD by the authors' own Lean function (tested against real Go, not proved from fmt's source: count such statements apart). THE CARD IS WHAT COUNTS. Prove the row's statement (the work); the ties are given (YtokmdghjgegclaaGreatDoorTie.lean); close each card by the builder's one call (the guide's Derived/Test/ToyasCard.lean, 'card_holds'). Laid BY PROGRAM, IN A SANDBOX (cutbox-door.mjs). By AI agents, Wed Nov 11 2026. No macro, syntax, notation, axiom, sorry.
-/
import Derived.Test.YtokmdghjgegclaaGreatDoorRows
import GoSem.ClaimSeven
namespace Go.Proofs.YtokmdghjgegclaaGreatDoor
namespace Rows

/-- THE TIED CARD OF 'nsglaw21.PlacementAgrees'. -/
def placementAgreesCard : Claim7 := { stood := { row := placementAgreesRow, standIns := [], harness := (true, "01f9ab1afb8ecc4a7a60c9f72362d0758696e9ee541be398f30fcf50458827a3"), looks := false }, kinds := [], alts := [], laidByText := true, laidKinds := [.data, .data], laidTests := true, laidLooks := .later }
def PlacementAgreesCardSaid : Prop := Claim7.holds Tryz.pinned (.plain (OpenSpec.ofChange placementAgreesSpec)) placementAgreesCard

/-- THE TIED CARD OF 'nsglaw21.PlacementCosts'. -/
def placementCostsCard : Claim7 := { stood := { row := placementCostsRow, standIns := [], harness := (true, "01f9ab1afb8ecc4a7a60c9f72362d0758696e9ee541be398f30fcf50458827a3"), looks := false }, kinds := [], alts := [], laidByText := true, laidKinds := [.data, .data], laidTests := true, laidLooks := .later }
def PlacementCostsCardSaid : Prop := Claim7.holds Tryz.pinned (.plain (OpenSpec.ofChange placementCostsSpec)) placementCostsCard

/-- THE TIED CARD OF 'nsglaw21.PlacementFits'. -/
def placementFitsCard : Claim7 := { stood := { row := placementFitsRow, standIns := [], harness := (true, "01f9ab1afb8ecc4a7a60c9f72362d0758696e9ee541be398f30fcf50458827a3"), looks := false }, kinds := [], alts := [], laidByText := true, laidKinds := [.data, .data], laidTests := true, laidLooks := .later }
def PlacementFitsCardSaid : Prop := Claim7.holds Tryz.pinned (.plain (OpenSpec.ofChange placementFitsSpec)) placementFitsCard

/-- THE TIED CARD OF 'nsglaw21.PlacementPairs'. -/
def placementPairsCard : Claim7 := { stood := { row := placementPairsRow, standIns := [], harness := (true, "01f9ab1afb8ecc4a7a60c9f72362d0758696e9ee541be398f30fcf50458827a3"), looks := false }, kinds := [], alts := [], laidByText := true, laidKinds := [.data, .data], laidTests := true, laidLooks := .later }
def PlacementPairsCardSaid : Prop := Claim7.holds Tryz.pinned (.plain (OpenSpec.ofChange placementPairsSpec)) placementPairsCard

/-- THE TIED CARD OF 'nsglaw21.PlacementRoom'. -/
def placementRoomCard : Claim7 := { stood := { row := placementRoomRow, standIns := [], harness := (true, "01f9ab1afb8ecc4a7a60c9f72362d0758696e9ee541be398f30fcf50458827a3"), looks := false }, kinds := [], alts := [], laidByText := true, laidKinds := [.data, .data], laidTests := true, laidLooks := .later }
def PlacementRoomCardSaid : Prop := Claim7.holds Tryz.pinned (.plain (OpenSpec.ofChange placementRoomSpec)) placementRoomCard

/-- THE TIED CARD OF 'nsglaw21.PlacementWhole'. -/
def placementWholeCard : Claim7 := { stood := { row := placementWholeRow, standIns := [], harness := (true, "01f9ab1afb8ecc4a7a60c9f72362d0758696e9ee541be398f30fcf50458827a3"), looks := false }, kinds := [], alts := [], laidByText := true, laidKinds := [.data, .data], laidTests := true, laidLooks := .later }
def PlacementWholeCardSaid : Prop := Claim7.holds Tryz.pinned (.plain (OpenSpec.ofChange placementWholeSpec)) placementWholeCard

/-- THE SECOND FORM's CARD OF 'nsglaw21.PlacementAgrees'. -/
def placementAgreesUptoCard : Claim7 := { stood := { row := placementAgreesUptoRow, standIns := [], harness := (true, "01f9ab1afb8ecc4a7a60c9f72362d0758696e9ee541be398f30fcf50458827a3"), looks := false }, kinds := [], alts := [], laidByText := true, laidKinds := [.data, .data], laidTests := true, laidLooks := .later }
def PlacementAgreesUptoCardSaid : Prop := Claim7.holds Tryz.pinned (.plain (OpenSpec.upto placementAgreesSpec)) placementAgreesUptoCard

/-- THE SECOND FORM's CARD OF 'nsglaw21.PlacementCosts'. -/
def placementCostsUptoCard : Claim7 := { stood := { row := placementCostsUptoRow, standIns := [], harness := (true, "01f9ab1afb8ecc4a7a60c9f72362d0758696e9ee541be398f30fcf50458827a3"), looks := false }, kinds := [], alts := [], laidByText := true, laidKinds := [.data, .data], laidTests := true, laidLooks := .later }
def PlacementCostsUptoCardSaid : Prop := Claim7.holds Tryz.pinned (.plain (OpenSpec.upto placementCostsSpec)) placementCostsUptoCard

/-- THE SECOND FORM's CARD OF 'nsglaw21.PlacementFits'. -/
def placementFitsUptoCard : Claim7 := { stood := { row := placementFitsUptoRow, standIns := [], harness := (true, "01f9ab1afb8ecc4a7a60c9f72362d0758696e9ee541be398f30fcf50458827a3"), looks := false }, kinds := [], alts := [], laidByText := true, laidKinds := [.data, .data], laidTests := true, laidLooks := .later }
def PlacementFitsUptoCardSaid : Prop := Claim7.holds Tryz.pinned (.plain (OpenSpec.upto placementFitsSpec)) placementFitsUptoCard

/-- THE SECOND FORM's CARD OF 'nsglaw21.PlacementPairs'. -/
def placementPairsUptoCard : Claim7 := { stood := { row := placementPairsUptoRow, standIns := [], harness := (true, "01f9ab1afb8ecc4a7a60c9f72362d0758696e9ee541be398f30fcf50458827a3"), looks := false }, kinds := [], alts := [], laidByText := true, laidKinds := [.data, .data], laidTests := true, laidLooks := .later }
def PlacementPairsUptoCardSaid : Prop := Claim7.holds Tryz.pinned (.plain (OpenSpec.upto placementPairsSpec)) placementPairsUptoCard

/-- THE SECOND FORM's CARD OF 'nsglaw21.PlacementRoom'. -/
def placementRoomUptoCard : Claim7 := { stood := { row := placementRoomUptoRow, standIns := [], harness := (true, "01f9ab1afb8ecc4a7a60c9f72362d0758696e9ee541be398f30fcf50458827a3"), looks := false }, kinds := [], alts := [], laidByText := true, laidKinds := [.data, .data], laidTests := true, laidLooks := .later }
def PlacementRoomUptoCardSaid : Prop := Claim7.holds Tryz.pinned (.plain (OpenSpec.upto placementRoomSpec)) placementRoomUptoCard

/-- THE SECOND FORM's CARD OF 'nsglaw21.PlacementWhole'. -/
def placementWholeUptoCard : Claim7 := { stood := { row := placementWholeUptoRow, standIns := [], harness := (true, "01f9ab1afb8ecc4a7a60c9f72362d0758696e9ee541be398f30fcf50458827a3"), looks := false }, kinds := [], alts := [], laidByText := true, laidKinds := [.data, .data], laidTests := true, laidLooks := .later }
def PlacementWholeUptoCardSaid : Prop := Claim7.holds Tryz.pinned (.plain (OpenSpec.upto placementWholeSpec)) placementWholeUptoCard
end Rows
end Go.Proofs.YtokmdghjgegclaaGreatDoor
