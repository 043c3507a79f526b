/-
  DERIVED. GIVEN WITH THE SEED: THE CARDS: each row of YtahhamfngafmcaaGreatDoorRows.lean that lists a variable, with what it lists TIED to the program's text (the seventh form; the later family's looks); each row that meets fmt, with fmt's text TOLD by the authors' own Lean function (tested against real Go, not proved from fmt's source: count such statements apart). THE CARD IS WHAT COUNTS. Prove the row's statement (the work); the ties are given (YtahhamfngafmcaaGreatDoorTie.lean); close each card by the builder's one call (the guide's Derived/Test/ToyasCard.lean, 'card_holds'). Laid BY PROGRAM, IN A SANDBOX (cutbox-door.mjs). By AI agents, Wed Nov 11 2026. No macro, syntax, notation, axiom, sorry.
-/
import Derived.Test.YtahhamfngafmcaaGreatDoorRows
import GoSem.ClaimSeven
namespace Go.Proofs.YtahhamfngafmcaaGreatDoor
namespace Rows

/-- THE TIED CARD OF 'nsglaw17.ResolveItems'. -/
def resolveItemsCard : Claim7 := { stood := { row := resolveItemsRow, standIns := [], harness := (true, "86745944295ebd5827836cb44bb335b0fd66e7871256acf6ad75c0baf3fb9183"), looks := false }, kinds := [], alts := [], laidByText := true, laidKinds := [.data, .widerDeep], laidTests := true, laidLooks := .later }
def ResolveItemsCardSaid : Prop := Claim7.holds Tryz.pinned (.plain (OpenSpec.ofChange resolveItemsSpec)) resolveItemsCard

/-- THE TIED CARD OF 'nsglaw17.ResolveMonotone'. -/
def resolveMonotoneCard : Claim7 := { stood := { row := resolveMonotoneRow, standIns := [], harness := (true, "86745944295ebd5827836cb44bb335b0fd66e7871256acf6ad75c0baf3fb9183"), looks := false }, kinds := [], alts := [], laidByText := true, laidKinds := [.data, .widerDeep], laidTests := true, laidLooks := .later }
def ResolveMonotoneCardSaid : Prop := Claim7.holds Tryz.pinned (.plain (OpenSpec.ofChange resolveMonotoneSpec)) resolveMonotoneCard

/-- THE TIED CARD OF 'nsglaw17.ResolveServices'. -/
def resolveServicesCard : Claim7 := { stood := { row := resolveServicesRow, standIns := [], harness := (true, "86745944295ebd5827836cb44bb335b0fd66e7871256acf6ad75c0baf3fb9183"), looks := false }, kinds := [], alts := [], laidByText := true, laidKinds := [.data, .widerDeep], laidTests := true, laidLooks := .later }
def ResolveServicesCardSaid : Prop := Claim7.holds Tryz.pinned (.plain (OpenSpec.ofChange resolveServicesSpec)) resolveServicesCard

/-- THE TIED CARD OF 'nsglaw17.ResolveCycles'. -/
def resolveCyclesCard : Claim7 := { stood := { row := resolveCyclesRow, standIns := [], harness := (true, "86745944295ebd5827836cb44bb335b0fd66e7871256acf6ad75c0baf3fb9183"), looks := false }, kinds := [], alts := [], laidByText := true, laidKinds := [.data, .widerDeep], laidTests := true, laidLooks := .later }
def ResolveCyclesCardSaid : Prop := Claim7.holds Tryz.pinned (.plain (OpenSpec.ofChange resolveCyclesSpec)) resolveCyclesCard

/-- THE TIED CARD OF 'nsglaw17.ResolveAgrees'. -/
def resolveAgreesCard : Claim7 := { stood := { row := resolveAgreesRow, standIns := [], harness := (true, "86745944295ebd5827836cb44bb335b0fd66e7871256acf6ad75c0baf3fb9183"), looks := false }, kinds := [], alts := [], laidByText := true, laidKinds := [.data, .widerDeep], laidTests := true, laidLooks := .later }
def ResolveAgreesCardSaid : Prop := Claim7.holds Tryz.pinned (.plain (OpenSpec.ofChange resolveAgreesSpec)) resolveAgreesCard

/-- THE TIED CARD OF 'nsglaw17.ResolvePoints'. -/
def resolvePointsCard : Claim7 := { stood := { row := resolvePointsRow, standIns := [], harness := (true, "86745944295ebd5827836cb44bb335b0fd66e7871256acf6ad75c0baf3fb9183"), looks := false }, kinds := [], alts := [], laidByText := true, laidKinds := [.data, .widerDeep], laidTests := true, laidLooks := .later }
def ResolvePointsCardSaid : Prop := Claim7.holds Tryz.pinned (.plain (OpenSpec.ofChange resolvePointsSpec)) resolvePointsCard

/-- THE SECOND FORM's CARD OF 'nsglaw17.ResolveItems'. -/
def resolveItemsUptoCard : Claim7 := { stood := { row := resolveItemsUptoRow, standIns := [], harness := (true, "86745944295ebd5827836cb44bb335b0fd66e7871256acf6ad75c0baf3fb9183"), looks := false }, kinds := [], alts := [], laidByText := true, laidKinds := [.data, .widerDeep], laidTests := true, laidLooks := .later }
def ResolveItemsUptoCardSaid : Prop := Claim7.holds Tryz.pinned (.plain (OpenSpec.upto resolveItemsSpec)) resolveItemsUptoCard

/-- THE SECOND FORM's CARD OF 'nsglaw17.ResolveMonotone'. -/
def resolveMonotoneUptoCard : Claim7 := { stood := { row := resolveMonotoneUptoRow, standIns := [], harness := (true, "86745944295ebd5827836cb44bb335b0fd66e7871256acf6ad75c0baf3fb9183"), looks := false }, kinds := [], alts := [], laidByText := true, laidKinds := [.data, .widerDeep], laidTests := true, laidLooks := .later }
def ResolveMonotoneUptoCardSaid : Prop := Claim7.holds Tryz.pinned (.plain (OpenSpec.upto resolveMonotoneSpec)) resolveMonotoneUptoCard

/-- THE SECOND FORM's CARD OF 'nsglaw17.ResolveServices'. -/
def resolveServicesUptoCard : Claim7 := { stood := { row := resolveServicesUptoRow, standIns := [], harness := (true, "86745944295ebd5827836cb44bb335b0fd66e7871256acf6ad75c0baf3fb9183"), looks := false }, kinds := [], alts := [], laidByText := true, laidKinds := [.data, .widerDeep], laidTests := true, laidLooks := .later }
def ResolveServicesUptoCardSaid : Prop := Claim7.holds Tryz.pinned (.plain (OpenSpec.upto resolveServicesSpec)) resolveServicesUptoCard

/-- THE SECOND FORM's CARD OF 'nsglaw17.ResolveCycles'. -/
def resolveCyclesUptoCard : Claim7 := { stood := { row := resolveCyclesUptoRow, standIns := [], harness := (true, "86745944295ebd5827836cb44bb335b0fd66e7871256acf6ad75c0baf3fb9183"), looks := false }, kinds := [], alts := [], laidByText := true, laidKinds := [.data, .widerDeep], laidTests := true, laidLooks := .later }
def ResolveCyclesUptoCardSaid : Prop := Claim7.holds Tryz.pinned (.plain (OpenSpec.upto resolveCyclesSpec)) resolveCyclesUptoCard

/-- THE SECOND FORM's CARD OF 'nsglaw17.ResolveAgrees'. -/
def resolveAgreesUptoCard : Claim7 := { stood := { row := resolveAgreesUptoRow, standIns := [], harness := (true, "86745944295ebd5827836cb44bb335b0fd66e7871256acf6ad75c0baf3fb9183"), looks := false }, kinds := [], alts := [], laidByText := true, laidKinds := [.data, .widerDeep], laidTests := true, laidLooks := .later }
def ResolveAgreesUptoCardSaid : Prop := Claim7.holds Tryz.pinned (.plain (OpenSpec.upto resolveAgreesSpec)) resolveAgreesUptoCard

/-- THE SECOND FORM's CARD OF 'nsglaw17.ResolvePoints'. -/
def resolvePointsUptoCard : Claim7 := { stood := { row := resolvePointsUptoRow, standIns := [], harness := (true, "86745944295ebd5827836cb44bb335b0fd66e7871256acf6ad75c0baf3fb9183"), looks := false }, kinds := [], alts := [], laidByText := true, laidKinds := [.data, .widerDeep], laidTests := true, laidLooks := .later }
def ResolvePointsUptoCardSaid : Prop := Claim7.holds Tryz.pinned (.plain (OpenSpec.upto resolvePointsSpec)) resolvePointsUptoCard
end Rows
end Go.Proofs.YtahhamfngafmcaaGreatDoor
