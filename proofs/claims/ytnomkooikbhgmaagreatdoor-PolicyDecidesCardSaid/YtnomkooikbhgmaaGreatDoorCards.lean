/-
  DERIVED. GIVEN WITH THE SEED: THE CARDS: each row of YtnomkooikbhgmaaGreatDoorRows.lean that lists a variable, with what it lists TIED to the program's text (the seventh form; the later family's looks); each row that meets fmt, with fmt's text TOLD by the authors' own Lean function (tested against real Go, not proved from fmt's source: count such statements apart). THE CARD IS WHAT COUNTS. Prove the row's statement (the work); the ties are given (YtnomkooikbhgmaaGreatDoorTie.lean); close each card by the builder's one call (the guide's Derived/Test/ToyasCard.lean, 'card_holds'). Laid BY PROGRAM, IN A SANDBOX (cutbox-door.mjs). By AI agents, Wed Nov 11 2026. No macro, syntax, notation, axiom, sorry.
-/
import Derived.Test.YtnomkooikbhgmaaGreatDoorRows
import GoSem.ClaimSeven
namespace Go.Proofs.YtnomkooikbhgmaaGreatDoor
namespace Rows

/-- THE TIED CARD OF 'nsglaw18.PolicyAt'. -/
def policyAtCard : Claim7 := { stood := { row := policyAtRow, standIns := [], harness := (true, "f4df3ecd4a4d708ac2e57598553d7bb01135985c2b5c084cc14031af00f36e3e"), looks := false }, kinds := [], alts := [], laidByText := true, laidKinds := [.data, .widerDeep], laidTests := true, laidLooks := .later }
def PolicyAtCardSaid : Prop := Claim7.holds Tryz.pinned (.plain (OpenSpec.ofChange policyAtSpec)) policyAtCard

/-- THE TIED CARD OF 'nsglaw18.PolicyDecides'. -/
def policyDecidesCard : Claim7 := { stood := { row := policyDecidesRow, standIns := [], harness := (true, "f4df3ecd4a4d708ac2e57598553d7bb01135985c2b5c084cc14031af00f36e3e"), looks := false }, kinds := [], alts := [], laidByText := true, laidKinds := [.data, .widerDeep], laidTests := true, laidLooks := .later }
def PolicyDecidesCardSaid : Prop := Claim7.holds Tryz.pinned (.plain (OpenSpec.ofChange policyDecidesSpec)) policyDecidesCard

/-- THE SECOND FORM's CARD OF 'nsglaw18.PolicyAt'. -/
def policyAtUptoCard : Claim7 := { stood := { row := policyAtUptoRow, standIns := [], harness := (true, "f4df3ecd4a4d708ac2e57598553d7bb01135985c2b5c084cc14031af00f36e3e"), looks := false }, kinds := [], alts := [], laidByText := true, laidKinds := [.data, .widerDeep], laidTests := true, laidLooks := .later }
def PolicyAtUptoCardSaid : Prop := Claim7.holds Tryz.pinned (.plain (OpenSpec.upto policyAtSpec)) policyAtUptoCard

/-- THE SECOND FORM's CARD OF 'nsglaw18.PolicyDecides'. -/
def policyDecidesUptoCard : Claim7 := { stood := { row := policyDecidesUptoRow, standIns := [], harness := (true, "f4df3ecd4a4d708ac2e57598553d7bb01135985c2b5c084cc14031af00f36e3e"), looks := false }, kinds := [], alts := [], laidByText := true, laidKinds := [.data, .widerDeep], laidTests := true, laidLooks := .later }
def PolicyDecidesUptoCardSaid : Prop := Claim7.holds Tryz.pinned (.plain (OpenSpec.upto policyDecidesSpec)) policyDecidesUptoCard
end Rows
end Go.Proofs.YtnomkooikbhgmaaGreatDoor
