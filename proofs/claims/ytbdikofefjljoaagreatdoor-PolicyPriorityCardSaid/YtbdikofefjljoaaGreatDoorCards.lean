/-
  DERIVED. GIVEN WITH THE SEED: THE CARDS: each row of YtbdikofefjljoaaGreatDoorRows.lean that lists a variable, with what it lists TIED to the program's text (the seventh form; the later family's looks); each row that meets fmt, with fmt's text TOLD by the authors' own Lean function (tested against real Go, not proved from fmt's source: count such statements apart). THE CARD IS WHAT COUNTS. Prove the row's statement (the work); the ties are given (YtbdikofefjljoaaGreatDoorTie.lean); close each card by the builder's one call (the guide's Derived/Test/ToyasCard.lean, 'card_holds'). Laid BY PROGRAM, IN A SANDBOX (cutbox-door.mjs). By AI agents, Wed Nov 11 2026. No macro, syntax, notation, axiom, sorry.
-/
import Derived.Test.YtbdikofefjljoaaGreatDoorRows
import GoSem.ClaimSeven
namespace Go.Proofs.YtbdikofefjljoaaGreatDoor
namespace Rows

/-- THE TIED CARD OF 'nsglaw18.PolicyAt'. -/
def policyAtCard : Claim7 := { stood := { row := policyAtRow, standIns := [], harness := (true, "72352d655e36f55304bd55435bdc48f7cf8fbfc0175507057daf3f387fefe207"), looks := false }, kinds := [], alts := [], laidByText := true, laidKinds := [.data, .widerDeep], laidTests := true, laidLooks := .later }
def PolicyAtCardSaid : Prop := Claim7.holds Tryz.pinned (.plain (OpenSpec.ofChange policyAtSpec)) policyAtCard

/-- THE TIED CARD OF 'nsglaw18.PolicyPoints'. -/
def policyPointsCard : Claim7 := { stood := { row := policyPointsRow, standIns := [], harness := (true, "72352d655e36f55304bd55435bdc48f7cf8fbfc0175507057daf3f387fefe207"), looks := false }, kinds := [], alts := [], laidByText := true, laidKinds := [.data, .widerDeep], laidTests := true, laidLooks := .later }
def PolicyPointsCardSaid : Prop := Claim7.holds Tryz.pinned (.plain (OpenSpec.ofChange policyPointsSpec)) policyPointsCard

/-- THE TIED CARD OF 'nsglaw18.PolicyPriority'. -/
def policyPriorityCard : Claim7 := { stood := { row := policyPriorityRow, standIns := [], harness := (true, "72352d655e36f55304bd55435bdc48f7cf8fbfc0175507057daf3f387fefe207"), looks := false }, kinds := [], alts := [], laidByText := true, laidKinds := [.data, .widerDeep], laidTests := true, laidLooks := .later }
def PolicyPriorityCardSaid : Prop := Claim7.holds Tryz.pinned (.plain (OpenSpec.ofChange policyPrioritySpec)) policyPriorityCard

/-- THE TIED CARD OF 'nsglaw18.PolicyReads'. -/
def policyReadsCard : Claim7 := { stood := { row := policyReadsRow, standIns := [], harness := (true, "72352d655e36f55304bd55435bdc48f7cf8fbfc0175507057daf3f387fefe207"), looks := false }, kinds := [], alts := [], laidByText := true, laidKinds := [.data, .widerDeep], laidTests := true, laidLooks := .later }
def PolicyReadsCardSaid : Prop := Claim7.holds Tryz.pinned (.plain (OpenSpec.ofChange policyReadsSpec)) policyReadsCard

/-- THE TIED CARD OF 'nsglaw18.PolicyPairs'. -/
def policyPairsCard : Claim7 := { stood := { row := policyPairsRow, standIns := [], harness := (true, "72352d655e36f55304bd55435bdc48f7cf8fbfc0175507057daf3f387fefe207"), looks := false }, kinds := [], alts := [], laidByText := true, laidKinds := [.data, .widerDeep], laidTests := true, laidLooks := .later }
def PolicyPairsCardSaid : Prop := Claim7.holds Tryz.pinned (.plain (OpenSpec.ofChange policyPairsSpec)) policyPairsCard

/-- THE TIED CARD OF 'nsglaw18.PolicyDecides'. -/
def policyDecidesCard : Claim7 := { stood := { row := policyDecidesRow, standIns := [], harness := (true, "72352d655e36f55304bd55435bdc48f7cf8fbfc0175507057daf3f387fefe207"), looks := false }, kinds := [], alts := [], laidByText := true, laidKinds := [.data, .widerDeep], laidTests := true, laidLooks := .later }
def PolicyDecidesCardSaid : Prop := Claim7.holds Tryz.pinned (.plain (OpenSpec.ofChange policyDecidesSpec)) policyDecidesCard

/-- THE TIED CARD OF 'nsglaw18.PolicySegments'. -/
def policySegmentsCard : Claim7 := { stood := { row := policySegmentsRow, standIns := [], harness := (true, "72352d655e36f55304bd55435bdc48f7cf8fbfc0175507057daf3f387fefe207"), looks := false }, kinds := [], alts := [], laidByText := true, laidKinds := [.data, .widerDeep], laidTests := true, laidLooks := .later }
def PolicySegmentsCardSaid : Prop := Claim7.holds Tryz.pinned (.plain (OpenSpec.ofChange policySegmentsSpec)) policySegmentsCard

/-- THE SECOND FORM's CARD OF 'nsglaw18.PolicyAt'. -/
def policyAtUptoCard : Claim7 := { stood := { row := policyAtUptoRow, standIns := [], harness := (true, "72352d655e36f55304bd55435bdc48f7cf8fbfc0175507057daf3f387fefe207"), looks := false }, kinds := [], alts := [], laidByText := true, laidKinds := [.data, .widerDeep], laidTests := true, laidLooks := .later }
def PolicyAtUptoCardSaid : Prop := Claim7.holds Tryz.pinned (.plain (OpenSpec.upto policyAtSpec)) policyAtUptoCard

/-- THE SECOND FORM's CARD OF 'nsglaw18.PolicyPoints'. -/
def policyPointsUptoCard : Claim7 := { stood := { row := policyPointsUptoRow, standIns := [], harness := (true, "72352d655e36f55304bd55435bdc48f7cf8fbfc0175507057daf3f387fefe207"), looks := false }, kinds := [], alts := [], laidByText := true, laidKinds := [.data, .widerDeep], laidTests := true, laidLooks := .later }
def PolicyPointsUptoCardSaid : Prop := Claim7.holds Tryz.pinned (.plain (OpenSpec.upto policyPointsSpec)) policyPointsUptoCard

/-- THE SECOND FORM's CARD OF 'nsglaw18.PolicyPriority'. -/
def policyPriorityUptoCard : Claim7 := { stood := { row := policyPriorityUptoRow, standIns := [], harness := (true, "72352d655e36f55304bd55435bdc48f7cf8fbfc0175507057daf3f387fefe207"), looks := false }, kinds := [], alts := [], laidByText := true, laidKinds := [.data, .widerDeep], laidTests := true, laidLooks := .later }
def PolicyPriorityUptoCardSaid : Prop := Claim7.holds Tryz.pinned (.plain (OpenSpec.upto policyPrioritySpec)) policyPriorityUptoCard

/-- THE SECOND FORM's CARD OF 'nsglaw18.PolicyReads'. -/
def policyReadsUptoCard : Claim7 := { stood := { row := policyReadsUptoRow, standIns := [], harness := (true, "72352d655e36f55304bd55435bdc48f7cf8fbfc0175507057daf3f387fefe207"), looks := false }, kinds := [], alts := [], laidByText := true, laidKinds := [.data, .widerDeep], laidTests := true, laidLooks := .later }
def PolicyReadsUptoCardSaid : Prop := Claim7.holds Tryz.pinned (.plain (OpenSpec.upto policyReadsSpec)) policyReadsUptoCard

/-- THE SECOND FORM's CARD OF 'nsglaw18.PolicyPairs'. -/
def policyPairsUptoCard : Claim7 := { stood := { row := policyPairsUptoRow, standIns := [], harness := (true, "72352d655e36f55304bd55435bdc48f7cf8fbfc0175507057daf3f387fefe207"), looks := false }, kinds := [], alts := [], laidByText := true, laidKinds := [.data, .widerDeep], laidTests := true, laidLooks := .later }
def PolicyPairsUptoCardSaid : Prop := Claim7.holds Tryz.pinned (.plain (OpenSpec.upto policyPairsSpec)) policyPairsUptoCard

/-- THE SECOND FORM's CARD OF 'nsglaw18.PolicyDecides'. -/
def policyDecidesUptoCard : Claim7 := { stood := { row := policyDecidesUptoRow, standIns := [], harness := (true, "72352d655e36f55304bd55435bdc48f7cf8fbfc0175507057daf3f387fefe207"), looks := false }, kinds := [], alts := [], laidByText := true, laidKinds := [.data, .widerDeep], laidTests := true, laidLooks := .later }
def PolicyDecidesUptoCardSaid : Prop := Claim7.holds Tryz.pinned (.plain (OpenSpec.upto policyDecidesSpec)) policyDecidesUptoCard

/-- THE SECOND FORM's CARD OF 'nsglaw18.PolicySegments'. -/
def policySegmentsUptoCard : Claim7 := { stood := { row := policySegmentsUptoRow, standIns := [], harness := (true, "72352d655e36f55304bd55435bdc48f7cf8fbfc0175507057daf3f387fefe207"), looks := false }, kinds := [], alts := [], laidByText := true, laidKinds := [.data, .widerDeep], laidTests := true, laidLooks := .later }
def PolicySegmentsUptoCardSaid : Prop := Claim7.holds Tryz.pinned (.plain (OpenSpec.upto policySegmentsSpec)) policySegmentsUptoCard
end Rows
end Go.Proofs.YtbdikofefjljoaaGreatDoor
