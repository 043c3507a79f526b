/-
  DERIVED. GIVEN WITH THE SEED: THE CARDS: each row of YtgicddadddhonaaGreatDoorRows.lean that lists a variable, with what it lists TIED to the program's text (the seventh form; the later family's looks); each row that meets fmt, with fmt's text TOLD by the authors' own Lean function (tested against real Go, not proved from fmt's source: count such statements apart). THE CARD IS WHAT COUNTS. Prove the row's statement (the work); the ties are given (YtgicddadddhonaaGreatDoorTie.lean); close each card by the builder's one call (the guide's Derived/Test/ToyasCard.lean, 'card_holds'). Laid BY PROGRAM, IN A SANDBOX (cutbox-door.mjs). By AI agents, Wed Nov 11 2026. No macro, syntax, notation, axiom, sorry.
-/
import Derived.Test.YtgicddadddhonaaGreatDoorRows
import GoSem.ClaimSeven
namespace Go.Proofs.YtgicddadddhonaaGreatDoor
namespace Rows

/-- THE TIED CARD OF 'nsglaw19.TranslationInjective'. -/
def translationInjectiveCard : Claim7 := { stood := { row := translationInjectiveRow, standIns := [], harness := (true, "0d300fa701f3c61ccfe621e57e75b4a4da1f7cdfd0c923155ace5409809ff679"), looks := false }, kinds := [], alts := [], laidByText := true, laidKinds := [.data, .widerDeep, .data], laidTests := true, laidLooks := .later }
def TranslationInjectiveCardSaid : Prop := Claim7.holds Tryz.pinned (.plain (OpenSpec.ofChange translationInjectiveSpec)) translationInjectiveCard

/-- THE TIED CARD OF 'nsglaw19.TranslationPublished'. -/
def translationPublishedCard : Claim7 := { stood := { row := translationPublishedRow, standIns := [], harness := (true, "0d300fa701f3c61ccfe621e57e75b4a4da1f7cdfd0c923155ace5409809ff679"), looks := false }, kinds := [], alts := [], laidByText := true, laidKinds := [.data, .widerDeep, .data], laidTests := true, laidLooks := .later }
def TranslationPublishedCardSaid : Prop := Claim7.holds Tryz.pinned (.plain (OpenSpec.ofChange translationPublishedSpec)) translationPublishedCard

/-- THE TIED CARD OF 'nsglaw19.TranslationAgrees'. -/
def translationAgreesCard : Claim7 := { stood := { row := translationAgreesRow, standIns := [], harness := (true, "0d300fa701f3c61ccfe621e57e75b4a4da1f7cdfd0c923155ace5409809ff679"), looks := false }, kinds := [], alts := [], laidByText := true, laidKinds := [.data, .widerDeep, .data], laidTests := true, laidLooks := .later }
def TranslationAgreesCardSaid : Prop := Claim7.holds Tryz.pinned (.plain (OpenSpec.ofChange translationAgreesSpec)) translationAgreesCard

/-- THE TIED CARD OF 'nsglaw19.TranslationSent'. -/
def translationSentCard : Claim7 := { stood := { row := translationSentRow, standIns := [], harness := (true, "0d300fa701f3c61ccfe621e57e75b4a4da1f7cdfd0c923155ace5409809ff679"), looks := false }, kinds := [], alts := [], laidByText := true, laidKinds := [.data, .widerDeep, .data], laidTests := true, laidLooks := .later }
def TranslationSentCardSaid : Prop := Claim7.holds Tryz.pinned (.plain (OpenSpec.ofChange translationSentSpec)) translationSentCard

/-- THE TIED CARD OF 'nsglaw19.TranslationHidden'. -/
def translationHiddenCard : Claim7 := { stood := { row := translationHiddenRow, standIns := [], harness := (true, "0d300fa701f3c61ccfe621e57e75b4a4da1f7cdfd0c923155ace5409809ff679"), looks := false }, kinds := [], alts := [], laidByText := true, laidKinds := [.data, .widerDeep, .data], laidTests := true, laidLooks := .later }
def TranslationHiddenCardSaid : Prop := Claim7.holds Tryz.pinned (.plain (OpenSpec.ofChange translationHiddenSpec)) translationHiddenCard

/-- THE TIED CARD OF 'nsglaw19.TranslationMaps'. -/
def translationMapsCard : Claim7 := { stood := { row := translationMapsRow, standIns := [], harness := (true, "0d300fa701f3c61ccfe621e57e75b4a4da1f7cdfd0c923155ace5409809ff679"), looks := false }, kinds := [], alts := [], laidByText := true, laidKinds := [.data, .widerDeep, .data], laidTests := true, laidLooks := .later }
def TranslationMapsCardSaid : Prop := Claim7.holds Tryz.pinned (.plain (OpenSpec.ofChange translationMapsSpec)) translationMapsCard

/-- THE SECOND FORM's CARD OF 'nsglaw19.TranslationInjective'. -/
def translationInjectiveUptoCard : Claim7 := { stood := { row := translationInjectiveUptoRow, standIns := [], harness := (true, "0d300fa701f3c61ccfe621e57e75b4a4da1f7cdfd0c923155ace5409809ff679"), looks := false }, kinds := [], alts := [], laidByText := true, laidKinds := [.data, .widerDeep, .data], laidTests := true, laidLooks := .later }
def TranslationInjectiveUptoCardSaid : Prop := Claim7.holds Tryz.pinned (.plain (OpenSpec.upto translationInjectiveSpec)) translationInjectiveUptoCard

/-- THE SECOND FORM's CARD OF 'nsglaw19.TranslationPublished'. -/
def translationPublishedUptoCard : Claim7 := { stood := { row := translationPublishedUptoRow, standIns := [], harness := (true, "0d300fa701f3c61ccfe621e57e75b4a4da1f7cdfd0c923155ace5409809ff679"), looks := false }, kinds := [], alts := [], laidByText := true, laidKinds := [.data, .widerDeep, .data], laidTests := true, laidLooks := .later }
def TranslationPublishedUptoCardSaid : Prop := Claim7.holds Tryz.pinned (.plain (OpenSpec.upto translationPublishedSpec)) translationPublishedUptoCard

/-- THE SECOND FORM's CARD OF 'nsglaw19.TranslationAgrees'. -/
def translationAgreesUptoCard : Claim7 := { stood := { row := translationAgreesUptoRow, standIns := [], harness := (true, "0d300fa701f3c61ccfe621e57e75b4a4da1f7cdfd0c923155ace5409809ff679"), looks := false }, kinds := [], alts := [], laidByText := true, laidKinds := [.data, .widerDeep, .data], laidTests := true, laidLooks := .later }
def TranslationAgreesUptoCardSaid : Prop := Claim7.holds Tryz.pinned (.plain (OpenSpec.upto translationAgreesSpec)) translationAgreesUptoCard

/-- THE SECOND FORM's CARD OF 'nsglaw19.TranslationSent'. -/
def translationSentUptoCard : Claim7 := { stood := { row := translationSentUptoRow, standIns := [], harness := (true, "0d300fa701f3c61ccfe621e57e75b4a4da1f7cdfd0c923155ace5409809ff679"), looks := false }, kinds := [], alts := [], laidByText := true, laidKinds := [.data, .widerDeep, .data], laidTests := true, laidLooks := .later }
def TranslationSentUptoCardSaid : Prop := Claim7.holds Tryz.pinned (.plain (OpenSpec.upto translationSentSpec)) translationSentUptoCard

/-- THE SECOND FORM's CARD OF 'nsglaw19.TranslationHidden'. -/
def translationHiddenUptoCard : Claim7 := { stood := { row := translationHiddenUptoRow, standIns := [], harness := (true, "0d300fa701f3c61ccfe621e57e75b4a4da1f7cdfd0c923155ace5409809ff679"), looks := false }, kinds := [], alts := [], laidByText := true, laidKinds := [.data, .widerDeep, .data], laidTests := true, laidLooks := .later }
def TranslationHiddenUptoCardSaid : Prop := Claim7.holds Tryz.pinned (.plain (OpenSpec.upto translationHiddenSpec)) translationHiddenUptoCard

/-- THE SECOND FORM's CARD OF 'nsglaw19.TranslationMaps'. -/
def translationMapsUptoCard : Claim7 := { stood := { row := translationMapsUptoRow, standIns := [], harness := (true, "0d300fa701f3c61ccfe621e57e75b4a4da1f7cdfd0c923155ace5409809ff679"), looks := false }, kinds := [], alts := [], laidByText := true, laidKinds := [.data, .widerDeep, .data], laidTests := true, laidLooks := .later }
def TranslationMapsUptoCardSaid : Prop := Claim7.holds Tryz.pinned (.plain (OpenSpec.upto translationMapsSpec)) translationMapsUptoCard
end Rows
end Go.Proofs.YtgicddadddhonaaGreatDoor
