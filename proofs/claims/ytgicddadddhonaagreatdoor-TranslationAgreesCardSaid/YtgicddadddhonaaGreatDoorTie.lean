/-
  DERIVED. GIVEN WITH THE SEED: THE PROGRAM's TIES (one call each: nine closed facts by the kernel) AND EACH ROW's TIE, after the 31st guide's Derived/Test/Toyas{Tie, Card}.lean. No idea stands in it: it is a product of the set-up. Laid BY PROGRAM, IN A SANDBOX (cutbox-door.mjs). By AI agents, Wed Nov 11 2026. No macro, syntax, notation, axiom, sorry.
-/
import Derived.Test.YtgicddadddhonaaGreatDoorRows
import Derived.LaidByTextLater
import Derived.SevenTiedAt
import Derived.LaidSub
import Derived.LaidOnce
namespace Go.Proofs.YtgicddadddhonaaGreatDoor
open Go
set_option maxRecDepth 100000
theorem seatTie1 : Tryz.prog.laidByTextLater [("netsegment/box.tops", Rows.laid_netsegment_box_tops), ("netsegment/calendar.names", Rows.laid_netsegment_calendar_names), ("netsegment/translation.protocols", Rows.laid_netsegment_translation_protocols)] [.data, .widerDeep, .data] true :=
  Program.laidByTextLater_by_one 31 8 15 (by kernel_rfl) (by kernel_rfl) (by kernel_rfl) (by kernel_rfl) (by kernel_rfl) (by kernel_rfl) (fun _ _ => by kernel_rfl)
theorem noOwnUnsafe : Tryz.pinned.checked.prog.headLifts.contains "ownunsafe" = false := by kernel_rfl
theorem tie : Tryz.prog.laidByTextLater [("netsegment/box.tops", Rows.laid_netsegment_box_tops), ("netsegment/calendar.names", Rows.laid_netsegment_calendar_names), ("netsegment/translation.protocols", Rows.laid_netsegment_translation_protocols)] [.data, .widerDeep, .data] true :=
  Program.laidByTextLater.sub seatTie1 ["netsegment/box.tops", "netsegment/calendar.names", "netsegment/translation.protocols"] (by kernel_rfl) (by kernel_rfl)
theorem translationInjective_row_tie : Rows.translationInjectiveRow.laidByTextAt .later Tryz.pinned [.data, .widerDeep, .data] true :=
  OpenClaim.laidByTextAt_later rfl rfl tie noOwnUnsafe
theorem translationPublished_row_tie : Rows.translationPublishedRow.laidByTextAt .later Tryz.pinned [.data, .widerDeep, .data] true :=
  OpenClaim.laidByTextAt_later rfl rfl tie noOwnUnsafe
theorem translationAgrees_row_tie : Rows.translationAgreesRow.laidByTextAt .later Tryz.pinned [.data, .widerDeep, .data] true :=
  OpenClaim.laidByTextAt_later rfl rfl tie noOwnUnsafe
theorem translationSent_row_tie : Rows.translationSentRow.laidByTextAt .later Tryz.pinned [.data, .widerDeep, .data] true :=
  OpenClaim.laidByTextAt_later rfl rfl tie noOwnUnsafe
theorem translationHidden_row_tie : Rows.translationHiddenRow.laidByTextAt .later Tryz.pinned [.data, .widerDeep, .data] true :=
  OpenClaim.laidByTextAt_later rfl rfl tie noOwnUnsafe
theorem translationMaps_row_tie : Rows.translationMapsRow.laidByTextAt .later Tryz.pinned [.data, .widerDeep, .data] true :=
  OpenClaim.laidByTextAt_later rfl rfl tie noOwnUnsafe
theorem translationInjectiveUpto_row_tie : Rows.translationInjectiveUptoRow.laidByTextAt .later Tryz.pinned [.data, .widerDeep, .data] true :=
  OpenClaim.laidByTextAt_later rfl rfl tie noOwnUnsafe
theorem translationPublishedUpto_row_tie : Rows.translationPublishedUptoRow.laidByTextAt .later Tryz.pinned [.data, .widerDeep, .data] true :=
  OpenClaim.laidByTextAt_later rfl rfl tie noOwnUnsafe
theorem translationAgreesUpto_row_tie : Rows.translationAgreesUptoRow.laidByTextAt .later Tryz.pinned [.data, .widerDeep, .data] true :=
  OpenClaim.laidByTextAt_later rfl rfl tie noOwnUnsafe
theorem translationSentUpto_row_tie : Rows.translationSentUptoRow.laidByTextAt .later Tryz.pinned [.data, .widerDeep, .data] true :=
  OpenClaim.laidByTextAt_later rfl rfl tie noOwnUnsafe
theorem translationHiddenUpto_row_tie : Rows.translationHiddenUptoRow.laidByTextAt .later Tryz.pinned [.data, .widerDeep, .data] true :=
  OpenClaim.laidByTextAt_later rfl rfl tie noOwnUnsafe
theorem translationMapsUpto_row_tie : Rows.translationMapsUptoRow.laidByTextAt .later Tryz.pinned [.data, .widerDeep, .data] true :=
  OpenClaim.laidByTextAt_later rfl rfl tie noOwnUnsafe
end Go.Proofs.YtgicddadddhonaaGreatDoor
