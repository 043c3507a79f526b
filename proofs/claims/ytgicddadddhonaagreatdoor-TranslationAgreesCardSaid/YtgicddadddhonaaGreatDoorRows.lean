/-
  NARROWER THAN 'FOR EVERY INPUT', by the rows' own cells (each row's printed sentence says how): TranslationInjective: laid · TranslationPublished: laid · TranslationAgrees: laid · TranslationSent: laid · TranslationHidden: laid · TranslationMaps: laid.
  DERIVED. THE GIVEN ROWS OF THIS SEAT. 6 by the template 'for every input the law returns true; each argument reads behind the call as it read before'; 0 by the template 'total and deterministic' (their statements: YtgicddadddhonaaGreatDoorTotals.lean).
  GIVEN WITH THE SEED: the statements are not yours to turn. If you find one false, say at which input.
  Laid BY PROGRAM, IN A SANDBOX (cutbox-rows.mjs): the forced cells as the released guide's own fill.sh prints them over the translation 525e75eafcae6908… (all of the seat's roots in one cut). By AI agents, Wed Nov 11 2026. No macro, syntax, notation, axiom, sorry.
-/
import Derived.Test.YtgicddadddhonaaGreatDoorChecked
import GoSem.Claim
import GoSem.ClaimJoined
import GoSem.ClaimMapViews
import Derived.JoinedTies
import Derived.KernelRfl
namespace Go.Proofs.YtgicddadddhonaaGreatDoor
/- THE CELL 'sum', in the pinned program and in every row, IS THE sha256 OF THE DUMP (.gsa) THAT YtgicddadddhonaaGreatDoorProg.lean LOADS. Nothing in Lean hashes anything: it is a label: what it is worth is what the hold of that sum in a sandbox is worth. -/
noncomputable def Tryz.pinned : Pinned := { name := "ytgicddadddhonaagreatdoor", sum := "525e75eafcae6908182a70db40050588d8c2c1e3098ce0beb07618d6e3c63fc8", checked := Tryz.checked }
namespace Rows
def none {H : Type} : Left H := { results := [], args := [] }

/- WHAT THE LISTED PACKAGE-LEVEL VARIABLES READ AS WHEN THE CALL BEGINS. Each datum BY PROGRAM (the guide's laid-datum.mjs) off the statement by which the dump's own 'gosem.cut.vars' lays the variable. In a bare row this is a premise. The card (YtgicddadddhonaaGreatDoorCards.lean) ties it to the program's text. -/
def laid_netsegment_box_tops {H : Type} : DataW H := .agg [.lit (.int .u32 4294967295), .lit (.int .u32 4294967295), .lit (.int .u32 255), .lit (.int .u32 65535), .lit (.int .u32 65535)]
def laid_netsegment_calendar_names {H : Type} : DataW H := .agg [.lit (.string [109, 111, 110]), .lit (.string [116, 117, 101]), .lit (.string [119, 101, 100]), .lit (.string [116, 104, 117]), .lit (.string [102, 114, 105]), .lit (.string [115, 97, 116]), .lit (.string [115, 117, 110])]
def laid_netsegment_translation_protocols {H : Type} : DataW H := .agg [.agg [.lit (.int .u32 6), .lit (.int .u32 6)], .agg [.lit (.int .u32 17), .lit (.int .u32 17)], .agg [.lit (.int .u32 1), .lit (.int .u32 1)], .agg [.lit (.int .u32 0), .lit (.int .u32 0)], .agg [.lit (.int .u32 2), .lit (.int .u32 5)], .agg [.lit (.int .u32 7), .lit (.int .u32 16)], .agg [.lit (.int .u32 18), .lit (.int .u32 255)]]

/-- 'nsglaw19.TranslationInjective': WHATEVER THE INPUT: true; the input reads as it did. -/
def translationInjectiveSpec : ChangeSpec := { name := "translationInjective", fn := fun _ => fun
  | [d1, d2, d3] => { results := [.lit (.bool true)], args := [d1, d2, d3] }
  | _ => none }
def translationInjectiveRow : OpenClaim := { program := "ytgicddadddhonaagreatdoor", sum := "525e75eafcae6908182a70db40050588d8c2c1e3098ce0beb07618d6e3c63fc8", func := "netsegment/nsglaw19.TranslationInjective", spec := "translationInjective", unfollowed := true, recurses := true, named := ["netsegment/calendar.names", "netsegment/box.tops", "netsegment/translation.protocols"], apart := false, laid := [("netsegment/box.tops", laid_netsegment_box_tops), ("netsegment/calendar.names", laid_netsegment_calendar_names), ("netsegment/translation.protocols", laid_netsegment_translation_protocols)] }
def TranslationInjectiveSaid : Prop := translationInjectiveRow.holds Tryz.pinned (OpenSpec.ofChange translationInjectiveSpec)

/-- ITS FALSE NEIGHBOUR: 'it returns false'. Refute it at one input. -/
def translationInjectiveWrong : ChangeSpec := { name := "translationInjective", fn := fun _ => fun
  | [d1, d2, d3] => { results := [.lit (.bool false)], args := [d1, d2, d3] }
  | _ => none }
def TranslationInjectiveWrongFalsely : Prop := translationInjectiveRow.holds Tryz.pinned (OpenSpec.ofChange translationInjectiveWrong)

/-- 'nsglaw19.TranslationPublished': WHATEVER THE INPUT: true; the input reads as it did. -/
def translationPublishedSpec : ChangeSpec := { name := "translationPublished", fn := fun _ => fun
  | [d1, d2, d3] => { results := [.lit (.bool true)], args := [d1, d2, d3] }
  | _ => none }
def translationPublishedRow : OpenClaim := { program := "ytgicddadddhonaagreatdoor", sum := "525e75eafcae6908182a70db40050588d8c2c1e3098ce0beb07618d6e3c63fc8", func := "netsegment/nsglaw19.TranslationPublished", spec := "translationPublished", unfollowed := true, recurses := true, named := ["netsegment/calendar.names", "netsegment/box.tops", "netsegment/translation.protocols"], apart := false, laid := [("netsegment/box.tops", laid_netsegment_box_tops), ("netsegment/calendar.names", laid_netsegment_calendar_names), ("netsegment/translation.protocols", laid_netsegment_translation_protocols)] }
def TranslationPublishedSaid : Prop := translationPublishedRow.holds Tryz.pinned (OpenSpec.ofChange translationPublishedSpec)

/-- ITS FALSE NEIGHBOUR: 'it returns false'. Refute it at one input. -/
def translationPublishedWrong : ChangeSpec := { name := "translationPublished", fn := fun _ => fun
  | [d1, d2, d3] => { results := [.lit (.bool false)], args := [d1, d2, d3] }
  | _ => none }
def TranslationPublishedWrongFalsely : Prop := translationPublishedRow.holds Tryz.pinned (OpenSpec.ofChange translationPublishedWrong)

/-- 'nsglaw19.TranslationAgrees': WHATEVER THE INPUT: true; the input reads as it did. -/
def translationAgreesSpec : ChangeSpec := { name := "translationAgrees", fn := fun _ => fun
  | [d1, d2, d3, d4] => { results := [.lit (.bool true)], args := [d1, d2, d3, d4] }
  | _ => none }
def translationAgreesRow : OpenClaim := { program := "ytgicddadddhonaagreatdoor", sum := "525e75eafcae6908182a70db40050588d8c2c1e3098ce0beb07618d6e3c63fc8", func := "netsegment/nsglaw19.TranslationAgrees", spec := "translationAgrees", unfollowed := true, recurses := true, named := ["netsegment/calendar.names", "netsegment/box.tops", "netsegment/translation.protocols"], apart := false, laid := [("netsegment/box.tops", laid_netsegment_box_tops), ("netsegment/calendar.names", laid_netsegment_calendar_names), ("netsegment/translation.protocols", laid_netsegment_translation_protocols)] }
def TranslationAgreesSaid : Prop := translationAgreesRow.holds Tryz.pinned (OpenSpec.ofChange translationAgreesSpec)

/-- ITS FALSE NEIGHBOUR: 'it returns false'. Refute it at one input. -/
def translationAgreesWrong : ChangeSpec := { name := "translationAgrees", fn := fun _ => fun
  | [d1, d2, d3, d4] => { results := [.lit (.bool false)], args := [d1, d2, d3, d4] }
  | _ => none }
def TranslationAgreesWrongFalsely : Prop := translationAgreesRow.holds Tryz.pinned (OpenSpec.ofChange translationAgreesWrong)

/-- 'nsglaw19.TranslationSent': WHATEVER THE INPUT: true; the input reads as it did. -/
def translationSentSpec : ChangeSpec := { name := "translationSent", fn := fun _ => fun
  | [d1, d2] => { results := [.lit (.bool true)], args := [d1, d2] }
  | _ => none }
def translationSentRow : OpenClaim := { program := "ytgicddadddhonaagreatdoor", sum := "525e75eafcae6908182a70db40050588d8c2c1e3098ce0beb07618d6e3c63fc8", func := "netsegment/nsglaw19.TranslationSent", spec := "translationSent", unfollowed := true, recurses := true, named := ["netsegment/box.tops", "netsegment/calendar.names", "netsegment/translation.protocols"], apart := false, laid := [("netsegment/box.tops", laid_netsegment_box_tops), ("netsegment/calendar.names", laid_netsegment_calendar_names), ("netsegment/translation.protocols", laid_netsegment_translation_protocols)] }
def TranslationSentSaid : Prop := translationSentRow.holds Tryz.pinned (OpenSpec.ofChange translationSentSpec)

/-- ITS FALSE NEIGHBOUR: 'it returns false'. Refute it at one input. -/
def translationSentWrong : ChangeSpec := { name := "translationSent", fn := fun _ => fun
  | [d1, d2] => { results := [.lit (.bool false)], args := [d1, d2] }
  | _ => none }
def TranslationSentWrongFalsely : Prop := translationSentRow.holds Tryz.pinned (OpenSpec.ofChange translationSentWrong)

/-- 'nsglaw19.TranslationHidden': WHATEVER THE INPUT: true; the input reads as it did. -/
def translationHiddenSpec : ChangeSpec := { name := "translationHidden", fn := fun _ => fun
  | [d1, d2] => { results := [.lit (.bool true)], args := [d1, d2] }
  | _ => none }
def translationHiddenRow : OpenClaim := { program := "ytgicddadddhonaagreatdoor", sum := "525e75eafcae6908182a70db40050588d8c2c1e3098ce0beb07618d6e3c63fc8", func := "netsegment/nsglaw19.TranslationHidden", spec := "translationHidden", unfollowed := true, recurses := true, named := ["netsegment/calendar.names", "netsegment/box.tops", "netsegment/translation.protocols"], apart := false, laid := [("netsegment/box.tops", laid_netsegment_box_tops), ("netsegment/calendar.names", laid_netsegment_calendar_names), ("netsegment/translation.protocols", laid_netsegment_translation_protocols)] }
def TranslationHiddenSaid : Prop := translationHiddenRow.holds Tryz.pinned (OpenSpec.ofChange translationHiddenSpec)

/-- ITS FALSE NEIGHBOUR: 'it returns false'. Refute it at one input. -/
def translationHiddenWrong : ChangeSpec := { name := "translationHidden", fn := fun _ => fun
  | [d1, d2] => { results := [.lit (.bool false)], args := [d1, d2] }
  | _ => none }
def TranslationHiddenWrongFalsely : Prop := translationHiddenRow.holds Tryz.pinned (OpenSpec.ofChange translationHiddenWrong)

/-- 'nsglaw19.TranslationMaps': WHATEVER THE INPUT: true; the input reads as it did. -/
def translationMapsSpec : ChangeSpec := { name := "translationMaps", fn := fun _ => fun
  | [d1, d2, d3, d4, d5] => { results := [.lit (.bool true)], args := [d1, d2, d3, d4, d5] }
  | _ => none }
def translationMapsRow : OpenClaim := { program := "ytgicddadddhonaagreatdoor", sum := "525e75eafcae6908182a70db40050588d8c2c1e3098ce0beb07618d6e3c63fc8", func := "netsegment/nsglaw19.TranslationMaps", spec := "translationMaps", unfollowed := true, recurses := true, named := ["netsegment/box.tops", "netsegment/calendar.names", "netsegment/translation.protocols"], apart := false, laid := [("netsegment/box.tops", laid_netsegment_box_tops), ("netsegment/calendar.names", laid_netsegment_calendar_names), ("netsegment/translation.protocols", laid_netsegment_translation_protocols)] }
def TranslationMapsSaid : Prop := translationMapsRow.holds Tryz.pinned (OpenSpec.ofChange translationMapsSpec)

/-- ITS FALSE NEIGHBOUR: 'it returns false'. Refute it at one input. -/
def translationMapsWrong : ChangeSpec := { name := "translationMaps", fn := fun _ => fun
  | [d1, d2, d3, d4, d5] => { results := [.lit (.bool false)], args := [d1, d2, d3, d4, d5] }
  | _ => none }
def TranslationMapsWrongFalsely : Prop := translationMapsRow.holds Tryz.pinned (OpenSpec.ofChange translationMapsWrong)

/- THE SECOND FORM. 'bulk': how many values and letters a reading holds, each counted each time it is reached (what is shared counts as often as it is met; a slice's spare places count too). A statement '..UptoSaid' is the law's where the arguments, and the package variables that the reading takes, are together of bulk at most 1048576: NARROWER than '..Said'. Prove '..Said' where nothing that the law and all that it calls make is longer than what came in: it says more and counts as full. Else prove '..UptoSaid'. A law counts once. -/
mutual
def uptoBulk {H : Type} : DataW H → Nat
  | .lit (.string bytes) => bytes.length + 1
  | .lit _ => 1
  | .nil => 1
  | .ptr d => uptoBulk d + 1
  | .slice elems spare => uptoBulkAll elems + uptoBulkAll spare + 1
  | .agg parts => uptoBulkAll parts + 1
  | .iface _ d => uptoBulk d + 1
  | .map entries => uptoBulkEntries entries + 1
  | .held _ => 1
def uptoBulkAll {H : Type} : List (DataW H) → Nat
  | [] => 0
  | d :: r => uptoBulk d + uptoBulkAll r
def uptoBulkEntries {H : Type} : List (Lit × DataW H) → Nat
  | [] => 0
  | x :: r => uptoBulkEntry x + uptoBulkEntries r
def uptoBulkEntry {H : Type} : Lit × DataW H → Nat
  | (.string bytes, d) => bytes.length + uptoBulk d + 1
  | (_, d) => uptoBulk d + 1
 end
def uptoSmall : (H : Type) → List (DataW H) → Bool := fun _ ds => decide (uptoBulkAll ds ≤ 1048576)
def OpenSpec.upto (s : _root_.Go.ChangeSpec) : _root_.Go.OpenSpec := { _root_.Go.OpenSpec.ofChange s with cond := some uptoSmall }

/-- 'nsglaw19.TranslationInjective', WHERE WHAT IT READS IS OF BULK AT MOST 1048576: true; the input reads as it did. -/
def translationInjectiveUptoRow : OpenClaim := { program := "ytgicddadddhonaagreatdoor", sum := "525e75eafcae6908182a70db40050588d8c2c1e3098ce0beb07618d6e3c63fc8", func := "netsegment/nsglaw19.TranslationInjective", spec := "translationInjective", unfollowed := true, recurses := true, named := ["netsegment/calendar.names", "netsegment/box.tops", "netsegment/translation.protocols"], apart := false, laid := [("netsegment/box.tops", laid_netsegment_box_tops), ("netsegment/calendar.names", laid_netsegment_calendar_names), ("netsegment/translation.protocols", laid_netsegment_translation_protocols)], narrowed := true }
def TranslationInjectiveUptoSaid : Prop := translationInjectiveUptoRow.holds Tryz.pinned (OpenSpec.upto translationInjectiveSpec)

/-- 'nsglaw19.TranslationPublished', WHERE WHAT IT READS IS OF BULK AT MOST 1048576: true; the input reads as it did. -/
def translationPublishedUptoRow : OpenClaim := { program := "ytgicddadddhonaagreatdoor", sum := "525e75eafcae6908182a70db40050588d8c2c1e3098ce0beb07618d6e3c63fc8", func := "netsegment/nsglaw19.TranslationPublished", spec := "translationPublished", unfollowed := true, recurses := true, named := ["netsegment/calendar.names", "netsegment/box.tops", "netsegment/translation.protocols"], apart := false, laid := [("netsegment/box.tops", laid_netsegment_box_tops), ("netsegment/calendar.names", laid_netsegment_calendar_names), ("netsegment/translation.protocols", laid_netsegment_translation_protocols)], narrowed := true }
def TranslationPublishedUptoSaid : Prop := translationPublishedUptoRow.holds Tryz.pinned (OpenSpec.upto translationPublishedSpec)

/-- 'nsglaw19.TranslationAgrees', WHERE WHAT IT READS IS OF BULK AT MOST 1048576: true; the input reads as it did. -/
def translationAgreesUptoRow : OpenClaim := { program := "ytgicddadddhonaagreatdoor", sum := "525e75eafcae6908182a70db40050588d8c2c1e3098ce0beb07618d6e3c63fc8", func := "netsegment/nsglaw19.TranslationAgrees", spec := "translationAgrees", unfollowed := true, recurses := true, named := ["netsegment/calendar.names", "netsegment/box.tops", "netsegment/translation.protocols"], apart := false, laid := [("netsegment/box.tops", laid_netsegment_box_tops), ("netsegment/calendar.names", laid_netsegment_calendar_names), ("netsegment/translation.protocols", laid_netsegment_translation_protocols)], narrowed := true }
def TranslationAgreesUptoSaid : Prop := translationAgreesUptoRow.holds Tryz.pinned (OpenSpec.upto translationAgreesSpec)

/-- 'nsglaw19.TranslationSent', WHERE WHAT IT READS IS OF BULK AT MOST 1048576: true; the input reads as it did. -/
def translationSentUptoRow : OpenClaim := { program := "ytgicddadddhonaagreatdoor", sum := "525e75eafcae6908182a70db40050588d8c2c1e3098ce0beb07618d6e3c63fc8", func := "netsegment/nsglaw19.TranslationSent", spec := "translationSent", unfollowed := true, recurses := true, named := ["netsegment/box.tops", "netsegment/calendar.names", "netsegment/translation.protocols"], apart := false, laid := [("netsegment/box.tops", laid_netsegment_box_tops), ("netsegment/calendar.names", laid_netsegment_calendar_names), ("netsegment/translation.protocols", laid_netsegment_translation_protocols)], narrowed := true }
def TranslationSentUptoSaid : Prop := translationSentUptoRow.holds Tryz.pinned (OpenSpec.upto translationSentSpec)

/-- 'nsglaw19.TranslationHidden', WHERE WHAT IT READS IS OF BULK AT MOST 1048576: true; the input reads as it did. -/
def translationHiddenUptoRow : OpenClaim := { program := "ytgicddadddhonaagreatdoor", sum := "525e75eafcae6908182a70db40050588d8c2c1e3098ce0beb07618d6e3c63fc8", func := "netsegment/nsglaw19.TranslationHidden", spec := "translationHidden", unfollowed := true, recurses := true, named := ["netsegment/calendar.names", "netsegment/box.tops", "netsegment/translation.protocols"], apart := false, laid := [("netsegment/box.tops", laid_netsegment_box_tops), ("netsegment/calendar.names", laid_netsegment_calendar_names), ("netsegment/translation.protocols", laid_netsegment_translation_protocols)], narrowed := true }
def TranslationHiddenUptoSaid : Prop := translationHiddenUptoRow.holds Tryz.pinned (OpenSpec.upto translationHiddenSpec)

/-- 'nsglaw19.TranslationMaps', WHERE WHAT IT READS IS OF BULK AT MOST 1048576: true; the input reads as it did. -/
def translationMapsUptoRow : OpenClaim := { program := "ytgicddadddhonaagreatdoor", sum := "525e75eafcae6908182a70db40050588d8c2c1e3098ce0beb07618d6e3c63fc8", func := "netsegment/nsglaw19.TranslationMaps", spec := "translationMaps", unfollowed := true, recurses := true, named := ["netsegment/box.tops", "netsegment/calendar.names", "netsegment/translation.protocols"], apart := false, laid := [("netsegment/box.tops", laid_netsegment_box_tops), ("netsegment/calendar.names", laid_netsegment_calendar_names), ("netsegment/translation.protocols", laid_netsegment_translation_protocols)], narrowed := true }
def TranslationMapsUptoSaid : Prop := translationMapsUptoRow.holds Tryz.pinned (OpenSpec.upto translationMapsSpec)

end Rows
end Go.Proofs.YtgicddadddhonaaGreatDoor
