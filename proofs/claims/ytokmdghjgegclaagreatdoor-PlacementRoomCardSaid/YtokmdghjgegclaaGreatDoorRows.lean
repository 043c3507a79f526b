/-
  NARROWER THAN 'FOR EVERY INPUT', by the rows' own cells (each row's printed sentence says how): PlacementAgrees: laid · PlacementCosts: laid · PlacementFits: laid · PlacementPairs: laid · PlacementRoom: laid · PlacementWhole: laid.
  DERIVED. THE GIVEN ROWS OF THIS SEAT. 6 by the template 'for every input the law returns true; each argument reads behind the call as it read before'; 0 by the template 'total and deterministic' (their statements: YtokmdghjgegclaaGreatDoorTotals.lean).
  GIVEN WITH THE SEED: the statements are not yours to turn. If you find one false, say at which input.
  Laid BY PROGRAM, IN A SANDBOX (cutbox-rows.mjs): the forced cells as the released guide's own fill.sh prints them over the translation 8a2cb9558b306843… (all of the seat's roots in one cut). By AI agents, Wed Nov 11 2026. No macro, syntax, notation, axiom, sorry.
-/
import Derived.Test.YtokmdghjgegclaaGreatDoorChecked
import GoSem.Claim
import GoSem.ClaimJoined
import GoSem.ClaimMapViews
import Derived.JoinedTies
import Derived.KernelRfl
namespace Go.Proofs.YtokmdghjgegclaaGreatDoor
/- THE CELL 'sum', in the pinned program and in every row, IS THE sha256 OF THE DUMP (.gsa) THAT YtokmdghjgegclaaGreatDoorProg.lean LOADS. Nothing in Lean hashes anything: it is a label: what it is worth is what the hold of that sum in a sandbox is worth. -/
noncomputable def Tryz.pinned : Pinned := { name := "ytokmdghjgegclaagreatdoor", sum := "8a2cb9558b3068435ba1c4dbbf94757b87ff4b5fa92e4276420be58c416d918b", checked := Tryz.checked }
namespace Rows
def none {H : Type} : Left H := { results := [], args := [] }

/- WHAT THE LISTED PACKAGE-LEVEL VARIABLES READ AS WHEN THE CALL BEGINS. Each datum BY PROGRAM (the guide's laid-datum.mjs) off the statement by which the dump's own 'gosem.cut.vars' lays the variable. In a bare row this is a premise. The card (YtokmdghjgegclaaGreatDoorCards.lean) ties it to the program's text. -/
def laid_netsegment_box_tops {H : Type} : DataW H := .agg [.lit (.int .u32 4294967295), .lit (.int .u32 4294967295), .lit (.int .u32 255), .lit (.int .u32 65535), .lit (.int .u32 65535)]
def laid_netsegment_expand_widths {H : Type} : DataW H := .agg [.lit (.int .i64 32), .lit (.int .i64 32), .lit (.int .i64 8), .lit (.int .i64 16), .lit (.int .i64 16)]

/-- 'nsglaw21.PlacementAgrees': WHATEVER THE INPUT: true; the input reads as it did. -/
def placementAgreesSpec : ChangeSpec := { name := "placementAgrees", fn := fun _ => fun
  | [d1, d2, d3, d4] => { results := [.lit (.bool true)], args := [d1, d2, d3, d4] }
  | _ => none }
def placementAgreesRow : OpenClaim := { program := "ytokmdghjgegclaagreatdoor", sum := "8a2cb9558b3068435ba1c4dbbf94757b87ff4b5fa92e4276420be58c416d918b", func := "netsegment/nsglaw21.PlacementAgrees", spec := "placementAgrees", unfollowed := true, recurses := true, named := ["netsegment/box.tops", "netsegment/expand.widths"], apart := false, laid := [("netsegment/box.tops", laid_netsegment_box_tops), ("netsegment/expand.widths", laid_netsegment_expand_widths)] }
def PlacementAgreesSaid : Prop := placementAgreesRow.holds Tryz.pinned (OpenSpec.ofChange placementAgreesSpec)

/-- ITS FALSE NEIGHBOUR: 'it returns false'. Refute it at one input. -/
def placementAgreesWrong : ChangeSpec := { name := "placementAgrees", fn := fun _ => fun
  | [d1, d2, d3, d4] => { results := [.lit (.bool false)], args := [d1, d2, d3, d4] }
  | _ => none }
def PlacementAgreesWrongFalsely : Prop := placementAgreesRow.holds Tryz.pinned (OpenSpec.ofChange placementAgreesWrong)

/-- 'nsglaw21.PlacementCosts': WHATEVER THE INPUT: true; the input reads as it did. -/
def placementCostsSpec : ChangeSpec := { name := "placementCosts", fn := fun _ => fun
  | [d1, d2] => { results := [.lit (.bool true)], args := [d1, d2] }
  | _ => none }
def placementCostsRow : OpenClaim := { program := "ytokmdghjgegclaagreatdoor", sum := "8a2cb9558b3068435ba1c4dbbf94757b87ff4b5fa92e4276420be58c416d918b", func := "netsegment/nsglaw21.PlacementCosts", spec := "placementCosts", unfollowed := true, recurses := true, named := ["netsegment/box.tops", "netsegment/expand.widths"], apart := false, laid := [("netsegment/box.tops", laid_netsegment_box_tops), ("netsegment/expand.widths", laid_netsegment_expand_widths)] }
def PlacementCostsSaid : Prop := placementCostsRow.holds Tryz.pinned (OpenSpec.ofChange placementCostsSpec)

/-- ITS FALSE NEIGHBOUR: 'it returns false'. Refute it at one input. -/
def placementCostsWrong : ChangeSpec := { name := "placementCosts", fn := fun _ => fun
  | [d1, d2] => { results := [.lit (.bool false)], args := [d1, d2] }
  | _ => none }
def PlacementCostsWrongFalsely : Prop := placementCostsRow.holds Tryz.pinned (OpenSpec.ofChange placementCostsWrong)

/-- 'nsglaw21.PlacementFits': WHATEVER THE INPUT: true; the input reads as it did. -/
def placementFitsSpec : ChangeSpec := { name := "placementFits", fn := fun _ => fun
  | [d] => { results := [.lit (.bool true)], args := [d] }
  | _ => none }
def placementFitsRow : OpenClaim := { program := "ytokmdghjgegclaagreatdoor", sum := "8a2cb9558b3068435ba1c4dbbf94757b87ff4b5fa92e4276420be58c416d918b", func := "netsegment/nsglaw21.PlacementFits", spec := "placementFits", unfollowed := true, recurses := true, named := ["netsegment/box.tops", "netsegment/expand.widths"], apart := false, laid := [("netsegment/box.tops", laid_netsegment_box_tops), ("netsegment/expand.widths", laid_netsegment_expand_widths)] }
def PlacementFitsSaid : Prop := placementFitsRow.holds Tryz.pinned (OpenSpec.ofChange placementFitsSpec)

/-- ITS FALSE NEIGHBOUR: 'it returns false'. Refute it at one input. -/
def placementFitsWrong : ChangeSpec := { name := "placementFits", fn := fun _ => fun
  | [d] => { results := [.lit (.bool false)], args := [d] }
  | _ => none }
def PlacementFitsWrongFalsely : Prop := placementFitsRow.holds Tryz.pinned (OpenSpec.ofChange placementFitsWrong)

/-- 'nsglaw21.PlacementPairs': WHATEVER THE INPUT: true; the input reads as it did. -/
def placementPairsSpec : ChangeSpec := { name := "placementPairs", fn := fun _ => fun
  | [d] => { results := [.lit (.bool true)], args := [d] }
  | _ => none }
def placementPairsRow : OpenClaim := { program := "ytokmdghjgegclaagreatdoor", sum := "8a2cb9558b3068435ba1c4dbbf94757b87ff4b5fa92e4276420be58c416d918b", func := "netsegment/nsglaw21.PlacementPairs", spec := "placementPairs", unfollowed := true, recurses := true, named := ["netsegment/box.tops", "netsegment/expand.widths"], apart := false, laid := [("netsegment/box.tops", laid_netsegment_box_tops), ("netsegment/expand.widths", laid_netsegment_expand_widths)] }
def PlacementPairsSaid : Prop := placementPairsRow.holds Tryz.pinned (OpenSpec.ofChange placementPairsSpec)

/-- ITS FALSE NEIGHBOUR: 'it returns false'. Refute it at one input. -/
def placementPairsWrong : ChangeSpec := { name := "placementPairs", fn := fun _ => fun
  | [d] => { results := [.lit (.bool false)], args := [d] }
  | _ => none }
def PlacementPairsWrongFalsely : Prop := placementPairsRow.holds Tryz.pinned (OpenSpec.ofChange placementPairsWrong)

/-- 'nsglaw21.PlacementRoom': WHATEVER THE INPUT: true; the input reads as it did. -/
def placementRoomSpec : ChangeSpec := { name := "placementRoom", fn := fun _ => fun
  | [d] => { results := [.lit (.bool true)], args := [d] }
  | _ => none }
def placementRoomRow : OpenClaim := { program := "ytokmdghjgegclaagreatdoor", sum := "8a2cb9558b3068435ba1c4dbbf94757b87ff4b5fa92e4276420be58c416d918b", func := "netsegment/nsglaw21.PlacementRoom", spec := "placementRoom", unfollowed := true, recurses := true, named := ["netsegment/box.tops", "netsegment/expand.widths"], apart := false, laid := [("netsegment/box.tops", laid_netsegment_box_tops), ("netsegment/expand.widths", laid_netsegment_expand_widths)] }
def PlacementRoomSaid : Prop := placementRoomRow.holds Tryz.pinned (OpenSpec.ofChange placementRoomSpec)

/-- ITS FALSE NEIGHBOUR: 'it returns false'. Refute it at one input. -/
def placementRoomWrong : ChangeSpec := { name := "placementRoom", fn := fun _ => fun
  | [d] => { results := [.lit (.bool false)], args := [d] }
  | _ => none }
def PlacementRoomWrongFalsely : Prop := placementRoomRow.holds Tryz.pinned (OpenSpec.ofChange placementRoomWrong)

/-- 'nsglaw21.PlacementWhole': WHATEVER THE INPUT: true; the input reads as it did. -/
def placementWholeSpec : ChangeSpec := { name := "placementWhole", fn := fun _ => fun
  | [d1, d2] => { results := [.lit (.bool true)], args := [d1, d2] }
  | _ => none }
def placementWholeRow : OpenClaim := { program := "ytokmdghjgegclaagreatdoor", sum := "8a2cb9558b3068435ba1c4dbbf94757b87ff4b5fa92e4276420be58c416d918b", func := "netsegment/nsglaw21.PlacementWhole", spec := "placementWhole", unfollowed := true, recurses := true, named := ["netsegment/box.tops", "netsegment/expand.widths"], apart := false, laid := [("netsegment/box.tops", laid_netsegment_box_tops), ("netsegment/expand.widths", laid_netsegment_expand_widths)] }
def PlacementWholeSaid : Prop := placementWholeRow.holds Tryz.pinned (OpenSpec.ofChange placementWholeSpec)

/-- ITS FALSE NEIGHBOUR: 'it returns false'. Refute it at one input. -/
def placementWholeWrong : ChangeSpec := { name := "placementWhole", fn := fun _ => fun
  | [d1, d2] => { results := [.lit (.bool false)], args := [d1, d2] }
  | _ => none }
def PlacementWholeWrongFalsely : Prop := placementWholeRow.holds Tryz.pinned (OpenSpec.ofChange placementWholeWrong)

/- THE SECOND FORM. 'bulk': how many values and letters a reading holds, each counted each time it is reached (what is shared counts as often as it is met; a slice's spare places count too). A statement '..UptoSaid' is the law's where the arguments, and the package variables that the reading takes, are together of bulk at most 1048576: NARROWER than '..Said'. Prove '..Said' where nothing that the law and all that it calls make is longer than what came in: it says more and counts as full. Else prove '..UptoSaid'. A law counts once. -/
mutual
def uptoBulk {H : Type} : DataW H → Nat
  | .lit (.string bytes) => bytes.length + 1
  | .lit _ => 1
  | .nil => 1
  | .ptr d => uptoBulk d + 1
  | .slice elems spare => uptoBulkAll elems + uptoBulkAll spare + 1
  | .agg parts => uptoBulkAll parts + 1
  | .iface _ d => uptoBulk d + 1
  | .map entries => uptoBulkEntries entries + 1
  | .held _ => 1
def uptoBulkAll {H : Type} : List (DataW H) → Nat
  | [] => 0
  | d :: r => uptoBulk d + uptoBulkAll r
def uptoBulkEntries {H : Type} : List (Lit × DataW H) → Nat
  | [] => 0
  | x :: r => uptoBulkEntry x + uptoBulkEntries r
def uptoBulkEntry {H : Type} : Lit × DataW H → Nat
  | (.string bytes, d) => bytes.length + uptoBulk d + 1
  | (_, d) => uptoBulk d + 1
 end
def uptoSmall : (H : Type) → List (DataW H) → Bool := fun _ ds => decide (uptoBulkAll ds ≤ 1048576)
def OpenSpec.upto (s : _root_.Go.ChangeSpec) : _root_.Go.OpenSpec := { _root_.Go.OpenSpec.ofChange s with cond := some uptoSmall }

/-- 'nsglaw21.PlacementAgrees', WHERE WHAT IT READS IS OF BULK AT MOST 1048576: true; the input reads as it did. -/
def placementAgreesUptoRow : OpenClaim := { program := "ytokmdghjgegclaagreatdoor", sum := "8a2cb9558b3068435ba1c4dbbf94757b87ff4b5fa92e4276420be58c416d918b", func := "netsegment/nsglaw21.PlacementAgrees", spec := "placementAgrees", unfollowed := true, recurses := true, named := ["netsegment/box.tops", "netsegment/expand.widths"], apart := false, laid := [("netsegment/box.tops", laid_netsegment_box_tops), ("netsegment/expand.widths", laid_netsegment_expand_widths)], narrowed := true }
def PlacementAgreesUptoSaid : Prop := placementAgreesUptoRow.holds Tryz.pinned (OpenSpec.upto placementAgreesSpec)

/-- 'nsglaw21.PlacementCosts', WHERE WHAT IT READS IS OF BULK AT MOST 1048576: true; the input reads as it did. -/
def placementCostsUptoRow : OpenClaim := { program := "ytokmdghjgegclaagreatdoor", sum := "8a2cb9558b3068435ba1c4dbbf94757b87ff4b5fa92e4276420be58c416d918b", func := "netsegment/nsglaw21.PlacementCosts", spec := "placementCosts", unfollowed := true, recurses := true, named := ["netsegment/box.tops", "netsegment/expand.widths"], apart := false, laid := [("netsegment/box.tops", laid_netsegment_box_tops), ("netsegment/expand.widths", laid_netsegment_expand_widths)], narrowed := true }
def PlacementCostsUptoSaid : Prop := placementCostsUptoRow.holds Tryz.pinned (OpenSpec.upto placementCostsSpec)

/-- 'nsglaw21.PlacementFits', WHERE WHAT IT READS IS OF BULK AT MOST 1048576: true; the input reads as it did. -/
def placementFitsUptoRow : OpenClaim := { program := "ytokmdghjgegclaagreatdoor", sum := "8a2cb9558b3068435ba1c4dbbf94757b87ff4b5fa92e4276420be58c416d918b", func := "netsegment/nsglaw21.PlacementFits", spec := "placementFits", unfollowed := true, recurses := true, named := ["netsegment/box.tops", "netsegment/expand.widths"], apart := false, laid := [("netsegment/box.tops", laid_netsegment_box_tops), ("netsegment/expand.widths", laid_netsegment_expand_widths)], narrowed := true }
def PlacementFitsUptoSaid : Prop := placementFitsUptoRow.holds Tryz.pinned (OpenSpec.upto placementFitsSpec)

/-- 'nsglaw21.PlacementPairs', WHERE WHAT IT READS IS OF BULK AT MOST 1048576: true; the input reads as it did. -/
def placementPairsUptoRow : OpenClaim := { program := "ytokmdghjgegclaagreatdoor", sum := "8a2cb9558b3068435ba1c4dbbf94757b87ff4b5fa92e4276420be58c416d918b", func := "netsegment/nsglaw21.PlacementPairs", spec := "placementPairs", unfollowed := true, recurses := true, named := ["netsegment/box.tops", "netsegment/expand.widths"], apart := false, laid := [("netsegment/box.tops", laid_netsegment_box_tops), ("netsegment/expand.widths", laid_netsegment_expand_widths)], narrowed := true }
def PlacementPairsUptoSaid : Prop := placementPairsUptoRow.holds Tryz.pinned (OpenSpec.upto placementPairsSpec)

/-- 'nsglaw21.PlacementRoom', WHERE WHAT IT READS IS OF BULK AT MOST 1048576: true; the input reads as it did. -/
def placementRoomUptoRow : OpenClaim := { program := "ytokmdghjgegclaagreatdoor", sum := "8a2cb9558b3068435ba1c4dbbf94757b87ff4b5fa92e4276420be58c416d918b", func := "netsegment/nsglaw21.PlacementRoom", spec := "placementRoom", unfollowed := true, recurses := true, named := ["netsegment/box.tops", "netsegment/expand.widths"], apart := false, laid := [("netsegment/box.tops", laid_netsegment_box_tops), ("netsegment/expand.widths", laid_netsegment_expand_widths)], narrowed := true }
def PlacementRoomUptoSaid : Prop := placementRoomUptoRow.holds Tryz.pinned (OpenSpec.upto placementRoomSpec)

/-- 'nsglaw21.PlacementWhole', WHERE WHAT IT READS IS OF BULK AT MOST 1048576: true; the input reads as it did. -/
def placementWholeUptoRow : OpenClaim := { program := "ytokmdghjgegclaagreatdoor", sum := "8a2cb9558b3068435ba1c4dbbf94757b87ff4b5fa92e4276420be58c416d918b", func := "netsegment/nsglaw21.PlacementWhole", spec := "placementWhole", unfollowed := true, recurses := true, named := ["netsegment/box.tops", "netsegment/expand.widths"], apart := false, laid := [("netsegment/box.tops", laid_netsegment_box_tops), ("netsegment/expand.widths", laid_netsegment_expand_widths)], narrowed := true }
def PlacementWholeUptoSaid : Prop := placementWholeUptoRow.holds Tryz.pinned (OpenSpec.upto placementWholeSpec)

end Rows
end Go.Proofs.YtokmdghjgegclaaGreatDoor
