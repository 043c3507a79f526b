/-
  NARROWER THAN 'FOR EVERY INPUT', by the rows' own cells (each row's printed sentence says how): ResolveItems: laid · ResolveMonotone: laid · ResolveServices: laid · ResolveCycles: laid · ResolveAgrees: laid · ResolvePoints: laid.
  DERIVED. THE GIVEN ROWS OF THIS SEAT. 6 by the template 'for every input the law returns true; each argument reads behind the call as it read before'; 0 by the template 'total and deterministic' (their statements: YtahhamfngafmcaaGreatDoorTotals.lean).
  GIVEN WITH THE SEED: the statements are not yours to turn. If you find one false, say at which input.
  Laid BY PROGRAM, IN A SANDBOX (cutbox-rows.mjs): the forced cells as the released guide's own fill.sh prints them over the translation fa8613ffa883e6b7… (all of the seat's roots in one cut). By AI agents, Wed Nov 11 2026. No macro, syntax, notation, axiom, sorry.
-/
import Derived.Test.YtahhamfngafmcaaGreatDoorChecked
import GoSem.Claim
import GoSem.ClaimJoined
import GoSem.ClaimMapViews
import Derived.JoinedTies
import Derived.KernelRfl
namespace Go.Proofs.YtahhamfngafmcaaGreatDoor
/- THE CELL 'sum', in the pinned program and in every row, IS THE sha256 OF THE DUMP (.gsa) THAT YtahhamfngafmcaaGreatDoorProg.lean LOADS. Nothing in Lean hashes anything: it is a label: what it is worth is what the hold of that sum in a sandbox is worth. -/
noncomputable def Tryz.pinned : Pinned := { name := "ytahhamfngafmcaagreatdoor", sum := "fa8613ffa883e6b79ae6d0eb3c6bfdd6944bb8d03b8225a4342fe35b6dbdb0a1", checked := Tryz.checked }
namespace Rows
def none {H : Type} : Left H := { results := [], args := [] }

/- WHAT THE LISTED PACKAGE-LEVEL VARIABLES READ AS WHEN THE CALL BEGINS. Each datum BY PROGRAM (the guide's laid-datum.mjs) off the statement by which the dump's own 'gosem.cut.vars' lays the variable. In a bare row this is a premise. The card (YtahhamfngafmcaaGreatDoorCards.lean) ties it to the program's text. -/
def laid_netsegment_box_tops {H : Type} : DataW H := .agg [.lit (.int .u32 4294967295), .lit (.int .u32 4294967295), .lit (.int .u32 255), .lit (.int .u32 65535), .lit (.int .u32 65535)]
def laid_netsegment_calendar_names {H : Type} : DataW H := .agg [.lit (.string [109, 111, 110]), .lit (.string [116, 117, 101]), .lit (.string [119, 101, 100]), .lit (.string [116, 104, 117]), .lit (.string [102, 114, 105]), .lit (.string [115, 97, 116]), .lit (.string [115, 117, 110])]

/-- 'nsglaw17.ResolveItems': WHATEVER THE INPUT: true; the input reads as it did. -/
def resolveItemsSpec : ChangeSpec := { name := "resolveItems", fn := fun _ => fun
  | [d1, d2] => { results := [.lit (.bool true)], args := [d1, d2] }
  | _ => none }
def resolveItemsRow : OpenClaim := { program := "ytahhamfngafmcaagreatdoor", sum := "fa8613ffa883e6b79ae6d0eb3c6bfdd6944bb8d03b8225a4342fe35b6dbdb0a1", func := "netsegment/nsglaw17.ResolveItems", spec := "resolveItems", unfollowed := true, recurses := true, named := ["netsegment/calendar.names", "netsegment/box.tops"], apart := false, laid := [("netsegment/box.tops", laid_netsegment_box_tops), ("netsegment/calendar.names", laid_netsegment_calendar_names)] }
def ResolveItemsSaid : Prop := resolveItemsRow.holds Tryz.pinned (OpenSpec.ofChange resolveItemsSpec)

/-- ITS FALSE NEIGHBOUR: 'it returns false'. Refute it at one input. -/
def resolveItemsWrong : ChangeSpec := { name := "resolveItems", fn := fun _ => fun
  | [d1, d2] => { results := [.lit (.bool false)], args := [d1, d2] }
  | _ => none }
def ResolveItemsWrongFalsely : Prop := resolveItemsRow.holds Tryz.pinned (OpenSpec.ofChange resolveItemsWrong)

/-- 'nsglaw17.ResolveMonotone': WHATEVER THE INPUT: true; the input reads as it did. -/
def resolveMonotoneSpec : ChangeSpec := { name := "resolveMonotone", fn := fun _ => fun
  | [d] => { results := [.lit (.bool true)], args := [d] }
  | _ => none }
def resolveMonotoneRow : OpenClaim := { program := "ytahhamfngafmcaagreatdoor", sum := "fa8613ffa883e6b79ae6d0eb3c6bfdd6944bb8d03b8225a4342fe35b6dbdb0a1", func := "netsegment/nsglaw17.ResolveMonotone", spec := "resolveMonotone", unfollowed := true, recurses := true, named := ["netsegment/calendar.names", "netsegment/box.tops"], apart := false, laid := [("netsegment/box.tops", laid_netsegment_box_tops), ("netsegment/calendar.names", laid_netsegment_calendar_names)] }
def ResolveMonotoneSaid : Prop := resolveMonotoneRow.holds Tryz.pinned (OpenSpec.ofChange resolveMonotoneSpec)

/-- ITS FALSE NEIGHBOUR: 'it returns false'. Refute it at one input. -/
def resolveMonotoneWrong : ChangeSpec := { name := "resolveMonotone", fn := fun _ => fun
  | [d] => { results := [.lit (.bool false)], args := [d] }
  | _ => none }
def ResolveMonotoneWrongFalsely : Prop := resolveMonotoneRow.holds Tryz.pinned (OpenSpec.ofChange resolveMonotoneWrong)

/-- 'nsglaw17.ResolveServices': WHATEVER THE INPUT: true; the input reads as it did. -/
def resolveServicesSpec : ChangeSpec := { name := "resolveServices", fn := fun _ => fun
  | [d1, d2, d3] => { results := [.lit (.bool true)], args := [d1, d2, d3] }
  | _ => none }
def resolveServicesRow : OpenClaim := { program := "ytahhamfngafmcaagreatdoor", sum := "fa8613ffa883e6b79ae6d0eb3c6bfdd6944bb8d03b8225a4342fe35b6dbdb0a1", func := "netsegment/nsglaw17.ResolveServices", spec := "resolveServices", unfollowed := true, recurses := true, named := ["netsegment/calendar.names", "netsegment/box.tops"], apart := false, laid := [("netsegment/box.tops", laid_netsegment_box_tops), ("netsegment/calendar.names", laid_netsegment_calendar_names)] }
def ResolveServicesSaid : Prop := resolveServicesRow.holds Tryz.pinned (OpenSpec.ofChange resolveServicesSpec)

/-- ITS FALSE NEIGHBOUR: 'it returns false'. Refute it at one input. -/
def resolveServicesWrong : ChangeSpec := { name := "resolveServices", fn := fun _ => fun
  | [d1, d2, d3] => { results := [.lit (.bool false)], args := [d1, d2, d3] }
  | _ => none }
def ResolveServicesWrongFalsely : Prop := resolveServicesRow.holds Tryz.pinned (OpenSpec.ofChange resolveServicesWrong)

/-- 'nsglaw17.ResolveCycles': WHATEVER THE INPUT: true; the input reads as it did. -/
def resolveCyclesSpec : ChangeSpec := { name := "resolveCycles", fn := fun _ => fun
  | [d] => { results := [.lit (.bool true)], args := [d] }
  | _ => none }
def resolveCyclesRow : OpenClaim := { program := "ytahhamfngafmcaagreatdoor", sum := "fa8613ffa883e6b79ae6d0eb3c6bfdd6944bb8d03b8225a4342fe35b6dbdb0a1", func := "netsegment/nsglaw17.ResolveCycles", spec := "resolveCycles", unfollowed := true, recurses := true, named := ["netsegment/calendar.names", "netsegment/box.tops"], apart := false, laid := [("netsegment/box.tops", laid_netsegment_box_tops), ("netsegment/calendar.names", laid_netsegment_calendar_names)] }
def ResolveCyclesSaid : Prop := resolveCyclesRow.holds Tryz.pinned (OpenSpec.ofChange resolveCyclesSpec)

/-- ITS FALSE NEIGHBOUR: 'it returns false'. Refute it at one input. -/
def resolveCyclesWrong : ChangeSpec := { name := "resolveCycles", fn := fun _ => fun
  | [d] => { results := [.lit (.bool false)], args := [d] }
  | _ => none }
def ResolveCyclesWrongFalsely : Prop := resolveCyclesRow.holds Tryz.pinned (OpenSpec.ofChange resolveCyclesWrong)

/-- 'nsglaw17.ResolveAgrees': WHATEVER THE INPUT: true; the input reads as it did. -/
def resolveAgreesSpec : ChangeSpec := { name := "resolveAgrees", fn := fun _ => fun
  | [d1, d2, d3, d4, d5] => { results := [.lit (.bool true)], args := [d1, d2, d3, d4, d5] }
  | _ => none }
def resolveAgreesRow : OpenClaim := { program := "ytahhamfngafmcaagreatdoor", sum := "fa8613ffa883e6b79ae6d0eb3c6bfdd6944bb8d03b8225a4342fe35b6dbdb0a1", func := "netsegment/nsglaw17.ResolveAgrees", spec := "resolveAgrees", unfollowed := true, recurses := true, named := ["netsegment/calendar.names", "netsegment/box.tops"], apart := false, laid := [("netsegment/box.tops", laid_netsegment_box_tops), ("netsegment/calendar.names", laid_netsegment_calendar_names)] }
def ResolveAgreesSaid : Prop := resolveAgreesRow.holds Tryz.pinned (OpenSpec.ofChange resolveAgreesSpec)

/-- ITS FALSE NEIGHBOUR: 'it returns false'. Refute it at one input. -/
def resolveAgreesWrong : ChangeSpec := { name := "resolveAgrees", fn := fun _ => fun
  | [d1, d2, d3, d4, d5] => { results := [.lit (.bool false)], args := [d1, d2, d3, d4, d5] }
  | _ => none }
def ResolveAgreesWrongFalsely : Prop := resolveAgreesRow.holds Tryz.pinned (OpenSpec.ofChange resolveAgreesWrong)

/-- 'nsglaw17.ResolvePoints': WHATEVER THE INPUT: true; the input reads as it did. -/
def resolvePointsSpec : ChangeSpec := { name := "resolvePoints", fn := fun _ => fun
  | [d1, d2] => { results := [.lit (.bool true)], args := [d1, d2] }
  | _ => none }
def resolvePointsRow : OpenClaim := { program := "ytahhamfngafmcaagreatdoor", sum := "fa8613ffa883e6b79ae6d0eb3c6bfdd6944bb8d03b8225a4342fe35b6dbdb0a1", func := "netsegment/nsglaw17.ResolvePoints", spec := "resolvePoints", unfollowed := true, recurses := true, named := ["netsegment/calendar.names", "netsegment/box.tops"], apart := false, laid := [("netsegment/box.tops", laid_netsegment_box_tops), ("netsegment/calendar.names", laid_netsegment_calendar_names)] }
def ResolvePointsSaid : Prop := resolvePointsRow.holds Tryz.pinned (OpenSpec.ofChange resolvePointsSpec)

/-- ITS FALSE NEIGHBOUR: 'it returns false'. Refute it at one input. -/
def resolvePointsWrong : ChangeSpec := { name := "resolvePoints", fn := fun _ => fun
  | [d1, d2] => { results := [.lit (.bool false)], args := [d1, d2] }
  | _ => none }
def ResolvePointsWrongFalsely : Prop := resolvePointsRow.holds Tryz.pinned (OpenSpec.ofChange resolvePointsWrong)

/- THE SECOND FORM. 'bulk': how many values and letters a reading holds, each counted each time it is reached (what is shared counts as often as it is met; a slice's spare places count too). A statement '..UptoSaid' is the law's where the arguments, and the package variables that the reading takes, are together of bulk at most 1048576: NARROWER than '..Said'. Prove '..Said' where nothing that the law and all that it calls make is longer than what came in: it says more and counts as full. Else prove '..UptoSaid'. A law counts once. -/
mutual
def uptoBulk {H : Type} : DataW H → Nat
  | .lit (.string bytes) => bytes.length + 1
  | .lit _ => 1
  | .nil => 1
  | .ptr d => uptoBulk d + 1
  | .slice elems spare => uptoBulkAll elems + uptoBulkAll spare + 1
  | .agg parts => uptoBulkAll parts + 1
  | .iface _ d => uptoBulk d + 1
  | .map entries => uptoBulkEntries entries + 1
  | .held _ => 1
def uptoBulkAll {H : Type} : List (DataW H) → Nat
  | [] => 0
  | d :: r => uptoBulk d + uptoBulkAll r
def uptoBulkEntries {H : Type} : List (Lit × DataW H) → Nat
  | [] => 0
  | x :: r => uptoBulkEntry x + uptoBulkEntries r
def uptoBulkEntry {H : Type} : Lit × DataW H → Nat
  | (.string bytes, d) => bytes.length + uptoBulk d + 1
  | (_, d) => uptoBulk d + 1
 end
def uptoSmall : (H : Type) → List (DataW H) → Bool := fun _ ds => decide (uptoBulkAll ds ≤ 1048576)
def OpenSpec.upto (s : _root_.Go.ChangeSpec) : _root_.Go.OpenSpec := { _root_.Go.OpenSpec.ofChange s with cond := some uptoSmall }

/-- 'nsglaw17.ResolveItems', WHERE WHAT IT READS IS OF BULK AT MOST 1048576: true; the input reads as it did. -/
def resolveItemsUptoRow : OpenClaim := { program := "ytahhamfngafmcaagreatdoor", sum := "fa8613ffa883e6b79ae6d0eb3c6bfdd6944bb8d03b8225a4342fe35b6dbdb0a1", func := "netsegment/nsglaw17.ResolveItems", spec := "resolveItems", unfollowed := true, recurses := true, named := ["netsegment/calendar.names", "netsegment/box.tops"], apart := false, laid := [("netsegment/box.tops", laid_netsegment_box_tops), ("netsegment/calendar.names", laid_netsegment_calendar_names)], narrowed := true }
def ResolveItemsUptoSaid : Prop := resolveItemsUptoRow.holds Tryz.pinned (OpenSpec.upto resolveItemsSpec)

/-- 'nsglaw17.ResolveMonotone', WHERE WHAT IT READS IS OF BULK AT MOST 1048576: true; the input reads as it did. -/
def resolveMonotoneUptoRow : OpenClaim := { program := "ytahhamfngafmcaagreatdoor", sum := "fa8613ffa883e6b79ae6d0eb3c6bfdd6944bb8d03b8225a4342fe35b6dbdb0a1", func := "netsegment/nsglaw17.ResolveMonotone", spec := "resolveMonotone", unfollowed := true, recurses := true, named := ["netsegment/calendar.names", "netsegment/box.tops"], apart := false, laid := [("netsegment/box.tops", laid_netsegment_box_tops), ("netsegment/calendar.names", laid_netsegment_calendar_names)], narrowed := true }
def ResolveMonotoneUptoSaid : Prop := resolveMonotoneUptoRow.holds Tryz.pinned (OpenSpec.upto resolveMonotoneSpec)

/-- 'nsglaw17.ResolveServices', WHERE WHAT IT READS IS OF BULK AT MOST 1048576: true; the input reads as it did. -/
def resolveServicesUptoRow : OpenClaim := { program := "ytahhamfngafmcaagreatdoor", sum := "fa8613ffa883e6b79ae6d0eb3c6bfdd6944bb8d03b8225a4342fe35b6dbdb0a1", func := "netsegment/nsglaw17.ResolveServices", spec := "resolveServices", unfollowed := true, recurses := true, named := ["netsegment/calendar.names", "netsegment/box.tops"], apart := false, laid := [("netsegment/box.tops", laid_netsegment_box_tops), ("netsegment/calendar.names", laid_netsegment_calendar_names)], narrowed := true }
def ResolveServicesUptoSaid : Prop := resolveServicesUptoRow.holds Tryz.pinned (OpenSpec.upto resolveServicesSpec)

/-- 'nsglaw17.ResolveCycles', WHERE WHAT IT READS IS OF BULK AT MOST 1048576: true; the input reads as it did. -/
def resolveCyclesUptoRow : OpenClaim := { program := "ytahhamfngafmcaagreatdoor", sum := "fa8613ffa883e6b79ae6d0eb3c6bfdd6944bb8d03b8225a4342fe35b6dbdb0a1", func := "netsegment/nsglaw17.ResolveCycles", spec := "resolveCycles", unfollowed := true, recurses := true, named := ["netsegment/calendar.names", "netsegment/box.tops"], apart := false, laid := [("netsegment/box.tops", laid_netsegment_box_tops), ("netsegment/calendar.names", laid_netsegment_calendar_names)], narrowed := true }
def ResolveCyclesUptoSaid : Prop := resolveCyclesUptoRow.holds Tryz.pinned (OpenSpec.upto resolveCyclesSpec)

/-- 'nsglaw17.ResolveAgrees', WHERE WHAT IT READS IS OF BULK AT MOST 1048576: true; the input reads as it did. -/
def resolveAgreesUptoRow : OpenClaim := { program := "ytahhamfngafmcaagreatdoor", sum := "fa8613ffa883e6b79ae6d0eb3c6bfdd6944bb8d03b8225a4342fe35b6dbdb0a1", func := "netsegment/nsglaw17.ResolveAgrees", spec := "resolveAgrees", unfollowed := true, recurses := true, named := ["netsegment/calendar.names", "netsegment/box.tops"], apart := false, laid := [("netsegment/box.tops", laid_netsegment_box_tops), ("netsegment/calendar.names", laid_netsegment_calendar_names)], narrowed := true }
def ResolveAgreesUptoSaid : Prop := resolveAgreesUptoRow.holds Tryz.pinned (OpenSpec.upto resolveAgreesSpec)

/-- 'nsglaw17.ResolvePoints', WHERE WHAT IT READS IS OF BULK AT MOST 1048576: true; the input reads as it did. -/
def resolvePointsUptoRow : OpenClaim := { program := "ytahhamfngafmcaagreatdoor", sum := "fa8613ffa883e6b79ae6d0eb3c6bfdd6944bb8d03b8225a4342fe35b6dbdb0a1", func := "netsegment/nsglaw17.ResolvePoints", spec := "resolvePoints", unfollowed := true, recurses := true, named := ["netsegment/calendar.names", "netsegment/box.tops"], apart := false, laid := [("netsegment/box.tops", laid_netsegment_box_tops), ("netsegment/calendar.names", laid_netsegment_calendar_names)], narrowed := true }
def ResolvePointsUptoSaid : Prop := resolvePointsUptoRow.holds Tryz.pinned (OpenSpec.upto resolvePointsSpec)

end Rows
end Go.Proofs.YtahhamfngafmcaaGreatDoor
