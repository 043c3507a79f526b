import Derived.Test.YtbdikofefjljoaaGreatDoorJ32
namespace Go.Proofs.YtbdikofefjljoaaGreatDoor
open Go Go.Vm Go.ChangeShapes Go.WideShapes Go.ChangeAt Go.RowKit
noncomputable abbrev yP:=Tryz.pinned.checked.prog
abbrev yR:=Rows.policyPriorityRow
abbrev yS:=Rows.policyPrioritySpec
end Go.Proofs.YtbdikofefjljoaaGreatDoor
