import Derived.Test.YtnomkooikbhgmaaGreatDoorM11
set_option maxRecDepth 100000
set_option maxHeartbeats 4000000
namespace Go.Proofs.YtnomkooikbhgmaaGreatDoor
open Go Go.Vm Go.ChangeShapes Go.WideShapes Go.ChangeAt Go.RowKit
noncomputable abbrev yP:=Tryz.pinned.checked.prog
abbrev yR:=Rows.policyAtRow
abbrev yS:=Rows.policyAtSpec
end Go.Proofs.YtnomkooikbhgmaaGreatDoor
