import Derived.Test.YtnomkooikbhgmaaGreatDoorK11
set_option maxRecDepth 100000
set_option maxHeartbeats 4000000
namespace Go.Proofs.YtnomkooikbhgmaaGreatDoor
open Go Go.Vm Go.ChangeShapes Go.WideShapes Go.ChangeAt Go.RowKit
noncomputable abbrev yyP:=Tryz.pinned.checked.prog
abbrev yyR:=Rows.policyDecidesRow
abbrev yyS:=Rows.policyDecidesSpec
end Go.Proofs.YtnomkooikbhgmaaGreatDoor
