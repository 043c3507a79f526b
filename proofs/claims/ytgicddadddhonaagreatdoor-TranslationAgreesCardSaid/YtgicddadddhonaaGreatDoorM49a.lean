import Derived.Test.YtgicddadddhonaaGreatDoorM11
set_option maxRecDepth 100000
set_option maxHeartbeats 4000000
namespace Go.Proofs.YtgicddadddhonaaGreatDoor
open Go Go.Vm Go.ChangeShapes Go.WideShapes Go.ChangeAt Go.RowKit
noncomputable abbrev yyP:=Tryz.pinned.checked.prog
abbrev yyR:=Rows.translationAgreesRow
abbrev yyS:=Rows.translationAgreesSpec
end Go.Proofs.YtgicddadddhonaaGreatDoor
