import Derived.Test.YtgicddadddhonaaGreatDoorM49a
set_option maxRecDepth 100000
set_option maxHeartbeats 4000000
namespace Go.Proofs.YtgicddadddhonaaGreatDoor
open Go Go.Vm Go.ChangeShapes Go.WideShapes Go.ChangeAt Go.RowKit
theorem yj9:((yyR.inPlace==yyP.inPlace 5))=true:=by kernel_rfl
theorem yj10:((yyR.unfollowed==yyP.unfollowed 5))=true:=by kernel_rfl
theorem yj11:((yyR.recurses==yyP.recurses 5))=true:=by kernel_rfl
theorem yj12:((yyR.named==yyP.varsNamed 5))=true:=by kernel_rfl
end Go.Proofs.YtgicddadddhonaaGreatDoor
