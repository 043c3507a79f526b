import Derived.Test.YtnomkooikbhgmaaGreatDoorM40a
set_option maxRecDepth 100000
set_option maxHeartbeats 4000000
namespace Go.Proofs.YtnomkooikbhgmaaGreatDoor
open Go Go.Vm Go.ChangeShapes Go.WideShapes Go.ChangeAt Go.RowKit
theorem yj9:((yR.inPlace==yP.inPlace 3))=true:=by kernel_rfl
theorem yj10:((yR.unfollowed==yP.unfollowed 3))=true:=by kernel_rfl
theorem yj11:((yR.recurses==yP.recurses 3))=true:=by kernel_rfl
theorem yj12:((yR.named==yP.varsNamed 3))=true:=by kernel_rfl
end Go.Proofs.YtnomkooikbhgmaaGreatDoor
