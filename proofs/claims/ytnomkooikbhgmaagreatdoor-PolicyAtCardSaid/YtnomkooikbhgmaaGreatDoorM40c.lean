import Derived.Test.YtnomkooikbhgmaaGreatDoorM40a
set_option maxRecDepth 100000
set_option maxHeartbeats 4000000
namespace Go.Proofs.YtnomkooikbhgmaaGreatDoor
open Go Go.Vm Go.ChangeShapes Go.WideShapes Go.ChangeAt Go.RowKit
theorem yj23:(yR.shortTexts.isNone)=true:=by kernel_rfl
theorem yj24:(yP.stopsHeard)=true:=by kernel_rfl
theorem yj25:(yP.mayEnter)=true:=by kernel_rfl
theorem yj26:((yR.lifted==yP.liftsFinal))=true:=by kernel_rfl
theorem yj27:((yP.make==some yR.make))=true:=by kernel_rfl
theorem yj28:((yR.kinds==(if yR.domain.isEmpty then []else Tryz.f3.params.toList.map fun t=>match yP.underlying t with|some (.int k)=>some k|_=>none)))=true:=by kernel_rfl
theorem yj29:((yR.pinned==yR.pinnedBy))=true:=by kernel_rfl
theorem yj30:((yR.veiled==(Tryz.f3.params.toList++yS.plain.varTypes yP++Tryz.f3.resultTypes.toList).any (yP.veiledRec ·)))=true:=by kernel_rfl
theorem yj31:(yR.veiledFits yP Tryz.f3.params.toList (Tryz.f3.params.toList++yS.plain.varTypes yP++Tryz.f3.resultTypes.toList))=true:=by kernel_rfl
theorem y_name:yP.funcNamed "netsegment/nsglaw18.PolicyAt"=some 3:=by kernel_rfl
theorem y_want:(Tryz.f3.params.toList.all fun t=>Tryz.prog.wantsStandIn t==false)=true:=by kernel_rfl
theorem y_wf:yR.wfByText (OpenSpec.ofChange yS)=true:=by kernel_rfl
theorem y_main:yP.mainIs=some (Rows.policyAtCard.stood.harness.1,Rows.policyAtCard.stood.harness.2.toList):=by kernel_rfl
theorem y_looks:false=yP.looks []:=by kernel_rfl
theorem y_goes:false=yR.goesBy yP:=by kernel_rfl
theorem y_inst:decide (Tryz.f3.isInstance yP yR.origin yR.targs)=true:=by kernel_rfl
end Go.Proofs.YtnomkooikbhgmaaGreatDoor
