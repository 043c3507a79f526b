import Derived.Test.YtgicddadddhonaaGreatDoorM49a
set_option maxRecDepth 100000
set_option maxHeartbeats 4000000
namespace Go.Proofs.YtgicddadddhonaaGreatDoor
open Go Go.Vm Go.ChangeShapes Go.WideShapes Go.ChangeAt Go.RowKit
theorem yj23:(yyR.shortTexts.isNone)=true:=by kernel_rfl
theorem yj24:(yyP.stopsHeard)=true:=by kernel_rfl
theorem yj25:(yyP.mayEnter)=true:=by kernel_rfl
theorem yj26:((yyR.lifted==yyP.liftsFinal))=true:=by kernel_rfl
theorem yj27:((yyP.make==some yyR.make))=true:=by kernel_rfl
theorem yj28:((yyR.kinds==(if yyR.domain.isEmpty then []else Tryz.f5.params.toList.map fun t=>match yyP.underlying t with|some (.int k)=>some k|_=>none)))=true:=by kernel_rfl
theorem yj29:((yyR.pinned==yyR.pinnedBy))=true:=by kernel_rfl
theorem yj30:((yyR.veiled==(Tryz.f5.params.toList++yyS.plain.varTypes yyP++Tryz.f5.resultTypes.toList).any (yyP.veiledRec ·)))=true:=by kernel_rfl
theorem yj31:(yyR.veiledFits yyP Tryz.f5.params.toList (Tryz.f5.params.toList++yyS.plain.varTypes yyP++Tryz.f5.resultTypes.toList))=true:=by kernel_rfl
theorem y_name:yyP.funcNamed "netsegment/nsglaw19.TranslationAgrees"=some 5:=by kernel_rfl
theorem y_want:(Tryz.f5.params.toList.all fun t=>Tryz.prog.wantsStandIn t==false)=true:=by kernel_rfl
theorem y_wf:yyR.wfByText (OpenSpec.ofChange yyS)=true:=by kernel_rfl
theorem y_main:yyP.mainIs=some (Rows.translationAgreesCard.stood.harness.1,Rows.translationAgreesCard.stood.harness.2.toList):=by kernel_rfl
theorem y_looks:false=yyP.looks []:=by kernel_rfl
theorem y_goes:false=yyR.goesBy yyP:=by kernel_rfl
theorem y_inst:decide (Tryz.f5.isInstance yyP yyR.origin yyR.targs)=true:=by kernel_rfl
end Go.Proofs.YtgicddadddhonaaGreatDoor
