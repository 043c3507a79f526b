/- The policies of intents, and the errors, are those of the reference: the statement PolicyAtCardSaid holds, for every input, without a condition of ours (its card ties the package-level variables to the program's text). -/
import Derived.Test.YtnomkooikbhgmaaGreatDoorM40b
import Derived.Test.YtnomkooikbhgmaaGreatDoorM40c
import Derived.Test.YtnomkooikbhgmaaGreatDoorM40d
set_option maxRecDepth 100000
set_option maxHeartbeats 4000000
namespace Go.Proofs.YtnomkooikbhgmaaGreatDoor
open Go Go.Vm Go.ChangeShapes Go.WideShapes Go.ChangeAt Go.RowKit
theorem and2{a b:Bool}(h1:a=true)(h2:b=true):(a&&b)=true:=by rw[h1,h2];rfl
theorem yj0:(yR.wf (OpenSpec.ofChange yS))=true:=by kernel_rfl
theorem yj1:(laidOutB yP)=true:=by kernel_rfl
theorem yj2:(mapsRowed yP)=true:=by kernel_rfl
theorem yj3:(Tryz.f3.params.all (yP.readableRec ·))=true:=by kernel_rfl
theorem yj4:(namedTie yP yR.named yS.vars)=true:=by kernel_rfl
theorem yj5:((yR.stops==[]))=true:=by kernel_rfl
theorem yj6:((yP.stops==[]))=true:=by kernel_rfl
theorem yj7:((yR.knobs==[]))=true:=by kernel_rfl
theorem yj8:((yP.stopKnobs==[]))=true:=by kernel_rfl
theorem yj13:((yR.maps==(Tryz.f3.params.toList++yS.plain.varTypes yP).any (yP.mapsRec ·)))=true:=by kernel_rfl
theorem yj14:((yR.ifaces==(Tryz.f3.params.toList++yS.plain.varTypes yP).any (yP.ifacesRec ·)))=true:=by kernel_rfl
theorem yj15:((yR.mapsOut==yP.mapsAmong Tryz.f3.resultTypes.toList))=true:=by kernel_rfl
theorem yj16:((yR.loops==(Tryz.f3.params.toList++yS.plain.varTypes yP).any (yP.loopsFrom ·)))=true:=by kernel_rfl
theorem yj17:((yR.wideKeys==(Tryz.f3.params.toList++yS.plain.varTypes yP++Tryz.f3.resultTypes.toList).any (yP.wideKeysFrom ·)))=true:=by kernel_rfl
theorem yj18:(yS.vars.all (yP.varReadable ·))=true:=by kernel_rfl
theorem yj19:(Tryz.f3.resultTypes.all (fun t=>yP.readableRec t&&decide (t<yP.types.size)))=true:=by kernel_rfl
theorem yj20:((yR.ifacesOut==Tryz.f3.resultTypes.toList.any (yP.ifacesRec ·)))=true:=by kernel_rfl
theorem yj21:((yR.loopsOut==Tryz.f3.resultTypes.toList.any (yP.loopsFrom ·)))=true:=by kernel_rfl
theorem yj22:((yR.plainKeys==yP.plainKeys))=true:=by kernel_rfl
theorem y_closed:joinedFacts yP 3 Tryz.f3 yS yR=true:=(and2 (and2 (and2 (and2 (and2 (and2 (and2 (and2 (and2 (and2 (and2 (and2 (and2 (and2 (and2 (and2 (and2 (and2 (and2 (and2 (and2 (and2 (and2 (and2 (and2 (and2 (and2 (and2 (and2 (and2 (and2 yj0 yj1) yj2) yj3) yj4) yj5) yj6) yj7) yj8) yj9) yj10) yj11) yj12) yj13) yj14) yj15) yj16) yj17) yj18) yj19) yj20) yj21) yj22) yj23) yj24) yj25) yj26) yj27) yj28) yj29) yj30) yj31)
theorem y_row:Rows.PolicyAtSaid:=
 OpenClaim.holds_of_wide 3 Tryz.f3 rfl rfl rfl rfl rfl rfl rfl ⟨rfl,rfl,rfl,rfl,rfl⟩ rfl rfl rfl rfl rfl y_name Tryz.func3 y_closed
  (of_decide_eq_true y_inst) (by unfold Func.isWrapper;first|(rw[aG (by decide+kernel)];kernel_rfl)|(rw[aD (by decide+kernel)];exact⟨rfl,rfl⟩))
  (fun os started H enc _=>policyAt_lifted os started H enc)
theorem y_hl:∀f fn,yP.funcNamed yR.func=some f->yP.funcs[f]? =some fn->false=yP.looks []/\∀(j:Nat) t,fn.params[j]? =some t->yP.wantsStandIn t=false:=fun f fn hf hfn=>by
 obtain rfl:f=3:=(bE ((show yP.funcNamed yR.func=some 3 from y_name).symm.trans hf)).symm;obtain rfl:fn=Tryz.f3:=(bE (Tryz.func3.symm.trans hfn)).symm;exact⟨y_looks,fun j t ht=>wants_none y_want (aI (by rw[Array.getElem?_toList];exact ht))⟩
theorem policyAt_holds:Rows.PolicyAtCardSaid:=
 Claim7.holds_tied_plain_at .later [] [.data,.widerDeep] true Rows.policyAtCard.stood.harness false
  y_row (fun _ h=>by cases h) y_wf (fun _ h=>by cases h) policyAt_row_tie rfl ⟨rfl,rfl⟩ y_main rfl y_hl y_goes
#print axioms policyAt_holds
end Go.Proofs.YtnomkooikbhgmaaGreatDoor
