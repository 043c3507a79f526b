/- The moves and hides of edges, and the errors, are those of the reference: the statement TranslationAgreesCardSaid holds, for every input, without a condition of ours (its card ties the package-level variables to the program's text). -/
import Derived.Test.YtgicddadddhonaaGreatDoorM49b
import Derived.Test.YtgicddadddhonaaGreatDoorM49c
import Derived.Test.YtgicddadddhonaaGreatDoorM49d
set_option maxRecDepth 100000
set_option maxHeartbeats 4000000
namespace Go.Proofs.YtgicddadddhonaaGreatDoor
open Go Go.Vm Go.ChangeShapes Go.WideShapes Go.ChangeAt Go.RowKit
theorem and2{a b:Bool}(h1:a=true)(h2:b=true):(a&&b)=true:=by rw[h1,h2];rfl
theorem yj0:(yyR.wf (OpenSpec.ofChange yyS))=true:=by kernel_rfl
theorem yj1:(laidOutB yyP)=true:=by kernel_rfl
theorem yj2:(mapsRowed yyP)=true:=by kernel_rfl
theorem yj3:(Tryz.f5.params.all (yyP.readableRec ·))=true:=by kernel_rfl
theorem yj4:(namedTie yyP yyR.named yyS.vars)=true:=by kernel_rfl
theorem yj5:((yyR.stops==[]))=true:=by kernel_rfl
theorem yj6:((yyP.stops==[]))=true:=by kernel_rfl
theorem yj7:((yyR.knobs==[]))=true:=by kernel_rfl
theorem yj8:((yyP.stopKnobs==[]))=true:=by kernel_rfl
theorem yj13:((yyR.maps==(Tryz.f5.params.toList++yyS.plain.varTypes yyP).any (yyP.mapsRec ·)))=true:=by kernel_rfl
theorem yj14:((yyR.ifaces==(Tryz.f5.params.toList++yyS.plain.varTypes yyP).any (yyP.ifacesRec ·)))=true:=by kernel_rfl
theorem yj15:((yyR.mapsOut==yyP.mapsAmong Tryz.f5.resultTypes.toList))=true:=by kernel_rfl
theorem yj16:((yyR.loops==(Tryz.f5.params.toList++yyS.plain.varTypes yyP).any (yyP.loopsFrom ·)))=true:=by kernel_rfl
theorem yj17:((yyR.wideKeys==(Tryz.f5.params.toList++yyS.plain.varTypes yyP++Tryz.f5.resultTypes.toList).any (yyP.wideKeysFrom ·)))=true:=by kernel_rfl
theorem yj18:(yyS.vars.all (yyP.varReadable ·))=true:=by kernel_rfl
theorem yj19:(Tryz.f5.resultTypes.all (fun t=>yyP.readableRec t&&decide (t<yyP.types.size)))=true:=by kernel_rfl
theorem yj20:((yyR.ifacesOut==Tryz.f5.resultTypes.toList.any (yyP.ifacesRec ·)))=true:=by kernel_rfl
theorem yj21:((yyR.loopsOut==Tryz.f5.resultTypes.toList.any (yyP.loopsFrom ·)))=true:=by kernel_rfl
theorem yj22:((yyR.plainKeys==yyP.plainKeys))=true:=by kernel_rfl
theorem y_closed:joinedFacts yyP 5 Tryz.f5 yyS yyR=true:=(and2 (and2 (and2 (and2 (and2 (and2 (and2 (and2 (and2 (and2 (and2 (and2 (and2 (and2 (and2 (and2 (and2 (and2 (and2 (and2 (and2 (and2 (and2 (and2 (and2 (and2 (and2 (and2 (and2 (and2 (and2 yj0 yj1) yj2) yj3) yj4) yj5) yj6) yj7) yj8) yj9) yj10) yj11) yj12) yj13) yj14) yj15) yj16) yj17) yj18) yj19) yj20) yj21) yj22) yj23) yj24) yj25) yj26) yj27) yj28) yj29) yj30) yj31)
theorem y_row:Rows.TranslationAgreesSaid:=
 OpenClaim.holds_of_wide 5 Tryz.f5 rfl rfl rfl rfl rfl rfl rfl ⟨rfl,rfl,rfl,rfl,rfl⟩ rfl rfl rfl rfl rfl y_name Tryz.func5 y_closed
  (of_decide_eq_true y_inst) (by unfold Func.isWrapper;first|(rw[aH (by decide+kernel)];kernel_rfl)|(rw[aF (by decide+kernel)];exact⟨rfl,rfl⟩))
  (fun os started H enc _=>translationAgrees_lifted os started H enc)
theorem y_hl:∀f fn,yyP.funcNamed yyR.func=some f->yyP.funcs[f]? =some fn->false=yyP.looks []/\∀(j:Nat) t,fn.params[j]? =some t->yyP.wantsStandIn t=false:=fun f fn hf hfn=>by
 obtain rfl:f=5:=(bB ((show yyP.funcNamed yyR.func=some 5 from y_name).symm.trans hf)).symm;obtain rfl:fn=Tryz.f5:=(bB (Tryz.func5.symm.trans hfn)).symm;exact⟨y_looks,fun j t ht=>sS y_want (aG (by rw[eS];exact ht))⟩
theorem translationAgrees_holds:Rows.TranslationAgreesCardSaid:=
 Claim7.holds_tied_plain_at .later [] [.data,.widerDeep,.data] true Rows.translationAgreesCard.stood.harness false
  y_row (fun _ h=>by cases h) y_wf (fun _ h=>by cases h) translationAgrees_row_tie rfl ⟨rfl,rfl⟩ y_main rfl y_hl y_goes
#print axioms translationAgrees_holds
end Go.Proofs.YtgicddadddhonaaGreatDoor
