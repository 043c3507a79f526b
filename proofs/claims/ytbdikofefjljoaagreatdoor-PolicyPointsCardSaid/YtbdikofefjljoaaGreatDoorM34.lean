/- A header belongs to Allow exactly if it is decided to be allowed, and to the set of a class exactly if the statement that allows it requires this class: the statement PolicyPointsCardSaid holds, for every input, without a condition of ours (its card ties the package-level variables to the program's text). -/
import Derived.Test.YtbdikofefjljoaaGreatDoorM33
set_option linter.unusedVariables false
set_option linter.unusedSimpArgs false
set_option maxRecDepth 100000
set_option maxHeartbeats 4000000
namespace Go.Proofs.YtbdikofefjljoaaGreatDoor
open Go Go.Vm Go.ChangeShapes Go.WideShapes Go.ChangeAt Go.RowKit
theorem and2{a b:Bool}(h1:a=true)(h2:b=true):(a&&b)=true:=by rw[h1,h2];rfl
theorem policyPoints_lifted(os:Os)(started:os.Started)(H:Type)(enc:TypeId×Value->H):
  ReturnsInHanded {} Tryz.checked os 4 .any (fun w args=>(Rows.policyPointsSpec.pre enc Tryz.prog Tryz.f4 [] false w args/\laidMetH Tryz.prog laid3 w)/\sizedMet enc Tryz.prog Tryz.f4 (OpenSpec.ofChange Rows.policyPointsSpec) false w args)
   (Rows.policyPointsSpec.post enc Tryz.prog Tryz.f4 false true false false):=by
 refine returnsInHanded_of_change_and (C:=Tryz.checked) (X:=fun w _=>laidMetH Tryz.prog laid3 w) (fun _ _ _ hh h=>h.of_heap hh) ownNone started zk Tryz.func4
  (ChangeSpec.witness_shaped (enc:=enc) (C:=Tryz.checked) (os:=os) (X:=fun w _=>laidMetH Tryz.prog laid3 w) false (World.doorLaid Tryz.prog 400 os) #[.slice none 0 0,.agg #[.int .u32 0,.int .u32 0,.int .u8 0,.int .u16 0,.int .u16 0]] 8 rfl (World.shaped_of_RefB zk zk) zk zk zk (door_met os _)) ?_
 intro W base args ds gs before hval0 hW _ _ hL _
 have hval:∀(j:Nat) t v,Tryz.f4.params[j]? =some t->args[j]? =some v->Value.okWide Tryz.prog W .any base t v:=hval0
 refine law_contract (P:=Tryz.prog) (t:=4) (d:=6) laidOut zk zk rfl rfl zk (fun ds hds=>?_) (fun xs hxs=>?_) (glob_of hL) hval hW
 ·have hds:ds.length=2:=hds.trans (show Tryz.f4.params.size=2 by kernel_rfl)
  match ds,hds with
  |[d0,d1],_=>rfl
 ·match xs,hxs with
  |[a0,a1],⟨h0,h1,_⟩=>
   obtain⟨raw0,rfl,hr0⟩:=ty_is (d:=4) h0
   obtain⟨g1,rfl,o1⟩:=tz_hd (d:=4) h1
   exact cPolPoints raw0 g1 hr0 o1
theorem policyPoints_j0:(Rows.policyPointsRow.wf (OpenSpec.ofChange Rows.policyPointsSpec))=true:=by kernel_rfl
theorem policyPoints_j1:(laidOutB Tryz.pinned.checked.prog)=true:=by kernel_rfl
theorem policyPoints_j2:(mapsRowed Tryz.pinned.checked.prog)=true:=by kernel_rfl
theorem policyPoints_j3:(Tryz.f4.params.all (Tryz.pinned.checked.prog.readableRec ·))=true:=by kernel_rfl
theorem policyPoints_j4:(namedTie Tryz.pinned.checked.prog Rows.policyPointsRow.named Rows.policyPointsSpec.vars)=true:=by kernel_rfl
theorem policyPoints_j5:((Rows.policyPointsRow.stops==[]))=true:=by kernel_rfl
theorem policyPoints_j6:((Tryz.pinned.checked.prog.stops==[]))=true:=by kernel_rfl
theorem policyPoints_j7:((Rows.policyPointsRow.knobs==[]))=true:=by kernel_rfl
theorem policyPoints_j8:((Tryz.pinned.checked.prog.stopKnobs==[]))=true:=by kernel_rfl
theorem policyPoints_j9:((Rows.policyPointsRow.inPlace==Tryz.pinned.checked.prog.inPlace 4))=true:=by kernel_rfl
theorem policyPoints_j10:((Rows.policyPointsRow.unfollowed==Tryz.pinned.checked.prog.unfollowed 4))=true:=by kernel_rfl
theorem policyPoints_j11:((Rows.policyPointsRow.recurses==Tryz.pinned.checked.prog.recurses 4))=true:=by kernel_rfl
theorem policyPoints_j12:((Rows.policyPointsRow.named==Tryz.pinned.checked.prog.varsNamed 4))=true:=by kernel_rfl
theorem policyPoints_j13:((Rows.policyPointsRow.maps==(Tryz.f4.params.toList++Rows.policyPointsSpec.plain.varTypes Tryz.pinned.checked.prog).any (Tryz.pinned.checked.prog.mapsRec ·)))=true:=by kernel_rfl
theorem policyPoints_j14:((Rows.policyPointsRow.ifaces==(Tryz.f4.params.toList++Rows.policyPointsSpec.plain.varTypes Tryz.pinned.checked.prog).any (Tryz.pinned.checked.prog.ifacesRec ·)))=true:=by kernel_rfl
theorem policyPoints_j15:((Rows.policyPointsRow.mapsOut==Tryz.pinned.checked.prog.mapsAmong Tryz.f4.resultTypes.toList))=true:=by kernel_rfl
theorem policyPoints_j16:((Rows.policyPointsRow.loops==(Tryz.f4.params.toList++Rows.policyPointsSpec.plain.varTypes Tryz.pinned.checked.prog).any (Tryz.pinned.checked.prog.loopsFrom ·)))=true:=by kernel_rfl
theorem policyPoints_j17:((Rows.policyPointsRow.wideKeys==(Tryz.f4.params.toList++Rows.policyPointsSpec.plain.varTypes Tryz.pinned.checked.prog++Tryz.f4.resultTypes.toList).any (Tryz.pinned.checked.prog.wideKeysFrom ·)))=true:=by kernel_rfl
theorem policyPoints_j18:(Rows.policyPointsSpec.vars.all (Tryz.pinned.checked.prog.varReadable ·))=true:=by kernel_rfl
theorem policyPoints_j19:(Tryz.f4.resultTypes.all (fun t=>Tryz.pinned.checked.prog.readableRec t&&decide (t<Tryz.pinned.checked.prog.types.size)))=true:=by kernel_rfl
theorem policyPoints_j20:((Rows.policyPointsRow.ifacesOut==Tryz.f4.resultTypes.toList.any (Tryz.pinned.checked.prog.ifacesRec ·)))=true:=by kernel_rfl
theorem policyPoints_j21:((Rows.policyPointsRow.loopsOut==Tryz.f4.resultTypes.toList.any (Tryz.pinned.checked.prog.loopsFrom ·)))=true:=by kernel_rfl
theorem policyPoints_j22:((Rows.policyPointsRow.plainKeys==Tryz.pinned.checked.prog.plainKeys))=true:=by kernel_rfl
theorem policyPoints_j23:(Rows.policyPointsRow.shortTexts.isNone)=true:=by kernel_rfl
theorem policyPoints_j24:(Tryz.pinned.checked.prog.stopsHeard)=true:=by kernel_rfl
theorem policyPoints_j25:(Tryz.pinned.checked.prog.mayEnter)=true:=by kernel_rfl
theorem policyPoints_j26:((Rows.policyPointsRow.lifted==Tryz.pinned.checked.prog.liftsFinal))=true:=by kernel_rfl
theorem policyPoints_j27:((Tryz.pinned.checked.prog.make==some Rows.policyPointsRow.make))=true:=by kernel_rfl
theorem policyPoints_j28:((Rows.policyPointsRow.kinds==(if Rows.policyPointsRow.domain.isEmpty then []else Tryz.f4.params.toList.map fun t=>match Tryz.pinned.checked.prog.underlying t with|some (.int k)=>some k|_=>none)))=true:=by kernel_rfl
theorem policyPoints_j29:((Rows.policyPointsRow.pinned==Rows.policyPointsRow.pinnedBy))=true:=by kernel_rfl
theorem policyPoints_j30:((Rows.policyPointsRow.veiled==(Tryz.f4.params.toList++Rows.policyPointsSpec.plain.varTypes Tryz.pinned.checked.prog++Tryz.f4.resultTypes.toList).any (Tryz.pinned.checked.prog.veiledRec ·)))=true:=by kernel_rfl
theorem policyPoints_j31:(Rows.policyPointsRow.veiledFits Tryz.pinned.checked.prog Tryz.f4.params.toList (Tryz.f4.params.toList++Rows.policyPointsSpec.plain.varTypes Tryz.pinned.checked.prog++Tryz.f4.resultTypes.toList))=true:=by kernel_rfl
theorem policyPoints_closed:joinedFacts Tryz.pinned.checked.prog 4 Tryz.f4 Rows.policyPointsSpec Rows.policyPointsRow=true:=(and2 (and2 (and2 (and2 (and2 (and2 (and2 (and2 (and2 (and2 (and2 (and2 (and2 (and2 (and2 (and2 (and2 (and2 (and2 (and2 (and2 (and2 (and2 (and2 (and2 (and2 (and2 (and2 (and2 (and2 (and2 policyPoints_j0 policyPoints_j1) policyPoints_j2) policyPoints_j3) policyPoints_j4) policyPoints_j5) policyPoints_j6) policyPoints_j7) policyPoints_j8) policyPoints_j9) policyPoints_j10) policyPoints_j11) policyPoints_j12) policyPoints_j13) policyPoints_j14) policyPoints_j15) policyPoints_j16) policyPoints_j17) policyPoints_j18) policyPoints_j19) policyPoints_j20) policyPoints_j21) policyPoints_j22) policyPoints_j23) policyPoints_j24) policyPoints_j25) policyPoints_j26) policyPoints_j27) policyPoints_j28) policyPoints_j29) policyPoints_j30) policyPoints_j31)
theorem policyPoints_name:Tryz.pinned.checked.prog.funcNamed "netsegment/nsglaw18.PolicyPoints"=some 4:=by kernel_rfl
theorem policyPoints_want:(Tryz.f4.params.toList.all fun t=>Tryz.prog.wantsStandIn t==false)=true:=by kernel_rfl
theorem policyPoints_wf:Rows.policyPointsRow.wfByText (OpenSpec.ofChange Rows.policyPointsSpec)=true:=by kernel_rfl
theorem policyPoints_main:Tryz.pinned.checked.prog.mainIs=some (Rows.policyPointsCard.stood.harness.1,Rows.policyPointsCard.stood.harness.2.toList):=by kernel_rfl
theorem policyPoints_looks:false=Tryz.pinned.checked.prog.looks []:=by kernel_rfl
theorem policyPoints_goes:false=Rows.policyPointsRow.goesBy Tryz.pinned.checked.prog:=by kernel_rfl
theorem policyPoints_inst:decide (Tryz.f4.isInstance Tryz.pinned.checked.prog Rows.policyPointsRow.origin Rows.policyPointsRow.targs)=true:=by kernel_rfl
theorem policyPoints_row:Rows.PolicyPointsSaid:=
 OpenClaim.holds_of_wide 4 Tryz.f4 rfl rfl rfl rfl rfl rfl rfl ⟨rfl,rfl,rfl,rfl,rfl⟩ rfl rfl rfl rfl rfl policyPoints_name Tryz.func4 policyPoints_closed
  (of_decide_eq_true policyPoints_inst) (by unfold Func.isWrapper;first|(rw[if_pos (by decide+kernel)];kernel_rfl)|(rw[if_neg (by decide+kernel)];exact⟨rfl,rfl⟩))
  (fun os started H enc _=>policyPoints_lifted os started H enc)
theorem policyPoints_hl:∀f fn,Tryz.pinned.checked.prog.funcNamed Rows.policyPointsRow.func=some f->Tryz.pinned.checked.prog.funcs[f]? =some fn->false=Tryz.pinned.checked.prog.looks []/\∀(j:Nat) t,fn.params[j]? =some t->Tryz.pinned.checked.prog.wantsStandIn t=false:=fun f fn hf hfn=>by
 obtain rfl:f=4:=(Option.some.inj ((show Tryz.pinned.checked.prog.funcNamed Rows.policyPointsRow.func=some 4 from policyPoints_name).symm.trans hf)).symm
 obtain rfl:fn=Tryz.f4:=(Option.some.inj (Tryz.func4.symm.trans hfn)).symm
 exact⟨policyPoints_looks,fun j t ht=>wants_none policyPoints_want (List.mem_of_getElem? (by rw[Array.getElem?_toList];exact ht))⟩
theorem policyPoints_holds:Rows.PolicyPointsCardSaid:=
 Claim7.holds_tied_plain_at .later [] [.data,.widerDeep] true Rows.policyPointsCard.stood.harness false
  policyPoints_row (fun _ h=>by cases h) policyPoints_wf (fun _ h=>by cases h) policyPoints_row_tie rfl ⟨rfl,rfl⟩ policyPoints_main rfl policyPoints_hl policyPoints_goes
#print axioms policyPoints_holds
end Go.Proofs.YtbdikofefjljoaaGreatDoor
