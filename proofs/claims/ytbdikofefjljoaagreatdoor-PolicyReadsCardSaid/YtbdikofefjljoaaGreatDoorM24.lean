/- Which policies are valid, their pairs, and the real initial headers are those of the reference: the statement PolicyReadsCardSaid holds, for the tied card. -/
import Derived.Test.YtbdikofefjljoaaGreatDoorM23
set_option linter.unusedVariables false
set_option linter.unusedSimpArgs false
set_option maxRecDepth 100000
set_option maxHeartbeats 4000000
namespace Go.Proofs.YtbdikofefjljoaaGreatDoor
open Go Go.Vm Go.ChangeShapes Go.WideShapes Go.ChangeAt Go.RowKit
theorem andR{a b:Bool}(h1:a=true)(h2:b=true):(a&&b)=true:=by rw[h1,h2];rfl
theorem policyReads_lifted(os:Os)(started:os.Started)(H:Type)(enc:TypeId×Value->H):
  ReturnsInHanded {} Tryz.checked os 6 .any (fun w args=>(Rows.policyReadsSpec.pre enc Tryz.prog Tryz.f6 [] false w args/\laidMetH Tryz.prog laid3 w)/\sizedMet enc Tryz.prog Tryz.f6 (OpenSpec.ofChange Rows.policyReadsSpec) false w args)
   (Rows.policyReadsSpec.post enc Tryz.prog Tryz.f6 false true false false):=by
 refine returnsInHanded_of_change_and (C:=Tryz.checked) (X:=fun w _=>laidMetH Tryz.prog laid3 w) (fun _ _ _ hh h=>h.of_heap hh) ownNone started zk Tryz.func6
  (ChangeSpec.witness_shaped (enc:=enc) (C:=Tryz.checked) (os:=os) (X:=fun w _=>laidMetH Tryz.prog laid3 w) false (World.doorLaid Tryz.prog 400 os) #[.slice none 0 0,.agg #[.slice none 0 0,.slice none 0 0,.slice none 0 0,.slice none 0 0,.int .i64 0],.agg #[.slice none 0 0,.slice none 0 0],.int .i64 0,.int .i64 0] 8 rfl (World.shaped_of_RefB zk zk) zk zk zk (door_met os _)) ?_
 intro W base args ds gs before hval0 hW _ _ hL _
 have hval:∀(j:Nat) t v,Tryz.f6.params[j]? =some t->args[j]? =some v->Value.okWide Tryz.prog W .any base t v:=hval0
 refine law_contract (P:=Tryz.prog) (t:=4) (d:=8) laidOut zk zk rfl rfl zk (fun ds hds=>?_) (fun xs hxs=>?_) (glob_of hL) hval hW
 ·have hds:ds.length=5:=hds.trans (show Tryz.f6.params.size=5 by kernel_rfl)
  match ds,hds with
  |[d0,d1,d2,d3,d4],_=>rfl
 ·have hxs:Tys Tryz.prog 8 [22,28,44,3,3] xs:=Eq.mp (congrArg (fun l=>Tys Tryz.prog 8 l xs) (show Tryz.f6.params.toList=[22,28,44,3,3] by kernel_rfl)) hxs
  obtain⟨a0,a1,a2,a3,a4,rfl,h0,h1,h2,h3,h4⟩:=tys5p hxs
  obtain⟨raw0,rfl,hr0⟩:=ty_is (d:=6) h0
  obtain⟨t1,rfl⟩:=ty_tp (d:=3) h1
  obtain⟨p2,rfl⟩:=tz_pol (d:=1) h2
  obtain⟨n3,rfl,_⟩:=tz_int (d:=7) h3
  obtain⟨n4,rfl,_⟩:=tz_int (d:=7) h4
  exact cPolReads raw0 t1 p2 n3 n4 hr0
theorem policyReads_j0:(Rows.policyReadsRow.wf (OpenSpec.ofChange Rows.policyReadsSpec))=true:=by kernel_rfl
theorem policyReads_j1:(laidOutB Tryz.pinned.checked.prog)=true:=by kernel_rfl
theorem policyReads_j2:(mapsRowed Tryz.pinned.checked.prog)=true:=by kernel_rfl
theorem policyReads_j3:(Tryz.f6.params.all (Tryz.pinned.checked.prog.readableRec ·))=true:=by kernel_rfl
theorem policyReads_j4:(namedTie Tryz.pinned.checked.prog Rows.policyReadsRow.named Rows.policyReadsSpec.vars)=true:=by kernel_rfl
theorem policyReads_j5:((Rows.policyReadsRow.stops==[]))=true:=by kernel_rfl
theorem policyReads_j6:((Tryz.pinned.checked.prog.stops==[]))=true:=by kernel_rfl
theorem policyReads_j7:((Rows.policyReadsRow.knobs==[]))=true:=by kernel_rfl
theorem policyReads_j8:((Tryz.pinned.checked.prog.stopKnobs==[]))=true:=by kernel_rfl
theorem policyReads_j9:((Rows.policyReadsRow.inPlace==Tryz.pinned.checked.prog.inPlace 6))=true:=by kernel_rfl
theorem policyReads_j10:((Rows.policyReadsRow.unfollowed==Tryz.pinned.checked.prog.unfollowed 6))=true:=by kernel_rfl
theorem policyReads_j11:((Rows.policyReadsRow.recurses==Tryz.pinned.checked.prog.recurses 6))=true:=by kernel_rfl
theorem policyReads_j12:((Rows.policyReadsRow.named==Tryz.pinned.checked.prog.varsNamed 6))=true:=by kernel_rfl
theorem policyReads_j13:((Rows.policyReadsRow.maps==(Tryz.f6.params.toList++Rows.policyReadsSpec.plain.varTypes Tryz.pinned.checked.prog).any (Tryz.pinned.checked.prog.mapsRec ·)))=true:=by kernel_rfl
theorem policyReads_j14:((Rows.policyReadsRow.ifaces==(Tryz.f6.params.toList++Rows.policyReadsSpec.plain.varTypes Tryz.pinned.checked.prog).any (Tryz.pinned.checked.prog.ifacesRec ·)))=true:=by kernel_rfl
theorem policyReads_j15:((Rows.policyReadsRow.mapsOut==Tryz.pinned.checked.prog.mapsAmong Tryz.f6.resultTypes.toList))=true:=by kernel_rfl
theorem policyReads_j16:((Rows.policyReadsRow.loops==(Tryz.f6.params.toList++Rows.policyReadsSpec.plain.varTypes Tryz.pinned.checked.prog).any (Tryz.pinned.checked.prog.loopsFrom ·)))=true:=by kernel_rfl
theorem policyReads_j17:((Rows.policyReadsRow.wideKeys==(Tryz.f6.params.toList++Rows.policyReadsSpec.plain.varTypes Tryz.pinned.checked.prog++Tryz.f6.resultTypes.toList).any (Tryz.pinned.checked.prog.wideKeysFrom ·)))=true:=by kernel_rfl
theorem policyReads_j18:(Rows.policyReadsSpec.vars.all (Tryz.pinned.checked.prog.varReadable ·))=true:=by kernel_rfl
theorem policyReads_j19:(Tryz.f6.resultTypes.all (fun t=>Tryz.pinned.checked.prog.readableRec t&&decide (t<Tryz.pinned.checked.prog.types.size)))=true:=by kernel_rfl
theorem policyReads_j20:((Rows.policyReadsRow.ifacesOut==Tryz.f6.resultTypes.toList.any (Tryz.pinned.checked.prog.ifacesRec ·)))=true:=by kernel_rfl
theorem policyReads_j21:((Rows.policyReadsRow.loopsOut==Tryz.f6.resultTypes.toList.any (Tryz.pinned.checked.prog.loopsFrom ·)))=true:=by kernel_rfl
theorem policyReads_j22:((Rows.policyReadsRow.plainKeys==Tryz.pinned.checked.prog.plainKeys))=true:=by kernel_rfl
theorem policyReads_j23:(Rows.policyReadsRow.shortTexts.isNone)=true:=by kernel_rfl
theorem policyReads_j24:(Tryz.pinned.checked.prog.stopsHeard)=true:=by kernel_rfl
theorem policyReads_j25:(Tryz.pinned.checked.prog.mayEnter)=true:=by kernel_rfl
theorem policyReads_j26:((Rows.policyReadsRow.lifted==Tryz.pinned.checked.prog.liftsFinal))=true:=by kernel_rfl
theorem policyReads_j27:((Tryz.pinned.checked.prog.make==some Rows.policyReadsRow.make))=true:=by kernel_rfl
theorem policyReads_j28:((Rows.policyReadsRow.kinds==(if Rows.policyReadsRow.domain.isEmpty then []else Tryz.f6.params.toList.map fun t=>match Tryz.pinned.checked.prog.underlying t with|some (.int k)=>some k|_=>none)))=true:=by kernel_rfl
theorem policyReads_j29:((Rows.policyReadsRow.pinned==Rows.policyReadsRow.pinnedBy))=true:=by kernel_rfl
theorem policyReads_j30:((Rows.policyReadsRow.veiled==(Tryz.f6.params.toList++Rows.policyReadsSpec.plain.varTypes Tryz.pinned.checked.prog++Tryz.f6.resultTypes.toList).any (Tryz.pinned.checked.prog.veiledRec ·)))=true:=by kernel_rfl
theorem policyReads_j31:(Rows.policyReadsRow.veiledFits Tryz.pinned.checked.prog Tryz.f6.params.toList (Tryz.f6.params.toList++Rows.policyReadsSpec.plain.varTypes Tryz.pinned.checked.prog++Tryz.f6.resultTypes.toList))=true:=by kernel_rfl
theorem policyReads_closed:joinedFacts Tryz.pinned.checked.prog 6 Tryz.f6 Rows.policyReadsSpec Rows.policyReadsRow=true:=(andR (andR (andR (andR (andR (andR (andR (andR (andR (andR (andR (andR (andR (andR (andR (andR (andR (andR (andR (andR (andR (andR (andR (andR (andR (andR (andR (andR (andR (andR (andR policyReads_j0 policyReads_j1) policyReads_j2) policyReads_j3) policyReads_j4) policyReads_j5) policyReads_j6) policyReads_j7) policyReads_j8) policyReads_j9) policyReads_j10) policyReads_j11) policyReads_j12) policyReads_j13) policyReads_j14) policyReads_j15) policyReads_j16) policyReads_j17) policyReads_j18) policyReads_j19) policyReads_j20) policyReads_j21) policyReads_j22) policyReads_j23) policyReads_j24) policyReads_j25) policyReads_j26) policyReads_j27) policyReads_j28) policyReads_j29) policyReads_j30) policyReads_j31)
theorem policyReads_name:Tryz.pinned.checked.prog.funcNamed "netsegment/nsglaw18.PolicyReads"=some 6:=by kernel_rfl
theorem policyReads_want:(Tryz.f6.params.toList.all fun t=>Tryz.prog.wantsStandIn t==false)=true:=by kernel_rfl
theorem policyReads_wf:Rows.policyReadsRow.wfByText (OpenSpec.ofChange Rows.policyReadsSpec)=true:=by kernel_rfl
theorem policyReads_main:Tryz.pinned.checked.prog.mainIs=some (Rows.policyReadsCard.stood.harness.1,Rows.policyReadsCard.stood.harness.2.toList):=by kernel_rfl
theorem policyReads_looks:false=Tryz.pinned.checked.prog.looks []:=by kernel_rfl
theorem policyReads_goes:false=Rows.policyReadsRow.goesBy Tryz.pinned.checked.prog:=by kernel_rfl
theorem policyReads_inst:decide (Tryz.f6.isInstance Tryz.pinned.checked.prog Rows.policyReadsRow.origin Rows.policyReadsRow.targs)=true:=by kernel_rfl
theorem policyReads_row:Rows.PolicyReadsSaid:=
 OpenClaim.holds_of_wide 6 Tryz.f6 rfl rfl rfl rfl rfl rfl rfl ⟨rfl,rfl,rfl,rfl,rfl⟩ rfl rfl rfl rfl rfl policyReads_name Tryz.func6 policyReads_closed
  (of_decide_eq_true policyReads_inst) (by unfold Func.isWrapper;first|(rw[aG (by decide+kernel)];kernel_rfl)|(rw[aE (by decide+kernel)];exact⟨rfl,rfl⟩))
  (fun os started H enc _=>policyReads_lifted os started H enc)
theorem policyReads_hl:∀f fn,Tryz.pinned.checked.prog.funcNamed Rows.policyReadsRow.func=some f->Tryz.pinned.checked.prog.funcs[f]? =some fn->false=Tryz.pinned.checked.prog.looks []/\∀(j:Nat) t,fn.params[j]? =some t->Tryz.pinned.checked.prog.wantsStandIn t=false:=fun f fn hf hfn=>by
 obtain rfl:f=6:=(bH ((show Tryz.pinned.checked.prog.funcNamed Rows.policyReadsRow.func=some 6 from policyReads_name).symm.trans hf)).symm
 obtain rfl:fn=Tryz.f6:=(bH (Tryz.func6.symm.trans hfn)).symm
 exact⟨policyReads_looks,fun j t ht=>wants_none policyReads_want (aF (by rw[Array.getElem?_toList];exact ht))⟩
theorem policyReads_holds:Rows.PolicyReadsCardSaid:=
 Claim7.holds_tied_plain_at .later [] [.data,.widerDeep] true Rows.policyReadsCard.stood.harness false
  policyReads_row (fun _ h=>by cases h) policyReads_wf (fun _ h=>by cases h) policyReads_row_tie rfl ⟨rfl,rfl⟩ policyReads_main rfl policyReads_hl policyReads_goes
#print axioms policyReads_holds
end Go.Proofs.YtbdikofefjljoaaGreatDoor
