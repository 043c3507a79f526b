/- The addresses of groups, the headers of services and statements, and the errors are those of the reference: the statement ResolveAgreesCardSaid holds, for every input, without a condition of ours (its card ties the package-level variables to the program's text). -/
import Derived.Test.YtahhamfngafmcaaGreatDoorM39
set_option linter.unusedVariables false
set_option linter.unusedSimpArgs false
set_option maxRecDepth 100000
set_option maxHeartbeats 4000000
namespace Go.Proofs.YtahhamfngafmcaaGreatDoor
open Go Go.Vm Go.ChangeShapes Go.WideShapes Go.ChangeAt Go.RowKit
theorem tys5L{P:Program}{L d:Nat}{t0 t1 t2 t3 t4:TypeId}:∀{xs:List AV},TysL P L d [t0,t1,t2,t3,t4] xs->∃a0 a1 a2 a3 a4,xs=[a0,a1,a2,a3,a4]/\TyL P L d t0 a0/\TyL P L d t1 a1/\TyL P L d t2 a2/\TyL P L d t3 a3/\TyL P L d t4 a4
 |[a0,a1,a2,a3,a4],⟨h0,h1,h2,h3,h4,_⟩=>⟨a0,a1,a2,a3,a4,rfl,h0,h1,h2,h3,h4⟩
theorem resolveAgrees_lifted(os:Os)(started:os.Started)(H:Type)(enc:TypeId×Value->H):
  ReturnsInHanded {} Tryz.checked os 7 .any (fun w args=>(Rows.resolveAgreesSpec.pre enc Tryz.prog Tryz.f7 [] false w args/\laidMetH Tryz.prog laid3 w)/\sizedMet enc Tryz.prog Tryz.f7 (OpenSpec.ofChange Rows.resolveAgreesSpec) false w args)
   (Rows.resolveAgreesSpec.post enc Tryz.prog Tryz.f7 false true false false):=by
 refine returnsInHanded_of_change_and (C:=Tryz.checked) (X:=fun w _=>laidMetH Tryz.prog laid3 w) (fun _ _ _ hh h=>h.of_heap hh) ownNone started zk Tryz.func7
  (ChangeSpec.witness_shaped (enc:=enc) (C:=Tryz.checked) (os:=os) (X:=fun w _=>laidMetH Tryz.prog laid3 w) false (World.doorLaid Tryz.prog 400 os) #[.slice none 0 0,.agg #[.slice none 0 0,.slice none 0 0,.slice none 0 0,.slice none 0 0,.int .i64 0],.agg #[.slice none 0 0,.slice none 0 0,.slice none 0 0,.slice none 0 0,.slice none 0 0,.slice none 0 0],.string ⟨#[]⟩,.int .i64 0] 8 rfl (World.shaped_of_RefB zk zk) zk zk zk (door_met os _)) ?_
 intro W base args ds gs before hval0 hW _ hwt hL _
 have hval:∀(j:Nat) t v,Tryz.f7.params[j]? =some t->args[j]? =some v->Value.okWide Tryz.prog W .any base t v:=hval0
 refine law_contractL 140737488351232 (P:=Tryz.prog) (t:=4) (d:=8) laidOut zk zk rfl rfl zk (fun ds hds=>?_) (fun xs hxs=>?_) (glob_of hL) hval hW hwt
 ·have hds:ds.length=5:=hds.trans (show Tryz.f7.params.size=5 by kernel_rfl)
  match ds,hds with
  |[d0,d1,d2,d3,d4],_=>rfl
 ·have hxs:TysL Tryz.prog 140737488351232 8 [22,31,39,9,3] xs:=Eq.mp (congrArg (fun l=>TysL Tryz.prog 140737488351232 8 l xs) (show Tryz.f7.params.toList=[22,31,39,9,3] by kernel_rfl)) hxs
  obtain⟨a0,a1,a2,a3,a4,rfl,h0,h1,h2,h3,h4⟩:=tys5L hxs
  obtain⟨raw0,rfl,hr0⟩:=ty_is (d:=6) h0.ty
  obtain⟨t1,rfl⟩:=ty_tp (d:=3) h1.ty
  obtain⟨i2,rfl,l2⟩:=tzL_nt (d:=1) h2
  obtain⟨s3,rfl⟩:=tz_str (d:=7) h3.ty
  obtain⟨n4,rfl,m4⟩:=tz_int (d:=7) h4.ty
  exact cAgrees17 raw0 t1 i2 s3 n4 hr0 l2
theorem resolveAgrees_closed:joinedFacts Tryz.pinned.checked.prog 7 Tryz.f7 Rows.resolveAgreesSpec Rows.resolveAgreesRow=true:=by kernel_rfl
theorem resolveAgrees_row:Rows.ResolveAgreesSaid:=
 OpenClaim.holds_of_wide 7 Tryz.f7 rfl rfl rfl rfl rfl rfl rfl ⟨rfl,rfl,rfl,rfl,rfl⟩ rfl rfl rfl rfl rfl zk Tryz.func7 resolveAgrees_closed
  (of_decide_eq_true zk) (by unfold Func.isWrapper;first|(rw[if_pos (by decide+kernel)];kernel_rfl)|(rw[if_neg (by decide+kernel)];exact⟨rfl,rfl⟩))
  (fun os started H enc _=>resolveAgrees_lifted os started H enc)
theorem resolveAgrees_holds:Rows.ResolveAgreesCardSaid:=
 Claim7.holds_tied_plain_at .later [] [.data,.widerDeep] true Rows.resolveAgreesCard.stood.harness false
  resolveAgrees_row (fun _ h=>by cases h) zk (fun _ h=>by cases h) resolveAgrees_row_tie rfl ⟨rfl,rfl⟩ zk rfl
  (fun f fn hf hfn=>by
   obtain rfl:f=7:=Option.some.inj ((show Tryz.prog.funcNamed "netsegment/nsglaw17.ResolveAgrees"=some 7 by kernel_rfl).symm.trans hf)|>.symm
   obtain rfl:fn=Tryz.f7:=(Option.some.inj (Tryz.func7.symm.trans hfn)).symm
   exact⟨by kernel_rfl,fun j t ht=>wants_none (ts:=Tryz.f7.params.toList) zk (List.mem_of_getElem? (by rw[Array.getElem?_toList];exact ht))⟩)
  zk
#print axioms resolveAgrees_holds
end Go.Proofs.YtahhamfngafmcaaGreatDoor
