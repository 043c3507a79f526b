import Derived.Test.YtnomkooikbhgmaaGreatDoorM39
set_option linter.unusedVariables false
set_option linter.unusedSimpArgs false
set_option maxRecDepth 100000
set_option maxHeartbeats 4000000
namespace Go.Proofs.YtnomkooikbhgmaaGreatDoor
open Go Go.Vm Go.ChangeShapes Go.WideShapes Go.ChangeAt Go.RowKit
theorem tys4L{P:Program}{L d:Nat}{t0 t1 t2 t3:TypeId}:∀{xs:List AV},TysL P L d [t0,t1,t2,t3] xs->∃a0 a1 a2 a3,xs=[a0,a1,a2,a3]/\TyL P L d t0 a0/\TyL P L d t1 a1/\TyL P L d t2 a2/\TyL P L d t3 a3
 |[a0,a1,a2,a3],⟨h0,h1,h2,h3,_⟩=>⟨a0,a1,a2,a3,rfl,h0,h1,h2,h3⟩
theorem policyAt_lifted(os:Os)(started:os.Started)(H:Type)(enc:TypeId×Value->H):
  ReturnsInHanded {} Tryz.checked os 3 .any (fun w args=>(Rows.policyAtSpec.pre enc Tryz.prog Tryz.f3 [] false w args/\laidMetH Tryz.prog laid3 w)/\sizedMet enc Tryz.prog Tryz.f3 (OpenSpec.ofChange Rows.policyAtSpec) false w args)
   (Rows.policyAtSpec.post enc Tryz.prog Tryz.f3 false true false false):=by
 refine returnsInHanded_of_change_and (C:=Tryz.checked) (X:=fun w _=>laidMetH Tryz.prog laid3 w) (fun _ _ _ hh h=>h.of_heap hh) ownNone started zk Tryz.func3
  (ChangeSpec.witness_shaped (enc:=enc) (C:=Tryz.checked) (os:=os) (X:=fun w _=>laidMetH Tryz.prog laid3 w) false (World.doorLaid Tryz.prog 400 os) #[.slice none 0 0,.agg #[.slice none 0 0,.slice none 0 0,.slice none 0 0,.slice none 0 0,.int .i64 0],.agg #[.slice none 0 0,.slice none 0 0,.slice none 0 0,.slice none 0 0,.slice none 0 0,.slice none 0 0],.int .i64 0] 8 rfl (World.shaped_of_RefB zk zk) zk zk zk (door_met os _)) ?_
 intro W base args ds gs before hval0 hW _ hwt hL _;have hval:∀(j:Nat) t v,Tryz.f3.params[j]? =some t->args[j]? =some v->Value.okWide Tryz.prog W .any base t v:=hval0;refine law_contractL 140737488351232 (P:=Tryz.prog) (t:=4) (d:=8) laidOut zk zk rfl rfl zk (fun ds hds=>?_) (fun xs hxs=>?_) (glob_of hL) hval hW hwt
 ·have hds:ds.length=4:=hds.trans (show Tryz.f3.params.size=4 by kernel_rfl)
  match ds,hds with
  |[d0,d1,d2,d3],_=>rfl
 ·have hxs:TysL Tryz.prog 140737488351232 8 [22,28,35,3] xs:=Eq.mp (congrArg (fun l=>TysL Tryz.prog 140737488351232 8 l xs) (show Tryz.f3.params.toList=[22,28,35,3] by kernel_rfl)) hxs;obtain⟨a0,a1,a2,a3,rfl,h0,h1,h2,h3⟩:=tys4L hxs;obtain⟨raw0,rfl,hr0⟩:=ty_is (d:=6) h0.ty;obtain⟨t1,rfl⟩:=ty_tp (d:=3) h1.ty;obtain⟨i2,rfl,l2⟩:=tzL_nt (d:=1) h2;obtain⟨n3,rfl,m3⟩:=tz_int (d:=7) h3.ty;exact cPolAt raw0 t1 i2 n3 hr0 l2
end Go.Proofs.YtnomkooikbhgmaaGreatDoor
