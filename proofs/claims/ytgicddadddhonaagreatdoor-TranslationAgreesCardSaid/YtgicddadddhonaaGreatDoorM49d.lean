import Derived.Test.YtgicddadddhonaaGreatDoorM48
set_option linter.unusedVariables false
set_option linter.unusedSimpArgs false
set_option maxRecDepth 100000
set_option maxHeartbeats 4000000
namespace Go.Proofs.YtgicddadddhonaaGreatDoor
open Go Go.Vm Go.ChangeShapes Go.WideShapes Go.ChangeAt Go.RowKit
theorem aWb{P:Program}{L d:Nat}{t0 t1 t2 t3:TypeId}:∀{xs:List AV},X7 P L d [t0,t1,t2,t3] xs->∃a0 a1 a2 a3,xs=[a0,a1,a2,a3]/\TyL P L d t0 a0/\TyL P L d t1 a1/\TyL P L d t2 a2/\TyL P L d t3 a3
 |[a0,a1,a2,a3],⟨h0,h1,h2,h3,_⟩=>⟨a0,a1,a2,a3,rfl,h0,h1,h2,h3⟩
theorem translationAgrees_lifted(os:Os)(started:os.Started)(H:Type)(enc:TypeId×Value->H):
  ReturnsInHanded {} Tryz.checked os 5 .any (fun w args=>(Rows.translationAgreesSpec.pre enc Tryz.prog Tryz.f5 [] false w args/\laidMetH Tryz.prog qX w)/\sizedMet enc Tryz.prog Tryz.f5 (OpenSpec.ofChange Rows.translationAgreesSpec) false w args)
   (Rows.translationAgreesSpec.post enc Tryz.prog Tryz.f5 false true false false):=by
 refine returnsInHanded_of_change_and (C:=Tryz.checked) (X:=fun w _=>laidMetH Tryz.prog qX w) (fun _ _ _ hh h=>h.of_heap hh) Ec started zk Tryz.func5
  (ChangeSpec.witness_shaped (enc:=enc) (C:=Tryz.checked) (os:=os) (X:=fun w _=>laidMetH Tryz.prog qX w) false (World.doorLaid Tryz.prog 400 os) #[.slice none 0 0,.agg #[.slice none 0 0,.slice none 0 0,.slice none 0 0,.slice none 0 0,.int .i64 0],.agg #[.slice none 0 0,.slice none 0 0,.slice none 0 0,.slice none 0 0,.slice none 0 0,.slice none 0 0],.int .i64 0] 8 rfl (World.shaped_of_RefB zk zk) zk zk zk (door_met os _)) ?_
 intro W base args ds gs before hval0 hW _ hwt hL _;have hval:∀(j:Nat) t v,Tryz.f5.params[j]? =some t->args[j]? =some v->Value.okWide Tryz.prog W .any base t v:=hval0;refine Ky 140737488351232 (P:=Tryz.prog) (t:=4) (d:=8) laidOut zk zk rfl rfl zk (fun ds hds=>?_) (fun xs hxs=>?_) (Dx hL) hval hW hwt
 ·have hds:ds.length=4:=hds.trans (show Tryz.f5.params.size=4 by kernel_rfl)
  match ds,hds with
  |[d0,d1,d2,d3],_=>rfl
 ·have hxs:X7 Tryz.prog 140737488351232 8 [22,34,41,3] xs:=Eq.mp (congrArg (fun l=>X7 Tryz.prog 140737488351232 8 l xs) (show Tryz.f5.params.toList=[22,34,41,3] by kernel_rfl)) hxs;obtain⟨a0,a1,a2,a3,rfl,h0,h1,h2,h3⟩:=aWb hxs;obtain⟨raw0,rfl,hr0⟩:=Sw (d:=6) h0.ty;obtain⟨t1,rfl⟩:=aWa (d:=3) h1.ty;obtain⟨i2,rfl,l2,p2,q2⟩:=aKb (d:=1) h2;obtain⟨n3,rfl,m3⟩:=aRu (d:=7) h3.ty;exact aLj raw0 t1 i2 n3 hr0 l2 p2 q2
end Go.Proofs.YtgicddadddhonaaGreatDoor
