import Derived.Test.YtgicddadddhonaaGreatDoorM59
set_option linter.unusedVariables false
set_option linter.unusedSimpArgs false
set_option maxRecDepth 100000
set_option maxHeartbeats 4000000
namespace Go.Proofs.YtgicddadddhonaaGreatDoor
open Go Go.Vm Go.ChangeShapes Go.WideShapes Go.ChangeAt Go.RowKit
theorem aZn{P:Program}{d:Nat}{t0 t1 t2 t3 t4:TypeId}:∀{xs:List AV},Tys P d [t0,t1,t2,t3,t4] xs->∃a0 a1 a2 a3 a4,xs=[a0,a1,a2,a3,a4]/\Ty P d t0 a0/\Ty P d t1 a1/\Ty P d t2 a2/\Ty P d t3 a3/\Ty P d t4 a4
 |[a0,a1,a2,a3,a4],⟨h0,h1,h2,h3,h4,_⟩=>⟨a0,a1,a2,a3,a4,rfl,h0,h1,h2,h3,h4⟩
theorem translationMaps_lifted(os:Os)(started:os.Started)(H:Type)(enc:TypeId×Value->H):
  ReturnsInHanded {} Tryz.checked os 8 .any (fun w args=>(Rows.translationMapsSpec.pre enc Tryz.prog Tryz.f8 [] false w args/\laidMetH Tryz.prog qX w)/\sizedMet enc Tryz.prog Tryz.f8 (OpenSpec.ofChange Rows.translationMapsSpec) false w args)
   (Rows.translationMapsSpec.post enc Tryz.prog Tryz.f8 false true false false):=by
 refine returnsInHanded_of_change_and (C:=Tryz.checked) (X:=fun w _=>laidMetH Tryz.prog qX w) (fun _ _ _ hh h=>h.of_heap hh) Ec started zk Tryz.func8
  (ChangeSpec.witness_shaped (enc:=enc) (C:=Tryz.checked) (os:=os) (X:=fun w _=>laidMetH Tryz.prog qX w) false (World.doorLaid Tryz.prog 400 os) #[.slice none 0 0,.slice none 0 0,.slice none 0 0,.slice none 0 0,.agg #[.int .u32 0,.int .u32 0,.int .u8 0,.int .u16 0,.int .u16 0]] 8 rfl (World.shaped_of_RefB zk zk) zk zk zk (door_met os _)) ?_
 intro W base args ds gs before hval0 hW _ _ hL _;have hval:∀(j:Nat) t v,Tryz.f8.params[j]? =some t->args[j]? =some v->Value.okWide Tryz.prog W .any base t v:=hval0;refine rQ (P:=Tryz.prog) (t:=4) (d:=6) laidOut zk zk rfl rfl zk (fun ds hds=>?_) (fun xs hxs=>?_) (Dx hL) hval hW
 ·have hds:ds.length=5:=hds.trans (show Tryz.f8.params.size=5 by kernel_rfl)
  match ds,hds with
  |[d0,d1,d2,d3,d4],_=>rfl
 ·have hxs:Tys Tryz.prog 6 [22,46,84,52,26] xs:=Eq.mp (congrArg (fun l=>Tys Tryz.prog 6 l xs) (show Tryz.f8.params.toList=[22,46,84,52,26] by kernel_rfl)) hxs;obtain⟨a0,a1,a2,a3,a4,rfl,h0,h1,h2,h3,h4⟩:=aZn hxs;obtain⟨raw0,rfl,hr0⟩:=Sw (d:=4) h0;obtain⟨l1,rfl⟩:=aZk (d:=1) h1;obtain⟨l2,rfl,q2⟩:=aZe (d:=1) h2;obtain⟨l3,rfl⟩:=aZm (d:=2) h3;obtain⟨g4,rfl,o4⟩:=X2 (d:=4) h4;exact aYy raw0 l1 l2 l3 g4 q2 o4 hr0
end Go.Proofs.YtgicddadddhonaaGreatDoor
