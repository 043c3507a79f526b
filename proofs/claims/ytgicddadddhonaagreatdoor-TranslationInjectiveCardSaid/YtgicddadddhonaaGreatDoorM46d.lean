import Derived.Test.YtgicddadddhonaaGreatDoorM45
set_option linter.unusedVariables false
set_option linter.unusedSimpArgs false
set_option maxRecDepth 100000
set_option maxHeartbeats 4000000
namespace Go.Proofs.YtgicddadddhonaaGreatDoor
open Go Go.Vm Go.ChangeShapes Go.WideShapes Go.ChangeAt Go.RowKit
theorem translationInjective_lifted(os:Os)(started:os.Started)(H:Type)(enc:TypeId×Value->H):
  ReturnsInHanded {} Tryz.checked os 3 .any (fun w args=>(Rows.translationInjectiveSpec.pre enc Tryz.prog Tryz.f3 [] false w args/\laidMetH Tryz.prog qX w)/\sizedMet enc Tryz.prog Tryz.f3 (OpenSpec.ofChange Rows.translationInjectiveSpec) false w args)
   (Rows.translationInjectiveSpec.post enc Tryz.prog Tryz.f3 false true false false):=by
 refine returnsInHanded_of_change_and (C:=Tryz.checked) (X:=fun w _=>laidMetH Tryz.prog qX w) (fun _ _ _ hh h=>h.of_heap hh) Ec started zk Tryz.func3
  (ChangeSpec.witness_shaped (enc:=enc) (C:=Tryz.checked) (os:=os) (X:=fun w _=>laidMetH Tryz.prog qX w) false (World.doorLaid Tryz.prog 400 os) #[.slice none 0 0,.agg #[.int .u32 0,.int .u32 0,.int .u8 0,.int .u16 0,.int .u16 0],.agg #[.int .u32 0,.int .u32 0,.int .u8 0,.int .u16 0,.int .u16 0]] 8 rfl (World.shaped_of_RefB zk zk) zk zk zk (door_met os _)) ?_
 intro W base args ds gs before hval0 hW _ _ hL _;have hval:∀(j:Nat) t v,Tryz.f3.params[j]? =some t->args[j]? =some v->Value.okWide Tryz.prog W .any base t v:=hval0;refine rQ (P:=Tryz.prog) (t:=4) (d:=6) laidOut zk zk rfl rfl zk (fun ds hds=>?_) (fun xs hxs=>?_) (Dx hL) hval hW
 ·have hds:ds.length=3:=hds.trans (show Tryz.f3.params.size=3 by kernel_rfl)
  match ds,hds with
  |[d0,d1,d2],_=>rfl
 ·match xs,hxs with
  |[a0,a1,a2],⟨h0,h1,h2,_⟩=>
   obtain⟨raw0,rfl,hr0⟩:=Sw (d:=4) h0;obtain⟨g1,rfl,o1⟩:=X2 (d:=4) h1;obtain⟨g2,rfl,o2⟩:=X2 (d:=4) h2;exact aLl raw0 g1 g2 o1 o2 hr0
end Go.Proofs.YtgicddadddhonaaGreatDoor
