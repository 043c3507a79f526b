import Derived.Test.YtnomkooikbhgmaaGreatDoorK39
set_option linter.unusedVariables false
set_option linter.unusedSimpArgs false
set_option maxRecDepth 100000
set_option maxHeartbeats 4000000
namespace Go.Proofs.YtnomkooikbhgmaaGreatDoor
open Go Go.Vm Go.ChangeShapes Go.WideShapes Go.ChangeAt Go.RowKit
theorem aTX{P:Program}{L d:Nat}{t0 t1 t2 t3:TypeId}:∀{xs:List AV},Xi P L d [t0,t1,t2,t3] xs->∃a0 a1 a2 a3,xs=[a0,a1,a2,a3]/\TyL P L d t0 a0/\TyL P L d t1 a1/\TyL P L d t2 a2/\TyL P L d t3 a3
 |[a0,a1,a2,a3],⟨h0,h1,h2,h3,_⟩=>⟨a0,a1,a2,a3,rfl,h0,h1,h2,h3⟩
theorem policyDecides_lifted(os:Os)(started:os.Started)(H:Type)(enc:TypeId×Value->H):
  ReturnsInHanded {} Tryz.checked os 4 .any (fun w args=>(Rows.policyDecidesSpec.pre enc Tryz.prog Tryz.f4 [] false w args/\laidMetH Tryz.prog Rk w)/\sizedMet enc Tryz.prog Tryz.f4 (OpenSpec.ofChange Rows.policyDecidesSpec) false w args)
   (Rows.policyDecidesSpec.post enc Tryz.prog Tryz.f4 false true false false):=by
 refine returnsInHanded_of_change_and (C:=Tryz.checked) (X:=fun w _=>laidMetH Tryz.prog Rk w) (fun _ _ _ hh h=>h.of_heap hh) aIy started zk Tryz.func4
  (ChangeSpec.witness_shaped (enc:=enc) (C:=Tryz.checked) (os:=os) (X:=fun w _=>laidMetH Tryz.prog Rk w) false (World.doorLaid Tryz.prog 400 os) #[.slice none 0 0,.agg #[.slice none 0 0,.slice none 0 0,.slice none 0 0,.slice none 0 0,.slice none 0 0,.slice none 0 0],.int .i64 0,.agg #[.int .u32 0,.int .u32 0,.int .u8 0,.int .u16 0,.int .u16 0]] 8 rfl (World.shaped_of_RefB zk zk) zk zk zk (aAW os _)) ?_
 intro W base args ds gs before hval0 hW _ hwt hL _;have hval:∀(j:Nat) t v,Tryz.f4.params[j]? =some t->args[j]? =some v->Value.okWide Tryz.prog W .any base t v:=hval0;refine Ko 140737488351232 (P:=Tryz.prog) (t:=4) (d:=8) aGs zk zk rfl rfl zk (fun ds hds=>?_) (fun xs hxs=>?_) (aFu hL) hval hW hwt
 ·have hds:ds.length=4:=hds.trans (show Tryz.f4.params.size=4 by kernel_rfl)
  match ds,hds with
  |[d0,d1,d2,d3],_=>rfl
 ·have hxs:Xi Tryz.prog 140737488351232 8 [22,35,3,58] xs:=Eq.mp (congrArg (fun l=>Xi Tryz.prog 140737488351232 8 l xs) (show Tryz.f4.params.toList=[22,35,3,58] by kernel_rfl)) hxs;obtain⟨a0,a1,a2,a3,rfl,h0,h1,h2,h3⟩:=aTX hxs;obtain⟨raw0,rfl,hr0⟩:=aTV (d:=6) h0.ty;obtain⟨i1,rfl,l1⟩:=aPP (d:=1) h1;obtain⟨n2,rfl,m2⟩:=aPR (d:=7) h2.ty;obtain⟨g3,rfl,o3⟩:=aTY (d:=6) h3.ty;exact aEk raw0 i1 n2 g3 hr0 l1 o3
end Go.Proofs.YtnomkooikbhgmaaGreatDoor
