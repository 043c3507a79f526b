/- Groups and services of the reference, as far as sizes go, and what they tell apart. -/
import Derived.Test.YtahhamfngafmcaaGreatDoorProg
import Derived.Test.YtahhamfngafmcaaGreatDoorM22
set_option linter.unusedVariables false
set_option linter.unusedSimpArgs false
set_option maxRecDepth 100000
set_option maxHeartbeats 4000000
namespace Go.Proofs.YtahhamfngafmcaaGreatDoor
open Go Go.Vm
structure Few (i:Nt):Prop where
 sml:Sml i
 g3:i.grps.length<=3
 s3:i.svcs.length<=3
 gi:∀d,d∈i.grps->d.items.length<=2
 si:∀d,d∈i.svcs->d.items.length<=2
noncomputable abbrev celSm(x:Sm):List AV:=[.sb x.permit,.v (.string x.frm),.v (.string x.to),.v (.string x.svc),.sb x.exc,.v (.string x.exF),.v (.string x.exT),.v (.string x.cls),.v (.string x.dur),.v (.int .i64 x.pri)]
noncomputable def gnPref:Ctx:={N:=34,np:=1,own:=at1 12 (true) (at1 14 (true) (fun _=>false))}
noncomputable def bnPref:Code:=bdy Tryz.f21
abbrev ofnPref:=@ofC Tryz.prog gnPref 21 Tryz.f21 bnPref Tryz.func21 (by kernel_rfl) (by kernel_rfl) (by kernel_rfl) (by kernel_rfl)
theorem ix_intsB{xs:List AV}{i:Nat}{K:AV->Prop}(L:List Int)(n:Nat)(lo hi:Int)(h:xs=L.map fun c=>.v (.int .i64 c))(hn:L.length=n)(hb:(L.all fun c=>decide (lo<=c)&&decide (c<=hi))=true)(hi':i<n)(hk:∀c,lo<=c->c<=hi->K (.v (.int .i64 c))):Ix xs i K:=
 ix_ints L n h hn hi' fun c hc=>by
  have:=List.all_eq_true.1 hb c hc
  simp only[Bool.and_eq_true,decide_eq_true_eq]at this
  exact hk c this.1 this.2
theorem eE(n:ByteArray)(d:Int)(z:ByteArray)(p:Pf)(b:Bool):∃a:Ed,AV.agg [.v (.string n),.v (.int .i64 d),.v (.string z),.v (.int .u32 p.addr),.v (.int .i64 p.bits),.sb b]=encE a:=⟨⟨n,d,z,p,b⟩,rfl⟩
noncomputable abbrev smBox(x:Sm):Vm.Obj:=.box (celSm x)
def sm0:Sm:=⟨false,⟨#[]⟩,⟨#[]⟩,⟨#[]⟩,false,⟨#[]⟩,⟨#[]⟩,⟨#[]⟩,⟨#[]⟩,0⟩
end Go.Proofs.YtahhamfngafmcaaGreatDoor
