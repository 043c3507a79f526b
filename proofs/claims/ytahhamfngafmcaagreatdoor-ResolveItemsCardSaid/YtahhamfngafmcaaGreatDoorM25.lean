/- The reference's policies of intents: At. -/
import Derived.Test.YtahhamfngafmcaaGreatDoorProg
import Derived.Test.YtahhamfngafmcaaGreatDoorM24
set_option linter.unusedVariables false
set_option linter.unusedSimpArgs false
set_option maxRecDepth 100000
set_option maxHeartbeats 4000000
namespace Go.Proofs.YtahhamfngafmcaaGreatDoor
open Go Go.Vm
noncomputable abbrev celSm(x:Sm):List AV:=[.sb x.permit,.v (.string x.frm),.v (.string x.to),.v (.string x.svc),.sb x.exc,.v (.string x.exF),.v (.string x.exT),.v (.string x.cls),.v (.string x.dur),.v (.int .i64 x.pri)]
noncomputable def gnPref:Ctx:={N:=34,np:=1,own:=at1 12 (true) (at1 14 (true) (fun _=>false))}
noncomputable def bnPref:Code:=bdy Tryz.f21
abbrev ofnPref:=@ofC Tryz.prog gnPref 21 Tryz.f21 bnPref Tryz.func21 (by kernel_rfl) (by kernel_rfl) (by kernel_rfl) (by kernel_rfl)
theorem ix_intsB{xs:List AV}{i:Nat}{K:AV->Prop}(L:List Int)(n:Nat)(lo hi:Int)(h:xs=L.map fun c=>.v (.int .i64 c))(hn:L.length=n)(hb:(L.all fun c=>decide (lo<=c)&&decide (c<=hi))=true)(hi':i<n)(hk:∀c,lo<=c->c<=hi->K (.v (.int .i64 c))):Ix xs i K:=
 ix_ints L n h hn hi' fun c hc=>by
  have:=List.all_eq_true.1 hb c hc
  simp only[Bool.and_eq_true,decide_eq_true_eq]at this
  exact hk c this.1 this.2
noncomputable abbrev smBox(x:Sm):Vm.Obj:=.box (celSm x)
def sm0:Sm:=⟨false,⟨#[]⟩,⟨#[]⟩,⟨#[]⟩,false,⟨#[]⟩,⟨#[]⟩,⟨#[]⟩,⟨#[]⟩,0⟩
noncomputable abbrev nilNt:Vm.Obj:=.box [.nils,.nils,.nils,.nils,.nils,.nils]
noncomputable abbrev itBox(x:It):Vm.Obj:=.box [.v (.int .i64 x.kind),.v (.string x.name),.v (.int .u32 x.pf.addr),.v (.int .i64 x.pf.bits),.v (.int .i64 x.proto),.v (.int .u32 x.ports.lo),.v (.int .u32 x.ports.hi)]
def SvcIt(y:It):Prop:=(y.kind=3/\y.proto=0/\y.ports.lo=0/\y.ports.hi=0)\/(y.proto=6\/y.proto=17)\/(y.proto=1/\y.ports.lo=8/\y.ports.hi=8)\/(y.proto=50/\y.ports.lo=0/\y.ports.hi=0)
structure GNt (i:Nt):Prop where
 few:Few i
 s2:i.svcs.length<=2
 sv:∀d,d∈i.svcs->∀y,y∈d.items->SvcIt y
section
variable {I:List (Int×Rg)} {X:List Bx}
theorem vals(p:Nat->Int)(e:Int):setF p 2 e 2=e/\setF p 2 e 3=p 3/\setF p 2 e 4=p 4:=⟨rfl,rfl,rfl⟩
end
end Go.Proofs.YtahhamfngafmcaaGreatDoor
