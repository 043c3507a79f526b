/- Lemmas. -/
import Derived.Test.YtnomkooikbhgmaaGreatDoorProg
import Derived.Test.YtnomkooikbhgmaaGreatDoorK22
set_option linter.unusedVariables false
set_option linter.unusedSimpArgs false
set_option maxRecDepth 100000
set_option maxHeartbeats 4000000
noncomputable section
namespace Go.Proofs.YtnomkooikbhgmaaGreatDoor
open Go Go.Vm
theorem Weak.agg{xs ys:List AV}(h:WeakL xs ys):Weak (.agg xs) (.agg ys):=fun E w ι v hv=>by
 cases hv with
 |agg _ c hs hh=>
  have:=WeakL.rel h (show RL E w ι xs c from⟨hs,hh⟩);exact .agg _ c this.1 this.2
theorem WeakL.refl:∀{xs:List AV},WeakL xs xs
 |[]=>trivial
 |_::_=>⟨Weak.refl,WeakL.refl⟩
abbrev G3(l:List Df)(a b nd ni:Nat):Vm.Obj:=.box [.lst (l.map iG),.os a 1 0 nd,.os b 7 0 ni]
abbrev aDt(path:List Nat)(n:Nat):AV:=.lst ([]++path.map vN++[.v (.int .i64 (n:Int))])
structure Few (i:Nt):Prop where
 sml:Sml i
 g3:i.grps.length<=3
 s3:i.svcs.length<=3
 gi:∀d,d∈i.grps->d.items.length<=2
 si:∀d,d∈i.svcs->d.items.length<=2
def tp0:Tp:=⟨[],[],[],[],0⟩
theorem Z4(b:List Rg):kZ [] b=[]:=rfl
theorem Xn(a:List Rg)(r:Rg)(b:List Rg):kZ (a++[r]) b=kZ a b++b.map fun s=>rL r s:=by simp[kZ]
theorem Ie(b:List Rg):∀a:List Rg,(kZ a b).length=a.length*b.length
 |[]=>by simp[kZ]
 |r::a=>by
  have:=Ie b a;simp only[kZ,dD,aD,aA,aB,fX]at*;omega
abbrev aPZ(x:Sm):List AV:=[.sb x.permit,.v (.string x.frm),.v (.string x.to),.v (.string x.svc),.sb x.exc,.v (.string x.exF),.v (.string x.exT),.v (.string x.cls),.v (.string x.dur),.v (.int .i64 x.pri)]
def aLV:Ctx:={N:=34,np:=1,own:=oz [11,47]}
abbrev aGM:=ofD aLV Tryz.func68
end Go.Proofs.YtnomkooikbhgmaaGreatDoor
