/- The sanity check of placement. -/
import Derived.Test.YtbdikofefjljoaaGreatDoorProg
import Derived.Test.YtbdikofefjljoaaGreatDoorK24
set_option linter.unusedVariables false
set_option linter.unusedSimpArgs false
set_option maxRecDepth 100000
set_option maxHeartbeats 4000000
namespace Go.Proofs.YtbdikofefjljoaaGreatDoor
open Go Go.Vm
theorem Weak.agg{xs ys:List AV}(h:WeakL xs ys):Weak (.agg xs) (.agg ys):=fun E w ι v hv=>by
 cases hv with
 |agg _ c hs hh=>
  have:=WeakL.rel h (show RL E w ι xs c from⟨hs,hh⟩)
  exact .agg _ c this.1 this.2
theorem WeakL.refl:∀{xs:List AV},WeakL xs xs
 |[]=>trivial
 |_::_=>⟨Weak.refl,WeakL.refl⟩
structure Few (i:Nt):Prop where
 sml:Sml i
 g3:i.grps.length<=3
 s3:i.svcs.length<=3
 gi:∀d,d∈i.grps->d.items.length<=2
 si:∀d,d∈i.svcs->d.items.length<=2
noncomputable abbrev celSm(x:Sm):List AV:=[.sb x.permit,.v (.string x.frm),.v (.string x.to),.v (.string x.svc),.sb x.exc,.v (.string x.exF),.v (.string x.exT),.v (.string x.cls),.v (.string x.dur),.v (.int .i64 x.pri)]
noncomputable def gnPref:Ctx:={N:=34,np:=1,own:=at1 16 (true) (at1 64 (true) (fun _=>false))}
noncomputable def bnPref:Code:=bdy Tryz.f90
abbrev ofnPref:=@ofC Tryz.prog gnPref 90 Tryz.f90 bnPref Tryz.func90 zk zk zk zk
end Go.Proofs.YtbdikofefjljoaaGreatDoor
