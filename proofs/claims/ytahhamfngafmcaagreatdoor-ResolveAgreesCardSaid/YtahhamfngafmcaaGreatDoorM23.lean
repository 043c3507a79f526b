/- The sanity check of placement. -/
import Derived.Test.YtahhamfngafmcaaGreatDoorProg
import Derived.Test.YtahhamfngafmcaaGreatDoorM22
set_option linter.unusedVariables false
set_option linter.unusedSimpArgs false
set_option maxRecDepth 100000
set_option maxHeartbeats 4000000
namespace Go.Proofs.YtahhamfngafmcaaGreatDoor
open Go Go.Vm
theorem Weak.agg{xs ys:List AV}(h:WeakL xs ys):Weak (.agg xs) (.agg ys):=fun E w ι v hv=>by
 cases hv with
 |agg _ c hs hh=>
  have:=WeakL.rel h (show RL E w ι xs c from⟨hs,hh⟩)
  exact .agg _ c this.1 this.2
theorem WeakL.refl:∀{xs:List AV},WeakL xs xs
 |[]=>trivial
 |_::_=>⟨Weak.refl,WeakL.refl⟩
noncomputable abbrev walkO(l:List Df)(a b nd ni:Nat):Vm.Obj:=.box [.lst (l.map encDf),.os a 1 0 nd,.os b 7 0 ni]
noncomputable abbrev pthV(path:List Nat)(n:Nat):AV:=.lst ([]++path.map vN++[.v (.int .i64 (n:Int))])
structure Few (i:Nt):Prop where
 sml:Sml i
 g3:i.grps.length<=3
 s3:i.svcs.length<=3
 gi:∀d,d∈i.grps->d.items.length<=2
 si:∀d,d∈i.svcs->d.items.length<=2
def tp0:Tp:=⟨[],[],[],[],0⟩
theorem btwB_nil(b:List Rg):btwB [] b=[]:=rfl
theorem btwB_snoc(a:List Rg)(r:Rg)(b:List Rg):btwB (a++[r]) b=btwB a b++b.map fun s=>btwX r s:=by simp[btwB]
theorem btwB_len(b:List Rg):∀a:List Rg,(btwB a b).length=a.length*b.length
 |[]=>by simp[btwB]
 |r::a=>by
  have:=btwB_len b a
  simp only[btwB,List.flatMap_cons,List.length_append,List.length_map,List.length_cons,Nat.succ_mul]at*
  omega
noncomputable abbrev celSm(x:Sm):List AV:=[.sb x.permit,.v (.string x.frm),.v (.string x.to),.v (.string x.svc),.sb x.exc,.v (.string x.exF),.v (.string x.exT),.v (.string x.cls),.v (.string x.dur),.v (.int .i64 x.pri)]
noncomputable def gnSpP:Ctx:={N:=36,np:=1,own:=at1 12 (true) (fun _=>false),plan:=at1 2 (some (.one 0 true (.one 2 true (.wch 1 (ln [6,9,11,13,15,16]))))) (fun _=>none)}
noncomputable def bnSpP:Code:=bdy Tryz.f106
abbrev ofnSpP:=@ofC Tryz.prog gnSpP 106 Tryz.f106 bnSpP Tryz.func106 zk zk zk zk
noncomputable def gnPref:Ctx:={N:=34,np:=1,own:=at1 12 (true) (at1 14 (true) (fun _=>false))}
noncomputable def bnPref:Code:=bdy Tryz.f21
abbrev ofnPref:=@ofC Tryz.prog gnPref 21 Tryz.f21 bnPref Tryz.func21 zk zk zk zk
noncomputable def gnSpT:Ctx:={N:=206,np:=1,own:=at1 12 (true) (at1 106 (true) (at1 21 (true) (at1 105 (true) (fun _=>false)))),plan:=at1 6 (some (.one 0 true (.one 3 true (.one 7 true (.wch 1 (.alt 2 (.one 4 false (.one 5 true (.wch 6 (ln [16,19,21,22,24,27,28])))) (.alt 4 (.alt 2 (.one 5 true (.wch 6 (ln [16,19,21,22,24,27,28]))) (.alt 8 (ln [19,4,11,13,21,22,24,27,28]) (.stop))) (.stop)))))))) (at1 9 (some (.one 0 true (.one 3 true (.wch 1 (.alt 2 (ln [8,11,13,15,17,18]) (.alt 4 (ln [4,11,13,15,17,18]) (.stop))))))) (at1 11 (some (.one 0 true (.one 2 true (.one 5 true (.one 7 true (.wch 1 (ln [6,9,12,16,19,20,22,25,26]))))))) (at1 14 (some (.one 0 true (.one 3 true (.wch 1 (.alt 2 (ln [8,11,13,15,17,18]) (.alt 4 (ln [4,11,13,15,17,18]) (.stop))))))) (at1 17 (some (.one 0 true (.one 2 true (.wch 1 (ln [6,9,11,13,14]))))) (at1 20 (some (.one 0 true (.one 2 true (.one 6 true (.one 7 true (.one 8 true (.one 9 true (.one 10 true (.one 11 true (.one 12 true (.one 13 true (.one 14 true (.one 15 true (.wch 1 (.wch 3 (ln [9,11,32,35,37,38])))))))))))))))) (at1 23 (some (ln [1,3,5,7,9,11,13,15,17,19,20])) (at1 26 (some (ln [1,3,5,7,9,11,12,14,17,18])) (at1 29 (some (.one 0 true (.one 3 true (.wch 1 (.alt 2 (ln [8,11,13,15,17,18]) (.alt 4 (ln [4,11,13,15,17,18]) (.stop))))))) (at1 31 (some (.one 0 true (.one 2 true (.wch 1 (ln [6,8,10,13,14]))))) (at1 39 (some (.one 0 true (.one 3 true (.wch 1 (.alt 2 (ln [8,11,13,15,17,18]) (.alt 4 (ln [4,11,13,15,17,18]) (.stop))))))) (fun _=>none)))))))))))}
noncomputable def bnSpT:Code:=bdy Tryz.f58
abbrev ofnSpT:=@ofC Tryz.prog gnSpT 58 Tryz.f58 bnSpT Tryz.func58 zk zk zk zk
end Go.Proofs.YtahhamfngafmcaaGreatDoor
