/- Lemmas. -/
import Derived.Test.YtnomkooikbhgmaaGreatDoorProg
import Derived.Test.YtnomkooikbhgmaaGreatDoorK23
set_option linter.unusedVariables false
set_option linter.unusedSimpArgs false
set_option maxRecDepth 100000
set_option maxHeartbeats 4000000
noncomputable section
namespace Go.Proofs.YtnomkooikbhgmaaGreatDoor
open Go Go.Vm
theorem kT{e:Int}{K:Int->Prop}(h:∀r,K r):Wr .i64 e K:=xN h
theorem Re{xs:List AV}{i:Nat}{K:AV->Prop}(L:List Int)(n:Nat)(lo hi:Int)(h:xs=L.map fun c=>.v (.int .i64 c))(hn:L.length=n)(hb:(L.all fun c=>decide (lo<=c)&&decide (c<=hi))=true)(hi':i<n)(hk:∀c,lo<=c->c<=hi->K (.v (.int .i64 c))):Ix xs i K:=
 rP L n h hn hi' fun c hc=>by
  have:=bP.1 hb c hc;simp only[aJ,aM]at this;exact hk c this.1 this.2
theorem aEf{α:Type}{f:α->AV}(l:List α):∀y,y∈l.map f->∃a,y=f a:=fun y hy=>by
 obtain⟨a,_,rfl⟩:=bU.1 hy;exact⟨a,rfl⟩
theorem nY{Q:AV->Prop}{l:List AV}{x:AV}(h:∀y,y∈l->Q y)(hx:Q x):∀y,y∈l++[x]->Q y:=fun y hy=>by
 rcases aY.1 hy with h1|h1
 ·exact h y h1
 ·rw[aW.1 h1];exact hx
theorem nZ{Q:AV->Prop}{l:List AV}{i:Nat}{x:AV}(h:∀y,y∈l->Q y)(hx:Q x):∀y,y∈l.set i x->Q y:=fun y hy=>by
 rcases List.mem_or_eq_of_mem_set hy with h1|h1
 ·exact h y h1
 ·rw[h1];exact hx
theorem nF{Q:AV->Prop}{l:List AV}{i:Nat}(h:∀y,y∈l->Q y):∀y,y∈l.drop i->Q y:=fun y hy=>h y (eB hy)
theorem nG{Q:AV->Prop}{l:List AV}{i:Nat}(h:∀y,y∈l->Q y):∀y,y∈l.take i->Q y:=fun y hy=>h y (cL hy)
abbrev Mm(x:Sm):Vm.Obj:=.box (aPZ x)
def sm0:Sm:=⟨false,⟨#[]⟩,⟨#[]⟩,⟨#[]⟩,false,⟨#[]⟩,⟨#[]⟩,⟨#[]⟩,⟨#[]⟩,0⟩
abbrev vU:Vm.Obj:=.box [.nils,.nils,.nils,.nils,.nils,.nils]
abbrev Wm(x:It):Vm.Obj:=.box [.v (.int .i64 x.kind),.v (.string x.name),.v (.int .u32 x.pf.addr),.v (.int .i64 x.pf.bits),.v (.int .i64 x.proto),.v (.int .u32 x.ports.lo),.v (.int .u32 x.ports.hi)]
def Pu(y:It):Prop:=(y.kind=3/\y.proto=0/\y.ports.lo=0/\y.ports.hi=0)\/(y.proto=6\/y.proto=17)\/(y.proto=1/\y.ports.lo=8/\y.ports.hi=8)\/(y.proto=50/\y.ports.lo=0/\y.ports.hi=0)
structure GNt (i:Nt):Prop where
 few:Few i
 s2:i.svcs.length<=2
 sv:∀d,d∈i.svcs->∀y,y∈d.items->Pu y
def aRO:Ctx:={N:=13}
abbrev aOa:=ofD aRO Tryz.func298
def aLQ:Ctx:={N:=11}
abbrev aGH:=ofD aLQ Tryz.func262
def aLP:Ctx:={N:=69,plan:=p1 15 (lp 8 [21,23,25,27,29,31,33,16,19,34,37,38,40,43]) pn,hints:=h1 6 [.virt 3 1] hn,cut:=oz [9,15]}
abbrev aGG:=ofD aLP Tryz.func198
def aRG:Ctx:={N:=9}
abbrev aNS:=ofD aRG Tryz.func201
def aRJ:Ctx:={N:=35}
abbrev aNV:=ofD aRJ Tryz.func259
def aLJ:Ctx:={N:=78}
abbrev aGA:=ofD aLJ Tryz.func197
def aLI:Ctx:={N:=8}
abbrev aGz:=ofD aLI Tryz.func196
def aFo:Ctx:={N:=8}
abbrev aCq:=ofD aFo Tryz.func258
def aLH:Ctx:={N:=56,cut:=oz [6]}
abbrev aGy:=ofD aLH Tryz.func122
def aRL:Ctx:={N:=8}
abbrev aNX:=ofD aRL Tryz.func124
def aLM:Ctx:={N:=8}
abbrev aGD:=ofD aLM Tryz.func199
def aRI:Ctx:={N:=19}
abbrev aNU:=ofD aRI Tryz.func129
def aRM:Ctx:={N:=18}
abbrev aNY:=ofD aRM Tryz.func123
def aUo:Ctx:={N:=62}
abbrev aTt:=ofD aUo Tryz.func128
def aLK:Ctx:={N:=9}
abbrev aGB:=ofD aLK Tryz.func125
def aLL:Ctx:={N:=6}
abbrev aGC:=ofD aLL Tryz.func127
def aRH:Ctx:={N:=19}
abbrev aNT:=ofD aRH Tryz.func200
def aRF:Ctx:={N:=9}
abbrev aNR:=ofD aRF Tryz.func126
def aRK:Ctx:={N:=157,cut:=oz [3]}
abbrev aNW:=ofD aRK Tryz.func58
open Classical in
def uR(f:Int->Bool):List Rg:=if h:∃l,jC l/\∀v,has l v=f v then h.choose else []
theorem uS{f:Int->Bool}{l:List Rg}(hc:jC l)(hf:∀v,has l v=f v):uR f=l:=by
 have h:∃l,jC l/\∀v,has l v=f v:=⟨l,hc,hf⟩
 rw[uR,dif_pos h];obtain⟨h1,h2⟩:=h.choose_spec;exact K4 h1 hc fun v=>by rw[h2,hf]
theorem Fa{f:Int->Bool}(h:∃l,jC l/\∀v,has l v=f v):jC (uR f)/\∀v,has (uR f) v=f v:=by
 obtain⟨l,h1,h2⟩:=h;rw[uS h1 h2];exact⟨h1,h2⟩
theorem Pk(a b:List Rg):∃l,jC l/\∀v,has l v=(has a v&& !has b v):=by
 have inv:=nT (a++b) (top:=4294967295) zd;obtain⟨r0,hr0⟩:=inv.zero;have hseg:∀s,s∈lQ 4294967295 (jH (a++b) 4294967295)->∀v,s.1<=v->v<=s.2->(fun v=>has a v&& !has b v) v=(fun v=>has a v&& !has b v) s.1:=by
  intro s hs v h1 h2;simp only;rw[xZ zd (fun r hr=>aY.2 (.inl hr)) hs h1 h2,xZ zd (fun r hr=>aY.2 (.inr hr)) hs h1 h2]
 have hsort:=inv.sorted;have hrange:=inv.range;rw[hr0]at hseg hsort hrange;have hk:=I5 (f:=fun v=>has a v&& !has b v) (top:=4294967295) zd r0 0 [] ⟨⟨fun r hr=>by simp at hr,by simp⟩,fun v=>by
  rw[bK];simp only[has,List.any_nil,bT,aJ,aM,false_iff];omega,fun r hr=>by simp at hr⟩ hsort hrange hseg
 refine⟨_,hk.canon,fun v=>?_⟩;rw[hk.mem];cases h:(has a v&& !has b v)with
 |false=>simp
 |true=>
  simp only[aJ]at h;obtain⟨r,hr,h1,h2⟩:=has_iff.1 h.1;have:=r.l0;have:=r.h1;simp only[eY,aJ,aM];omega
def Hb(l:List Df):Nat:=(l.map fun d=>d.items.length).sum
theorem K5{c rs:List Rg}(hc:jC c)(h:∀v,has c v=has rs v):c.length<=rs.length:=by
 have hn:(c.map fun r=>r.lo).Nodup:=by
  unfold List.Nodup;rw[gF];refine List.Pairwise.imp_of_mem ?_ hc.2;intro a b ha _ hab e;have:=hc.1 a ha;omega
 have:=qI hn (m:=rs.map fun r=>r.lo) fun x hx=>by
  obtain⟨r,hr,rfl⟩:=bU.1 hx;have hle:=hc.1 r hr;have h1:has rs r.lo=true:=by rw[<-h];exact has_iff.2 ⟨r,hr,cC _,hle⟩
  obtain⟨s,hs,s1,s2⟩:=has_iff.1 h1;refine bU.2 ⟨s,hs,?_⟩;rcases dW s.lo r.lo with hlt|hge
  ·exfalso;have h2:has c (r.lo-1)=true:=by rw[h];exact has_iff.2 ⟨s,hs,by omega,by omega⟩
   obtain⟨q,hq,q1,q2⟩:=has_iff.1 h2;obtain⟨i,hi,rfl⟩:=fG.1 hr;obtain⟨j,hj,rfl⟩:=fG.1 hq;have hp:=cJ.1 hc.2;rcases Nat.lt_trichotomy i j with hij|hij|hij
   ·have:=hp i j hi hj hij;omega
   ·subst hij;omega
   ·have:=hp j i hj hi hij;omega
  ·omega
 simpa using this
theorem Dl(rs:List Rg):(uR (has rs)).length<=rs.length:=by
 obtain⟨c,hc,hh⟩:=Pk rs [];have hh':∀v,has c v=has rs v:=fun v=>by rw[hh,oS];simp
 rw[uS hc hh'];exact K5 hc hh'
theorem Qa(rs:List Rg):jC (uR (has rs))/\∀v,has (uR (has rs)) v=has rs v:=by
 obtain⟨c,hc,hh⟩:=Pk rs [];exact Fa ⟨c,hc,fun v=>by rw[hh,oS];simp⟩
def prB(p:Int)(r:Rg):Bool:=if p=6\/p=17 then decide (r.lo<=r.hi/\r.hi<=65535)else if p=1 then decide (r.lo=8/\r.hi=8)else decide (0<=p/\p<=255/\r.lo=0/\r.hi=0)
def itN(x:It):Bool:=decide (x.pf.addr=0/\x.pf.bits=0/\x.proto=0/\x.ports.lo=0/\x.ports.hi=0)
def itP(x:It):Bool:=sEq x.name ⟨#[]⟩&&decide (x.proto=0/\x.ports.lo=0/\x.ports.hi=0)
def itS(x:It):Bool:=sEq x.name ⟨#[]⟩&&decide (x.pf.addr=0/\x.pf.bits=0)
def itB(x:It)(g:Bool):Bool:=
 if x.kind=3 then kW x.name&&itN x
 else if x.kind=1 then g&&(kW x.name&&itN x)
 else if x.kind=2 then g&&(decide x.pf.okP&&itP x)
 else if x.kind=4 then !g&&(prB x.proto x.ports&&itS x)else false
def Fh(l:List Df)(s:ByteArray):Int:=jJ (fun d=>sEq d.name s) l
structure DfOk (l:List Df) (g:Bool) (i:Nat) (d:Df):Prop where
 name:kW d.name=true
 first:Fh l d.name=i
 lo:1<=d.items.length
 hi:d.items.length<=16
 all:∀x,x∈d.items->itB x g=true
structure DfsOk (l:List Df) (g:Bool):Prop where
 len:l.length<=32
 all:∀(i:Nat) d,l[i]? =some d->DfOk l g i d
def wI(l:List Rg)(d:Nat):List Rg:=uR fun v=>has l v&&(decide (1440*(d:Int)<=v)&&decide (v<=1440*(d:Int)+1439))
def uT(l:List Rg)(k:Nat):Nat:=((List.range k).map fun d=>(wI l d).length).sum
theorem K8(l:List Rg)(k:Nat):uT l (k+1)=uT l k+(wI l k).length:=by
 rw[uT,fH,aQ,List.sum_append,<-uT];simp
structure WinOk (l:List Rg):Prop where
 can:jC l
 top:∀r,r∈l->r.hi<=10079
 few:uT l 7<=16
def E6(l:List Wn)(s:ByteArray):Int:=jJ (fun d=>sEq d.name s) l
structure WnOk (l:List Wn) (i:Nat) (w:Wn):Prop where
 name:kW w.name=true
 first:E6 l w.name=i
 act:WinOk w.act
def oH(s:ByteArray):Bool:=sEq s ⟨#[]⟩||kW s
def smB(x:Sm):Bool:=
 (oH x.frm&&(oH x.to&&(oH x.svc&&(oH x.cls&&(oH x.dur&&(oH x.exF&&oH x.exT))))))&&
 ((x.exc||(sEq x.exF ⟨#[]⟩&&sEq x.exT ⟨#[]⟩))&&((x.permit||sEq x.cls ⟨#[]⟩)&&(decide (0<=x.pri)&&decide (x.pri<=1000))))
def ptB(n:Int):Bool:=decide (0<=n)&&decide (n<=65535)
def pbB(x:Pb):Bool:=(decide (x.proto=6)||decide (x.proto=17))&&(ptB x.port&&(ptB x.rport&&kW x.edge))
def hnB(x:Hn):Bool:=kW x.grp&&(kW x.edge&&decide (1024<=x.ports.lo/\x.ports.lo<=x.ports.hi/\x.ports.hi<=65535))
structure NtOk (i:Nt):Prop where
 g:DfsOk i.grps true
 s:DfsOk i.svcs false
 wl:i.wins.length<=32
 tl:i.sts.length<=64
 pl:i.pubs.length<=16
 hl:i.hids.length<=8
 w:∀(k:Nat) x,i.wins[k]? =some x->WnOk i.wins k x
 t:∀x,x∈i.sts->smB x=true
 p:∀x,x∈i.pubs->pbB x=true
 h:∀x,x∈i.hids->hnB x=true
open Classical in
def zI(l:List Df)(g:Bool):Bool:=decide (DfsOk l g)
theorem dfsB_iff{l:List Df}{g:Bool}:zI l g=true↔DfsOk l g:=by simp[zI]
theorem uB{l:List Df}{g:Bool}(h:DfsOk l g):zI l g=true:=dfsB_iff.2 h
theorem zJ{l:List Df}{g:Bool}(h:¬DfsOk l g):zI l g=false:=by rw[cB,ne_eq,dfsB_iff];exact h
open Classical in
def Zl(l:List Rg):Bool:=decide (WinOk l)
theorem winB_iff{l:List Rg}:Zl l=true↔WinOk l:=by simp[Zl]
open Classical in
def ntB(i:Nt):Bool:=decide (NtOk i)
theorem ntB_iff{i:Nt}:ntB i=true↔NtOk i:=by simp[ntB]
theorem sO{i:Nt}(h:NtOk i):ntB i=true:=ntB_iff.2 h
theorem L3{i:Nt}(h:¬NtOk i):ntB i=false:=by rw[cB,ne_eq,ntB_iff];exact h
theorem N0{l out:List Rg}{d:Nat}(hc:jC out)(hh:∀v,has out v=(has l v&&(decide (1440*(d:Int)<=v)&&decide (v<=1440*(d:Int)+1439)))):wI l d=out:=uS hc hh
theorem Ua{α:Type}{f:α->Nat}{l:List α}{x:α}(h:x∈l):f x<=(l.map f).sum:=by
 induction l with
 |nil=>simp at h
 |cons e l ih=>
  simp only[aR,dC];rcases aV.1 h with h|h
  ·subst h;omega
  ·have:=ih h;omega
def aPH(p:Nat->Int)(f:Nat)(v:Int):Nat->Int:=fun g=>if g=f then v else p g
end Go.Proofs.YtnomkooikbhgmaaGreatDoor
