/- Lemmas. -/
import Derived.Test.YtnomkooikbhgmaaGreatDoorProg
import Derived.Test.YtnomkooikbhgmaaGreatDoorM23
set_option linter.unusedVariables false
set_option linter.unusedSimpArgs false
set_option maxRecDepth 100000
set_option maxHeartbeats 4000000
noncomputable section
namespace Go.Proofs.YtnomkooikbhgmaaGreatDoor
open Go Go.Vm
theorem wr_i64_any{e:Int}{K:Int->Prop}(h:∀r,K r):Wr .i64 e K:=wr_any h
theorem ix_intsB{xs:List AV}{i:Nat}{K:AV->Prop}(L:List Int)(n:Nat)(lo hi:Int)(h:xs=L.map fun c=>.v (.int .i64 c))(hn:L.length=n)(hb:(L.all fun c=>decide (lo<=c)&&decide (c<=hi))=true)(hi':i<n)(hk:∀c,lo<=c->c<=hi->K (.v (.int .i64 c))):Ix xs i K:=
 ix_ints L n h hn hi' fun c hc=>by
  have:=bR.1 hb c hc;simp only[aJ,aL]at this;exact hk c this.1 this.2
theorem all_map{α:Type}{f:α->AV}(l:List α):∀y,y∈l.map f->∃a,y=f a:=fun y hy=>by
 obtain⟨a,_,rfl⟩:=cD.1 hy;exact⟨a,rfl⟩
theorem all_app{Q:AV->Prop}{l:List AV}{x:AV}(h:∀y,y∈l->Q y)(hx:Q x):∀y,y∈l++[x]->Q y:=fun y hy=>by
 rcases aX.1 hy with h1|h1
 ·exact h y h1
 ·rw[aV.1 h1];exact hx
theorem all_set{Q:AV->Prop}{l:List AV}{i:Nat}{x:AV}(h:∀y,y∈l->Q y)(hx:Q x):∀y,y∈l.set i x->Q y:=fun y hy=>by
 rcases List.mem_or_eq_of_mem_set hy with h1|h1
 ·exact h y h1
 ·rw[h1];exact hx
theorem all_drop{Q:AV->Prop}{l:List AV}{i:Nat}(h:∀y,y∈l->Q y):∀y,y∈l.drop i->Q y:=fun y hy=>h y (dP hy)
theorem all_take{Q:AV->Prop}{l:List AV}{i:Nat}(h:∀y,y∈l->Q y):∀y,y∈l.take i->Q y:=fun y hy=>h y (cA hy)
abbrev smBox(x:Sm):Vm.Obj:=.box (celSm x)
def sm0:Sm:=⟨false,⟨#[]⟩,⟨#[]⟩,⟨#[]⟩,false,⟨#[]⟩,⟨#[]⟩,⟨#[]⟩,⟨#[]⟩,0⟩
abbrev nilNt:Vm.Obj:=.box [.nils,.nils,.nils,.nils,.nils,.nils]
abbrev itBox(x:It):Vm.Obj:=.box [.v (.int .i64 x.kind),.v (.string x.name),.v (.int .u32 x.pf.addr),.v (.int .i64 x.pf.bits),.v (.int .i64 x.proto),.v (.int .u32 x.ports.lo),.v (.int .u32 x.ports.hi)]
def SvcIt(y:It):Prop:=(y.kind=3/\y.proto=0/\y.ports.lo=0/\y.ports.hi=0)\/(y.proto=6\/y.proto=17)\/(y.proto=1/\y.ports.lo=8/\y.ports.hi=8)\/(y.proto=50/\y.ports.lo=0/\y.ports.hi=0)
structure GNt (i:Nt):Prop where
 few:Few i
 s2:i.svcs.length<=2
 sv:∀d,d∈i.svcs->∀y,y∈d.items->SvcIt y
def gkDig:Ctx:={N:=13}
abbrev ofkDig:=ofD gkDig Tryz.func298
def gkTime:Ctx:={N:=11}
abbrev ofkTime:=ofD gkTime Tryz.func262
def gkForm:Ctx:={N:=69,plan:=p1 15 (lp 8 [21,23,25,27,29,31,33,16,19,34,37,38,40,43]) pn,hints:=h1 6 [.virt 3 1] hn,cut:=oz [9,15]}
abbrev ofkForm:=ofD gkForm Tryz.func198
def giEmp:Ctx:={N:=9}
abbrev ofiEmp:=ofD giEmp Tryz.func201
def giPrt:Ctx:={N:=35}
abbrev ofiPrt:=ofD giPrt Tryz.func259
def giItem:Ctx:={N:=78}
abbrev ofiItem:=ofD giItem Tryz.func197
def giFind:Ctx:={N:=8}
abbrev ofiFind:=ofD giFind Tryz.func196
def giFind1:Ctx:={N:=8}
abbrev ofiFind1:=ofD giFind1 Tryz.func258
def giDefs:Ctx:={N:=56,cut:=oz [6]}
abbrev ofiDefs:=ofD giDefs Tryz.func122
def giWnd:Ctx:={N:=8}
abbrev ofiWnd:=ofD giWnd Tryz.func124
def giWnd1:Ctx:={N:=8}
abbrev ofiWnd1:=ofD giWnd1 Tryz.func199
def giIxW:Ctx:={N:=19}
abbrev ofiIxW:=ofD giIxW Tryz.func129
def giWri:Ctx:={N:=18}
abbrev ofiWri:=ofD giWri Tryz.func123
def giSm:Ctx:={N:=62}
abbrev ofiSm:=ofD giSm Tryz.func128
def giVal1:Ctx:={N:=9}
abbrev ofiVal1:=ofD giVal1 Tryz.func125
def giVal2:Ctx:={N:=6}
abbrev ofiVal2:=ofD giVal2 Tryz.func127
def giIxS:Ctx:={N:=19}
abbrev ofiIxS:=ofD giIxS Tryz.func200
def giAnS:Ctx:={N:=9}
abbrev ofiAnS:=ofD giAnS Tryz.func126
def giVal:Ctx:={N:=157,cut:=oz [3]}
abbrev ofiVal:=ofD giVal Tryz.func58
open Classical in
def canO(f:Int->Bool):List Rg:=if h:∃l,Canon l/\∀v,has l v=f v then h.choose else []
theorem canO_eq{f:Int->Bool}{l:List Rg}(hc:Canon l)(hf:∀v,has l v=f v):canO f=l:=by
 have h:∃l,Canon l/\∀v,has l v=f v:=⟨l,hc,hf⟩
 rw[canO,dif_pos h];obtain⟨h1,h2⟩:=h.choose_spec;exact canon_ext h1 hc fun v=>by rw[h2,hf]
theorem canO_spec{f:Int->Bool}(h:∃l,Canon l/\∀v,has l v=f v):Canon (canO f)/\∀v,has (canO f) v=f v:=by
 obtain⟨l,h1,h2⟩:=h;rw[canO_eq h1 h2];exact⟨h1,h2⟩
theorem sub_ex(a b:List Rg):∃l,Canon l/\∀v,has l v=(has a v&& !has b v):=by
 have inv:=starts_inv (a++b) (top:=4294967295) zd;obtain⟨r0,hr0⟩:=inv.zero;have hseg:∀s,s∈segs 4294967295 (starts (a++b) 4294967295)->∀v,s.1<=v->v<=s.2->(fun v=>has a v&& !has b v) v=(fun v=>has a v&& !has b v) s.1:=by
  intro s hs v h1 h2;simp only;rw[has_const zd (fun r hr=>aX.2 (.inl hr)) hs h1 h2,has_const zd (fun r hr=>aX.2 (.inr hr)) hs h1 h2]
 have hsort:=inv.sorted;have hrange:=inv.range;rw[hr0]at hseg hsort hrange;have hk:=fold_inv (f:=fun v=>has a v&& !has b v) (top:=4294967295) zd r0 0 [] ⟨⟨fun r hr=>by simp at hr,by simp⟩,fun v=>by
  rw[bJ];simp only[has,List.any_nil,cM,aJ,aL,false_iff];omega,fun r hr=>by simp at hr⟩ hsort hrange hseg
 refine⟨_,hk.canon,fun v=>?_⟩;rw[hk.mem];cases h:(has a v&& !has b v)with
 |false=>simp
 |true=>
  simp only[aJ]at h;obtain⟨r,hr,h1,h2⟩:=has_iff.1 h.1;have:=r.l0;have:=r.h1;simp only[eW,aJ,aL];omega
def itsN(l:List Df):Nat:=(l.map fun d=>d.items.length).sum
theorem canon_len{c rs:List Rg}(hc:Canon c)(h:∀v,has c v=has rs v):c.length<=rs.length:=by
 have hn:(c.map fun r=>r.lo).Nodup:=by
  unfold List.Nodup;rw[fN];refine List.Pairwise.imp_of_mem ?_ hc.2;intro a b ha _ hab e;have:=hc.1 a ha;omega
 have:=nodup_sub hn (m:=rs.map fun r=>r.lo) fun x hx=>by
  obtain⟨r,hr,rfl⟩:=cD.1 hx;have hle:=hc.1 r hr;have h1:has rs r.lo=true:=by rw[<-h];exact has_iff.2 ⟨r,hr,cI _,hle⟩
  obtain⟨s,hs,s1,s2⟩:=has_iff.1 h1;refine cD.2 ⟨s,hs,?_⟩;rcases eM s.lo r.lo with hlt|hge
  ·exfalso;have h2:has c (r.lo-1)=true:=by rw[h];exact has_iff.2 ⟨s,hs,by omega,by omega⟩
   obtain⟨q,hq,q1,q2⟩:=has_iff.1 h2;obtain⟨i,hi,rfl⟩:=List.mem_iff_getElem.1 hr;obtain⟨j,hj,rfl⟩:=List.mem_iff_getElem.1 hq;have hp:=cV.1 hc.2;rcases Nat.lt_trichotomy i j with hij|hij|hij
   ·have:=hp i j hi hj hij;omega
   ·subst hij;omega
   ·have:=hp j i hj hi hij;omega
  ·omega
 simpa using this
theorem canO_len(rs:List Rg):(canO (has rs)).length<=rs.length:=by
 obtain⟨c,hc,hh⟩:=sub_ex rs [];have hh':∀v,has c v=has rs v:=fun v=>by rw[hh,has_nil];simp
 rw[canO_eq hc hh'];exact canon_len hc hh'
def prB(p:Int)(r:Rg):Bool:=if p=6\/p=17 then decide (r.lo<=r.hi/\r.hi<=65535)else if p=1 then decide (r.lo=8/\r.hi=8)else decide (0<=p/\p<=255/\r.lo=0/\r.hi=0)
def itN(x:It):Bool:=decide (x.pf.addr=0/\x.pf.bits=0/\x.proto=0/\x.ports.lo=0/\x.ports.hi=0)
def itP(x:It):Bool:=sEq x.name ⟨#[]⟩&&decide (x.proto=0/\x.ports.lo=0/\x.ports.hi=0)
def itS(x:It):Bool:=sEq x.name ⟨#[]⟩&&decide (x.pf.addr=0/\x.pf.bits=0)
def itB(x:It)(g:Bool):Bool:=
 if x.kind=3 then nameB x.name&&itN x
 else if x.kind=1 then g&&(nameB x.name&&itN x)
 else if x.kind=2 then g&&(decide x.pf.okP&&itP x)
 else if x.kind=4 then !g&&(prB x.proto x.ports&&itS x)else false
def dfIx(l:List Df)(s:ByteArray):Int:=firstIx (fun d=>sEq d.name s) l
structure DfOk (l:List Df) (g:Bool) (i:Nat) (d:Df):Prop where
 name:nameB d.name=true
 first:dfIx l d.name=i
 lo:1<=d.items.length
 hi:d.items.length<=16
 all:∀x,x∈d.items->itB x g=true
structure DfsOk (l:List Df) (g:Bool):Prop where
 len:l.length<=32
 all:∀(i:Nat) d,l[i]? =some d->DfOk l g i d
def dayW(l:List Rg)(d:Nat):List Rg:=canO fun v=>has l v&&(decide (1440*(d:Int)<=v)&&decide (v<=1440*(d:Int)+1439))
def cntW(l:List Rg)(k:Nat):Nat:=((List.range k).map fun d=>(dayW l d).length).sum
theorem cntW_succ(l:List Rg)(k:Nat):cntW l (k+1)=cntW l k+(dayW l k).length:=by
 rw[cntW,fK,aQ,List.sum_append,<-cntW];simp
structure WinOk (l:List Rg):Prop where
 can:Canon l
 top:∀r,r∈l->r.hi<=10079
 few:cntW l 7<=16
def wnIx(l:List Wn)(s:ByteArray):Int:=firstIx (fun d=>sEq d.name s) l
structure WnOk (l:List Wn) (i:Nat) (w:Wn):Prop where
 name:nameB w.name=true
 first:wnIx l w.name=i
 act:WinOk w.act
def optB(s:ByteArray):Bool:=sEq s ⟨#[]⟩||nameB s
def smB(x:Sm):Bool:=
 (optB x.frm&&(optB x.to&&(optB x.svc&&(optB x.cls&&(optB x.dur&&(optB x.exF&&optB x.exT))))))&&
 ((x.exc||(sEq x.exF ⟨#[]⟩&&sEq x.exT ⟨#[]⟩))&&((x.permit||sEq x.cls ⟨#[]⟩)&&(decide (0<=x.pri)&&decide (x.pri<=1000))))
def ptB(n:Int):Bool:=decide (0<=n)&&decide (n<=65535)
def pbB(x:Pb):Bool:=(decide (x.proto=6)||decide (x.proto=17))&&(ptB x.port&&(ptB x.rport&&nameB x.edge))
def hnB(x:Hn):Bool:=nameB x.grp&&(nameB x.edge&&decide (1024<=x.ports.lo/\x.ports.lo<=x.ports.hi/\x.ports.hi<=65535))
structure NtOk (i:Nt):Prop where
 g:DfsOk i.grps true
 s:DfsOk i.svcs false
 wl:i.wins.length<=32
 tl:i.sts.length<=64
 pl:i.pubs.length<=16
 hl:i.hids.length<=8
 w:∀(k:Nat) x,i.wins[k]? =some x->WnOk i.wins k x
 t:∀x,x∈i.sts->smB x=true
 p:∀x,x∈i.pubs->pbB x=true
 h:∀x,x∈i.hids->hnB x=true
open Classical in
def dfsB(l:List Df)(g:Bool):Bool:=decide (DfsOk l g)
theorem dfsB_iff{l:List Df}{g:Bool}:dfsB l g=true↔DfsOk l g:=by simp[dfsB]
theorem dfsB_true{l:List Df}{g:Bool}(h:DfsOk l g):dfsB l g=true:=dfsB_iff.2 h
theorem dfsB_false{l:List Df}{g:Bool}(h:¬DfsOk l g):dfsB l g=false:=by rw[bV,ne_eq,dfsB_iff];exact h
open Classical in
def winB(l:List Rg):Bool:=decide (WinOk l)
theorem winB_iff{l:List Rg}:winB l=true↔WinOk l:=by simp[winB]
open Classical in
def ntB(i:Nt):Bool:=decide (NtOk i)
theorem ntB_iff{i:Nt}:ntB i=true↔NtOk i:=by simp[ntB]
theorem ntB_true{i:Nt}(h:NtOk i):ntB i=true:=ntB_iff.2 h
theorem ntB_false{i:Nt}(h:¬NtOk i):ntB i=false:=by rw[bV,ne_eq,ntB_iff];exact h
theorem dayW_eq{l out:List Rg}{d:Nat}(hc:Canon out)(hh:∀v,has out v=(has l v&&(decide (1440*(d:Int)<=v)&&decide (v<=1440*(d:Int)+1439)))):dayW l d=out:=canO_eq hc hh
theorem le_sum_nat{α:Type}{f:α->Nat}{l:List α}{x:α}(h:x∈l):f x<=(l.map f).sum:=by
 induction l with
 |nil=>simp at h
 |cons e l ih=>
  simp only[aR,dB];rcases aU.1 h with h|h
  ·subst h;omega
  ·have:=ih h;omega
def setF(p:Nat->Int)(f:Nat)(v:Int):Nat->Int:=fun g=>if g=f then v else p g
end Go.Proofs.YtnomkooikbhgmaaGreatDoor
