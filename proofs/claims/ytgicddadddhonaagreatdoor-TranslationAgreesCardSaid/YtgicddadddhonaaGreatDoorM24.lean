/- Lemmas. -/
import Derived.Test.YtgicddadddhonaaGreatDoorM23
set_option linter.unusedVariables false
set_option linter.unusedSimpArgs false
set_option maxRecDepth 100000
set_option maxHeartbeats 4000000
noncomputable section
namespace Go.Proofs.YtgicddadddhonaaGreatDoor
open Go Go.Vm
abbrev vG:Vm.Obj:=.box [.nils,.nils,.nils,.nils,.nils,.nils]
abbrev W3(x:It):Vm.Obj:=.box [.v (.int .i64 x.kind),.v (.string x.name),.v (.int .u32 x.pf.addr),.v (.int .i64 x.pf.bits),.v (.int .i64 x.proto),.v (.int .u32 x.ports.lo),.v (.int .u32 x.ports.hi)]
def Pz(y:It):Prop:=(y.kind=3/\y.proto=0/\y.ports.lo=0/\y.ports.hi=0)\/(y.proto=6\/y.proto=17)\/(y.proto=1/\y.ports.lo=8/\y.ports.hi=8)\/(y.proto=50/\y.ports.lo=0/\y.ports.hi=0)
structure GNt (i:Nt):Prop where
 few:Few i
 s2:i.svcs.length<=2
 sv:∀d,d∈i.svcs->∀y,y∈d.items->Pz y
open Classical in
def Ik(f:Int->Bool):List Rg:=if h:∃l,Canon l/\∀v,has l v=f v then h.choose else []
theorem Dd{f:Int->Bool}{l:List Rg}(hc:Canon l)(hf:∀v,has l v=f v):Ik f=l:=by
 have h:∃l,Canon l/\∀v,has l v=f v:=⟨l,hc,hf⟩
 rw[Ik,dif_pos h];obtain⟨h1,h2⟩:=h.choose_spec;exact Ll h1 hc fun v=>by rw[h2,hf]
theorem Lj{f:Int->Bool}(h:∃l,Canon l/\∀v,has l v=f v):Canon (Ik f)/\∀v,has (Ik f) v=f v:=by
 obtain⟨l,h1,h2⟩:=h;rw[Dd h1 h2];exact⟨h1,h2⟩
theorem Po(a b:List Rg):∃l,Canon l/\∀v,has l v=(has a v&& !has b v):=by
 have inv:=oC (a++b) (top:=4294967295) zd;obtain⟨r0,hr0⟩:=inv.zero;have hseg:∀s,s∈mC 4294967295 (starts (a++b) 4294967295)->∀v,s.1<=v->v<=s.2->(fun v=>has a v&& !has b v) v=(fun v=>has a v&& !has b v) s.1:=by
  intro s hs v h1 h2;simp only;rw[xQ zd (fun r hr=>aX.2 (.inl hr)) hs h1 h2,xQ zd (fun r hr=>aX.2 (.inr hr)) hs h1 h2]
 have hsort:=inv.sorted;have hrange:=inv.range;rw[hr0]at hseg hsort hrange;have hk:=I8 (f:=fun v=>has a v&& !has b v) (top:=4294967295) zd r0 0 [] ⟨⟨fun r hr=>by simp at hr,by simp⟩,fun v=>by
  rw[bK];simp only[has,List.any_nil,cK,aJ,aL,false_iff];omega,fun r hr=>by simp at hr⟩ hsort hrange hseg
 refine⟨_,hk.canon,fun v=>?_⟩;rw[hk.mem];cases h:(has a v&& !has b v)with
 |false=>simp
 |true=>
  simp only[aJ]at h;obtain⟨r,hr,h1,h2⟩:=has_iff.1 h.1;have:=r.l0;have:=r.h1;simp only[eK,aJ,aL];omega
def Hh(l:List Df):Nat:=(l.map fun d=>d.items.length).sum
theorem Lm{c rs:List Rg}(hc:Canon c)(h:∀v,has c v=has rs v):c.length<=rs.length:=by
 have hn:(c.map fun r=>r.lo).Nodup:=by
  unfold List.Nodup;rw[List.pairwise_map];refine List.Pairwise.imp_of_mem ?_ hc.2;intro a b ha _ hab e;have:=hc.1 a ha;omega
 have:=rZ hn (m:=rs.map fun r=>r.lo) fun x hx=>by
  obtain⟨r,hr,rfl⟩:=bQ.1 hx;have hle:=hc.1 r hr;have h1:has rs r.lo=true:=by rw[<-h];exact has_iff.2 ⟨r,hr,cC _,hle⟩
  obtain⟨s,hs,s1,s2⟩:=has_iff.1 h1;refine bQ.2 ⟨s,hs,?_⟩;rcases eX s.lo r.lo with hlt|hge
  ·exfalso;have h2:has c (r.lo-1)=true:=by rw[h];exact has_iff.2 ⟨s,hs,by omega,by omega⟩
   obtain⟨q,hq,q1,q2⟩:=has_iff.1 h2;obtain⟨i,hi,rfl⟩:=List.mem_iff_getElem.1 hr;obtain⟨j,hj,rfl⟩:=List.mem_iff_getElem.1 hq;have hp:=dL.1 hc.2;rcases Nat.lt_trichotomy i j with hij|hij|hij
   ·have:=hp i j hi hj hij;omega
   ·subst hij;omega
   ·have:=hp j i hj hi hij;omega
  ·omega
 simpa using this
theorem Qg(rs:List Rg):(Ik (has rs)).length<=rs.length:=by
 obtain⟨c,hc,hh⟩:=Po rs [];have hh':∀v,has c v=has rs v:=fun v=>by rw[hh,oT];simp
 rw[Dd hc hh'];exact Lm hc hh'
theorem aAC(rs:List Rg):Canon (Ik (has rs))/\∀v,has (Ik (has rs)) v=has rs v:=by
 obtain⟨c,hc,hh⟩:=Po rs [];exact Lj ⟨c,hc,fun v=>by rw[hh,oT];simp⟩
def prB(p:Int)(r:Rg):Bool:=if p=6\/p=17 then decide (r.lo<=r.hi/\r.hi<=65535)else if p=1 then decide (r.lo=8/\r.hi=8)else decide (0<=p/\p<=255/\r.lo=0/\r.hi=0)
def itN(x:It):Bool:=decide (x.pf.addr=0/\x.pf.bits=0/\x.proto=0/\x.ports.lo=0/\x.ports.hi=0)
def itP(x:It):Bool:=sEq x.name ⟨#[]⟩&&decide (x.proto=0/\x.ports.lo=0/\x.ports.hi=0)
def itS(x:It):Bool:=sEq x.name ⟨#[]⟩&&decide (x.pf.addr=0/\x.pf.bits=0)
def itB(x:It)(g:Bool):Bool:=
 if x.kind=3 then nameB x.name&&itN x
 else if x.kind=1 then g&&(nameB x.name&&itN x)
 else if x.kind=2 then g&&(decide x.pf.okP&&itP x)
 else if x.kind=4 then !g&&(prB x.proto x.ports&&itS x)else false
def Fc(l:List Df)(s:ByteArray):Int:=jM (fun d=>sEq d.name s) l
structure DfOk (l:List Df) (g:Bool) (i:Nat) (d:Df):Prop where
 name:nameB d.name=true
 first:Fc l d.name=i
 lo:1<=d.items.length
 hi:d.items.length<=16
 all:∀x,x∈d.items->itB x g=true
structure DfsOk (l:List Df) (g:Bool):Prop where
 len:l.length<=32
 all:∀(i:Nat) d,l[i]? =some d->DfOk l g i d
def Iy(l:List Rg)(d:Nat):List Rg:=Ik fun v=>has l v&&(decide (1440*(d:Int)<=v)&&decide (v<=1440*(d:Int)+1439))
def vM(l:List Rg)(k:Nat):Nat:=((List.range k).map fun d=>(Iy l d).length).sum
theorem Lq(l:List Rg)(k:Nat):vM l (k+1)=vM l k+(Iy l k).length:=by
 rw[vM,List.range_succ,aQ,List.sum_append,<-vM];simp
structure WinOk (l:List Rg):Prop where
 can:Canon l
 top:∀r,r∈l->r.hi<=10079
 few:vM l 7<=16
def Vf(l:List Wn)(s:ByteArray):Int:=jM (fun d=>sEq d.name s) l
structure WnOk (l:List Wn) (i:Nat) (w:Wn):Prop where
 name:nameB w.name=true
 first:Vf l w.name=i
 act:WinOk w.act
def pT(s:ByteArray):Bool:=sEq s ⟨#[]⟩||nameB s
def smB(x:Sm):Bool:=
 (pT x.frm&&(pT x.to&&(pT x.svc&&(pT x.cls&&(pT x.dur&&(pT x.exF&&pT x.exT))))))&&
 ((x.exc||(sEq x.exF ⟨#[]⟩&&sEq x.exT ⟨#[]⟩))&&((x.permit||sEq x.cls ⟨#[]⟩)&&(decide (0<=x.pri)&&decide (x.pri<=1000))))
def ptB(n:Int):Bool:=decide (0<=n)&&decide (n<=65535)
def pbB(x:Pb):Bool:=(decide (x.proto=6)||decide (x.proto=17))&&(ptB x.port&&(ptB x.rport&&nameB x.edge))
def hnB(x:Hn):Bool:=nameB x.grp&&(nameB x.edge&&decide (1024<=x.ports.lo/\x.ports.lo<=x.ports.hi/\x.ports.hi<=65535))
structure NtOk (i:Nt):Prop where
 g:DfsOk i.grps true
 s:DfsOk i.svcs false
 wl:i.wins.length<=32
 tl:i.sts.length<=64
 pl:i.pubs.length<=16
 hl:i.hids.length<=8
 w:∀(k:Nat) x,i.wins[k]? =some x->WnOk i.wins k x
 t:∀x,x∈i.sts->smB x=true
 p:∀x,x∈i.pubs->pbB x=true
 h:∀x,x∈i.hids->hnB x=true
open Classical in
def yQ(l:List Df)(g:Bool):Bool:=decide (DfsOk l g)
theorem dfsB_iff{l:List Df}{g:Bool}:yQ l g=true↔DfsOk l g:=by simp[yQ]
theorem tX{l:List Df}{g:Bool}(h:DfsOk l g):yQ l g=true:=dfsB_iff.2 h
theorem yR{l:List Df}{g:Bool}(h:¬DfsOk l g):yQ l g=false:=by rw[bY,ne_eq,dfsB_iff];exact h
open Classical in
def aAb(l:List Rg):Bool:=decide (WinOk l)
theorem winB_iff{l:List Rg}:aAb l=true↔WinOk l:=by simp[aAb]
open Classical in
def ntB(i:Nt):Bool:=decide (NtOk i)
theorem ntB_iff{i:Nt}:ntB i=true↔NtOk i:=by simp[ntB]
theorem Rt{i:Nt}(h:NtOk i):ntB i=true:=ntB_iff.2 h
theorem Mh{i:Nt}(h:¬NtOk i):ntB i=false:=by rw[bY,ne_eq,ntB_iff];exact h
theorem N8{l out:List Rg}{d:Nat}(hc:Canon out)(hh:∀v,has out v=(has l v&&(decide (1440*(d:Int)<=v)&&decide (v<=1440*(d:Int)+1439)))):Iy l d=out:=Dd hc hh
theorem inR_iff{r:Rg}{e:Int}:inR r e=true↔r.lo<=e/\e<=r.hi:=by rw[inR,aJ,aL,aL]
theorem Ue{α:Type}{f:α->Nat}{l:List α}{x:α}(h:x∈l):f x<=(l.map f).sum:=by
 induction l with
 |nil=>simp at h
 |cons e l ih=>
  simp only[aR,cX];rcases aZ.1 h with h|h
  ·subst h;omega
  ·have:=ih h;omega
def aRh(p:Nat->Int)(f:Nat)(v:Int):Nat->Int:=fun g=>if g=f then v else p g
theorem Hz{d:Nat}(hd:d<7)(v:Int):has [mkR (1440*(d:Int)) (1440*d+1439)] v=(decide (1440*(d:Int)<=v)&&decide (v<=1440*(d:Int)+1439)):=by
 have m1:(mkR (1440*(d:Int)) (1440*d+1439)).lo=1440*d:=kI zo zo zo zo;have m2:(mkR (1440*(d:Int)) (1440*d+1439)).hi=1440*d+1439:=kP zo zo zo zo;have e:has [mkR (1440*(d:Int)) (1440*d+1439)] v=(decide ((mkR (1440*(d:Int)) (1440*d+1439)).lo<=v)&&decide (v<=(mkR (1440*(d:Int)) (1440*d+1439)).hi)):=by simp[has]
 rw[e,m1,m2]
theorem Oo(l:List Rg){d:Nat}(hd:d<7):∃c,Canon c/\∀v,has c v=(has l v&&(decide (1440*(d:Int)<=v)&&decide (v<=1440*(d:Int)+1439))):=by
 obtain⟨x,hx,ex⟩:=Po l [mkR (1440*(d:Int)) (1440*d+1439)];obtain⟨y,hy,ey⟩:=Po l x;refine⟨y,hy,fun v=>?_⟩;rw[ey,ex,Hz hd];cases has l v<;>cases (decide (1440*(d:Int)<=v)&&decide (v<=1440*(d:Int)+1439))<;>rfl
theorem aFC{l:List Rg}(hc:Canon l)(ht:∀r,r∈l->r.hi<=10079)(hn:l≠[]):1<=vM l 7:=by
 obtain⟨r,hr⟩:=List.exists_mem_of_ne_nil _ hn;have h1:=hc.1 r hr;have h2:=ht r hr;have h0:=r.l0;have hd:(r.lo/1440).toNat<7:=by omega
 have hx:Iy l (r.lo/1440).toNat≠[]:=by
  intro e;have:=(Lj (Oo l hd)).2 r.lo;rw[show Ik (fun v=>has l v&&(decide (1440*(((r.lo/1440).toNat:Nat):Int)<=v)&&decide (v<=1440*(((r.lo/1440).toNat:Nat):Int)+1439)))=Iy l (r.lo/1440).toNat from rfl,e,oT,has_iff.2 ⟨r,hr,cC _,h1⟩,decide_eq_true zo,decide_eq_true zo]at this;cases this
 have hl:=dC.2 hx;have:=Ue (f:=fun d=>(Iy l d).length) (eG.2 hd);unfold vM;omega
def yV(l:List Rg):Nat:=if l=[]then 1 else 3*vM l 7-1
open Classical in
def I6(l:List Rg):Nat:=if Canon l/\∀r,r∈l->r.hi<=10079 then yV l else 0
theorem aMj(l:List Rg)(hl:l.length<=4000){K:KT}(hK:∀ss:List ByteArray,ss.length=I6 l->K (.lst (ss.map mV)) []):AC 223 [iR l] [] K:=by
 refine hJ (aDw rfl rfl ?_);(repeat' ((conv=>whnf);first|(with_reducible refine aKr l zo fun s hs=>?_)|(refine iT (by rfl) ?_)|refine zG ?_|apply zA|intro h|exact zT));all_goals conv=>whnf
 all_goals first
  |exact⟨_,hZ,hK [] (by rw[I6,aF (fun hh=>by have:=hs.2 hh;simp_all)];rfl)⟩
  |exact⟨_,gY,hK [⟨#[110,101,118,101,114]⟩] (by
    have hl0:l=[]:=cT.1 (by simp only[aA]at*;omega);rw[I6,aH (hs.1 (by simp_all)),yV,aH hl0];rfl)⟩
  |skip
 have hv:Canon l/\∀r,r∈l->r.hi<=10079:=hs.1 (by simp_all);have hne:l≠[]:=fun e=>by subst e;simp_all
 rw[I6,aH hv,yV,aF hne]at hK;refine gV (Nat×List ByteArray) (fun g=>⟨1,[(0,.arr 1 (g.2.map mV))],[(0,iR l),(3,.os 0 1 0 g.2.length),(4,.v (.int .i64 g.1))]⟩)
  (fun g=>g.1<=7/\g.2.length<=40000*g.1/\g.2.length=3*vM l g.1-1) (fun g=>7-g.1) (0,[]) ⟨aK _,aK _,rfl⟩ ?_ ?_
 ·exact leA
 rintro⟨d,ss⟩ ⟨hd,hss,hsn⟩
 simp only at hd hss hsn⊢;rcases aD d 7 with hd7|hd7
 ·have hint:∀{K:KT},(∀out,Canon out->(∀v,has out v=(has l v&&has [mkR (1440*d) (1440*d+1439)] v))->out.length<=2*(l.length+1)+1->K (iR out) [])->AC 273 [iR l,.lst [encR (mkR (1440*d) (1440*d+1439))]] [] K:=fun h=>c26 l [mkR (1440*d) (1440*d+1439)] zo zx h;have m1:(mkR (1440*(d:Int)) (1440*d+1439)).lo=1440*d:=kI zo zo zo zo;have m2:(mkR (1440*(d:Int)) (1440*d+1439)).hi=1440*d+1439:=kP zo zo zo zo;have hint2:∀{K:KT},(∀out,Canon out->(∀v,has out v=(has l v&&has [mkR (1440*d) (1440*d+1439)] v))->out.length<=2*(l.length+1)+1->K (iR out) [])->AC 273 [iR l,.lst [.agg [.v (.int .u32 (1440*d)),.v (.int .u32 (1440*d+1439))]]] [] K:=fun h=>by
   have:=hint h;simp only[encR,m1,m2]at this;exact this
  (repeat' ((conv=>whnf);first|(with_reducible first|refine jO rfl zo zo ?_|refine xF rfl zo zo ?_)|(refine iT (by rfl) ?_)|(with_reducible refine hint2 fun out ho hh hn=>?_)|refine zG ?_|apply zA|intro h|exact zT));all_goals conv=>whnf
  have hday:Iy l d=out:=N8 ho fun v=>by
   rw[hh v];rw[Hz hd7]
  have hcs:=Lq l d;rw[hday]at hcs;refine gV (Nat×List ByteArray) (fun g=>⟨1,[(0,.arr 1 (g.2.map mV))],[(0,iR l),(3,.os 0 1 0 g.2.length),(4,.v (.int .i64 d)),(5,.v (.int .u32 (1440*d))),(6,iR out),(7,.v (.int .i64 g.1))]⟩)
   (fun g=>g.1<=out.length/\g.2.length<=ss.length+3*g.1/\g.2.length=3*(vM l d+g.1)-1) (fun g=>out.length-g.1) (0,ss) ⟨aK _,by simp only;omega,by simp only;omega⟩ ?_ ?_
  ·exact leA
  rintro⟨i,st⟩ ⟨hi,hst,hstn⟩
  simp only at hi hst hstn⊢;rcases aD i out.length with hil|hil
  ·obtain⟨r,hr⟩:=gex hil;have hrm:=aG hr;have hle:=Qj ho hrm;have hb:∀v,r.lo<=v->v<=r.hi->1440*(d:Int)<=v/\v<=1440*d+1439:=fun v h1 h2=>by
    have h3:has out v=true:=has_iff.2 ⟨r,hrm,h1,h2⟩;rw[hh]at h3;simp only[aJ]at h3;obtain⟨q,hq,q1,q2⟩:=has_iff.1 h3.2;simp only[aU]at hq;subst hq;rw[m1]at q1;rw[m2]at q2;exact⟨q1,q2⟩
   have hb1:=hb r.lo (cC _) hle;have hb2:=hb r.hi hle (cC _);have hT:∀(v:Int),0<=v->v<=2000->∀{K:KT},(∀s:ByteArray,s.size<=10000->K (.v (.string s)) [])->AC 275 [.v (.int .i64 v)] [] K:=fun v v0 v1 K h=>by
    obtain⟨n,rfl⟩:=eJ v0;exact aLC n zo fun s hs=>h s zo
   (repeat' ((conv=>whnf);first|refine zG ?_|apply zA|intro h|exact zT));all_goals conv=>whnf
   refine iD (List ByteArray) (fun g=>⟨1,[(0,.arr 1 (g.map mV))],[(0,iR l),(3,.os 0 1 0 g.length),(4,.v (.int .i64 d)),(5,.v (.int .u32 (1440*d))),(6,iR out),(7,.v (.int .i64 i))]⟩) (fun g=>g.length<=st.length+1/\g.length=3*(vM l d+i)) ?_ ?_
   ·(repeat' ((conv=>whnf);first|refine zG ?_|apply zA|intro h|exact zT));all_goals conv=>whnf
    ·refine⟨st++[⟨#[44]⟩],⟨by simp,by simp only[aC,aB,aI];omega⟩,?_⟩;simp only[aQ,aC,aR,bI,aB,aI];exact leA
    ·refine⟨st,⟨by omega,by omega⟩,?_⟩;exact leA
   rintro su ⟨hsu,hsun⟩
   have z1:(⟨#[45]⟩:ByteArray).size=1:=rfl;have hd0:d<dayL.length:=hd7;(repeat' ((conv=>whnf);first|(with_reducible first|refine aAS ?_|refine iI hd0 ?_|refine iK hd0 fun c hc=>?_|refine iI hil ?_|refine iH hr ?_|refine xF rfl zo zo ?_|refine jO rfl zo zo ?_|refine hT _ zo zo fun s hs=>?_|refine Ob.intro (by(try simp only[ByteArray.size_append]);omega) ?_)|refine zG ?_|apply zA|intro h|exact zT));all_goals conv=>whnf
   rename_i q1 q2 q3 sA hsA;refine⟨(i+1,su++[c,sA++⟨#[45]⟩++s]),⟨by simp only;omega,by simp only[aC,aB,aI];omega,by simp only[aC,aB,aI];omega⟩,by simp only;omega,?_⟩;simp only[aQ,aC,aR,bI,aB,aI,aN,aM];exact leA
  ·(repeat' ((conv=>whnf);first|refine zG ?_|apply zA|intro h|exact zT));all_goals conv=>whnf
   refine⟨(d+1,st),⟨by simp only;omega,by simp only;omega,by simp only;omega⟩,by simp only;omega,?_⟩;rw[show(((d+1,st):Nat×List ByteArray).1:Int)=(d:Int)+1 from by simp only;omega];exact leA
 ·(repeat' ((conv=>whnf);first|(with_reducible refine iT (aA ..) ?_)|refine zG ?_|apply zA|intro h|exact zT));all_goals conv=>whnf
  exact⟨_,gY,hK ss (by rw[hsn,show d=7 by omega])⟩
theorem H7{l:List Rg}:WinOk l↔(Canon l/\∀r,r∈l->r.hi<=10079)/\yV l<=47:=by
 constructor
 ·intro h;refine⟨⟨h.can,h.top⟩,?_⟩;have:=h.few;unfold yV;split<;>omega
 ·rintro⟨⟨h1,h2⟩,h3⟩
  refine⟨h1,h2,?_⟩;unfold yV at h3;by_cases hl:l=[]
  ·subst hl;have e:∀d,Iy [] d=[]:=fun d=>N8 rV fun v=>by rw[oT];rfl
   unfold vM;simp only[e,aI];decide
  ·rw[aF hl]at h3;omega
theorem aSE(l:List Rg)(hl:l.length<=4000){K:KT}(hK:K (.sb (aAb l)) []):AC 145 [iR l] [] K:=by
 refine gZ (aDl rfl rfl ?_);(repeat' ((conv=>whnf);first|(with_reducible first|refine aKr l zo fun s hs=>?_|refine aMj l hl fun ss hss=>?_)|refine zG ?_|apply zA|intro h|exact zT));all_goals conv=>whnf
 ·refine kB hK ?_;rw[I6,aH (hs.1 h)]at hss;rw[bK,winB_iff,H7,aL,aA];have:=hs.1 h;constructor
  ·rintro⟨_,h2⟩;omega
  ·intro h2;exact⟨this,by omega⟩
 ·refine iU hK ?_;rw[bY,ne_eq,winB_iff,H7]
  rintro⟨h1,_⟩
  rw[hs.2 h1]at h;cases h
theorem aSD(s:ByteArray){K:KT}(hK:K (.sb (pT s)) []):AC 224 [.v (.string s)] [] K:=by
 refine gZ (aDj rfl rfl ?_);(repeat' ((conv=>whnf);first|(with_reducible refine vW _ ?_)|refine zG ?_|apply zA|intro h|exact zT));all_goals conv=>whnf
 ·exact kE hK (by unfold pT sEq;simp_all)
 ·exact kB hK (by unfold pT sEq;simp_all)
theorem aMh(n:Int){K:KT}(hK:K (.sb (ptB n)) []):AC 147 [.v (.int .i64 n)] [] K:=by
 refine gZ (Zh rfl rfl ?_);(repeat' ((conv=>whnf);first|refine zG ?_|apply zA|intro h|exact zT));all_goals conv=>whnf
 ·exact kB hK (by unfold ptB;simp_all)
 ·exact iU hK (by unfold ptB;rw[decide_eq_false zo];rfl)
theorem Wa(lo hi n:Int){K:KT}(hK:K (.sb (decide (n<=lo/\lo<=hi/\hi<=65535))) []):AC 148 [.agg [.v (.int .u32 lo),.v (.int .u32 hi)],.v (.int .u32 n)] [] K:=by
 refine gZ (Uu rfl rfl ?_);(repeat' ((conv=>whnf);first|refine zG ?_|apply zA|intro h|exact zT));all_goals conv=>whnf
 all_goals first
  |exact kB hK (by rw[bK];simp_all)
  |exact iU hK (decide_eq_false zo)
theorem I0(l:List Df)(s:ByteArray)(hl:l.length<=1000){K:KT}(hK:K (.v (.int .i64 (Fc l s))) []):AC 150 [.lst (l.map iQ),.v (.string s)] [] K:=by
 unfold Fc at hK;refine Zf rfl rfl ?_;(repeat' ((conv=>whnf);first|refine zG ?_|apply zA|intro h|exact zT));all_goals conv=>whnf
 refine gV Nat (fun i=>⟨0,[],[(0,.lst (l.map iQ)),(1,.v (.string s)),(5,.v (.int .i64 i))]⟩) (fun i=>i<=l.length/\∀(j:Nat) y,j<i->l[j]? =some y->sEq y.name s=false) (fun i=>l.length-i) 0 ⟨aK _,fun i y hi=>absurd hi (bD _)⟩ ?_ ?_
 ·exact leA
 intro i ⟨hi,hinv⟩;rcases aD i l.length with hil|hil
 ·obtain⟨x,hx⟩:=gex hil;(repeat' ((conv=>whnf);first|(with_reducible first|refine iI hil ?_|refine iH hx ?_)|refine zG ?_|apply zA|intro h|exact zT));all_goals conv=>whnf
  ·rw[jN (p:=fun d=>sEq d.name s) hx (show sEq x.name s=true from h) hinv]at hK;exact hK
  ·refine⟨i+1,⟨hil,jJ (p:=fun d:Df=>sEq d.name s) hx h hinv⟩,by omega,?_⟩;rw[aN,aM];exact leA
 ·(repeat' ((conv=>whnf);first|refine zG ?_|apply zA|intro h|exact zT));all_goals conv=>whnf
  rw[jS (p:=fun d=>sEq d.name s) (iL hil hinv)]at hK;exact hK
theorem V9(l:List Wn)(s:ByteArray)(hl:l.length<=1000){K:KT}(hK:K (.v (.int .i64 (Vf l s))) []):AC 126 [.lst (l.map jZ),.v (.string s)] [] K:=by
 unfold Vf at hK;refine Ut rfl rfl ?_;(repeat' ((conv=>whnf);first|refine zG ?_|apply zA|intro h|exact zT));all_goals conv=>whnf
 refine gV Nat (fun i=>⟨0,[],[(0,.lst (l.map jZ)),(1,.v (.string s)),(5,.v (.int .i64 i))]⟩) (fun i=>i<=l.length/\∀(j:Nat) y,j<i->l[j]? =some y->sEq y.name s=false) (fun i=>l.length-i) 0 ⟨aK _,fun i y hi=>absurd hi (bD _)⟩ ?_ ?_
 ·exact leA
 intro i ⟨hi,hinv⟩;rcases aD i l.length with hil|hil
 ·obtain⟨x,hx⟩:=gex hil;(repeat' ((conv=>whnf);first|(with_reducible first|refine iI hil ?_|refine iH hx ?_)|refine zG ?_|apply zA|intro h|exact zT));all_goals conv=>whnf
  ·rw[jN (p:=fun d=>sEq d.name s) hx (show sEq x.name s=true from h) hinv]at hK;exact hK
  ·refine⟨i+1,⟨hil,jJ (p:=fun d:Wn=>sEq d.name s) hx h hinv⟩,by omega,?_⟩;rw[aN,aM];exact leA
 ·(repeat' ((conv=>whnf);first|refine zG ?_|apply zA|intro h|exact zT));all_goals conv=>whnf
  rw[jS (p:=fun d=>sEq d.name s) (iL hil hinv)]at hK;exact hK
theorem aBu{k k' pa pb qa qb pr pr' lo hi lo' hi':Int}{n n':ByteArray}{K:Bool->Prop}(hk:K (decide (k=k')&&(sEq n n'&&decide (pa=qa/\pb=qb/\pr=pr'/\lo=lo'/\hi=hi')))):EqV Tryz.prog 110 [.v (.int .i64 k),.v (.string n),.v (.int .u32 pa),.v (.int .i64 pb),.v (.int .i64 pr),.v (.int .u32 lo),.v (.int .u32 hi)]
  [.v (.int .i64 k'),.v (.string n'),.v (.int .u32 qa),.v (.int .i64 qb),.v (.int .i64 pr'),.v (.int .u32 lo'),.v (.int .u32 hi')] K:=by
 refine yT (b:=(k==k'&&(n.toList==n'.toList&&((pa==qa&&(pb==qb&&true))&&(pr==pr'&&((lo==lo'&&(hi==hi'&&true))&&true)))))) rfl rfl zk zk ?_;have e:(k==k'&&(n.toList==n'.toList&&((pa==qa&&(pb==qb&&true))&&(pr==pr'&&((lo==lo'&&(hi==hi'&&true))&&true)))))=(decide (k=k')&&(sEq n n'&&decide (pa=qa/\pb=qb/\pr=pr'/\lo=lo'/\hi=hi'))):=by
  unfold sEq;rw[bK];simp only[aJ,beq_iff_eq,aL,and_true,and_assoc]
 rw[e];exact hk
theorem aBv{lo hi lo' hi':Int}{K:Bool->Prop}(hk:K (decide (lo=lo'/\hi=hi'))):EqV Tryz.prog 55 [.v (.int .u32 lo),.v (.int .u32 hi)] [.v (.int .u32 lo'),.v (.int .u32 hi')] K:=by
 refine yT (b:=(lo==lo'&&(hi==hi'&&true))) rfl rfl zk zk ?_;have e:(lo==lo'&&(hi==hi'&&true))=decide (lo=lo'/\hi=hi'):=by
  rw[bK];simp only[aJ,beq_iff_eq,aL,and_true]
 rw[e];exact hk
theorem wV(s:ByteArray):sEq s s=true:=by unfold sEq;simp
theorem aMg(x:It)(g:Bool){K:KT}(hK:K (.sb (itB x g)) []):AC 221 [lA x,.sb g] [] K:=by
 refine gZ (Zg rfl rfl ?_);have hs:=wV x.name;(repeat' ((conv=>whnf);first|(with_reducible first|refine vW _ ?_|refine Qo x.pf ?_|refine Wa _ _ _ ?_)|(refine aBu ?_)|(refine aBv ?_)|refine zG ?_|apply zA|intro h|exact zT));all_goals conv=>whnf
 all_goals first
  |refine kE hK ?_
  |refine iU hK ?_
  |refine kB hK ?_
 all_goals
  unfold itB;have hl0:=x.ports.l0;simp_all[itN,itP,itS,prB]
 all_goals first
  |omega
  |(rw[aF zo,aF zo];intros;omega)
theorem aRf{a b:ByteArray}(h:sEq a b=true):a=b:=by
 rw[nJ]at h;have h:=of_decide_eq_true (by simpa using h:decide (a.data.toList=b.data.toList)=true);exact ByteArray.ext (Array.ext' h)
def lR(l:List Df)(s:ByteArray):Option Nat:=l.findIdx? fun d=>sEq d.name s
theorem lK{l:List Df}{s:ByteArray}{n:Nat}(h:lR l s=some n):∃d,l[n]? =some d/\d.name=s/\n<l.length:=by
 unfold lR at h;rw[dS]at h;obtain⟨h1,h2,_⟩:=h;exact⟨_,aE h1,aRf h2,h1⟩
theorem mJ(l:List Df)(s:ByteArray):jM (fun d=>sEq d.name s) l=match lR l s with
  |some n=>(n:Int)
  |none=> -1:=rfl
section
variable {S:Type} (v:It->S->Int×S)
def pS(rec:ByteArray->List Nat->S->Int×List Nat×S):List It->List Nat->S->Int×List Nat×S
 |[],d,s=>(0,d,s)
 |x::r,d,s=>
  let q:=if x.kind=3 then rec x.name d s else((v x s).1,d,(v x s).2)
  if q.1=0 then pS rec r q.2.1 q.2.2 else q
def fol(l:List Df):Nat->List Nat->ByteArray->List Nat->S->Int×List Nat×S
 |0,_,_,d,s=>(8,d,s)
 |k+1,p,nm,d,s=>match lR l nm with
  |none=>(5,d,s)
  |some n=>if n∈p then(8,d,s)else if n∈d then(0,d,s)else
   let q:=pS v (fol l k (p++[n])) (((l[n]?).map (·.items)).getD []) d s
   if q.1=0 then(0,q.2.1++[n],q.2.2)else q
theorem I7(rec:ByteArray->List Nat->S->Int×List Nat×S)(d:List Nat)(s:S):pS v rec [] d s=(0,d,s):=rfl
theorem pC(rec:ByteArray->List Nat->S->Int×List Nat×S)(x:It)(r:List It)(d:List Nat)(s:S):pS v rec (x::r) d s=
  if(if x.kind=3 then rec x.name d s else((v x s).1,d,(v x s).2)).1=0 then pS v rec r (if x.kind=3 then rec x.name d s else((v x s).1,d,(v x s).2)).2.1 (if x.kind=3 then rec x.name d s else((v x s).1,d,(v x s).2)).2.2
  else(if x.kind=3 then rec x.name d s else((v x s).1,d,(v x s).2)):=rfl
end
open Classical in
def mW(l:List Df)(p:List Nat):Value->Option AV:=fun k=>if ∃n d,n∈p/\l[n]? =some d/\k=.string d.name then some (.sb true)else none
def Firsts(l:List Df)(p:List Nat):Prop:=∀n,n∈p->∀d,l[n]? =some d->lR l d.name=some n
theorem Firsts.nil{l:List Df}:Firsts l []:=fun n h=>by cases h
theorem Firsts.snoc{l:List Df}{p:List Nat}{s:ByteArray}{n:Nat}(h:Firsts l p)(hn:lR l s=some n):Firsts l (p++[n]):=fun m hm d hd=>by
 rcases aX.1 hm with hm|hm
 ·exact h m hm d hd
 ·rw[aU.1 hm]at hd⊢;obtain⟨d',h1,h2,_⟩:=lK hn;rw[hd]at h1;cases h1;rw[h2];exact hn
theorem wR{l:List Df}{p:List Nat}{s:ByteArray}{n:Nat}(hn:lR l s=some n)(h:n∈p):mW l p (.string s)=some (.sb true):=by
 obtain⟨d,h1,h2,_⟩:=lK hn;rw[mW,aH ⟨n,d,h,h1,by rw[h2]⟩]
theorem qE{l:List Df}{p:List Nat}{s:ByteArray}{n:Nat}(hf:Firsts l p)(hn:lR l s=some n)(h:n∉p):mW l p (.string s)=none:=by
 rw[mW,aF]
 rintro⟨m,d,h1,h2,h3⟩
 have e:s=d.name:=by simpa using h3
 have:=hf m h1 d h2;rw[<-e,hn]at this;cases this;exact h h1
theorem Md(l:List Df):(fun _=>none)=mW l []:=by
 funext k
 rw[mW,aF]
 rintro⟨n,d,h,_⟩;cases h
theorem updM_name{l:List Df}{p:List Nat}{s:ByteArray}{n:Nat}(hn:lR l s=some n):mW l (p++[n])=Gd (mW l p) (.string s) (.sb true):=by
 obtain⟨d,h1,h2,_⟩:=lK hn
 funext k
 unfold Gd;split
 ·rename_i e;rw[e,wR hn zx]
 ·rename_i e;unfold mW;have:(∃m d,m∈p++[n]/\l[m]? =some d/\k=.string d.name)↔∃m d,m∈p/\l[m]? =some d/\k=.string d.name:=by
   constructor
   ·rintro⟨m,d',g1,g2,g3⟩
    rcases aX.1 g1 with g1|g1
    ·exact⟨m,d',g1,g2,g3⟩
    ·rw[aU.1 g1,h1]at g2;cases g2;exact absurd (g3.trans (by rw[h2])) e
   ·rintro⟨m,d',g1,g2,g3⟩
    exact⟨m,d',cF _ g1,g2,g3⟩
  by_cases hx:∃m d,m∈p/\l[m]? =some d/\k=.string d.name
  ·rw[aH hx,aH (this.2 hx)]
  ·rw[aF hx,aF (fun h=>hx (this.1 h))]
theorem delM_name{l:List Df}{p:List Nat}{s:ByteArray}{n:Nat}(hf:Firsts l p)(hn:lR l s=some n)(h:n∉p):mW l p=Iz (mW l (p++[n])) (.string s):=by
 funext k
 unfold Iz;split
 ·rename_i e;rw[e,qE hf hn h]
 ·rename_i e;rw[updM_name hn,Gd,aF e]
structure Fine (l:List Df) (p d:List Nat):Prop where
 pn:p.Nodup
 dn:d.Nodup
 pf:Firsts l p
 df:Firsts l d
 pl:∀n,n∈p->n<l.length
 dl:∀n,n∈d->n<l.length
 dj:∀n,n∈p->n∉d
theorem Fine.push{l:List Df}{p d:List Nat}{s:ByteArray}{n:Nat}(h:Fine l p d)(hn:lR l s=some n)(hp:n∉p)(hd:n∉d):Fine l (p++[n]) d:=
 ⟨eQ.2 ⟨h.pn,by simp,fun a ha b hb e=>by rw[aU.1 hb]at e;exact hp (e▸ha)⟩,h.dn,h.pf.snoc hn,h.df,fun m hm=>by
  rcases aX.1 hm with hm|hm
  ·exact h.pl m hm
  ·rw[aU.1 hm];exact(lK hn).choose_spec.2.2,h.dl,fun m hm=>by
  rcases aX.1 hm with hm|hm
  ·exact h.dj m hm
  ·rw[aU.1 hm];exact hd⟩
theorem Fine.pop{l:List Df}{p d:List Nat}{s:ByteArray}{n:Nat}(h:Fine l (p++[n]) d)(hn:lR l s=some n):Fine l p (d++[n]):=by
 have hnd:n∉d:=h.dj n zx;have hp:=eQ.1 h.pn;exact⟨hp.1,eQ.2 ⟨h.dn,by simp,fun a ha b hb e=>by rw[aU.1 hb]at e;exact hnd (e▸ha)⟩,fun m hm=>h.pf m (cF _ hm),h.df.snoc hn,
  fun m hm=>h.pl m (cF _ hm),fun m hm=>by
   rcases aX.1 hm with hm|hm
   ·exact h.dl m hm
   ·rw[aU.1 hm];exact h.pl n zx,fun m hm hmd=>by
   rcases aX.1 hmd with hmd|hmd
   ·exact h.dj m (cF _ hm) hmd
   ·exact hp.2.2 m hm n zx (aU.1 hmd)⟩
theorem aHz{l:List Nat}{m:Nat}(h:l.Nodup)(hb:∀x,x∈l->x<m):l.length<=m:=by
 have:=rZ (l:=l.map fun n:Nat=>(n:Int)) (m:=(List.range m).map fun n:Nat=>(n:Int)) (by
  unfold List.Nodup at*;rw[List.pairwise_map];exact h.imp fun hab e=>hab zo) (fun x hx=>by
  obtain⟨n,hn,rfl⟩:=bQ.1 hx;exact bQ.2 ⟨n,eG.2 (hb n hn),rfl⟩)
 simpa using this
theorem Fine.small{l:List Df}{p d:List Nat}(h:Fine l p d):d.length+p.length<=l.length:=by
 have h1:(d++p).Nodup:=eQ.2 ⟨h.dn,h.pn,fun a ha b hb e=>h.dj b hb (e▸ha)⟩;have h2:∀n,n∈d++p->n<l.length:=fun n hn=>by
  rcases aX.1 hn with hn|hn
  ·exact h.dl n hn
  ·exact h.pl n hn
 have h3:=aHz h1 h2;rw[aC]at h3;exact h3
section
variable {S:Type} (v:It->S->Int×S) (sz:S->Nat) (hv:∀x s,(v x s).1=0->sz (v x s).2<=sz s+1000)
structure Fed (l:List Df) (p d:List Nat) (s:S) (d':List Nat) (s':S) (c:Nat):Prop where
 fine:Fine l p d'
 le:d.length<=d'.length
 size:sz s'+1000000*d.length<=sz s+1000000*d'.length+c
include hv
theorem Qu{l:List Df}{p:List Nat}{rec:ByteArray->List Nat->S->Int×List Nat×S}(hrec:∀nm d s,Fine l p d->(rec nm d s).1=0->Fed sz l p d s (rec nm d s).2.1 (rec nm d s).2.2 0):
  ∀(its:List It) (d:List Nat) (s:S),Fine l p d->(pS v rec its d s).1=0->Fed sz l p d s (pS v rec its d s).2.1 (pS v rec its d s).2.2 (1000*its.length)
 |[],d,s,hf,_=>⟨hf,aO _,by simp[pS]⟩
 |x::r,d,s,hf,h=>by
  rw[pC]at h⊢;have hq:(if x.kind=3 then rec x.name d s else((v x s).1,d,(v x s).2)).1=0->Fed sz l p d s (if x.kind=3 then rec x.name d s else((v x s).1,d,(v x s).2)).2.1 (if x.kind=3 then rec x.name d s else((v x s).1,d,(v x s).2)).2.2 1000:=by
   by_cases hk:x.kind=3
   ·rw[aH hk];intro h0;have:=hrec x.name d s hf h0;exact⟨this.fine,this.le,by have:=this.size;omega⟩
   ·rw[aF hk];intro h0;exact⟨hf,aO _,by have:=hv x s h0;simp only;omega⟩
  generalize (if x.kind=3 then rec x.name d s else((v x s).1,d,(v x s).2))=q at*;by_cases h0:q.1=0
  ·rw[aH h0]at h⊢;have hq:=hq h0;have h2:=Qu hrec r q.2.1 q.2.2 hq.fine h;exact⟨h2.fine,bC hq.le h2.le,by have:=hq.size;have:=h2.size;rw[aB];omega⟩
  ·rw[aF h0]at h;exact absurd h h0
theorem Hx(l:List Df)(hit:∀d,d∈l->d.items.length<=999):∀(k:Nat) (p:List Nat) (nm:ByteArray) (d:List Nat) (s:S),Fine l p d->(fol v l k p nm d s).1=0->
  Fed sz l p d s (fol v l k p nm d s).2.1 (fol v l k p nm d s).2.2 0
 |0,p,nm,d,s,hf,h=>by simp[fol]at h
 |k+1,p,nm,d,s,hf,h=>by
  unfold fol at h⊢;cases hn:lR l nm with
  |none=>simp[hn]at h
  |some n=>
   simp only[hn]at h⊢;split at h
   ·simp at h
   rename_i hp;rw[aF hp];split at h
   ·rename_i hd;rw[aH hd];exact⟨hf,aO _,by simp⟩
   rename_i hd;rw[aF hd];obtain⟨df,hdf,_⟩:=lK hn;simp only[hdf,dG,cY]at h⊢;have hpush:=hf.push hn hp hd;split at h
   ·rename_i h0;rw[aH h0];have h1:=Qu v sz hv (fun nm d s hf h=>Hx l hit k (p++[n]) nm d s hf h) df.items d s hpush h0;have hlen:=hit df (aG hdf);exact⟨h1.fine.pop hn,by rw[aC];have:=h1.le;omega,by have:=h1.size;simp only[aC,cQ];omega⟩
   ·rename_i h0;exact absurd h h0
end
end Go.Proofs.YtgicddadddhonaaGreatDoor
