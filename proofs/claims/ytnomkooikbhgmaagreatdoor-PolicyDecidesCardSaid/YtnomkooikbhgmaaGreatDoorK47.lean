/- Lemmas. -/
import Derived.Test.YtnomkooikbhgmaaGreatDoorK34
set_option linter.unusedVariables false
set_option linter.unusedSimpArgs false
set_option maxRecDepth 100000
set_option maxHeartbeats 4000000
namespace Go.Proofs.YtnomkooikbhgmaaGreatDoor
open Go Go.Vm
abbrev G5(t:Tp)(s:ByteArray):List Nat:=ixs (fun e=>sEq e.zone s) t.edges t.edges.length
theorem aNJ(p:Ed->Bool){l:List Ed}{k:Nat}{e:Ed}(h:l[k]? =some e)(hp:p e=false):ixs p l (k+1)=ixs p l k:=by rw[Jo p h,aF (by rw[hp];decide),bI]
theorem aGr(p:Ed->Bool){l:List Ed}{k:Nat}{e:Ed}(h:l[k]? =some e)(hp:p e=true):ixs p l (k+1)=ixs p l k++[k]:=by rw[Jo p h,aH hp]
theorem Tq(t:Tp)(s:ByteArray)(hl:t.edges.length<=1000){K:KT}(hK:K (.lst ((G5 t s).map vN)) []):AC 179 [kB t,.v (.string s)] [] K:=by
 refine Yn rfl rfl ?_;(repeat' ((conv=>whnf);first|refine zG ?_|apply zA|intro h|exact zT));all_goals conv=>whnf
 refine gM Nat (fun i=>⟨2,[(0,kU t),(1,.arr 1 ((ixs (fun e=>sEq e.zone s) t.edges i).map vN))],[(1,.v (.string s)),(2,.op 0 0),(5,.os 1 1 0 (ixs (fun e=>sEq e.zone s) t.edges i).length),(6,.v (.int .i64 i))]⟩)
  (fun i=>i<=t.edges.length) (fun i=>t.edges.length-i) 0 (aO _) ?_ ?_
 ·exact leA
 intro i h1;have hil2:=vD (fun e=>sEq e.zone s) t.edges i;rcases aC i t.edges.length with hil|hil
 ·obtain⟨x,hx⟩:=gex hil;(repeat' ((conv=>whnf);first|(with_reducible first|refine hZ hil ?_|refine hU hx ?_)|refine zG ?_|apply zA|intro h|exact zT));all_goals conv=>whnf
  all_goals first
   |(refine⟨i+1,hil,by omega,?_⟩
     rw[aGr _ hx (show sEq x.zone s=true from h),aQ,aD,aN,aL];exact leA)
   |(refine⟨i+1,hil,by omega,?_⟩
     rw[aNJ _ hx (show sEq x.zone s=false from h),aN,aL];exact leA)
 ·have hie:i=t.edges.length:=by omega
  subst hie;(repeat' ((conv=>whnf);first|(with_reducible refine iP (aA ..) ?_)|refine zG ?_|apply zA|intro h|exact zT));all_goals conv=>whnf
  exact hK
theorem aJC(t:Tp)(l:List Nat)(hl:l.length<=1000)(hb:∀n,n∈l->n<t.edges.length){K:KT}(hK:K (iH (l.map (C7 t))) []):AC 176 [kB t,.lst (l.map vN)] [] K:=by
 refine aCi rfl rfl ?_;(repeat' ((conv=>whnf);first|refine zG ?_|apply zA|intro h|exact zT));all_goals conv=>whnf
 refine gM Nat (fun i=>⟨2,[(0,kU t),(1,.arr 2 (((l.take i).map (C7 t)).map jR))],[(1,.lst (l.map vN)),(2,.op 0 0),(5,.os 1 2 0 ((l.take i).map (C7 t)).length),(6,.v (.int .i64 i))]⟩)
  (fun i=>i<=l.length) (fun i=>l.length-i) 0 (aO _) ?_ ?_
 ·rw[cP];exact leA
 intro i h1;have htl:((l.take i).map (C7 t)).length=i:=by rw[aA,aZ];omega
 rcases aC i l.length with hil|hil
 ·obtain⟨n,hn⟩:=gex hil;have hnl:=hb n (aI hn);obtain⟨x,hx⟩:=gex hnl;have hs:(l.take (i+1)).map (C7 t)=(l.take i).map (C7 t)++[x.pf.rg]:=by rw[bF,hn,aQ];simp[C7,hx]
  generalize hA:(l.take i).map (C7 t)=A at*;(repeat' ((conv=>whnf);first|(with_reducible first|refine hZ hil ?_|refine hU hn ?_|refine hZ hnl ?_|refine hU hx ?_|refine Xx _ ?_)|refine zG ?_|apply zA|intro h|exact zT));all_goals conv=>whnf
  all_goals first
   |(refine⟨i+1,hil,by omega,?_⟩
     rw[hs,aQ,aD,aN,aL];exact leA)
 ·rw[aU hil];(repeat' ((conv=>whnf);first|(with_reducible refine iP (aA ..) ?_)|refine zG ?_|apply zA|intro h|exact zT));all_goals conv=>whnf
  exact hK
theorem aRg(t:Tp)(hl:t.edges.length<=1000){K:KT}(hK:K (.lst ((List.range t.edges.length).map vN)) []):AC 177 [kB t] [] K:=by
 refine aCe rfl rfl ?_;(repeat' ((conv=>whnf);first|refine zG ?_|apply zA|intro h|exact zT));all_goals conv=>whnf
 refine gM Nat (fun i=>⟨2,[(0,kU t),(1,.arr 1 ((List.range i).map vN))],[(1,.op 0 0),(3,.os 1 1 0 (List.range i).length),(4,.v (.int .i64 i))]⟩)
  (fun i=>i<=t.edges.length) (fun i=>t.edges.length-i) 0 (aO _) ?_ ?_
 ·exact leA
 intro i h1;have hrl:(List.range i).length=i:=fI;rcases aC i t.edges.length with hil|hil
 ·have hs:List.range (i+1)=List.range i++[i]:=fH;generalize hA:List.range i=A at*;(repeat' ((conv=>whnf);first|refine zG ?_|apply zA|intro h|exact zT));all_goals conv=>whnf
  refine⟨i+1,hil,by omega,?_⟩;rw[hs,aQ,aD,aN,aL];exact leA
 ·have hie:i=t.edges.length:=by omega
  subst hie;(repeat' ((conv=>whnf);first|(with_reducible refine iP (aA ..) ?_)|refine zG ?_|apply zA|intro h|exact zT));all_goals conv=>whnf
  exact hK
def mA(t:Tp)(x:It)(its:List It):Int×List It:=if x.kind=1/\G5 t x.name=[]then(5,its)else(0,its++[x])
theorem aIX(t:Tp)(x:It)(its:List It)(h:(mA t x its).1=0):(mA t x its).2.length<=its.length+1000:=by
 unfold mA at h⊢;split at h
 ·simp at h
 ·rename_i hc;rw[aF hc];simp
theorem aRj(t:Tp)(ht:t.edges.length<=1000)(l:List Df)(hl:l.length<=999)(hit:∀d,d∈l->d.items.length<=999):∀(k:Nat) (path:List Nat) (n:Nat) (nm:ByteArray) (done:List Nat) (its:List It),Fine l path done->lK l nm=some n->path.length+k=l.length->its.length<=1000000*(done.length+path.length)->∀{K:KT},
  K (.v (.int .i64 (fol (mA t) l (k+1) path nm done its).1)) [G3 l 3 4 (fol (mA t) l (k+1) path nm done its).2.1.length (fol (mA t) l (k+1) path nm done its).2.2.length,.box [],.box [],.arr 1 ((fol (mA t) l (k+1) path nm done its).2.1.map vN),.arr 7 ((fol (mA t) l (k+1) path nm done its).2.2.map kM)]->
  AC 245 [.op 0 0,kB t,.v (.int .i64 n),.lst (path.map vN)] [G3 l 1 2 done.length its.length,.arr 1 (done.map vN),.arr 7 (its.map kM)] K:=by
 intro k
 induction k with
 |zero=>
  intro path n nm done its hf hn hk hsz K hK;obtain⟨x,hx,hname,hnl⟩:=lD hn;have hsm:=hf.small;have hm:n∈path:=Classical.byContradiction fun h=>by
   by_cases hd:n∈done
   ·have:0<done.length:=List.length_pos_of_mem hd;omega
   ·have:=(hf.push hn h hd).small;rw[aD]at this;simp only[cR]at this;omega
  simp only[fol,hn,aH hm]at hK;refine D9 rfl rfl ?_;(repeat' ((conv=>whnf);first|(with_reducible refine K6 path n zo ?_)|refine zG ?_|apply zA|intro h|exact zT));all_goals conv=>whnf
  all_goals first
   |exact hK
   |(exfalso;simp_all;done)
 |succ k ih=>
  intro path n nm done its hf hn hk hsz K hK;obtain⟨x,hx,hname,hnl⟩:=lD hn;have hsm:=hf.small;have hlen:=hit x (aI hx);by_cases hm:n∈path
  ·simp only[fol,hn,aH hm]at hK;refine D9 rfl rfl ?_;(repeat' ((conv=>whnf);first|(with_reducible refine K6 path n zo ?_)|refine zG ?_|apply zA|intro h|exact zT));all_goals conv=>whnf
   all_goals first
    |exact hK
    |(exfalso;simp_all;done)
  by_cases hd:n∈done
  ·simp only[fol,hn,aF hm,aH hd]at hK;refine D9 rfl rfl ?_;(repeat' ((conv=>whnf);first|(with_reducible first|refine K6 path n zo ?_|refine K6 done n zo ?_|refine iP (by simp only[aA,aD,aB,aG]) ?_)|refine zG ?_|apply zA|intro h|exact zT));all_goals conv=>whnf
   all_goals first
    |exact hK
    |(exfalso;simp_all;done)
  rw[fol]at hK;simp only[hn,aF hm,aF hd,hx,dF,cY]at hK;have hpush:=hf.push hn hm hd;have hrec:∀(r:Int) (m:Nat) (y:ByteArray),r=m->lK l y=some m->∀(d':List Nat) (i':List It),Fine l (path++[n]) d'->i'.length<=1000000*(d'.length+(path.length+1))->∀{K:KT},
   K (.v (.int .i64 (fol (mA t) l (k+1) (path++[n]) y d' i').1)) [G3 l 3 4 (fol (mA t) l (k+1) (path++[n]) y d' i').2.1.length (fol (mA t) l (k+1) (path++[n]) y d' i').2.2.length,.box [],.box [],.arr 1 ((fol (mA t) l (k+1) (path++[n]) y d' i').2.1.map vN),.arr 7 ((fol (mA t) l (k+1) (path++[n]) y d' i').2.2.map kM)]->
   AC 245 [.op 0 0,kB t,.v (.int .i64 r),aDt path n] [G3 l 1 2 d'.length i'.length,.arr 1 (d'.map vN),.arr 7 (i'.map kM)] K:=fun r m y hr hy d' i' h1 h2 K h=>by
   subst hr;have e:aDt path n=.lst ((path++[n]).map vN):=by simp[aDt]
   rw[e];exact ih (path++[n]) m y d' i' h1 hy (by rw[aD,cR];omega) (by rw[aD,cR];omega) h
  clear ih;have hfed:=fun nm d s h h0=>Hs (mA t) List.length (aIX t) l hit (k+1) (path++[n]) nm d s h h0;refine D9 rfl rfl ?_;(repeat' ((conv=>whnf);first|(with_reducible first|refine K6 path n zo ?_|refine K6 done n zo ?_|refine iP (by simp only[aA,aD,aB,aG]) ?_)|refine zG ?_|apply zA|intro h|exact zT));all_goals conv=>whnf
  all_goals first
   |(exfalso;simp_all;done)
   |skip
  refine gM (Nat×List Nat×List It) (fun g=>⟨6,[(0,G3 l 3 4 g.2.1.length g.2.2.length),(3,.arr 1 (g.2.1.map vN)),(4,.arr 7 (g.2.2.map kM)),(5,kU t)],[(0,.op 0 0),(2,.v (.int .i64 n)),(3,aDt path n),(5,.op 5 0),(9,.v (.int .i64 g.1))]⟩)
   (fun g=>g.1<=x.items.length/\Fine l (path++[n]) g.2.1/\pS (mA t) (fol (mA t) l (k+1) (path++[n])) x.items done its=pS (mA t) (fol (mA t) l (k+1) (path++[n])) (x.items.drop g.1) g.2.1 g.2.2/\done.length<=g.2.1.length/\g.2.2.length+1000000*done.length<=its.length+1000000*g.2.1.length+1000*g.1)
   (fun g=>x.items.length-g.1) (0,done,its) ⟨aO _,hpush,by rw[cA],aK _,by simp only;omega⟩ ?_ ?_
  ·exact leA
  rintro⟨i,dn,im⟩ ⟨h1,hf1,heq,hd1,hz1⟩
  simp only at h1 hf1 heq hd1 hz1⊢;have hsm1:=hf1.small;rw[aD,cR]at hsm1;rcases aC i x.items.length with hil|hil
  ·obtain⟨y,hy⟩:=gex hil;have hdr:x.items.drop i=y::x.items.drop (i+1):=by
    rw[bB hil]
    congr 1
    rw[aE hil]at hy;cases hy;rfl
   rw[hdr,pE]at heq;by_cases hk3:y.kind=3
   ·simp only[aH hk3]at heq;cases hfd:lK l y.name with
    |none=>
     have hq:fol (mA t) l (k+1) (path++[n]) y.name dn im=(5,dn,im):=by simp only[fol,hfd]
     rw[hq]at heq;simp only[show ¬((5:Int)=0) by decide,if_false]at heq;rw[heq]at hK;simp only[show ¬((5:Int)=0) by decide,if_false]at hK;have hfi:∀{K:KT},K (.v (.int .i64 (-1))) []->AC 170 [.lst (l.map iG),.v (.string y.name)] [] K:=fun h=>Iv l y.name zo (by rw[Fh,mI,hfd];exact h);(repeat' ((conv=>whnf);first|(with_reducible first|refine hZ hnl ?_|refine hU hx ?_|refine hZ hil ?_|refine hU hy ?_|refine hfi ?_)|refine zG ?_|apply zA|intro h|exact zT));all_goals conv=>whnf
     all_goals first
      |exact hK
      |(exfalso;omega)
    |some m=>
     have hfi:∀{K:KT},K (.v (.int .i64 m)) []->AC 170 [.lst (l.map iG),.v (.string y.name)] [] K:=fun h=>Iv l y.name zo (by rw[Fh,mI,hfd];exact h);have hc:=fun {K} h=>@hrec m m y.name rfl hfd dn im hf1 zo K h;have hfq:=hfed y.name dn im hf1;generalize fol (mA t) l (k+1) (path++[n]) y.name dn im=q at*;obtain⟨qe,qd,qs⟩:=q;simp only at heq hc hfq;(repeat' ((conv=>whnf);first|(with_reducible first|refine hZ hnl ?_|refine hU hx ?_|refine hZ hil ?_|refine hU hy ?_|refine hfi ?_|refine hc ?_)|refine zG ?_|apply zA|intro h|exact zT));all_goals conv=>whnf
     all_goals first
      |(exfalso;omega)
      |(have hne:¬qe=0:=by first|assumption|(intro e;simp_all;done)
        rw[heq,aF hne]at hK;simp only[aF hne]at hK;exact hK)
      |(have h0:qe=0:=by first|assumption|(simp_all;done)
        have hfq:=hfq h0;refine⟨(i+1,qd,qs),⟨hil,hfq.fine,by rw[heq,aH h0],by have:=hfq.le;simp only;omega,by have:=hfq.size;simp only;omega⟩,by simp only;omega,?_⟩;simp only[aN,aL];exact leA)
   ·simp only[aF hk3]at heq;by_cases hz:y.kind=1/\G5 t y.name=[]
    ·have hv:mA t y im=(5,im):=by rw[mA,aH hz]
     rw[hv]at heq;simp only[show ¬((5:Int)=0) by decide,if_false]at heq;rw[heq]at hK;simp only[show ¬((5:Int)=0) by decide,if_false]at hK;(repeat' ((conv=>whnf);first|(with_reducible first|refine hZ hnl ?_|refine hU hx ?_|refine hZ hil ?_|refine hU hy ?_)|refine zG ?_|apply zA|intro h|exact zT));all_goals conv=>whnf
     all_goals first
      |(exfalso;omega)
      |skip
     refine gY Unit (fun _=>⟨0,[],[]⟩) (fun _=>False) ?_ ?_
     ·(repeat' ((conv=>whnf);first|(with_reducible refine Tq t _ ht ?_)|refine zG ?_|apply zA|intro h|exact zT));all_goals conv=>whnf
      all_goals first
       |exact hK
       |(exfalso;simp_all;done)
     ·exact fun _ h=>h.elim
    ·have hv:mA t y im=(0,im++[y]):=by rw[mA,aF hz]
     rw[hv]at heq;simp only[if_true]at heq;(repeat' ((conv=>whnf);first|(with_reducible first|refine hZ hnl ?_|refine hU hx ?_|refine hZ hil ?_|refine hU hy ?_)|refine zG ?_|apply zA|intro h|exact zT));all_goals conv=>whnf
     all_goals first
      |(exfalso;omega)
      |skip
     refine Jn.at ⟨7,[(6,.box [.v (.int .i64 y.kind),.v (.string y.name),.v (.int .u32 y.pf.addr),.v (.int .i64 y.pf.bits),.v (.int .i64 y.proto),.v (.int .u32 y.ports.lo),.v (.int .u32 y.ports.hi)]),(0,G3 l 3 4 dn.length im.length),(3,.arr 1 (dn.map vN)),(4,.arr 7 (im.map kM)),(5,kU t)],[(0,.op 0 0),(2,.v (.int .i64 n)),(3,aDt path n),(5,.op 5 0),(9,.v (.int .i64 i)),(10,.op 6 0)]⟩ ?_ ?_
     ·(repeat' ((conv=>whnf);first|(with_reducible refine Tq t _ ht ?_)|refine zG ?_|apply zA|intro h|exact zT));all_goals conv=>whnf
      all_goals first
       |(refine⟨(),trivial,?_⟩
         exact leA)
       |(exfalso;simp_all;done)
     ·(repeat' ((conv=>whnf);first|refine zG ?_|apply zA|intro h|exact zT));all_goals conv=>whnf
      refine⟨(i+1,dn,im++[y]),⟨hil,hf1,heq,hd1,by simp only[aD,cR];omega⟩,by simp only;omega,?_⟩;simp only[aQ,aD,aR,bL,aB,aG,aN,aL];exact leA
  ·have hie:i=x.items.length:=by omega
   rw[hie,List.drop_length,I4]at heq;rw[heq]at hK;simp only[if_true]at hK;(repeat' ((conv=>whnf);first|(with_reducible first|refine hZ hnl ?_|refine hU hx ?_)|refine zG ?_|apply zA|intro h|exact zT));all_goals conv=>whnf
   simp only[aQ,aD,aR,bL,aB,aG]at hK;exact hK
section
variable {S T:Type} {v:It->S->Int×S} {w:It->T->Int×T} (f:S->T)
theorem Qz{rec:ByteArray->List Nat->S->Int×List Nat×S}{rec':ByteArray->List Nat->T->Int×List Nat×T}(hrec:∀nm d s,rec' nm d (f s)=((rec nm d s).1,(rec nm d s).2.1,f (rec nm d s).2.2)):
  ∀(its:List It) (d:List Nat) (s:S),(∀x,x∈its->x.kind≠3->∀s,(w x (f s)).1=(v x s).1/\(w x (f s)).2=f (v x s).2)->pS w rec' its d (f s)=((pS v rec its d s).1,(pS v rec its d s).2.1,f (pS v rec its d s).2.2)
 |[],d,s,_=>rfl
 |x::r,d,s,h=>by
  rw[pE,pE];have hq:(if x.kind=3 then rec' x.name d (f s)else((w x (f s)).1,d,(w x (f s)).2))=((if x.kind=3 then rec x.name d s else((v x s).1,d,(v x s).2)).1,(if x.kind=3 then rec x.name d s else((v x s).1,d,(v x s).2)).2.1,f (if x.kind=3 then rec x.name d s else((v x s).1,d,(v x s).2)).2.2):=by
   by_cases hk:x.kind=3
   ·simp only[aH hk];exact hrec _ _ _
   ·simp only[aF hk];obtain⟨h1,h2⟩:=h x zx hk s;rw[h1,h2]
  rw[hq];generalize (if x.kind=3 then rec x.name d s else((v x s).1,d,(v x s).2))=q at*;by_cases h0:q.1=0
  ·rw[aH h0,aH h0];exact Qz hrec r _ _ fun y hy=>h y (aS _ hy)
  ·rw[aF h0,aF h0]
theorem N8(l:List Df)(h:∀d,d∈l->∀x,x∈d.items->x.kind≠3->∀s,(w x (f s)).1=(v x s).1/\(w x (f s)).2=f (v x s).2):∀(k:Nat) (p:List Nat) (nm:ByteArray) (d:List Nat) (s:S),fol w l k p nm d (f s)=((fol v l k p nm d s).1,(fol v l k p nm d s).2.1,f (fol v l k p nm d s).2.2)
 |0,p,nm,d,s=>rfl
 |k+1,p,nm,d,s=>by
  unfold fol;cases hn:lK l nm with
  |none=>rfl
  |some n=>
   simp only;split
   ·rfl
   split
   ·rfl
   obtain⟨df,hdf,_⟩:=lD hn;rw[hdf];simp only[dF,cY];rw[Qz f (rec:=fol v l k (p++[n])) (rec':=fol w l k (p++[n])) (fun nm d s=>N8 l h k (p++[n]) nm d s) df.items d s (h df (aI hdf))];split<;>rfl
end
def Ks(t:Tp)(y:It):List Rg:=if y.kind=1 then(G5 t y.name).map (C7 t)else [y.pf.rg]
def wB(t:Tp)(its:List It):List Rg:=its.flatMap (Ks t)
theorem Fz(t:Tp)(its:List It)(x:It):wB t (its++[x])=wB t its++Ks t x:=by simp[wB]
theorem aBF{x:It}(h:itB x true=true)(hk:x.kind≠3):x.kind=1\/x.kind=2:=by
 unfold itB at h;by_cases h1:x.kind=1
 ·exact .inl h1
 by_cases h2:x.kind=2
 ·exact .inr h2
 rw[aF hk,aF h1,aF h2]at h;split at h<;>simp at h
theorem Zh{x:It}(h:itB x false=true)(hk:x.kind≠3):x.kind=4:=by
 unfold itB at h;by_cases h1:x.kind=1
 ·rw[aF hk,aH h1]at h;simp at h
 by_cases h2:x.kind=2
 ·rw[aF hk,aF h1,aH h2]at h;simp at h
 by_cases h4:x.kind=4
 ·exact h4
 rw[aF hk,aF h1,aF h2,aF h4]at h;simp at h
theorem To{l:List Df}{g:Bool}(h:DfsOk l g):∀d,d∈l->∀x,x∈d.items->itB x g=true:=fun d hd x hx=>by
 obtain⟨n,hn⟩:=bM.1 hd;exact(h.all n d hn).all x hx
theorem aFP{t:Tp}{l:List Df}(h:DfsOk l true){nm:ByteArray}(hn:sEq nm ⟨#[]⟩=false):tO t l nm=((fol (mA t) l (l.length+1) [] nm [] []).1,wB t (fol (mA t) l (l.length+1) [] nm [] []).2.2):=by
 have:=N8 (v:=mA t) (w:=nU t) (wB t) l (fun d hd x hx hk s=>by
  rcases aBF (To h d hd x hx) hk with h1|h2
  ·unfold nU mA;rw[aF zo];by_cases hz:G5 t x.name=[]
   ·rw[aH hz,aH ⟨h1,hz⟩];exact⟨rfl,rfl⟩
   ·rw[aF hz,aF fun hh=>hz hh.2];refine⟨rfl,?_⟩;rw[Fz,Ks,aH h1]
  ·unfold nU mA;rw[aH h2,aF fun hh=>by omega];refine⟨rfl,?_⟩;rw[Fz,Ks,aF zo]) (l.length+1) [] nm [] []
 unfold tO;rw[aF (by rw[hn];decide)];have e:wB t []=[]:=rfl;rw[e]at this;rw[this]
theorem aIU{l:List Df}(h:DfsOk l false)(t:Tp)(nm:ByteArray):xJ l nm=((fol (mA t) l (l.length+1) [] nm [] []).1,(fol (mA t) l (l.length+1) [] nm [] []).2.2):=by
 have:=N8 (v:=mA t) (w:=oP) id l (fun d hd x hx hk s=>by
  have h4:=Zh (To h d hd x hx) hk;unfold oP mA;rw[aF fun hh=>by omega];exact⟨rfl,rfl⟩) (l.length+1) [] nm [] []
 unfold xJ;simp only[id]at this;rw[this]
theorem aAS(t:Tp)(ht:t.edges.length<=1000)(l:List Df)(hl:l.length<=999)(hit:∀d,d∈l->d.items.length<=999)(s:ByteArray){K:KT}(hK:K (.tup [.lst ((fol (mA t) l (l.length+1) [] s [] []).2.2.map kM),.v (.int .i64 (fol (mA t) l (l.length+1) [] s [] []).1)]) []):
  AC 178 [kB t,.lst (l.map iG),.v (.string s)] [] K:=by
 refine gQ (Yo rfl rfl ?_);cases hfd:lK l s with
 |none=>
  have hq:fol (mA t) l (l.length+1) [] s [] []=(5,[],[]):=by simp only[fol,hfd]
  rw[hq]at hK;have hfi:∀{K:KT},K (.v (.int .i64 (-1))) []->AC 170 [.lst (l.map iG),.v (.string s)] [] K:=fun h=>Iv l s zo (by rw[Fh,mI,hfd];exact h);(repeat' ((conv=>whnf);first|(with_reducible refine hfi ?_)|refine zG ?_|apply zA|intro h|exact zT));all_goals conv=>whnf
  exact⟨_,gR gS gO,hK⟩
 |some m=>
  have hfi:∀{K:KT},K (.v (.int .i64 m)) []->AC 170 [.lst (l.map iG),.v (.string s)] [] K:=fun h=>Iv l s zo (by rw[Fh,mI,hfd];exact h);have hf:∀{K:KT},K (.v (.int .i64 (fol (mA t) l (l.length+1) [] s [] []).1)) [G3 l 3 4 (fol (mA t) l (l.length+1) [] s [] []).2.1.length (fol (mA t) l (l.length+1) [] s [] []).2.2.length,.box [],.box [],.arr 1 ((fol (mA t) l (l.length+1) [] s [] []).2.1.map vN),.arr 7 ((fol (mA t) l (l.length+1) [] s [] []).2.2.map kM)]->
   AC 245 [.op 0 0,kB t,.v (.int .i64 m),.nils] [G3 l 1 2 0 0,.arr 1 [],.arr 7 []] K:=fun {K} h=>
   ACall.args (ys:=[.op 0 0,kB t,.v (.int .i64 m),.lst (([]:List Nat).map vN)]) ⟨Weak.refl,gO,gO,gS,trivial⟩
    (aRj t ht l hl hit l.length [] m s [] [] (V7 l) hfd zx zx h)
  generalize fol (mA t) l (l.length+1) [] s [] []=q at*;obtain⟨qe,qd,qs⟩:=q;simp only at hf hK;(repeat' ((conv=>whnf);first|(with_reducible first|refine hfi ?_|refine hf ?_|refine iP (aA ..) ?_)|refine zG ?_|apply zA|intro h|exact zT));all_goals conv=>whnf
  all_goals first
   |exact⟨_,gO,hK⟩
   |(exfalso;omega)
theorem aIV(t:Tp)(its:List It)(k:Nat)(h12:t.edges.length<=12):(wB t (its.take k)).length<=12*k:=by
 have:∀m:List It,(wB t m).length<=12*m.length:=fun m=>by
  induction m with
  |nil=>simp[wB]
  |cons x m ih=>
   have hx:(Ks t x).length<=12:=by
    unfold Ks;split
    ·rw[aA];exact bA (vD ..) h12
    ·simp
   have e:wB t (x::m)=Ks t x++wB t m:=by simp[wB]
   rw[e,aD,aB];omega
 have h1:=this (its.take k);have h2:(its.take k).length<=k:=by rw[aZ];omega
 omega
theorem aDF(t:Tp):(List.range t.edges.length).map (C7 t)=t.edges.map fun e=>e.pf.rg:=by
 refine List.ext_getElem zx fun i h1 h2=>?_;have hi:i<t.edges.length:=by simpa using h2
 simp[C7,aE hi]
theorem aPY(L:List Rg)(hL:L.length<10000){K:KT}(hK:K (iH (uR (has L))) []):AC 175 [iH L,.lst []] [] K:=
 c14 L [] hL zx fun out h1 h2 h3=>by
  rw[uS h1 fun v=>by rw[h2];simp[oS]]at hK;exact hK
theorem aJD(t:Tp)(ht:t.edges.length<1000000)(i:Nt)(hb:Bnd i)(nm:ByteArray){K:KT}(hK:K (.tup [iH (aBE t i nm).1,.v (.int .i64 (aBE t i nm).2)]) []):
  AC 93 [kB t,iS i,.v (.string nm)] [] K:=by
 refine gQ (aCj rfl rfl ?_);unfold aBE at hK;by_cases hc:lT t=true
 rotate_left
 ·have hcf:lT t=false:=by simpa using hc
  rw[aF (fun hh=>hc hh.1)]at hK;(repeat' ((conv=>whnf);first|(with_reducible refine kX t ht ?_)|refine zG ?_|apply zA|intro h|exact zT));all_goals conv=>whnf
  exact⟨_,gR gS gO,hK⟩
 by_cases hn:ntB i=true
 rotate_left
 ·have hnf:ntB i=false:=by simpa using hn
  rw[aF (fun hh=>hn hh.2)]at hK;(repeat' ((conv=>whnf);first|(with_reducible first|refine kX t ht ?_|refine pY i hb ?_)|refine zG ?_|apply zA|intro h|exact zT));all_goals conv=>whnf
  exact⟨_,gR gS gO,hK⟩
 rw[aH ⟨hc,hn⟩]at hK;have hg:=(ntB_iff.1 hn).g;have h12:=zH hc;have hits:=hb.its;unfold lZ at hK;by_cases hnm:sEq nm ⟨#[]⟩=true
 ·have e:tO t i.grps nm=(0,t.edges.map fun e=>e.pf.rg):=by unfold tO;rw[aH hnm]
  rw[e,aH rfl,<-aDF]at hK;have hnm2:(nm.toList==(⟨#[]⟩:ByteArray).toList)=true:=hnm;(repeat' ((conv=>whnf);first|(with_reducible first|refine kX t ht ?_|refine pY i hb ?_|refine aRg t zo ?_|refine aJC t (List.range t.edges.length) (by rw[fI];omega) (fun n hn=>dJ.1 hn) ?_|refine aPY _ (by rw[aA,fI];omega) ?_)|refine zG ?_|apply zA|intro h|exact zT));all_goals conv=>whnf
  exact⟨_,gO,hK⟩
 ·have hnf:sEq nm ⟨#[]⟩=false:=by simpa using hnm
  have hnm2:(nm.toList==(⟨#[]⟩:ByteArray).toList)=false:=hnf;rw[aFP hg hnf]at hK;have hf:=fun {K} h=>@aAS t zo i.grps hb.g hb.gi nm K h;have hlen:=N7 (mA t) List.length 1 (fun x s h0=>by
   unfold mA at h0⊢;split
   ·simp
   ·simp) i.grps nm []
  generalize fol (mA t) i.grps (i.grps.length+1) [] nm [] []=q at*;obtain⟨qe,qd,its⟩:=q;simp only at hf hK hlen;by_cases h0:qe=0
  rotate_left
  ·rw[aF h0]at hK;(repeat' ((conv=>whnf);first|(with_reducible first|refine kX t ht ?_|refine pY i hb ?_|refine hf ?_)|refine zG ?_|apply zA|intro h|exact zT));all_goals conv=>whnf
   all_goals first
    |exact⟨_,gR gS gO,hK⟩
    |(exfalso;omega)
  subst h0;rw[aH rfl]at hK;have hlen:=hlen rfl;simp only[aG]at hlen;(repeat' ((conv=>whnf);first|(with_reducible first|refine kX t ht ?_|refine pY i hb ?_|refine hf ?_)|refine zG ?_|apply zA|intro h|exact zT));all_goals conv=>whnf
  refine gM Nat (fun k=>⟨2,[(0,kU t),(1,.arr 2 ((wB t (its.take k)).map jR))],[(3,.op 0 0),(8,.lst (its.map kM)),(10,.os 1 2 0 (wB t (its.take k)).length),(11,.v (.int .i64 k))]⟩)
   (fun k=>k<=its.length) (fun k=>its.length-k) 0 (aO _) ?_ ?_
  ·rw[cP];exact leA
  intro k h1;have hrl:=aIV t its k h12;rcases aC k its.length with hkl|hkl
  ·obtain⟨y,hy⟩:=gex hkl;have hs:wB t (its.take (k+1))=wB t (its.take k)++Ks t y:=by rw[bF,hy];exact Fz ..
   generalize wB t (its.take k)=A at*;have hzl:(G5 t y.name).length<=12:=bA (vD ..) h12;have hzb:∀n,n∈G5 t y.name->n<t.edges.length:=fun n hn=>(aBX hn).1;(repeat' ((conv=>whnf);first|(with_reducible first|refine hZ hkl ?_|refine hU hy ?_|refine Tq t _ zo ?_|refine aJC t (G5 t y.name) zo hzb ?_|refine Xx _ ?_)|refine zG ?_|apply zA|intro h|exact zT));all_goals conv=>whnf
   all_goals first
    |(refine⟨k+1,hkl,by omega,?_⟩
      rw[hs,Ks,aH zo];simp only[aQ,aD,aA,aN,aL];exact leA)
    |(refine⟨k+1,hkl,by omega,?_⟩
      rw[hs,Ks,aF zo];simp only[aQ,aD,aR,bL,aB,aG,aN,aL];exact leA)
  ·rw[aU hkl]at hrl⊢;(repeat' ((conv=>whnf);first|(with_reducible first|refine iP (aA ..) ?_|refine aPY (wB t its) zo ?_)|refine zG ?_|apply zA|intro h|exact zT));all_goals conv=>whnf
   exact⟨_,gO,hK⟩
theorem aJF(i:Nt)(hb:Bnd i)(nm:ByteArray){K:KT}(hK:K (.tup [iE (aDW i nm).1,.v (.int .i64 (aDW i nm).2)]) []):
  AC 94 [iS i,.v (.string nm)] [] K:=by
 refine gQ (aCn rfl rfl ?_);unfold aDW at hK;by_cases hn:ntB i=true
 rotate_left
 ·have hnf:ntB i=false:=by simpa using hn
  rw[aF hn]at hK;(repeat' ((conv=>whnf);first|(with_reducible refine pY i hb ?_)|refine zG ?_|apply zA|intro h|exact zT));all_goals conv=>whnf
  exact⟨_,gR gS gO,hK⟩
 rw[aH hn]at hK;have hs:=(ntB_iff.1 hn).s;unfold qK at hK;by_cases hnm:sEq nm ⟨#[]⟩=true
 ·rw[aH hnm]at hK;have hnm2:(nm.toList==(⟨#[]⟩:ByteArray).toList)=true:=hnm;(repeat' ((conv=>whnf);first|(with_reducible first|refine pY i hb ?_|refine Vr ?_)|refine zG ?_|apply zA|intro h|exact zT));all_goals conv=>whnf
  exact⟨_,gO,hK⟩
 ·rw[aF hnm]at hK;have hnm2:(nm.toList==(⟨#[]⟩:ByteArray).toList)=false:=by simpa[sEq]using hnm
  have hlen:=Ss (l:=i.svcs) (nm:=nm);have hsn:=hb.sits;have hok:(xJ i.svcs nm).1=0->∀x,x∈(xJ i.svcs nm).2->(oX x).ok:=fun h0 x hx=>by
   obtain⟨d,hd,hxd,hx3⟩:=Yb (((aDX h0).2 x).1 hx);exact aGl (To hs d hd x hxd) hx3
  rw[aIU hs tp0 nm]at hK hlen hok;have hf:∀{K:KT},K (.tup [.lst ((fol (mA tp0) i.svcs (i.svcs.length+1) [] nm [] []).2.2.map kM),.v (.int .i64 (fol (mA tp0) i.svcs (i.svcs.length+1) [] nm [] []).1)]) []->
   AC 178 [.agg [.lst [],.lst [],.lst [],.lst [],.v (.int .i64 0)],.lst (i.svcs.map iG),.v (.string nm)] [] K:=fun h=>aAS tp0 (by simp[tp0]) i.svcs hb.s hb.si nm h
  generalize fol (mA tp0) i.svcs (i.svcs.length+1) [] nm [] []=q at*;obtain⟨qe,qd,its⟩:=q;simp only at hf hK hlen hok;by_cases h0:qe=0
  rotate_left
  ·rw[aH h0]at hK;(repeat' ((conv=>whnf);first|(with_reducible first|refine pY i hb ?_|refine hf ?_)|refine zG ?_|apply zA|intro h|exact zT));all_goals conv=>whnf
   all_goals first
    |exact⟨_,gR gS gO,hK⟩
    |(exfalso;omega)
  subst h0;rw[aF zd]at hK;have hlen:=hlen rfl;have hok:=hok rfl;(repeat' ((conv=>whnf);first|(with_reducible first|refine pY i hb ?_|refine hf ?_)|refine zG ?_|apply zA|intro h|exact zT));all_goals conv=>whnf
  refine gM (Nat×List Bx) (fun g=>⟨0,[],[(6,.lst (its.map kM)),(8,iE g.2),(9,.v (.int .i64 g.1))]⟩) (fun g=>g.1<=its.length/\kN g.2=true/\Ez its []=Ez (its.drop g.1) g.2) (fun g=>its.length-g.1) (0,[]) ⟨aO _,lC,by rw[cA]⟩ ?_ ?_
  ·exact leA
  rintro⟨k,s⟩ ⟨hk,hs,heq⟩
  simp only at hk hs heq⊢;have hsl:=(rZ hs).len;rcases aC k its.length with hkl|hkl
  ·obtain⟨x,hx⟩:=gex hkl;have hd:its.drop k=x::its.drop (k+1):=by
    rw[aE hkl]at hx;rw[<-bG hx,<-bB hkl]
   rw[hd,Dg,aF (by rw[(aAq wT (hok x (aI hx))).1];decide)]at heq;have hsA:=jM anB initS [oX x];have hsB:=jM orB s (iF anB initS [oX x]).1;have hal:=(rZ hsA).len;have hu:=fun {K} h=>@aQx s (iF anB initS [oX x]).1 zo zo K h;have hh:=fun {K} h=>@aQa x K h;generalize iF orB s (iF anB initS [oX x]).1=B at*;generalize iF anB initS [oX x]=A at*;obtain⟨As,Ae⟩:=A;obtain⟨Bs,Be⟩:=B;simp only at heq hsA hsB hu hh;(repeat' ((conv=>whnf);first|(with_reducible first|refine hZ hkl ?_|refine hU hx ?_|refine hh ?_|refine hu ?_)|refine zG ?_|apply zA|intro h|exact zT));all_goals conv=>whnf
   all_goals first
    |(rw[aF (fun hn=>hn zw)]at heq
      refine⟨(k+1,Bs),⟨hkl,hsB,heq⟩,by simp only;omega,?_⟩;simp only[aN,aL];exact leA)
    |(rw[aH h]at heq
      rw[heq]at hK;exact⟨_,gR gS gO,hK⟩)
  ·rw[bV hkl]at heq;rw[heq]at hK;(repeat' ((conv=>whnf);first|refine zG ?_|apply zA|intro h|exact zT));all_goals conv=>whnf
   exact⟨_,gO,hK⟩
theorem aJB(a b:List Rg)(ha:a.length<=860)(hb:b.length<=860){K:KT}(hK:K (.tup [iE (kR (kZ a b)).1,.v (.int .i64 (kR (kZ a b)).2)]) []):AC 100 [iH a,iH b] [] K:=by
 refine aCf rfl rfl ?_;(repeat' ((conv=>whnf);first|refine zG ?_|apply zA|intro h|exact zT));all_goals conv=>whnf
 refine gM Nat (fun i=>⟨1,[(0,.arr 10 ((kZ (a.take i) b).map iY))],[(0,iH a),(1,iH b),(6,.os 0 10 0 (kZ (a.take i) b).length),(7,.v (.int .i64 i))]⟩) (fun i=>i<=a.length) (fun i=>a.length-i) 0 (aO _) ?_ ?_
 ·rw[cP,Z4];exact leA
 intro i hi;have hl:=Ie b (a.take i);have hm:(a.take i).length*b.length<=860*860:=eJ (by rw[aZ];omega) hb;rcases aC i a.length with hil|hil
 ·obtain⟨r,hr⟩:=gex hil;have hs:kZ (a.take (i+1)) b=kZ (a.take i) b++b.map fun s=>rL r s:=by rw[bF,hr];exact Xn ..
  generalize kZ (a.take i) b=A at*;(repeat' ((conv=>whnf);first|refine zG ?_|apply zA|intro h|exact zT));all_goals conv=>whnf
  refine gM Nat (fun k=>⟨1,[(0,.arr 10 ((A++(b.take k).map fun s=>rL r s).map iY))],[(0,iH a),(1,iH b),(6,.os 0 10 0 (A++(b.take k).map fun s=>rL r s).length),(7,.v (.int .i64 i)),(8,.v (.int .i64 k))]⟩) (fun k=>k<=b.length) (fun k=>b.length-k) 0 (aO _) ?_ ?_
  ·rw[cP,bL,bI];exact leA
  intro k hk;rcases aC k b.length with hkl|hkl
  ·obtain⟨s,hs2⟩:=gex hkl;have hap:(A++(b.take (k+1)).map fun s=>rL r s)=(A++(b.take k).map fun s=>rL r s)++[rL r s]:=by rw[bF,hs2];simp
   have hlen:(A++(b.take k).map fun s=>rL r s).length<=1000000:=by rw[aD,aA,aZ];omega
   generalize hB:(A++(b.take (k+1)).map fun s=>rL r s)=B at*;generalize (A++(b.take k).map fun s=>rL r s)=C at*;(repeat' ((conv=>whnf);first|(with_reducible first|refine Nn ?_|refine hZ hil ?_|refine hZ hkl ?_|refine hU hr ?_|refine hU hs2 ?_)|(refine kP zd ?_)|refine zG ?_|apply zA|intro h|exact zT));all_goals conv=>whnf
   all_goals
    refine⟨k+1,hkl,by omega,?_⟩;rw[hB,hap,aQ,aD,aN k,aL];exact leA
  ·(repeat' ((conv=>whnf);first|refine zG ?_|apply zA|intro h|exact zT));all_goals conv=>whnf
   have hke:k=b.length:=by omega
   rw[hke,dA,<-hs];refine⟨i+1,hil,by omega,?_⟩;rw[aN i,aL];exact leA
 ·have hie:i=a.length:=by omega
  have hbl:(kZ a b).length<1000000000:=by
   have:=eJ ha hb;rw[Ie];omega
  rw[hie,dA];have hfull:((kZ a b).map iY).length=(kZ a b).length:=aA ..;(repeat' ((conv=>whnf);first|(with_reducible first|refine iP hfull ?_|refine Vt (kZ a b) hbl ?_)|refine zG ?_|apply zA|intro h|exact zT));all_goals conv=>whnf
  exact hK
theorem aJE(t:Tp)(ht:t.edges.length<1000000)(i:Nt)(hb:Bnd i)(n:Int){K:KT}(hK:K (.tup [iE (F4 t i n).1,.v (.int .i64 (F4 t i n).2)]) []):AC 38 [kB t,iS i,.v (.int .i64 n)] [] K:=by
 refine gQ (aCm rfl rfl ?_);unfold F4 at hK;have bt:=hb.t;by_cases hc:lT t=true
 rotate_left
 ·have hcf:lT t=false:=by simpa using hc
  rw[aF (fun hh=>hc hh.1)]at hK;(repeat' ((conv=>whnf);first|(with_reducible refine kX t ht ?_)|refine zG ?_|apply zA|intro h|exact zT));all_goals conv=>whnf
  exact⟨_,gR gS gO,hK⟩
 by_cases hn:ntB i=true
 rotate_left
 ·have hnf:ntB i=false:=by simpa using hn
  rw[aF (fun hh=>hn hh.2)]at hK;(repeat' ((conv=>whnf);first|(with_reducible first|refine kX t ht ?_|refine pY i hb ?_)|refine zG ?_|apply zA|intro h|exact zT));all_goals conv=>whnf
  exact⟨_,gR gS gO,hK⟩
 rw[aH ⟨hc,hn⟩]at hK;by_cases hr:n<0\/(i.sts.length:Int)<=n
 ·rw[aH hr]at hK;(repeat' ((conv=>whnf);first|(with_reducible first|refine kX t ht ?_|refine pY i hb ?_)|refine zG ?_|apply zA|intro h|exact zT));all_goals conv=>whnf
  all_goals first
   |exact⟨_,gR gS gO,hK⟩
   |(exfalso;simp only[aA]at*;omega)
 rw[aF hr]at hK;obtain⟨k,rfl⟩:=dS (show 0<=n by omega);have hkl:k<i.sts.length:=by omega
 obtain⟨s,hs⟩:=gex hkl;simp only[eQ,hs]at hK;have hl:=fun nm=>Q7 hc hb nm;have hg:∀(nm:ByteArray) {K:KT},K (.tup [iH (lZ t i nm).1,.v (.int .i64 (lZ t i nm).2)]) []->AC 93 [kB t,iS i,.v (.string nm)] [] K:=fun nm K h=>aJD t ht i hb nm (by rw[aBE,aH ⟨hc,hn⟩];exact h);unfold kV at hK;have l1:=hl s.frm;have l2:=hl s.to;have l4:=hl s.exF;have l5:=hl s.exT;have g1:=fun {K} h=>@hg s.frm K h;have g2:=fun {K} h=>@hg s.to K h;have g4:=fun {K} h=>@hg s.exF K h;have g5:=fun {K} h=>@hg s.exT K h;have g3:∀{K:KT},K (.tup [iE (qK i s.svc).1,.v (.int .i64 (qK i s.svc).2)]) []->AC 94 [iS i,.v (.string s.svc)] [] K:=fun h=>aJF i hb s.svc (by rw[aDW,aH hn];exact h);have s3:=Su i s.svc;clear hg hl;generalize lZ t i s.frm=F at*;generalize lZ t i s.to=G at*;generalize lZ t i s.exF=O at*;generalize lZ t i s.exT=N at*;generalize qK i s.svc=V at*;obtain⟨Fs,Fe⟩:=F;obtain⟨Gs,Ge⟩:=G;obtain⟨Os,Oe⟩:=O;obtain⟨Ns,Ne⟩:=N;obtain⟨Vs,Ve⟩:=V;simp only at l1 l2 l4 l5 g1 g2 g3 g4 g5 s3 hK;have hvl:=lS s3;have b1:=fun {K} h=>@aJB Fs Gs l1 l2 K h;have sB:=pA (kZ Fs Gs);have i1:=fun {K} h=>@aAv (kR (kZ Fs Gs)).1 Vs (lS sB) hvl K h;have sC:=jM anB (kR (kZ Fs Gs)).1 Vs;have b2:=fun {K} h=>@aJB Os Ns l4 l5 K h;have sD:=pA (kZ Os Ns);have i2:=fun {K} h=>@aKF (iF anB (kR (kZ Fs Gs)).1 Vs).1 (kR (kZ Os Ns)).1 (lS sC) (lS sD) K h;generalize hB:kR (kZ Fs Gs)=B at*;generalize hD:kR (kZ Os Ns)=D at*;generalize hC:iF anB B.1 Vs=C at*;generalize hX:iF woB C.1 D.1=X at*;obtain⟨Bs,Be⟩:=B;obtain⟨Cs,Ce⟩:=C;obtain⟨Ds,De⟩:=D;obtain⟨Xs,Xe⟩:=X;simp only at b1 i1 b2 i2 hC hX;by_cases f0:Fe=0
 rotate_left
 ·rw[lN (x:=(Fs,Fe)) f0]at hK;(repeat' ((conv=>whnf);first|(with_reducible first|refine kX t ht ?_|refine pY i hb ?_|refine hZ hkl ?_|refine hU hs ?_|refine g1 ?_)|refine zG ?_|apply zA|intro h|exact zT));all_goals conv=>whnf
  all_goals first
   |exact⟨_,gR gS gO,hK⟩
   |(exfalso;(try simp only[aA]at*);omega)
 rw[jG (x:=(Fs,Fe)) f0]at hK;by_cases f1:Ge=0
 rotate_left
 ·rw[lN (x:=(Gs,Ge)) f1]at hK;(repeat' ((conv=>whnf);first|(with_reducible first|refine kX t ht ?_|refine pY i hb ?_|refine hZ hkl ?_|refine hU hs ?_|refine g1 ?_|refine g2 ?_)|refine zG ?_|apply zA|intro h|exact zT));all_goals conv=>whnf
  all_goals first
   |exact⟨_,gR gS gO,hK⟩
   |(exfalso;(try simp only[aA]at*);omega)
 rw[jG (x:=(Gs,Ge)) f1]at hK;by_cases f2:Ve=0
 rotate_left
 ·rw[lN (x:=(Vs,Ve)) f2]at hK;(repeat' ((conv=>whnf);first|(with_reducible first|refine kX t ht ?_|refine pY i hb ?_|refine hZ hkl ?_|refine hU hs ?_|refine g1 ?_|refine g2 ?_|refine g3 ?_)|refine zG ?_|apply zA|intro h|exact zT));all_goals conv=>whnf
  all_goals first
   |exact⟨_,gR gS gO,hK⟩
   |(exfalso;(try simp only[aA]at*);omega)
 rw[jG (x:=(Vs,Ve)) f2]at hK;simp only[hB]at hK;by_cases hex:s.exc=true
 ·simp only[hex,if_true]at hK;by_cases f3:Oe=0
  rotate_left
  ·rw[lN (x:=(Os,Oe)) f3]at hK;(repeat' ((conv=>whnf);first|(with_reducible first|refine kX t ht ?_|refine pY i hb ?_|refine hZ hkl ?_|refine hU hs ?_|refine g1 ?_|refine g2 ?_|refine g3 ?_|refine g4 ?_)|refine zG ?_|apply zA|intro h|exact zT));all_goals conv=>whnf
   all_goals first
    |exact⟨_,gR gS gO,hK⟩
    |(exfalso;(try simp only[aA]at*);omega)
  rw[jG (x:=(Os,Oe)) f3]at hK;by_cases f4:Ne=0
  rotate_left
  ·rw[lN (x:=(Ns,Ne)) f4]at hK;(repeat' ((conv=>whnf);first|(with_reducible first|refine kX t ht ?_|refine pY i hb ?_|refine hZ hkl ?_|refine hU hs ?_|refine g1 ?_|refine g2 ?_|refine g3 ?_|refine g4 ?_|refine g5 ?_)|refine zG ?_|apply zA|intro h|exact zT));all_goals conv=>whnf
   all_goals first
    |exact⟨_,gR gS gO,hK⟩
    |(exfalso;(try simp only[aA]at*);omega)
  rw[jG (x:=(Ns,Ne)) f4]at hK;simp only[hD]at hK;by_cases f5:Be=0
  rotate_left
  ·rw[lN (x:=(Bs,Be)) f5]at hK;(repeat' ((conv=>whnf);first|(with_reducible first|refine kX t ht ?_|refine pY i hb ?_|refine hZ hkl ?_|refine hU hs ?_|refine g1 ?_|refine g2 ?_|refine g3 ?_|refine g4 ?_|refine g5 ?_|refine b1 ?_)|refine zG ?_|apply zA|intro h|exact zT));all_goals conv=>whnf
   all_goals first
    |exact⟨_,gR gS gO,hK⟩
    |(exfalso;(try simp only[aA]at*);omega)
  rw[jG (x:=(Bs,Be)) f5]at hK;simp only[hC]at hK;by_cases f6:Ce=0
  rotate_left
  ·rw[aH (.inl f6)]at hK;(repeat' ((conv=>whnf);first|(with_reducible first|refine kX t ht ?_|refine pY i hb ?_|refine hZ hkl ?_|refine hU hs ?_|refine g1 ?_|refine g2 ?_|refine g3 ?_|refine g4 ?_|refine g5 ?_|refine b1 ?_|refine i1 ?_)|refine zG ?_|apply zA|intro h|exact zT));all_goals conv=>whnf
   all_goals first
    |exact⟨_,gO,hK⟩
    |(exfalso;(try simp only[aA]at*);omega)
  rw[aF (fun hh=>hh.elim (fun hn=>hn f6) (fun hn=>by cases hn))]at hK;by_cases f7:De=0
  rotate_left
  ·rw[lN (x:=(Ds,De)) f7]at hK;(repeat' ((conv=>whnf);first|(with_reducible first|refine kX t ht ?_|refine pY i hb ?_|refine hZ hkl ?_|refine hU hs ?_|refine g1 ?_|refine g2 ?_|refine g3 ?_|refine g4 ?_|refine g5 ?_|refine b1 ?_|refine i1 ?_|refine b2 ?_)|refine zG ?_|apply zA|intro h|exact zT));all_goals conv=>whnf
   all_goals first
    |exact⟨_,gR gS gO,hK⟩
    |(exfalso;(try simp only[aA]at*);omega)
  rw[jG (x:=(Ds,De)) f7]at hK;simp only[hX]at hK;(repeat' ((conv=>whnf);first|(with_reducible first|refine kX t ht ?_|refine pY i hb ?_|refine hZ hkl ?_|refine hU hs ?_|refine g1 ?_|refine g2 ?_|refine g3 ?_|refine g4 ?_|refine g5 ?_|refine b1 ?_|refine i1 ?_|refine b2 ?_|refine i2 ?_)|refine zG ?_|apply zA|intro h|exact zT));all_goals conv=>whnf
  all_goals first
   |exact⟨_,gO,hK⟩
   |(exfalso;(try simp only[aA]at*);omega)
 ·have hexf:s.exc=false:=by simpa using hex
  simp only[hexf,bT,if_false]at hK;rw[jG (x:=(([]:List Rg),(0:Int))) rfl,jG (x:=(([]:List Rg),(0:Int))) rfl]at hK;by_cases f5:Be=0
  rotate_left
  ·rw[lN (x:=(Bs,Be)) f5]at hK;(repeat' ((conv=>whnf);first|(with_reducible first|refine kX t ht ?_|refine pY i hb ?_|refine hZ hkl ?_|refine hU hs ?_|refine g1 ?_|refine g2 ?_|refine g3 ?_|refine b1 ?_)|refine zG ?_|apply zA|intro h|exact zT));all_goals conv=>whnf
   all_goals first
    |exact⟨_,gR gS gO,hK⟩
    |(exfalso;(try simp only[aA]at*);omega)
  rw[jG (x:=(Bs,Be)) f5]at hK;simp only[hC,or_true,if_true]at hK;(repeat' ((conv=>whnf);first|(with_reducible first|refine kX t ht ?_|refine pY i hb ?_|refine hZ hkl ?_|refine hU hs ?_|refine g1 ?_|refine g2 ?_|refine g3 ?_|refine b1 ?_|refine i1 ?_)|refine zG ?_|apply zA|intro h|exact zT));all_goals conv=>whnf
  all_goals first
   |exact⟨_,gO,hK⟩
   |(exfalso;(try simp only[aA]at*);omega)
theorem aRi(t:Tp)(s:ByteArray)(hd:t.devs.length<1000000){K:KT}(hK:K (.sb (t.devs.any fun d=>sEq d.cls s)) []):AC 95 [kB t,.v (.string s)] [] K:=by
 refine gP (aCh rfl rfl ?_);(repeat' ((conv=>whnf);first|refine zG ?_|apply zA|intro h|exact zT));all_goals conv=>whnf
 refine gM Nat (fun k=>⟨1,[(0,kU t)],[(1,.v (.string s)),(2,.op 0 0),(5,.v (.int .i64 k))]⟩) (fun k=>k<=t.devs.length/\∀(j:Nat) x,j<k->t.devs[j]? =some x->sEq x.cls s=false) (fun k=>t.devs.length-k) 0 ⟨aO _,fun j x h=>absurd h (bC _)⟩ ?_ ?_
 ·exact leA
 intro k ⟨hk,hinv⟩;rcases aC k t.devs.length with hkl|hkl
 ·obtain⟨x,hx⟩:=gex hkl;(repeat' ((conv=>whnf);first|(with_reducible first|refine hZ hkl ?_|refine hU hx ?_)|refine zG ?_|apply zA|intro h|exact zT));all_goals conv=>whnf
  all_goals first
   |exact jU hK (dE.2 ⟨x,aI hx,h⟩)
   |(refine⟨k+1,⟨hkl,iD hx (by first|exact h|simpa[sEq]using h) hinv⟩,by omega,?_⟩
     rw[aN,aL];exact leA)
 ·(repeat' ((conv=>whnf);first|refine zG ?_|apply zA|intro h|exact zT));all_goals conv=>whnf
  refine iL hK ?_;rw[cB,ne_eq,dE]
  rintro⟨x,hx,hc⟩
  obtain⟨j,hj⟩:=bM.1 hx;have:=iC hkl hinv j x hj;rw[hc]at this;cases this
theorem aRh(t:Tp)(ht:t.edges.length<1000000)(hd:t.devs.length<1000000)(i:Nt)(hb:Bnd i){K:KT}(hK:K (.v (.int .i64 (Kl t i))) []):AC 36 [kB t,iS i] [] K:=by
 have bg:=hb.g;have bs:=hb.s;have bt:=hb.t;have bp:=hb.p;have bh:=hb.h;refine aCg rfl rfl ?_;unfold Kl at hK;by_cases hc:lT t=true
 rotate_left
 ·have hcf:lT t=false:=by simpa using hc
  rw[aF (fun hh=>hc hh.1)]at hK;(repeat' ((conv=>whnf);first|(with_reducible refine kX t ht ?_)|refine zG ?_|apply zA|intro h|exact zT));all_goals conv=>whnf
  exact hK
 by_cases hn:ntB i=true
 rotate_left
 ·have hnf:ntB i=false:=by simpa using hn
  rw[aF (fun hh=>hn hh.2)]at hK;(repeat' ((conv=>whnf);first|(with_reducible first|refine kX t ht ?_|refine pY i hb ?_)|refine zG ?_|apply zA|intro h|exact zT));all_goals conv=>whnf
  exact hK
 rw[aH ⟨hc,hn⟩,Ng]at hK;have hg:∀(nm:ByteArray) {K:KT},K (.tup [iH (lZ t i nm).1,.v (.int .i64 (lZ t i nm).2)]) []->AC 93 [kB t,iS i,.v (.string nm)] [] K:=fun nm K h=>aJD t ht i hb nm (by rw[aBE,aH ⟨hc,hn⟩];exact h);have hs:∀(nm:ByteArray) {K:KT},K (.tup [iE (qK i nm).1,.v (.int .i64 (qK i nm).2)]) []->AC 94 [iS i,.v (.string nm)] [] K:=fun nm K h=>aJF i hb nm (by rw[aDW,aH hn];exact h);have hm:∀(k:Nat) (s:Sm),k<i.sts.length->i.sts[k]? =some s->∀{K:KT},K (.tup [iE (kV t i s).1,.v (.int .i64 (kV t i s).2)]) []->AC 38 [kB t,iS i,.v (.int .i64 k)] [] K:=fun k s hk hs K h=>aJE t ht i hb k (by
  rw[F4,aH ⟨hc,hn⟩,aF zo,eQ,hs];exact h)
 (repeat' ((conv=>whnf);first|(with_reducible first|refine kX t ht ?_|refine pY i hb ?_)|refine zG ?_|apply zA|intro h|exact zT));all_goals conv=>whnf
 refine gM Nat (fun n=>⟨2,[(0,kU t),(1,mD i)],[(2,.op 0 0),(3,.op 1 0),(5,.v (.int .i64 n))]⟩) (fun n=>n<=i.grps.length/\lG (fun d:Df=>(lZ t i d.name).2) i.grps=lG (fun d:Df=>(lZ t i d.name).2) (i.grps.drop n)) (fun n=>i.grps.length-n) 0 ⟨aO _,by rw[cA]⟩ ?_ ?_
 ·exact leA
 intro n ⟨hn1,heq⟩;rcases aC n i.grps.length with hnl|hnl
 ·obtain⟨x,hx⟩:=gex hnl;have hdr:i.grps.drop n=x::i.grps.drop (n+1):=by
   rw[aE hnl]at hx;rw[<-bG hx,<-bB hnl]
  rw[hdr,mF]at heq;have hgx:=fun {K} h=>@hg x.name K h;generalize lZ t i x.name=G at*;obtain⟨Gs,Ge⟩:=G;simp only at heq hgx;(repeat' ((conv=>whnf);first|(with_reducible first|refine hZ hnl ?_|refine hU hx ?_|refine hgx ?_)|refine zG ?_|apply zA|intro h|exact zT));all_goals conv=>whnf
  all_goals first
   |(rw[aF (fun hh=>hh h)]at heq
     refine⟨n+1,⟨hnl,heq⟩,by omega,?_⟩;rw[aN,aL];exact leA)
   |(rw[aH h]at heq
     rw[heq,aH h]at hK;exact hK)
 rw[bV hnl]at heq;have e0:lG (fun d:Df=>(lZ t i d.name).2) i.grps=0:=heq;clear heq;(repeat' ((conv=>whnf);first|refine zG ?_|apply zA|intro h|exact zT));all_goals conv=>whnf
 refine gM Nat (fun n=>⟨2,[(0,kU t),(1,mD i)],[(2,.op 0 0),(3,.op 1 0),(8,.v (.int .i64 n))]⟩) (fun n=>n<=i.svcs.length/\lG (fun d:Df=>(qK i d.name).2) i.svcs=lG (fun d:Df=>(qK i d.name).2) (i.svcs.drop n)) (fun n=>i.svcs.length-n) 0 ⟨aO _,by rw[cA]⟩ ?_ ?_
 ·exact leA
 intro n ⟨hn1,heq⟩;rcases aC n i.svcs.length with hnl|hnl
 ·obtain⟨x,hx⟩:=gex hnl;have hdr:i.svcs.drop n=x::i.svcs.drop (n+1):=by
   rw[aE hnl]at hx;rw[<-bG hx,<-bB hnl]
  rw[hdr,mF]at heq;have hsx:=fun {K} h=>@hs x.name K h;generalize qK i x.name=G at*;obtain⟨Gs,Ge⟩:=G;simp only at heq hsx;(repeat' ((conv=>whnf);first|(with_reducible first|refine hZ hnl ?_|refine hU hx ?_|refine hsx ?_)|refine zG ?_|apply zA|intro h|exact zT));all_goals conv=>whnf
  all_goals first
   |(rw[aF (fun hh=>hh h)]at heq
     refine⟨n+1,⟨hnl,heq⟩,by omega,?_⟩;rw[aN,aL];exact leA)
   |(rw[aH h]at heq
     rw[aF (fun hh=>hh e0)]at hK;rw[heq,aH h]at hK;exact hK)
 rw[bV hnl]at heq;have e1:lG (fun d:Df=>(qK i d.name).2) i.svcs=0:=heq;clear heq;(repeat' ((conv=>whnf);first|refine zG ?_|apply zA|intro h|exact zT));all_goals conv=>whnf
 refine gM Nat (fun n=>⟨2,[(0,kU t),(1,mD i)],[(2,.op 0 0),(3,.op 1 0),(11,.v (.int .i64 n))]⟩) (fun n=>n<=i.sts.length/\lG (fun s:Sm=>if(kV t i s).2≠0 then(kV t i s).2 else vE t i s) i.sts=lG (fun s:Sm=>if(kV t i s).2≠0 then(kV t i s).2 else vE t i s) (i.sts.drop n)) (fun n=>i.sts.length-n) 0 ⟨aO _,by rw[cA]⟩ ?_ ?_
 ·exact leA
 intro n ⟨hn1,heq⟩;rcases aC n i.sts.length with hnl|hnl
 ·obtain⟨x,hx⟩:=gex hnl;have hdr:i.sts.drop n=x::i.sts.drop (n+1):=by
   rw[aE hnl]at hx;rw[<-bG hx,<-bB hnl]
  rw[hdr,mF]at heq;have hmx:=fun {K} h=>@hm n x hnl hx K h;generalize kV t i x=G at*;obtain⟨Gs,Ge⟩:=G;simp only at heq hmx;have hN:vE t i x=if((x.cls.toList==(⟨#[]⟩:ByteArray).toList)||(t.devs.any fun d=>sEq d.cls x.cls))&&((x.dur.toList==(⟨#[]⟩:ByteArray).toList)||decide (0<=E6 i.wins x.dur))then 0 else 5:=by
   unfold vE;rw[<-uD (fun w:Wn=>sEq w.name x.dur) i.wins];rfl
  (repeat' ((conv=>whnf);first|(with_reducible first|refine hZ hnl ?_|refine hU hx ?_|refine hmx ?_|refine aRi t x.cls zo ?_|refine Hq i.wins x.dur (by have:=hb.w;omega) ?_)|refine zG ?_|apply zA|intro h|exact zT));all_goals conv=>whnf
  all_goals first
   |(have hge:¬Ge=0:=by with_reducible assumption
     rw[aH hge,aH hge]at heq;rw[aF (fun hh=>hh e0),aF (fun hh=>hh e1)]at hK;rw[heq,aH hge]at hK;exact hK)
   |(have hge:Ge=0:=by with_reducible assumption
     have hz:vE t i x=0:=by
      clear heq hK hmx hg hs hm;rw[hN];simp_all;try omega
     rw[aF (show ¬(Ge≠0)from fun hh=>hh hge),hz,aF (fun hh=>hh rfl)]at heq;refine⟨n+1,⟨hnl,heq⟩,by omega,?_⟩;rw[aN,aL];exact leA)
   |(have hge:Ge=0:=by with_reducible assumption
     have hz:vE t i x=5:=by
      clear heq hK hmx hg hs hm;rw[hN];simp_all;try omega
     rw[aF (show ¬(Ge≠0)from fun hh=>hh hge),hz,aH zd]at heq;rw[aF (fun hh=>hh e0),aF (fun hh=>hh e1)]at hK;rw[heq,aH zd]at hK;exact hK)
 rw[bV hnl]at heq;have e2:lG (fun s:Sm=>if(kV t i s).2≠0 then(kV t i s).2 else vE t i s) i.sts=0:=heq;clear heq;(repeat' ((conv=>whnf);first|refine zG ?_|apply zA|intro h|exact zT));all_goals conv=>whnf
 refine gM Nat (fun n=>⟨2,[(0,kU t),(1,mD i)],[(2,.op 0 0),(3,.op 1 0),(15,.v (.int .i64 n))]⟩) (fun n=>n<=i.pubs.length/\lG (fun p:Pb=>if lP t.edges p.edge<0 then 5 else 0) i.pubs=lG (fun p:Pb=>if lP t.edges p.edge<0 then 5 else 0) (i.pubs.drop n)) (fun n=>i.pubs.length-n) 0 ⟨aO _,by rw[cA]⟩ ?_ ?_
 ·exact leA
 intro n ⟨hn1,heq⟩;rcases aC n i.pubs.length with hnl|hnl
 ·obtain⟨x,hx⟩:=gex hnl;have hdr:i.pubs.drop n=x::i.pubs.drop (n+1):=by
   rw[aE hnl]at hx;rw[<-bG hx,<-bB hnl]
  rw[hdr,mF]at heq;(repeat' ((conv=>whnf);first|(with_reducible first|refine hZ hnl ?_|refine hU hx ?_|refine Tj t _ ht ?_)|refine zG ?_|apply zA|intro h|exact zT));all_goals conv=>whnf
  all_goals first
   |(rw[aF h,aF zd]at heq
     refine⟨n+1,⟨hnl,heq⟩,by omega,?_⟩;rw[aN,aL];exact leA)
   |(rw[aH h,aH zd]at heq
     rw[aF (fun hh=>hh e0),aF (fun hh=>hh e1),aF (fun hh=>hh e2)]at hK;rw[heq,aH zd]at hK;exact hK)
 rw[bV hnl]at heq;have e3:lG (fun p:Pb=>if lP t.edges p.edge<0 then 5 else 0) i.pubs=0:=heq;clear heq;(repeat' ((conv=>whnf);first|refine zG ?_|apply zA|intro h|exact zT));all_goals conv=>whnf
 refine gM Nat (fun n=>⟨2,[(0,kU t),(1,mD i)],[(2,.op 0 0),(3,.op 1 0),(16,.v (.int .i64 n))]⟩) (fun n=>n<=i.hids.length/\lG (fun h:Hn=>if lP t.edges h.edge<0 then 5 else(lZ t i h.grp).2) i.hids=lG (fun h:Hn=>if lP t.edges h.edge<0 then 5 else(lZ t i h.grp).2) (i.hids.drop n)) (fun n=>i.hids.length-n) 0 ⟨aO _,by rw[cA]⟩ ?_ ?_
 ·exact leA
 intro n ⟨hn1,heq⟩;rcases aC n i.hids.length with hnl|hnl
 ·obtain⟨x,hx⟩:=gex hnl;have hdr:i.hids.drop n=x::i.hids.drop (n+1):=by
   rw[aE hnl]at hx;rw[<-bG hx,<-bB hnl]
  rw[hdr,mF]at heq;have hgx:=fun {K} h=>@hg x.grp K h;generalize lZ t i x.grp=G at*;obtain⟨Gs,Ge⟩:=G;simp only at heq hgx;(repeat' ((conv=>whnf);first|(with_reducible first|refine hZ hnl ?_|refine hU hx ?_|refine Tj t _ ht ?_|refine hgx ?_)|refine zG ?_|apply zA|intro h|exact zT));all_goals conv=>whnf
  all_goals first
   |(rename_i hz
     rw[aF hz,aF (fun hh=>hh h)]at heq;refine⟨n+1,⟨hnl,heq⟩,by omega,?_⟩;rw[aN,aL];exact leA)
   |(rw[aH h,aH zd]at heq
     rw[aF (fun hh=>hh e0),aF (fun hh=>hh e1),aF (fun hh=>hh e2),aF (fun hh=>hh e3)]at hK;rw[heq]at hK;exact hK)
   |(rename_i hz
     rw[aF hz,aH h]at heq;rw[aF (fun hh=>hh e0),aF (fun hh=>hh e1),aF (fun hh=>hh e2),aF (fun hh=>hh e3)]at hK;rw[heq]at hK;exact hK)
 rw[bV hnl]at heq;have e4:lG (fun h:Hn=>if lP t.edges h.edge<0 then 5 else(lZ t i h.grp).2) i.hids=0:=heq;clear heq;rw[aF (fun hh=>hh e0),aF (fun hh=>hh e1),aF (fun hh=>hh e2),aF (fun hh=>hh e3),e4]at hK;(repeat' ((conv=>whnf);first|refine zG ?_|apply zA|intro h|exact zT));all_goals conv=>whnf
 exact hK
end Go.Proofs.YtnomkooikbhgmaaGreatDoor
