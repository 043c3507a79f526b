/- Lemmas. -/
import Derived.Test.YtgicddadddhonaaGreatDoorM33
set_option linter.unusedVariables false
set_option linter.unusedSimpArgs false
set_option maxRecDepth 100000
set_option maxHeartbeats 4000000
noncomputable section
namespace Go.Proofs.YtgicddadddhonaaGreatDoor
open Go Go.Vm
abbrev Hc(t:Tp)(s:ByteArray):List Nat:=ixs (fun e=>sEq e.zone s) t.edges t.edges.length
theorem aOH(p:Ed->Bool){l:List Ed}{k:Nat}{e:Ed}(h:l[k]? =some e)(hp:p e=false):ixs p l (k+1)=ixs p l k:=by rw[Jv p h,aF (by rw[hp];decide),bG]
theorem aHu(p:Ed->Bool){l:List Ed}{k:Nat}{e:Ed}(h:l[k]? =some e)(hp:p e=true):ixs p l (k+1)=ixs p l k++[k]:=by rw[Jv p h,aH hp]
theorem Tm(t:Tp)(s:ByteArray)(hl:t.edges.length<=1000){K:KT}(hK:K (.lst ((Hc t s).map vN)) []):AC 86 [jT t,.v (.string s)] [] K:=by
 refine Zc rfl rfl ?_;(repeat' ((conv=>whnf);first|refine zG ?_|apply zA|intro h|exact zT));all_goals conv=>whnf
 refine gV Nat (fun i=>⟨2,[(0,kM t),(1,.arr 1 ((ixs (fun e=>sEq e.zone s) t.edges i).map vN))],[(1,.v (.string s)),(2,.op 0 0),(5,.os 1 1 0 (ixs (fun e=>sEq e.zone s) t.edges i).length),(6,.v (.int .i64 i))]⟩)
  (fun i=>i<=t.edges.length) (fun i=>t.edges.length-i) 0 (aK _) ?_ ?_
 ·exact leA
 intro i h1;have hil2:=uV (fun e=>sEq e.zone s) t.edges i;rcases aD i t.edges.length with hil|hil
 ·obtain⟨x,hx⟩:=gex hil;(repeat' ((conv=>whnf);first|(with_reducible first|refine iI hil ?_|refine iH hx ?_)|refine zG ?_|apply zA|intro h|exact zT));all_goals conv=>whnf
  all_goals first
   |(refine⟨i+1,hil,by omega,?_⟩
     rw[aHu _ hx (show sEq x.zone s=true from h),aQ,aC,aN,aM];exact leA)
   |(refine⟨i+1,hil,by omega,?_⟩
     rw[aOH _ hx (show sEq x.zone s=false from h),aN,aM];exact leA)
 ·have hie:i=t.edges.length:=by omega
  subst hie;(repeat' ((conv=>whnf);first|(with_reducible refine iT (aA ..) ?_)|refine zG ?_|apply zA|intro h|exact zT));all_goals conv=>whnf
  exact hK
theorem aKG(t:Tp)(l:List Nat)(hl:l.length<=1000)(hb:∀n,n∈l->n<t.edges.length){K:KT}(hK:K (iR (l.map (vP t))) []):AC 83 [jT t,.lst (l.map vN)] [] K:=by
 refine aDc rfl rfl ?_;(repeat' ((conv=>whnf);first|refine zG ?_|apply zA|intro h|exact zT));all_goals conv=>whnf
 refine gV Nat (fun i=>⟨2,[(0,kM t),(1,.arr 2 (((l.take i).map (vP t)).map encR))],[(1,.lst (l.map vN)),(2,.op 0 0),(5,.os 1 2 0 ((l.take i).map (vP t)).length),(6,.v (.int .i64 i))]⟩)
  (fun i=>i<=l.length) (fun i=>l.length-i) 0 (aK _) ?_ ?_
 ·rw[cA];exact leA
 intro i h1;have htl:((l.take i).map (vP t)).length=i:=by rw[aA,aV];omega
 rcases aD i l.length with hil|hil
 ·obtain⟨n,hn⟩:=gex hil;have hnl:=hb n (aG hn);obtain⟨x,hx⟩:=gex hnl;have hs:(l.take (i+1)).map (vP t)=(l.take i).map (vP t)++[x.pf.rg]:=by rw[bE,hn,aQ];simp[vP,hx]
  generalize hA:(l.take i).map (vP t)=A at*;(repeat' ((conv=>whnf);first|(with_reducible first|refine iI hil ?_|refine iH hn ?_|refine iI hnl ?_|refine iH hx ?_|refine Qn _ ?_)|refine zG ?_|apply zA|intro h|exact zT));all_goals conv=>whnf
  all_goals first
   |(refine⟨i+1,hil,by omega,?_⟩
     rw[hs,aQ,aC,aN,aM];exact leA)
 ·rw[aW hil];(repeat' ((conv=>whnf);first|(with_reducible refine iT (aA ..) ?_)|refine zG ?_|apply zA|intro h|exact zT));all_goals conv=>whnf
  exact hK
theorem aSF(t:Tp)(hl:t.edges.length<=1000){K:KT}(hK:K (.lst ((List.range t.edges.length).map vN)) []):AC 84 [jT t] [] K:=by
 refine aCY rfl rfl ?_;(repeat' ((conv=>whnf);first|refine zG ?_|apply zA|intro h|exact zT));all_goals conv=>whnf
 refine gV Nat (fun i=>⟨2,[(0,kM t),(1,.arr 1 ((List.range i).map vN))],[(1,.op 0 0),(3,.os 1 1 0 (List.range i).length),(4,.v (.int .i64 i))]⟩)
  (fun i=>i<=t.edges.length) (fun i=>t.edges.length-i) 0 (aK _) ?_ ?_
 ·exact leA
 intro i h1;have hrl:(List.range i).length=i:=fL;rcases aD i t.edges.length with hil|hil
 ·have hs:List.range (i+1)=List.range i++[i]:=List.range_succ;generalize hA:List.range i=A at*;(repeat' ((conv=>whnf);first|refine zG ?_|apply zA|intro h|exact zT));all_goals conv=>whnf
  refine⟨i+1,hil,by omega,?_⟩;rw[hs,aQ,aC,aN,aM];exact leA
 ·have hie:i=t.edges.length:=by omega
  subst hie;(repeat' ((conv=>whnf);first|(with_reducible refine iT (aA ..) ?_)|refine zG ?_|apply zA|intro h|exact zT));all_goals conv=>whnf
  exact hK
def mD(t:Tp)(x:It)(its:List It):Int×List It:=if x.kind=1/\Hc t x.name=[]then(5,its)else(0,its++[x])
theorem aKc(t:Tp)(x:It)(its:List It)(h:(mD t x its).1=0):(mD t x its).2.length<=its.length+1000:=by
 unfold mD at h⊢;split at h
 ·simp at h
 ·rename_i hc;rw[aF hc];simp
theorem aSI(t:Tp)(ht:t.edges.length<=1000)(l:List Df)(hl:l.length<=999)(hit:∀d,d∈l->d.items.length<=999):∀(k:Nat) (path:List Nat) (n:Nat) (nm:ByteArray) (done:List Nat) (its:List It),Fine l path done->lR l nm=some n->path.length+k=l.length->its.length<=1000000*(done.length+path.length)->∀{K:KT},
  K (.v (.int .i64 (fol (mD t) l (k+1) path nm done its).1)) [Ha l 3 4 (fol (mD t) l (k+1) path nm done its).2.1.length (fol (mD t) l (k+1) path nm done its).2.2.length,.box [],.box [],.arr 1 ((fol (mD t) l (k+1) path nm done its).2.1.map vN),.arr 7 ((fol (mD t) l (k+1) path nm done its).2.2.map lA)]->
  AC 151 [.op 0 0,jT t,.v (.int .i64 n),.lst (path.map vN)] [Ha l 1 2 done.length its.length,.arr 1 (done.map vN),.arr 7 (its.map lA)] K:=by
 intro k
 induction k with
 |zero=>
  intro path n nm done its hf hn hk hsz K hK;obtain⟨x,hx,hname,hnl⟩:=lK hn;have hsm:=hf.small;have hm:n∈path:=Classical.byContradiction fun h=>by
   by_cases hd:n∈done
   ·have:0<done.length:=List.length_pos_of_mem hd;omega
   ·have:=(hf.push hn h hd).small;rw[aC]at this;simp only[cQ]at this;omega
  simp only[fol,hn,aH hm]at hK;refine D6 rfl rfl ?_;(repeat' ((conv=>whnf);first|(with_reducible refine Ln path n zo ?_)|refine zG ?_|apply zA|intro h|exact zT));all_goals conv=>whnf
  all_goals first
   |exact hK
   |(exfalso;simp_all;done)
 |succ k ih=>
  intro path n nm done its hf hn hk hsz K hK;obtain⟨x,hx,hname,hnl⟩:=lK hn;have hsm:=hf.small;have hlen:=hit x (aG hx);by_cases hm:n∈path
  ·simp only[fol,hn,aH hm]at hK;refine D6 rfl rfl ?_;(repeat' ((conv=>whnf);first|(with_reducible refine Ln path n zo ?_)|refine zG ?_|apply zA|intro h|exact zT));all_goals conv=>whnf
   all_goals first
    |exact hK
    |(exfalso;simp_all;done)
  by_cases hd:n∈done
  ·simp only[fol,hn,aF hm,aH hd]at hK;refine D6 rfl rfl ?_;(repeat' ((conv=>whnf);first|(with_reducible first|refine Ln path n zo ?_|refine Ln done n zo ?_|refine iT (by simp only[aA,aC,aB,aI]) ?_)|refine zG ?_|apply zA|intro h|exact zT));all_goals conv=>whnf
   all_goals first
    |exact hK
    |(exfalso;simp_all;done)
  rw[fol]at hK;simp only[hn,aF hm,aF hd,hx,dG,cY]at hK;have hpush:=hf.push hn hm hd;have hrec:∀(r:Int) (m:Nat) (y:ByteArray),r=m->lR l y=some m->∀(d':List Nat) (i':List It),Fine l (path++[n]) d'->i'.length<=1000000*(d'.length+(path.length+1))->∀{K:KT},
   K (.v (.int .i64 (fol (mD t) l (k+1) (path++[n]) y d' i').1)) [Ha l 3 4 (fol (mD t) l (k+1) (path++[n]) y d' i').2.1.length (fol (mD t) l (k+1) (path++[n]) y d' i').2.2.length,.box [],.box [],.arr 1 ((fol (mD t) l (k+1) (path++[n]) y d' i').2.1.map vN),.arr 7 ((fol (mD t) l (k+1) (path++[n]) y d' i').2.2.map lA)]->
   AC 151 [.op 0 0,jT t,.v (.int .i64 r),aEt path n] [Ha l 1 2 d'.length i'.length,.arr 1 (d'.map vN),.arr 7 (i'.map lA)] K:=fun r m y hr hy d' i' h1 h2 K h=>by
   subst hr;have e:aEt path n=.lst ((path++[n]).map vN):=by simp[aEt]
   rw[e];exact ih (path++[n]) m y d' i' h1 hy (by rw[aC,cQ];omega) (by rw[aC,cQ];omega) h
  clear ih;have hfed:=fun nm d s h h0=>Hx (mD t) List.length (aKc t) l hit (k+1) (path++[n]) nm d s h h0;refine D6 rfl rfl ?_;(repeat' ((conv=>whnf);first|(with_reducible first|refine Ln path n zo ?_|refine Ln done n zo ?_|refine iT (by simp only[aA,aC,aB,aI]) ?_)|refine zG ?_|apply zA|intro h|exact zT));all_goals conv=>whnf
  all_goals first
   |(exfalso;simp_all;done)
   |skip
  refine gV (Nat×List Nat×List It) (fun g=>⟨6,[(0,Ha l 3 4 g.2.1.length g.2.2.length),(3,.arr 1 (g.2.1.map vN)),(4,.arr 7 (g.2.2.map lA)),(5,kM t)],[(0,.op 0 0),(2,.v (.int .i64 n)),(3,aEt path n),(5,.op 5 0),(9,.v (.int .i64 g.1))]⟩)
   (fun g=>g.1<=x.items.length/\Fine l (path++[n]) g.2.1/\pS (mD t) (fol (mD t) l (k+1) (path++[n])) x.items done its=pS (mD t) (fol (mD t) l (k+1) (path++[n])) (x.items.drop g.1) g.2.1 g.2.2/\done.length<=g.2.1.length/\g.2.2.length+1000000*done.length<=its.length+1000000*g.2.1.length+1000*g.1)
   (fun g=>x.items.length-g.1) (0,done,its) ⟨aK _,hpush,by rw[bP],aO _,by simp only;omega⟩ ?_ ?_
  ·exact leA
  rintro⟨i,dn,im⟩ ⟨h1,hf1,heq,hd1,hz1⟩
  simp only at h1 hf1 heq hd1 hz1⊢;have hsm1:=hf1.small;rw[aC,cQ]at hsm1;rcases aD i x.items.length with hil|hil
  ·obtain⟨y,hy⟩:=gex hil;have hdr:x.items.drop i=y::x.items.drop (i+1):=by
    rw[bA hil]
    congr 1
    rw[aE hil]at hy;cases hy;rfl
   rw[hdr,pC]at heq;by_cases hk3:y.kind=3
   ·simp only[aH hk3]at heq;cases hfd:lR l y.name with
    |none=>
     have hq:fol (mD t) l (k+1) (path++[n]) y.name dn im=(5,dn,im):=by simp only[fol,hfd]
     rw[hq]at heq;simp only[show ¬((5:Int)=0) by decide,if_false]at heq;rw[heq]at hK;simp only[show ¬((5:Int)=0) by decide,if_false]at hK;have hfi:∀{K:KT},K (.v (.int .i64 (-1))) []->AC 150 [.lst (l.map iQ),.v (.string y.name)] [] K:=fun h=>I0 l y.name zo (by rw[Fc,mJ,hfd];exact h);(repeat' ((conv=>whnf);first|(with_reducible first|refine iI hnl ?_|refine iH hx ?_|refine iI hil ?_|refine iH hy ?_|refine hfi ?_)|refine zG ?_|apply zA|intro h|exact zT));all_goals conv=>whnf
     all_goals first
      |exact hK
      |(exfalso;omega)
    |some m=>
     have hfi:∀{K:KT},K (.v (.int .i64 m)) []->AC 150 [.lst (l.map iQ),.v (.string y.name)] [] K:=fun h=>I0 l y.name zo (by rw[Fc,mJ,hfd];exact h);have hc:=fun {K} h=>@hrec m m y.name rfl hfd dn im hf1 zo K h;have hfq:=hfed y.name dn im hf1;generalize fol (mD t) l (k+1) (path++[n]) y.name dn im=q at*;obtain⟨qe,qd,qs⟩:=q;simp only at heq hc hfq;(repeat' ((conv=>whnf);first|(with_reducible first|refine iI hnl ?_|refine iH hx ?_|refine iI hil ?_|refine iH hy ?_|refine hfi ?_|refine hc ?_)|refine zG ?_|apply zA|intro h|exact zT));all_goals conv=>whnf
     all_goals first
      |(exfalso;omega)
      |(have hne:¬qe=0:=by first|assumption|(intro e;simp_all;done)
        rw[heq,aF hne]at hK;simp only[aF hne]at hK;exact hK)
      |(have h0:qe=0:=by first|assumption|(simp_all;done)
        have hfq:=hfq h0;refine⟨(i+1,qd,qs),⟨hil,hfq.fine,by rw[heq,aH h0],by have:=hfq.le;simp only;omega,by have:=hfq.size;simp only;omega⟩,by simp only;omega,?_⟩;simp only[aN,aM];exact leA)
   ·simp only[aF hk3]at heq;by_cases hz:y.kind=1/\Hc t y.name=[]
    ·have hv:mD t y im=(5,im):=by rw[mD,aH hz]
     rw[hv]at heq;simp only[show ¬((5:Int)=0) by decide,if_false]at heq;rw[heq]at hK;simp only[show ¬((5:Int)=0) by decide,if_false]at hK;(repeat' ((conv=>whnf);first|(with_reducible first|refine iI hnl ?_|refine iH hx ?_|refine iI hil ?_|refine iH hy ?_)|refine zG ?_|apply zA|intro h|exact zT));all_goals conv=>whnf
     all_goals first
      |(exfalso;omega)
      |skip
     refine iD Unit (fun _=>⟨0,[],[]⟩) (fun _=>False) ?_ ?_
     ·(repeat' ((conv=>whnf);first|(with_reducible refine Tm t _ ht ?_)|refine zG ?_|apply zA|intro h|exact zT));all_goals conv=>whnf
      all_goals first
       |exact hK
       |(exfalso;simp_all;done)
     ·exact fun _ h=>h.elim
    ·have hv:mD t y im=(0,im++[y]):=by rw[mD,aF hz]
     rw[hv]at heq;simp only[if_true]at heq;(repeat' ((conv=>whnf);first|(with_reducible first|refine iI hnl ?_|refine iH hx ?_|refine iI hil ?_|refine iH hy ?_)|refine zG ?_|apply zA|intro h|exact zT));all_goals conv=>whnf
     all_goals first
      |(exfalso;omega)
      |skip
     refine Jn.at ⟨7,[(6,.box [.v (.int .i64 y.kind),.v (.string y.name),.v (.int .u32 y.pf.addr),.v (.int .i64 y.pf.bits),.v (.int .i64 y.proto),.v (.int .u32 y.ports.lo),.v (.int .u32 y.ports.hi)]),(0,Ha l 3 4 dn.length im.length),(3,.arr 1 (dn.map vN)),(4,.arr 7 (im.map lA)),(5,kM t)],[(0,.op 0 0),(2,.v (.int .i64 n)),(3,aEt path n),(5,.op 5 0),(9,.v (.int .i64 i)),(10,.op 6 0)]⟩ ?_ ?_
     ·(repeat' ((conv=>whnf);first|(with_reducible refine Tm t _ ht ?_)|refine zG ?_|apply zA|intro h|exact zT));all_goals conv=>whnf
      all_goals first
       |(refine⟨(),trivial,?_⟩
         exact leA)
       |(exfalso;simp_all;done)
     ·(repeat' ((conv=>whnf);first|refine zG ?_|apply zA|intro h|exact zT));all_goals conv=>whnf
      refine⟨(i+1,dn,im++[y]),⟨hil,hf1,heq,hd1,by simp only[aC,cQ];omega⟩,by simp only;omega,?_⟩;simp only[aQ,aC,aR,bI,aB,aI,aN,aM];exact leA
  ·have hie:i=x.items.length:=by omega
   rw[hie,List.drop_length,I7]at heq;rw[heq]at hK;simp only[if_true]at hK;(repeat' ((conv=>whnf);first|(with_reducible first|refine iI hnl ?_|refine iH hx ?_)|refine zG ?_|apply zA|intro h|exact zT));all_goals conv=>whnf
   simp only[aQ,aC,aR,bI,aB,aI]at hK;exact hK
section
variable {S T:Type} {v:It->S->Int×S} {w:It->T->Int×T} (f:S->T)
theorem Qx{rec:ByteArray->List Nat->S->Int×List Nat×S}{rec':ByteArray->List Nat->T->Int×List Nat×T}(hrec:∀nm d s,rec' nm d (f s)=((rec nm d s).1,(rec nm d s).2.1,f (rec nm d s).2.2)):
  ∀(its:List It) (d:List Nat) (s:S),(∀x,x∈its->x.kind≠3->∀s,(w x (f s)).1=(v x s).1/\(w x (f s)).2=f (v x s).2)->pS w rec' its d (f s)=((pS v rec its d s).1,(pS v rec its d s).2.1,f (pS v rec its d s).2.2)
 |[],d,s,_=>rfl
 |x::r,d,s,h=>by
  rw[pC,pC];have hq:(if x.kind=3 then rec' x.name d (f s)else((w x (f s)).1,d,(w x (f s)).2))=((if x.kind=3 then rec x.name d s else((v x s).1,d,(v x s).2)).1,(if x.kind=3 then rec x.name d s else((v x s).1,d,(v x s).2)).2.1,f (if x.kind=3 then rec x.name d s else((v x s).1,d,(v x s).2)).2.2):=by
   by_cases hk:x.kind=3
   ·simp only[aH hk];exact hrec _ _ _
   ·simp only[aF hk];obtain⟨h1,h2⟩:=h x zx hk s;rw[h1,h2]
  rw[hq];generalize (if x.kind=3 then rec x.name d s else((v x s).1,d,(v x s).2))=q at*;by_cases h0:q.1=0
  ·rw[aH h0,aH h0];exact Qx hrec r _ _ fun y hy=>h y (aS _ hy)
  ·rw[aF h0,aF h0]
theorem Oh(l:List Df)(h:∀d,d∈l->∀x,x∈d.items->x.kind≠3->∀s,(w x (f s)).1=(v x s).1/\(w x (f s)).2=f (v x s).2):∀(k:Nat) (p:List Nat) (nm:ByteArray) (d:List Nat) (s:S),fol w l k p nm d (f s)=((fol v l k p nm d s).1,(fol v l k p nm d s).2.1,f (fol v l k p nm d s).2.2)
 |0,p,nm,d,s=>rfl
 |k+1,p,nm,d,s=>by
  unfold fol;cases hn:lR l nm with
  |none=>rfl
  |some n=>
   simp only;split
   ·rfl
   split
   ·rfl
   obtain⟨df,hdf,_⟩:=lK hn;rw[hdf];simp only[dG,cY];rw[Qx f (rec:=fol v l k (p++[n])) (rec':=fol w l k (p++[n])) (fun nm d s=>Oh l h k (p++[n]) nm d s) df.items d s (h df (aG hdf))];split<;>rfl
end
def K4(t:Tp)(y:It):List Rg:=if y.kind=1 then(Hc t y.name).map (vP t)else [y.pf.rg]
def vQ(t:Tp)(its:List It):List Rg:=its.flatMap (K4 t)
theorem F2(t:Tp)(its:List It)(x:It):vQ t (its++[x])=vQ t its++K4 t x:=by simp[vQ]
theorem aCb{x:It}(h:itB x true=true)(hk:x.kind≠3):x.kind=1\/x.kind=2:=by
 unfold itB at h;by_cases h1:x.kind=1
 ·exact .inl h1
 by_cases h2:x.kind=2
 ·exact .inr h2
 rw[aF hk,aF h1,aF h2]at h;split at h<;>simp at h
theorem Z7{x:It}(h:itB x false=true)(hk:x.kind≠3):x.kind=4:=by
 unfold itB at h;by_cases h1:x.kind=1
 ·rw[aF hk,aH h1]at h;simp at h
 by_cases h2:x.kind=2
 ·rw[aF hk,aF h1,aH h2]at h;simp at h
 by_cases h4:x.kind=4
 ·exact h4
 rw[aF hk,aF h1,aF h2,aF h4]at h;simp at h
theorem Tl{l:List Df}{g:Bool}(h:DfsOk l g):∀d,d∈l->∀x,x∈d.items->itB x g=true:=fun d hd x hx=>by
 obtain⟨n,hn⟩:=bH.1 hd;exact(h.all n d hn).all x hx
theorem aGT{t:Tp}{l:List Df}(h:DfsOk l true){nm:ByteArray}(hn:sEq nm ⟨#[]⟩=false):qA t l nm=((fol (mD t) l (l.length+1) [] nm [] []).1,vQ t (fol (mD t) l (l.length+1) [] nm [] []).2.2):=by
 have:=Oh (v:=mD t) (w:=nF t) (vQ t) l (fun d hd x hx hk s=>by
  rcases aCb (Tl h d hd x hx) hk with h1|h2
  ·unfold nF mD;rw[aF zo];by_cases hz:Hc t x.name=[]
   ·rw[aH hz,aH ⟨h1,hz⟩];exact⟨rfl,rfl⟩
   ·rw[aF hz,aF fun hh=>hz hh.2];refine⟨rfl,?_⟩;rw[F2,K4,aH h1]
  ·unfold nF mD;rw[aH h2,aF fun hh=>by omega];refine⟨rfl,?_⟩;rw[F2,K4,aF zo]) (l.length+1) [] nm [] []
 unfold qA;rw[aF (by rw[hn];decide)];have e:vQ t []=[]:=rfl;rw[e]at this;rw[this]
theorem aJW{l:List Df}(h:DfsOk l false)(t:Tp)(nm:ByteArray):xA l nm=((fol (mD t) l (l.length+1) [] nm [] []).1,(fol (mD t) l (l.length+1) [] nm [] []).2.2):=by
 have:=Oh (v:=mD t) (w:=oS) id l (fun d hd x hx hk s=>by
  have h4:=Z7 (Tl h d hd x hx) hk;unfold oS mD;rw[aF fun hh=>by omega];exact⟨rfl,rfl⟩) (l.length+1) [] nm [] []
 unfold xA;simp only[id]at this;rw[this]
theorem aBn(t:Tp)(ht:t.edges.length<=1000)(l:List Df)(hl:l.length<=999)(hit:∀d,d∈l->d.items.length<=999)(s:ByteArray){K:KT}(hK:K (.tup [.lst ((fol (mD t) l (l.length+1) [] s [] []).2.2.map lA),.v (.int .i64 (fol (mD t) l (l.length+1) [] s [] []).1)]) []):
  AC 85 [jT t,.lst (l.map iQ),.v (.string s)] [] K:=by
 refine hJ (Zd rfl rfl ?_);cases hfd:lR l s with
 |none=>
  have hq:fol (mD t) l (l.length+1) [] s [] []=(5,[],[]):=by simp only[fol,hfd]
  rw[hq]at hK;have hfi:∀{K:KT},K (.v (.int .i64 (-1))) []->AC 150 [.lst (l.map iQ),.v (.string s)] [] K:=fun h=>I0 l s zo (by rw[Fc,mJ,hfd];exact h);(repeat' ((conv=>whnf);first|(with_reducible refine hfi ?_)|refine zG ?_|apply zA|intro h|exact zT));all_goals conv=>whnf
  exact⟨_,hU hZ gY,hK⟩
 |some m=>
  have hfi:∀{K:KT},K (.v (.int .i64 m)) []->AC 150 [.lst (l.map iQ),.v (.string s)] [] K:=fun h=>I0 l s zo (by rw[Fc,mJ,hfd];exact h);have hf:∀{K:KT},K (.v (.int .i64 (fol (mD t) l (l.length+1) [] s [] []).1)) [Ha l 3 4 (fol (mD t) l (l.length+1) [] s [] []).2.1.length (fol (mD t) l (l.length+1) [] s [] []).2.2.length,.box [],.box [],.arr 1 ((fol (mD t) l (l.length+1) [] s [] []).2.1.map vN),.arr 7 ((fol (mD t) l (l.length+1) [] s [] []).2.2.map lA)]->
   AC 151 [.op 0 0,jT t,.v (.int .i64 m),.nils] [Ha l 1 2 0 0,.arr 1 [],.arr 7 []] K:=fun {K} h=>
   ACall.args (ys:=[.op 0 0,jT t,.v (.int .i64 m),.lst (([]:List Nat).map vN)]) ⟨Weak.refl,gY,gY,hZ,trivial⟩
    (aSI t ht l hl hit l.length [] m s [] [] (We l) hfd zx zx h)
  generalize fol (mD t) l (l.length+1) [] s [] []=q at*;obtain⟨qe,qd,qs⟩:=q;simp only at hf hK;(repeat' ((conv=>whnf);first|(with_reducible first|refine hfi ?_|refine hf ?_|refine iT (aA ..) ?_)|refine zG ?_|apply zA|intro h|exact zT));all_goals conv=>whnf
  all_goals first
   |exact⟨_,gY,hK⟩
   |(exfalso;omega)
theorem aJX(t:Tp)(its:List It)(k:Nat)(h12:t.edges.length<=12):(vQ t (its.take k)).length<=12*k:=by
 have:∀m:List It,(vQ t m).length<=12*m.length:=fun m=>by
  induction m with
  |nil=>simp[vQ]
  |cons x m ih=>
   have hx:(K4 t x).length<=12:=by
    unfold K4;split
    ·rw[aA];exact bC (uV ..) h12
    ·simp
   have e:vQ t (x::m)=K4 t x++vQ t m:=by simp[vQ]
   rw[e,aC,aB];omega
 have h1:=this (its.take k);have h2:(its.take k).length<=k:=by rw[aV];omega
 omega
theorem aEB(t:Tp):(List.range t.edges.length).map (vP t)=t.edges.map fun e=>e.pf.rg:=by
 refine List.ext_getElem zx fun i h1 h2=>?_;have hi:i<t.edges.length:=by simpa using h2
 simp[vP,aE hi]
theorem aRI(L:List Rg)(hL:L.length<10000){K:KT}(hK:K (iR (Ik (has L))) []):AC 82 [iR L,.lst []] [] K:=
 c14 L [] hL zx fun out h1 h2 h3=>by
  rw[Dd h1 fun v=>by rw[h2];simp[oT]]at hK;exact hK
theorem Wb(t:Tp)(ht:t.edges.length<1000000)(i:Nt)(hb:Bnd i)(nm:ByteArray){K:KT}(hK:K (.tup [iR (Dy t i nm).1,.v (.int .i64 (Dy t i nm).2)]) []):
  AC 31 [jT t,jC i,.v (.string nm)] [] K:=by
 refine hJ (aDd rfl rfl ?_);unfold Dy at hK;by_cases hc:mE t=true
 rotate_left
 ·have hcf:mE t=false:=by simpa using hc
  rw[aF (fun hh=>hc hh.1)]at hK;(repeat' ((conv=>whnf);first|(with_reducible refine lG t ht ?_)|refine zG ?_|apply zA|intro h|exact zT));all_goals conv=>whnf
  exact⟨_,hU hZ gY,hK⟩
 by_cases hn:ntB i=true
 rotate_left
 ·have hnf:ntB i=false:=by simpa using hn
  rw[aF (fun hh=>hn hh.2)]at hK;(repeat' ((conv=>whnf);first|(with_reducible first|refine lG t ht ?_|refine sH i hb ?_)|refine zG ?_|apply zA|intro h|exact zT));all_goals conv=>whnf
  exact⟨_,hU hZ gY,hK⟩
 rw[aH ⟨hc,hn⟩]at hK;have hg:=(ntB_iff.1 hn).g;have h12:=yP hc;have hits:=hb.its;unfold kJ at hK;by_cases hnm:sEq nm ⟨#[]⟩=true
 ·have e:qA t i.grps nm=(0,t.edges.map fun e=>e.pf.rg):=by unfold qA;rw[aH hnm]
  rw[e,aH rfl,<-aEB]at hK;have hnm2:(nm.toList==(⟨#[]⟩:ByteArray).toList)=true:=hnm;(repeat' ((conv=>whnf);first|(with_reducible first|refine lG t ht ?_|refine sH i hb ?_|refine aSF t zo ?_|refine aKG t (List.range t.edges.length) (by rw[fL];omega) (fun n hn=>eG.1 hn) ?_|refine aRI _ (by rw[aA,fL];omega) ?_)|refine zG ?_|apply zA|intro h|exact zT));all_goals conv=>whnf
  exact⟨_,gY,hK⟩
 ·have hnf:sEq nm ⟨#[]⟩=false:=by simpa using hnm
  have hnm2:(nm.toList==(⟨#[]⟩:ByteArray).toList)=false:=hnf;rw[aGT hg hnf]at hK;have hf:=fun {K} h=>@aBn t zo i.grps hb.g hb.gi nm K h;have hlen:=Og (mD t) List.length 1 (fun x s h0=>by
   unfold mD at h0⊢;split
   ·simp
   ·simp) i.grps nm []
  generalize fol (mD t) i.grps (i.grps.length+1) [] nm [] []=q at*;obtain⟨qe,qd,its⟩:=q;simp only at hf hK hlen;by_cases h0:qe=0
  rotate_left
  ·rw[aF h0]at hK;(repeat' ((conv=>whnf);first|(with_reducible first|refine lG t ht ?_|refine sH i hb ?_|refine hf ?_)|refine zG ?_|apply zA|intro h|exact zT));all_goals conv=>whnf
   all_goals first
    |exact⟨_,hU hZ gY,hK⟩
    |(exfalso;omega)
  subst h0;rw[aH rfl]at hK;have hlen:=hlen rfl;simp only[aI]at hlen;(repeat' ((conv=>whnf);first|(with_reducible first|refine lG t ht ?_|refine sH i hb ?_|refine hf ?_)|refine zG ?_|apply zA|intro h|exact zT));all_goals conv=>whnf
  refine gV Nat (fun k=>⟨2,[(0,kM t),(1,.arr 2 ((vQ t (its.take k)).map encR))],[(3,.op 0 0),(8,.lst (its.map lA)),(10,.os 1 2 0 (vQ t (its.take k)).length),(11,.v (.int .i64 k))]⟩)
   (fun k=>k<=its.length) (fun k=>its.length-k) 0 (aK _) ?_ ?_
  ·rw[cA];exact leA
  intro k h1;have hrl:=aJX t its k h12;rcases aD k its.length with hkl|hkl
  ·obtain⟨y,hy⟩:=gex hkl;have hs:vQ t (its.take (k+1))=vQ t (its.take k)++K4 t y:=by rw[bE,hy];exact F2 ..
   generalize vQ t (its.take k)=A at*;have hzl:(Hc t y.name).length<=12:=bC (uV ..) h12;have hzb:∀n,n∈Hc t y.name->n<t.edges.length:=fun n hn=>(T7 hn).1;(repeat' ((conv=>whnf);first|(with_reducible first|refine iI hkl ?_|refine iH hy ?_|refine Tm t _ zo ?_|refine aKG t (Hc t y.name) zo hzb ?_|refine Qn _ ?_)|refine zG ?_|apply zA|intro h|exact zT));all_goals conv=>whnf
   all_goals first
    |(refine⟨k+1,hkl,by omega,?_⟩
      rw[hs,K4,aH zo];simp only[aQ,aC,aA,aN,aM];exact leA)
    |(refine⟨k+1,hkl,by omega,?_⟩
      rw[hs,K4,aF zo];simp only[aQ,aC,aR,bI,aB,aI,aN,aM];exact leA)
  ·rw[aW hkl]at hrl⊢;(repeat' ((conv=>whnf);first|(with_reducible first|refine iT (aA ..) ?_|refine aRI (vQ t its) zo ?_)|refine zG ?_|apply zA|intro h|exact zT));all_goals conv=>whnf
   exact⟨_,gY,hK⟩
theorem aKH(i:Nt)(hb:Bnd i)(nm:ByteArray){K:KT}(hK:K (.tup [iN (aEP i nm).1,.v (.int .i64 (aEP i nm).2)]) []):
  AC 123 [jC i,.v (.string nm)] [] K:=by
 refine hJ (aDh rfl rfl ?_);unfold aEP at hK;by_cases hn:ntB i=true
 rotate_left
 ·have hnf:ntB i=false:=by simpa using hn
  rw[aF hn]at hK;(repeat' ((conv=>whnf);first|(with_reducible refine sH i hb ?_)|refine zG ?_|apply zA|intro h|exact zT));all_goals conv=>whnf
  exact⟨_,hU hZ gY,hK⟩
 rw[aH hn]at hK;have hs:=(ntB_iff.1 hn).s;unfold rF at hK;by_cases hnm:sEq nm ⟨#[]⟩=true
 ·rw[aH hnm]at hK;have hnm2:(nm.toList==(⟨#[]⟩:ByteArray).toList)=true:=hnm;(repeat' ((conv=>whnf);first|(with_reducible first|refine sH i hb ?_|refine N2 ?_)|refine zG ?_|apply zA|intro h|exact zT));all_goals conv=>whnf
  exact⟨_,gY,hK⟩
 ·rw[aF hnm]at hK;have hnm2:(nm.toList==(⟨#[]⟩:ByteArray).toList)=false:=by simpa[sEq]using hnm
  have hlen:=Ss (l:=i.svcs) (nm:=nm);have hsn:=hb.sits;have hok:(xA i.svcs nm).1=0->∀x,x∈(xA i.svcs nm).2->(oW x).ok:=fun h0 x hx=>by
   obtain⟨d,hd,hxd,hx3⟩:=Y2 (((aEQ h0).2 x).1 hx);exact aHh (Tl hs d hd x hxd) hx3
  rw[aJW hs tp0 nm]at hK hlen hok;have hf:∀{K:KT},K (.tup [.lst ((fol (mD tp0) i.svcs (i.svcs.length+1) [] nm [] []).2.2.map lA),.v (.int .i64 (fol (mD tp0) i.svcs (i.svcs.length+1) [] nm [] []).1)]) []->
   AC 85 [.agg [.lst [],.lst [],.lst [],.lst [],.v (.int .i64 0)],.lst (i.svcs.map iQ),.v (.string nm)] [] K:=fun h=>aBn tp0 (by simp[tp0]) i.svcs hb.s hb.si nm h
  generalize fol (mD tp0) i.svcs (i.svcs.length+1) [] nm [] []=q at*;obtain⟨qe,qd,its⟩:=q;simp only at hf hK hlen hok;by_cases h0:qe=0
  rotate_left
  ·rw[aH h0]at hK;(repeat' ((conv=>whnf);first|(with_reducible first|refine sH i hb ?_|refine hf ?_)|refine zG ?_|apply zA|intro h|exact zT));all_goals conv=>whnf
   all_goals first
    |exact⟨_,hU hZ gY,hK⟩
    |(exfalso;omega)
  subst h0;rw[aF zd]at hK;have hlen:=hlen rfl;have hok:=hok rfl;(repeat' ((conv=>whnf);first|(with_reducible first|refine sH i hb ?_|refine hf ?_)|refine zG ?_|apply zA|intro h|exact zT));all_goals conv=>whnf
  refine gV (Nat×List Bx) (fun g=>⟨0,[],[(6,.lst (its.map lA)),(8,iN g.2),(9,.v (.int .i64 g.1))]⟩) (fun g=>g.1<=its.length/\jW g.2=true/\Ev its []=Ev (its.drop g.1) g.2) (fun g=>its.length-g.1) (0,[]) ⟨aK _,jP,by rw[bP]⟩ ?_ ?_
  ·exact leA
  rintro⟨k,s⟩ ⟨hk,hs,heq⟩
  simp only at hk hs heq⊢;have hsl:=(kU hs).len;rcases aD k its.length with hkl|hkl
  ·obtain⟨x,hx⟩:=gex hkl;have hd:its.drop k=x::its.drop (k+1):=by
    rw[aE hkl]at hx;rw[<-bB hx,<-bA hkl]
   rw[hd,zW,aF (by rw[(aAP D0 (hok x (aG hx))).1];decide)]at heq;have hsA:=jV anB initS [oW x];have hsB:=jV orB s (iP anB initS [oW x]).1;have hal:=(kU hsA).len;have hu:=fun {K} h=>@cr4Un s (iP anB initS [oW x]).1 zo zo K h;have hh:=fun {K} h=>@aRL x K h;generalize iP orB s (iP anB initS [oW x]).1=B at*;generalize iP anB initS [oW x]=A at*;obtain⟨As,Ae⟩:=A;obtain⟨Bs,Be⟩:=B;simp only at heq hsA hsB hu hh;(repeat' ((conv=>whnf);first|(with_reducible first|refine iI hkl ?_|refine iH hx ?_|refine hh ?_|refine hu ?_)|refine zG ?_|apply zA|intro h|exact zT));all_goals conv=>whnf
   all_goals first
    |(rw[aF (fun hn=>hn zw)]at heq
      refine⟨(k+1,Bs),⟨hkl,hsB,heq⟩,by simp only;omega,?_⟩;simp only[aN,aM];exact leA)
    |(rw[aH h]at heq
      rw[heq]at hK;exact⟨_,hU hZ gY,hK⟩)
  ·rw[bO hkl]at heq;rw[heq]at hK;(repeat' ((conv=>whnf);first|refine zG ?_|apply zA|intro h|exact zT));all_goals conv=>whnf
   exact⟨_,gY,hK⟩
abbrev U0:AV:=.lst (protos.map encR)
theorem aCk{x:Hn}{r q:Rg}{m:Nat}(hq:protos[m]? =some q):(m<3->pV (wH x r m)=.agg [.v (.int .u32 r.lo),.v (.int .u32 r.hi),.v (.int .u32 0),.v (.int .u32 4294967295),.v (.int .u32 q.lo),.v (.int .u32 q.hi),.v (.int .u32 0),.v (.int .u32 65535),.v (.int .u32 0),.v (.int .u32 65535),.v (.int .u32 x.addr),.v (.int .u32 x.ports.lo),.v (.int .u32 x.ports.hi)])/\
  (¬m<3->pV (wH x r m)=.agg [.v (.int .u32 r.lo),.v (.int .u32 r.hi),.v (.int .u32 0),.v (.int .u32 4294967295),.v (.int .u32 q.lo),.v (.int .u32 q.hi),.v (.int .u32 0),.v (.int .u32 65535),.v (.int .u32 0),.v (.int .u32 65535),.v (.int .u32 x.addr),.v (.int .u32 0),.v (.int .u32 0)]):=by
 have e:protos.getD m zR=q:=by simp[List.getD,hq]
 refine⟨fun h=>?_,fun h=>?_⟩
 ·unfold wH;rw[e,aH h];rfl
 ·unfold wH;rw[e,aF h];rfl
theorem aCE(t:Tp)(i:Nt)(n:Nat)(e:Ed)(he:t.edges[n]? =some e)(hc:mE t=true)(hn:ntB i=true)(hb:Bnd i)(ht:t.edges.length<1000000){K:KT}(hK:K (nN (uE t i e)) []):
  AC 65 [jT t,jC i,.v (.int .i64 n)] [] K:=by
 have hok:=ntB_iff.1 hn;have hhl:=hok.hl;have hgv:∀s:ByteArray,Dy t i s=kJ t i s:=fun s=>by rw[Dy,aH ⟨hc,hn⟩]
 refine hJ (Zp rfl rfl ?_);(repeat' ((conv=>whnf);first|refine zG ?_|apply zA|intro h|exact zT));all_goals conv=>whnf
 refine gV Nat (fun k=>⟨4,[(0,kM t),(1,lM i),(3,.arr 13 (((i.hids.take k).flatMap fun h=>if sEq h.edge e.name=true then vO t i h else []).map pV))],[(2,.v (.int .i64 n)),(3,.op 0 0),(4,.op 1 0),(7,U0),(8,.os 3 13 0 ((i.hids.take k).flatMap fun h=>if sEq h.edge e.name=true then vO t i h else []).length),(9,.v (.int .i64 k))]⟩) (fun k=>k<=i.hids.length) (fun k=>i.hids.length-k) 0 (aK _) ?_ ?_
 ·exact leA
 intro k hk;have hAl:((i.hids.take k).flatMap fun h=>if sEq h.edge e.name=true then vO t i h else []).length<=50000:=by
  have h1:=lH (fun h=>if sEq h.edge e.name=true then vO t i h else []) 6020 (i.hids.take k) fun h _=>by
   split
   ·exact wJ hc hb h
   ·exact aK _
  rw[aV]at h1;have:min k i.hids.length*6020<=8*6020:=bZ _ zo;omega
 rcases aD k i.hids.length with hkl|hkl
 ·obtain⟨x,hx⟩:=gex hkl;have hst:=tZ (fun h=>if sEq h.edge e.name=true then vO t i h else []) hx;generalize hA:((i.hids.take k).flatMap fun h=>if sEq h.edge e.name=true then vO t i h else [])=A at*;have hgl:=uD hc hb x.grp;have hgr:∀{K:KT},K (.tup [iR (kJ t i x.grp).1,.v (.int .i64 (kJ t i x.grp).2)]) []->AC 31 [jT t,jC i,.v (.string x.grp)] [] K:=fun h=>Wb t ht i hb x.grp (by rw[hgv];exact h);have hed:∀{K:KT},K (.v (.int .i64 (jX t.edges x.edge))) []->AC 20 [jT t,.v (.string x.edge)] [] K:=fun h=>vY t x.edge ht h;have hnm:=Hu hc he x.edge;generalize jX t.edges x.edge=ei at*;by_cases hs:sEq x.edge e.name=true
  case neg=>
   rw[aF hs,bG]at hst;have hne:ei≠(n:Int):=fun h=>hs (hnm.1 h);(repeat' ((conv=>whnf);first|(with_reducible first|refine iI hkl ?_|refine iH hx ?_|refine hed ?_)|refine zG ?_|apply zA|intro h|exact zT));all_goals conv=>whnf
   all_goals first
    |(refine⟨k+1,hkl,by omega,?_⟩
      rw[hst,aN,aM];exact leA)
    |(exfalso;omega)
  rw[aH hs]at hst;have hei:ei=(n:Int):=hnm.2 hs;have hHl:=wJ hc hb x;have hHe:vO t i x=(kJ t i x.grp).1.flatMap (oI x):=rfl;rw[hHe]at hst hHl;clear hHe;generalize kJ t i x.grp=G at*;obtain⟨G,ge⟩:=G;simp only at hgr hgl hst hHl;(repeat' ((conv=>whnf);first|(with_reducible first|refine iI hkl ?_|refine iH hx ?_|refine hed ?_|refine hgr ?_)|refine zG ?_|apply zA|intro h|exact zT));all_goals conv=>whnf
  all_goals first
   |(exfalso;omega)
   |skip
  clear hgr hgv;refine gV Nat (fun j=>⟨4,[(0,kM t),(1,lM i),(3,.arr 13 ((A++(G.take j).flatMap (oI x)).map pV))],[(2,.v (.int .i64 n)),(3,.op 0 0),(4,.op 1 0),(7,U0),(8,.os 3 13 0 (A++(G.take j).flatMap (oI x)).length),(9,.v (.int .i64 k)),(10,iR G),(12,.v (.int .i64 j))]⟩) (fun j=>j<=G.length) (fun j=>G.length-j) 0 (aK _) ?_ ?_
  ·rw[cA,List.flatMap_nil,bG];exact leA
  intro j hj;have hBl:(A++(G.take j).flatMap (oI x)).length<=60000:=by
   have h1:=lH (oI x) 7 (G.take j) fun r _=>aO _;rw[aV]at h1;rw[aC];omega
  rcases aD j G.length with hjl|hjl
  ·obtain⟨r,hr⟩:=gex hjl;have hst2:=tZ (oI x) hr;have hB2:A++(G.take (j+1)).flatMap (oI x)=(A++(G.take j).flatMap (oI x))++oI x r:=by rw[hst2,cM]
   generalize hBe:A++(G.take j).flatMap (oI x)=B at*;(repeat' ((conv=>whnf);first|refine zG ?_|apply zA|intro h|exact zT));all_goals conv=>whnf
   refine gV Nat (fun m=>⟨4,[(0,kM t),(1,lM i),(3,.arr 13 ((B++(List.range m).map (wH x r)).map pV))],[(2,.v (.int .i64 n)),(3,.op 0 0),(4,.op 1 0),(7,U0),(8,.os 3 13 0 (B++(List.range m).map (wH x r)).length),(9,.v (.int .i64 k)),(10,iR G),(12,.v (.int .i64 j)),(13,.v (.int .i64 m))]⟩) (fun m=>m<=7) (fun m=>7-m) 0 (aK _) ?_ ?_
   ·rw[List.range_zero,bI,bG];exact leA
   intro m hm;have hCl:(B++(List.range m).map (wH x r)).length<=70000:=by
    rw[aC,aA,fL];omega
   have hp7:(protos.map encR).length=7:=rfl;rcases aD m 7 with hml|hml
   ·have hmp:m<protos.length:=hml;obtain⟨q,hq⟩:=gex hmp;obtain⟨c1,c2⟩:=@aCk x r q m hq;have hst3:B++(List.range (m+1)).map (wH x r)=(B++(List.range m).map (wH x r))++[wH x r m]:=by rw[List.range_succ,aQ,cM];rfl
    generalize B++(List.range m).map (wH x r)=C at*;(repeat' ((conv=>whnf);first|(with_reducible first|refine iI hkl ?_|refine iH hx ?_|refine iI hjl ?_|refine iH hr ?_|refine iI hmp ?_|refine iH hq ?_|refine cr3Full ?_)|(refine kH zd ?_)|refine zG ?_|apply zA|intro h|exact zT));all_goals conv=>whnf
    all_goals first
     |(refine⟨m+1,hml,by omega,?_⟩
       rw[hst3,aQ,aR,bI,c1 zo,aC,aN m,aM];exact leA)
     |(refine⟨m+1,hml,by omega,?_⟩
       rw[hst3,aQ,aR,bI,c2 zo,aC,aN m,aM];exact leA)
   ·have hm7:m=7:=by omega
    subst hm7;have hrg:(List.range 7).map (wH x r)=oI x r:=rfl;rw[hrg];(repeat' ((conv=>whnf);first|refine zG ?_|apply zA|intro h|exact zT));all_goals conv=>whnf
    refine⟨j+1,hjl,by omega,?_⟩;rw[hB2,aN j,aM];exact leA
  ·rw[aW hjl];(repeat' ((conv=>whnf);first|refine zG ?_|apply zA|intro h|exact zT));all_goals conv=>whnf
   refine⟨k+1,hkl,by omega,?_⟩;rw[hst,aN,aM];exact leA
 ·rw[aW hkl];unfold uE at hK;(repeat' ((conv=>whnf);first|(with_reducible refine iT zx ?_)|refine zG ?_|apply zA|intro h|exact zT));all_goals conv=>whnf
  exact⟨_,gY,hK⟩
theorem aKF(a b:List Rg)(ha:a.length<=860)(hb:b.length<=860){K:KT}(hK:K (.tup [iN (kX (lJ a b)).1,.v (.int .i64 (kX (lJ a b)).2)]) []):AC 209 [iR a,iR b] [] K:=by
 refine aCZ rfl rfl ?_;(repeat' ((conv=>whnf);first|refine zG ?_|apply zA|intro h|exact zT));all_goals conv=>whnf
 refine gV Nat (fun i=>⟨1,[(0,.arr 10 ((lJ (a.take i) b).map iV))],[(0,iR a),(1,iR b),(6,.os 0 10 0 (lJ (a.take i) b).length),(7,.v (.int .i64 i))]⟩) (fun i=>i<=a.length) (fun i=>a.length-i) 0 (aK _) ?_ ?_
 ·rw[cA,aAx];exact leA
 intro i hi;have hl:=Ih b (a.take i);have hm:(a.take i).length*b.length<=860*860:=fP (by rw[aV];omega) hb;rcases aD i a.length with hil|hil
 ·obtain⟨r,hr⟩:=gex hil;have hs:lJ (a.take (i+1)) b=lJ (a.take i) b++b.map fun s=>rJ r s:=by rw[bE,hr];exact Yc ..
  generalize lJ (a.take i) b=A at*;(repeat' ((conv=>whnf);first|refine zG ?_|apply zA|intro h|exact zT));all_goals conv=>whnf
  refine gV Nat (fun k=>⟨1,[(0,.arr 10 ((A++(b.take k).map fun s=>rJ r s).map iV))],[(0,iR a),(1,iR b),(6,.os 0 10 0 (A++(b.take k).map fun s=>rJ r s).length),(7,.v (.int .i64 i)),(8,.v (.int .i64 k))]⟩) (fun k=>k<=b.length) (fun k=>b.length-k) 0 (aK _) ?_ ?_
  ·rw[cA,bI,bG];exact leA
  intro k hk;rcases aD k b.length with hkl|hkl
  ·obtain⟨s,hs2⟩:=gex hkl;have hap:(A++(b.take (k+1)).map fun s=>rJ r s)=(A++(b.take k).map fun s=>rJ r s)++[rJ r s]:=by rw[bE,hs2];simp
   have hlen:(A++(b.take k).map fun s=>rJ r s).length<=1000000:=by rw[aC,aA,aV];omega
   generalize hB:(A++(b.take (k+1)).map fun s=>rJ r s)=B at*;generalize (A++(b.take k).map fun s=>rJ r s)=C at*;(repeat' ((conv=>whnf);first|(with_reducible first|refine cr3Full ?_|refine iI hil ?_|refine iI hkl ?_|refine iH hr ?_|refine iH hs2 ?_)|(refine kH zd ?_)|refine zG ?_|apply zA|intro h|exact zT));all_goals conv=>whnf
   all_goals
    refine⟨k+1,hkl,by omega,?_⟩;rw[hB,hap,aQ,aC,aN k,aM];exact leA
  ·(repeat' ((conv=>whnf);first|refine zG ?_|apply zA|intro h|exact zT));all_goals conv=>whnf
   have hke:k=b.length:=by omega
   rw[hke,dF,<-hs];refine⟨i+1,hil,by omega,?_⟩;rw[aN i,aM];exact leA
 ·have hie:i=a.length:=by omega
  have hbl:(lJ a b).length<1000000000:=by
   have:=fP ha hb;rw[Ih];omega
  rw[hie,dF];have hfull:((lJ a b).map iV).length=(lJ a b).length:=aA ..;(repeat' ((conv=>whnf);first|(with_reducible first|refine iT hfull ?_|refine cr4Make (lJ a b) hbl ?_)|refine zG ?_|apply zA|intro h|exact zT));all_goals conv=>whnf
  exact hK
theorem aSJ(t:Tp)(ht:t.edges.length<1000000)(i:Nt)(hb:Bnd i)(n:Int){K:KT}(hK:K (.tup [iN (aJS t i n).1,.v (.int .i64 (aJS t i n).2)]) []):AC 124 [jT t,jC i,.v (.int .i64 n)] [] K:=by
 refine hJ (aDg rfl rfl ?_);unfold aJS at hK;have bt:=hb.t;by_cases hc:mE t=true
 rotate_left
 ·have hcf:mE t=false:=by simpa using hc
  rw[aF (fun hh=>hc hh.1)]at hK;(repeat' ((conv=>whnf);first|(with_reducible refine lG t ht ?_)|refine zG ?_|apply zA|intro h|exact zT));all_goals conv=>whnf
  exact⟨_,hU hZ gY,hK⟩
 by_cases hn:ntB i=true
 rotate_left
 ·have hnf:ntB i=false:=by simpa using hn
  rw[aF (fun hh=>hn hh.2)]at hK;(repeat' ((conv=>whnf);first|(with_reducible first|refine lG t ht ?_|refine sH i hb ?_)|refine zG ?_|apply zA|intro h|exact zT));all_goals conv=>whnf
  exact⟨_,hU hZ gY,hK⟩
 rw[aH ⟨hc,hn⟩]at hK;by_cases hr:n<0\/(i.sts.length:Int)<=n
 ·rw[aH hr]at hK;(repeat' ((conv=>whnf);first|(with_reducible first|refine lG t ht ?_|refine sH i hb ?_)|refine zG ?_|apply zA|intro h|exact zT));all_goals conv=>whnf
  all_goals first
   |exact⟨_,hU hZ gY,hK⟩
   |(exfalso;simp only[aA]at*;omega)
 rw[aF hr]at hK;obtain⟨k,rfl⟩:=eJ (show 0<=n by omega);have hkl:k<i.sts.length:=by omega
 obtain⟨s,hs⟩:=gex hkl;simp only[dY,hs]at hK;have hl:=fun nm=>uD hc hb nm;have hg:∀(nm:ByteArray) {K:KT},K (.tup [iR (kJ t i nm).1,.v (.int .i64 (kJ t i nm).2)]) []->AC 31 [jT t,jC i,.v (.string nm)] [] K:=fun nm K h=>Wb t ht i hb nm (by rw[Dy,aH ⟨hc,hn⟩];exact h);unfold qJ at hK;have l1:=hl s.frm;have l2:=hl s.to;have l4:=hl s.exF;have l5:=hl s.exT;have g1:=fun {K} h=>@hg s.frm K h;have g2:=fun {K} h=>@hg s.to K h;have g4:=fun {K} h=>@hg s.exF K h;have g5:=fun {K} h=>@hg s.exT K h;have g3:∀{K:KT},K (.tup [iN (rF i s.svc).1,.v (.int .i64 (rF i s.svc).2)]) []->AC 123 [jC i,.v (.string s.svc)] [] K:=fun h=>aKH i hb s.svc (by rw[aEP,aH hn];exact h);have s3:=Su i s.svc;clear hg hl;generalize kJ t i s.frm=F at*;generalize kJ t i s.to=G at*;generalize kJ t i s.exF=O at*;generalize kJ t i s.exT=N at*;generalize rF i s.svc=V at*;obtain⟨Fs,Fe⟩:=F;obtain⟨Gs,Ge⟩:=G;obtain⟨Os,Oe⟩:=O;obtain⟨Ns,Ne⟩:=N;obtain⟨Vs,Ve⟩:=V;simp only at l1 l2 l4 l5 g1 g2 g3 g4 g5 s3 hK;have hvl:=qN s3;have b1:=fun {K} h=>@aKF Fs Gs l1 l2 K h;have sB:=qI (lJ Fs Gs);have i1:=fun {K} h=>@cr4Int (kX (lJ Fs Gs)).1 Vs (qN sB) hvl K h;have sC:=jV anB (kX (lJ Fs Gs)).1 Vs;have b2:=fun {K} h=>@aKF Os Ns l4 l5 K h;have sD:=qI (lJ Os Ns);have i2:=fun {K} h=>@cr4Sub (iP anB (kX (lJ Fs Gs)).1 Vs).1 (kX (lJ Os Ns)).1 (qN sC) (qN sD) K h;generalize hB:kX (lJ Fs Gs)=B at*;generalize hD:kX (lJ Os Ns)=D at*;generalize hC:iP anB B.1 Vs=C at*;generalize hX:iP woB C.1 D.1=X at*;obtain⟨Bs,Be⟩:=B;obtain⟨Cs,Ce⟩:=C;obtain⟨Ds,De⟩:=D;obtain⟨Xs,Xe⟩:=X;simp only at b1 i1 b2 i2 hC hX;by_cases f0:Fe=0
 rotate_left
 ·rw[lV (x:=(Fs,Fe)) f0]at hK;(repeat' ((conv=>whnf);first|(with_reducible first|refine lG t ht ?_|refine sH i hb ?_|refine iI hkl ?_|refine iH hs ?_|refine g1 ?_)|refine zG ?_|apply zA|intro h|exact zT));all_goals conv=>whnf
  all_goals first
   |exact⟨_,hU hZ gY,hK⟩
   |(exfalso;(try simp only[aA]at*);omega)
 rw[kD (x:=(Fs,Fe)) f0]at hK;by_cases f1:Ge=0
 rotate_left
 ·rw[lV (x:=(Gs,Ge)) f1]at hK;(repeat' ((conv=>whnf);first|(with_reducible first|refine lG t ht ?_|refine sH i hb ?_|refine iI hkl ?_|refine iH hs ?_|refine g1 ?_|refine g2 ?_)|refine zG ?_|apply zA|intro h|exact zT));all_goals conv=>whnf
  all_goals first
   |exact⟨_,hU hZ gY,hK⟩
   |(exfalso;(try simp only[aA]at*);omega)
 rw[kD (x:=(Gs,Ge)) f1]at hK;by_cases f2:Ve=0
 rotate_left
 ·rw[lV (x:=(Vs,Ve)) f2]at hK;(repeat' ((conv=>whnf);first|(with_reducible first|refine lG t ht ?_|refine sH i hb ?_|refine iI hkl ?_|refine iH hs ?_|refine g1 ?_|refine g2 ?_|refine g3 ?_)|refine zG ?_|apply zA|intro h|exact zT));all_goals conv=>whnf
  all_goals first
   |exact⟨_,hU hZ gY,hK⟩
   |(exfalso;(try simp only[aA]at*);omega)
 rw[kD (x:=(Vs,Ve)) f2]at hK;simp only[hB]at hK;by_cases hex:s.exc=true
 ·simp only[hex,if_true]at hK;by_cases f3:Oe=0
  rotate_left
  ·rw[lV (x:=(Os,Oe)) f3]at hK;(repeat' ((conv=>whnf);first|(with_reducible first|refine lG t ht ?_|refine sH i hb ?_|refine iI hkl ?_|refine iH hs ?_|refine g1 ?_|refine g2 ?_|refine g3 ?_|refine g4 ?_)|refine zG ?_|apply zA|intro h|exact zT));all_goals conv=>whnf
   all_goals first
    |exact⟨_,hU hZ gY,hK⟩
    |(exfalso;(try simp only[aA]at*);omega)
  rw[kD (x:=(Os,Oe)) f3]at hK;by_cases f4:Ne=0
  rotate_left
  ·rw[lV (x:=(Ns,Ne)) f4]at hK;(repeat' ((conv=>whnf);first|(with_reducible first|refine lG t ht ?_|refine sH i hb ?_|refine iI hkl ?_|refine iH hs ?_|refine g1 ?_|refine g2 ?_|refine g3 ?_|refine g4 ?_|refine g5 ?_)|refine zG ?_|apply zA|intro h|exact zT));all_goals conv=>whnf
   all_goals first
    |exact⟨_,hU hZ gY,hK⟩
    |(exfalso;(try simp only[aA]at*);omega)
  rw[kD (x:=(Ns,Ne)) f4]at hK;simp only[hD]at hK;by_cases f5:Be=0
  rotate_left
  ·rw[lV (x:=(Bs,Be)) f5]at hK;(repeat' ((conv=>whnf);first|(with_reducible first|refine lG t ht ?_|refine sH i hb ?_|refine iI hkl ?_|refine iH hs ?_|refine g1 ?_|refine g2 ?_|refine g3 ?_|refine g4 ?_|refine g5 ?_|refine b1 ?_)|refine zG ?_|apply zA|intro h|exact zT));all_goals conv=>whnf
   all_goals first
    |exact⟨_,hU hZ gY,hK⟩
    |(exfalso;(try simp only[aA]at*);omega)
  rw[kD (x:=(Bs,Be)) f5]at hK;simp only[hC]at hK;by_cases f6:Ce=0
  rotate_left
  ·rw[aH (.inl f6)]at hK;(repeat' ((conv=>whnf);first|(with_reducible first|refine lG t ht ?_|refine sH i hb ?_|refine iI hkl ?_|refine iH hs ?_|refine g1 ?_|refine g2 ?_|refine g3 ?_|refine g4 ?_|refine g5 ?_|refine b1 ?_|refine i1 ?_)|refine zG ?_|apply zA|intro h|exact zT));all_goals conv=>whnf
   all_goals first
    |exact⟨_,gY,hK⟩
    |(exfalso;(try simp only[aA]at*);omega)
  rw[aF (fun hh=>hh.elim (fun hn=>hn f6) (fun hn=>by cases hn))]at hK;by_cases f7:De=0
  rotate_left
  ·rw[lV (x:=(Ds,De)) f7]at hK;(repeat' ((conv=>whnf);first|(with_reducible first|refine lG t ht ?_|refine sH i hb ?_|refine iI hkl ?_|refine iH hs ?_|refine g1 ?_|refine g2 ?_|refine g3 ?_|refine g4 ?_|refine g5 ?_|refine b1 ?_|refine i1 ?_|refine b2 ?_)|refine zG ?_|apply zA|intro h|exact zT));all_goals conv=>whnf
   all_goals first
    |exact⟨_,hU hZ gY,hK⟩
    |(exfalso;(try simp only[aA]at*);omega)
  rw[kD (x:=(Ds,De)) f7]at hK;simp only[hX]at hK;(repeat' ((conv=>whnf);first|(with_reducible first|refine lG t ht ?_|refine sH i hb ?_|refine iI hkl ?_|refine iH hs ?_|refine g1 ?_|refine g2 ?_|refine g3 ?_|refine g4 ?_|refine g5 ?_|refine b1 ?_|refine i1 ?_|refine b2 ?_|refine i2 ?_)|refine zG ?_|apply zA|intro h|exact zT));all_goals conv=>whnf
  all_goals first
   |exact⟨_,gY,hK⟩
   |(exfalso;(try simp only[aA]at*);omega)
 ·have hexf:s.exc=false:=by simpa using hex
  simp only[hexf,cK,if_false]at hK;rw[kD (x:=(([]:List Rg),(0:Int))) rfl,kD (x:=(([]:List Rg),(0:Int))) rfl]at hK;by_cases f5:Be=0
  rotate_left
  ·rw[lV (x:=(Bs,Be)) f5]at hK;(repeat' ((conv=>whnf);first|(with_reducible first|refine lG t ht ?_|refine sH i hb ?_|refine iI hkl ?_|refine iH hs ?_|refine g1 ?_|refine g2 ?_|refine g3 ?_|refine b1 ?_)|refine zG ?_|apply zA|intro h|exact zT));all_goals conv=>whnf
   all_goals first
    |exact⟨_,hU hZ gY,hK⟩
    |(exfalso;(try simp only[aA]at*);omega)
  rw[kD (x:=(Bs,Be)) f5]at hK;simp only[hC,or_true,if_true]at hK;(repeat' ((conv=>whnf);first|(with_reducible first|refine lG t ht ?_|refine sH i hb ?_|refine iI hkl ?_|refine iH hs ?_|refine g1 ?_|refine g2 ?_|refine g3 ?_|refine b1 ?_|refine i1 ?_)|refine zG ?_|apply zA|intro h|exact zT));all_goals conv=>whnf
  all_goals first
   |exact⟨_,gY,hK⟩
   |(exfalso;(try simp only[aA]at*);omega)
theorem aSH(t:Tp)(s:ByteArray)(hd:t.devs.length<1000000){K:KT}(hK:K (.sb (t.devs.any fun d=>sEq d.cls s)) []):AC 125 [jT t,.v (.string s)] [] K:=by
 refine gZ (aDb rfl rfl ?_);(repeat' ((conv=>whnf);first|refine zG ?_|apply zA|intro h|exact zT));all_goals conv=>whnf
 refine gV Nat (fun k=>⟨1,[(0,kM t)],[(1,.v (.string s)),(2,.op 0 0),(5,.v (.int .i64 k))]⟩) (fun k=>k<=t.devs.length/\∀(j:Nat) x,j<k->t.devs[j]? =some x->sEq x.cls s=false) (fun k=>t.devs.length-k) 0 ⟨aK _,fun j x h=>absurd h (bD _)⟩ ?_ ?_
 ·exact leA
 intro k ⟨hk,hinv⟩;rcases aD k t.devs.length with hkl|hkl
 ·obtain⟨x,hx⟩:=gex hkl;(repeat' ((conv=>whnf);first|(with_reducible first|refine iI hkl ?_|refine iH hx ?_)|refine zG ?_|apply zA|intro h|exact zT));all_goals conv=>whnf
  all_goals first
   |exact kE hK (bR.2 ⟨x,aG hx,h⟩)
   |(refine⟨k+1,⟨hkl,iM hx (by first|exact h|simpa[sEq]using h) hinv⟩,by omega,?_⟩
     rw[aN,aM];exact leA)
 ·(repeat' ((conv=>whnf);first|refine zG ?_|apply zA|intro h|exact zT));all_goals conv=>whnf
  refine iU hK ?_;rw[bY,ne_eq,bR]
  rintro⟨x,hx,hc⟩
  obtain⟨j,hj⟩:=bH.1 hx;have:=iL hkl hinv j x hj;rw[hc]at this;cases this
theorem aSG(t:Tp)(ht:t.edges.length<1000000)(hd:t.devs.length<1000000)(i:Nt)(hb:Bnd i){K:KT}(hK:K (.v (.int .i64 (tJ t i))) []):AC 62 [jT t,jC i] [] K:=by
 have bg:=hb.g;have bs:=hb.s;have bt:=hb.t;have bp:=hb.p;have bh:=hb.h;refine aDa rfl rfl ?_;unfold tJ at hK;by_cases hc:mE t=true
 rotate_left
 ·have hcf:mE t=false:=by simpa using hc
  rw[aF (fun hh=>hc hh.1)]at hK;(repeat' ((conv=>whnf);first|(with_reducible refine lG t ht ?_)|refine zG ?_|apply zA|intro h|exact zT));all_goals conv=>whnf
  exact hK
 by_cases hn:ntB i=true
 rotate_left
 ·have hnf:ntB i=false:=by simpa using hn
  rw[aF (fun hh=>hn hh.2)]at hK;(repeat' ((conv=>whnf);first|(with_reducible first|refine lG t ht ?_|refine sH i hb ?_)|refine zG ?_|apply zA|intro h|exact zT));all_goals conv=>whnf
  exact hK
 rw[aH ⟨hc,hn⟩,Vt]at hK;have hg:∀(nm:ByteArray) {K:KT},K (.tup [iR (kJ t i nm).1,.v (.int .i64 (kJ t i nm).2)]) []->AC 31 [jT t,jC i,.v (.string nm)] [] K:=fun nm K h=>Wb t ht i hb nm (by rw[Dy,aH ⟨hc,hn⟩];exact h);have hs:∀(nm:ByteArray) {K:KT},K (.tup [iN (rF i nm).1,.v (.int .i64 (rF i nm).2)]) []->AC 123 [jC i,.v (.string nm)] [] K:=fun nm K h=>aKH i hb nm (by rw[aEP,aH hn];exact h);have hm:∀(k:Nat) (s:Sm),k<i.sts.length->i.sts[k]? =some s->∀{K:KT},K (.tup [iN (qJ t i s).1,.v (.int .i64 (qJ t i s).2)]) []->AC 124 [jT t,jC i,.v (.int .i64 k)] [] K:=fun k s hk hs K h=>aSJ t ht i hb k (by
  rw[aJS,aH ⟨hc,hn⟩,aF zo,dY,hs];exact h)
 (repeat' ((conv=>whnf);first|(with_reducible first|refine lG t ht ?_|refine sH i hb ?_)|refine zG ?_|apply zA|intro h|exact zT));all_goals conv=>whnf
 refine gV Nat (fun n=>⟨2,[(0,kM t),(1,lM i)],[(2,.op 0 0),(3,.op 1 0),(5,.v (.int .i64 n))]⟩) (fun n=>n<=i.grps.length/\lP (fun d:Df=>(kJ t i d.name).2) i.grps=lP (fun d:Df=>(kJ t i d.name).2) (i.grps.drop n)) (fun n=>i.grps.length-n) 0 ⟨aK _,by rw[bP]⟩ ?_ ?_
 ·exact leA
 intro n ⟨hn1,heq⟩;rcases aD n i.grps.length with hnl|hnl
 ·obtain⟨x,hx⟩:=gex hnl;have hdr:i.grps.drop n=x::i.grps.drop (n+1):=by
   rw[aE hnl]at hx;rw[<-bB hx,<-bA hnl]
  rw[hdr,nK]at heq;have hgx:=fun {K} h=>@hg x.name K h;generalize kJ t i x.name=G at*;obtain⟨Gs,Ge⟩:=G;simp only at heq hgx;(repeat' ((conv=>whnf);first|(with_reducible first|refine iI hnl ?_|refine iH hx ?_|refine hgx ?_)|refine zG ?_|apply zA|intro h|exact zT));all_goals conv=>whnf
  all_goals first
   |(rw[aF (fun hh=>hh h)]at heq
     refine⟨n+1,⟨hnl,heq⟩,by omega,?_⟩;rw[aN,aM];exact leA)
   |(rw[aH h]at heq
     rw[heq,aH h]at hK;exact hK)
 rw[bO hnl]at heq;have e0:lP (fun d:Df=>(kJ t i d.name).2) i.grps=0:=heq;clear heq;(repeat' ((conv=>whnf);first|refine zG ?_|apply zA|intro h|exact zT));all_goals conv=>whnf
 refine gV Nat (fun n=>⟨2,[(0,kM t),(1,lM i)],[(2,.op 0 0),(3,.op 1 0),(8,.v (.int .i64 n))]⟩) (fun n=>n<=i.svcs.length/\lP (fun d:Df=>(rF i d.name).2) i.svcs=lP (fun d:Df=>(rF i d.name).2) (i.svcs.drop n)) (fun n=>i.svcs.length-n) 0 ⟨aK _,by rw[bP]⟩ ?_ ?_
 ·exact leA
 intro n ⟨hn1,heq⟩;rcases aD n i.svcs.length with hnl|hnl
 ·obtain⟨x,hx⟩:=gex hnl;have hdr:i.svcs.drop n=x::i.svcs.drop (n+1):=by
   rw[aE hnl]at hx;rw[<-bB hx,<-bA hnl]
  rw[hdr,nK]at heq;have hsx:=fun {K} h=>@hs x.name K h;generalize rF i x.name=G at*;obtain⟨Gs,Ge⟩:=G;simp only at heq hsx;(repeat' ((conv=>whnf);first|(with_reducible first|refine iI hnl ?_|refine iH hx ?_|refine hsx ?_)|refine zG ?_|apply zA|intro h|exact zT));all_goals conv=>whnf
  all_goals first
   |(rw[aF (fun hh=>hh h)]at heq
     refine⟨n+1,⟨hnl,heq⟩,by omega,?_⟩;rw[aN,aM];exact leA)
   |(rw[aH h]at heq
     rw[aF (fun hh=>hh e0)]at hK;rw[heq,aH h]at hK;exact hK)
 rw[bO hnl]at heq;have e1:lP (fun d:Df=>(rF i d.name).2) i.svcs=0:=heq;clear heq;(repeat' ((conv=>whnf);first|refine zG ?_|apply zA|intro h|exact zT));all_goals conv=>whnf
 refine gV Nat (fun n=>⟨2,[(0,kM t),(1,lM i)],[(2,.op 0 0),(3,.op 1 0),(11,.v (.int .i64 n))]⟩) (fun n=>n<=i.sts.length/\lP (fun s:Sm=>if(qJ t i s).2≠0 then(qJ t i s).2 else zF t i s) i.sts=lP (fun s:Sm=>if(qJ t i s).2≠0 then(qJ t i s).2 else zF t i s) (i.sts.drop n)) (fun n=>i.sts.length-n) 0 ⟨aK _,by rw[bP]⟩ ?_ ?_
 ·exact leA
 intro n ⟨hn1,heq⟩;rcases aD n i.sts.length with hnl|hnl
 ·obtain⟨x,hx⟩:=gex hnl;have hdr:i.sts.drop n=x::i.sts.drop (n+1):=by
   rw[aE hnl]at hx;rw[<-bB hx,<-bA hnl]
  rw[hdr,nK]at heq;have hmx:=fun {K} h=>@hm n x hnl hx K h;generalize qJ t i x=G at*;obtain⟨Gs,Ge⟩:=G;simp only at heq hmx;have hN:zF t i x=if((x.cls.toList==(⟨#[]⟩:ByteArray).toList)||(t.devs.any fun d=>sEq d.cls x.cls))&&((x.dur.toList==(⟨#[]⟩:ByteArray).toList)||decide (0<=Vf i.wins x.dur))then 0 else 5:=by
   unfold zF;rw[<-first_any (fun w:Wn=>sEq w.name x.dur) i.wins];rfl
  (repeat' ((conv=>whnf);first|(with_reducible first|refine iI hnl ?_|refine iH hx ?_|refine hmx ?_|refine aSH t x.cls zo ?_|refine V9 i.wins x.dur (by have:=hb.w;omega) ?_)|refine zG ?_|apply zA|intro h|exact zT));all_goals conv=>whnf
  all_goals first
   |(have hge:¬Ge=0:=by with_reducible assumption
     rw[aH hge,aH hge]at heq;rw[aF (fun hh=>hh e0),aF (fun hh=>hh e1)]at hK;rw[heq,aH hge]at hK;exact hK)
   |(have hge:Ge=0:=by with_reducible assumption
     have hz:zF t i x=0:=by
      clear heq hK hmx hg hs hm;rw[hN];simp_all;try omega
     rw[aF (show ¬(Ge≠0)from fun hh=>hh hge),hz,aF (fun hh=>hh rfl)]at heq;refine⟨n+1,⟨hnl,heq⟩,by omega,?_⟩;rw[aN,aM];exact leA)
   |(have hge:Ge=0:=by with_reducible assumption
     have hz:zF t i x=5:=by
      clear heq hK hmx hg hs hm;rw[hN];simp_all;try omega
     rw[aF (show ¬(Ge≠0)from fun hh=>hh hge),hz,aH zd]at heq;rw[aF (fun hh=>hh e0),aF (fun hh=>hh e1)]at hK;rw[heq,aH zd]at hK;exact hK)
 rw[bO hnl]at heq;have e2:lP (fun s:Sm=>if(qJ t i s).2≠0 then(qJ t i s).2 else zF t i s) i.sts=0:=heq;clear heq;(repeat' ((conv=>whnf);first|refine zG ?_|apply zA|intro h|exact zT));all_goals conv=>whnf
 refine gV Nat (fun n=>⟨2,[(0,kM t),(1,lM i)],[(2,.op 0 0),(3,.op 1 0),(15,.v (.int .i64 n))]⟩) (fun n=>n<=i.pubs.length/\lP (fun p:Pb=>if jX t.edges p.edge<0 then 5 else 0) i.pubs=lP (fun p:Pb=>if jX t.edges p.edge<0 then 5 else 0) (i.pubs.drop n)) (fun n=>i.pubs.length-n) 0 ⟨aK _,by rw[bP]⟩ ?_ ?_
 ·exact leA
 intro n ⟨hn1,heq⟩;rcases aD n i.pubs.length with hnl|hnl
 ·obtain⟨x,hx⟩:=gex hnl;have hdr:i.pubs.drop n=x::i.pubs.drop (n+1):=by
   rw[aE hnl]at hx;rw[<-bB hx,<-bA hnl]
  rw[hdr,nK]at heq;(repeat' ((conv=>whnf);first|(with_reducible first|refine iI hnl ?_|refine iH hx ?_|refine vY t _ ht ?_)|refine zG ?_|apply zA|intro h|exact zT));all_goals conv=>whnf
  all_goals first
   |(rw[aF h,aF zd]at heq
     refine⟨n+1,⟨hnl,heq⟩,by omega,?_⟩;rw[aN,aM];exact leA)
   |(rw[aH h,aH zd]at heq
     rw[aF (fun hh=>hh e0),aF (fun hh=>hh e1),aF (fun hh=>hh e2)]at hK;rw[heq,aH zd]at hK;exact hK)
 rw[bO hnl]at heq;have e3:lP (fun p:Pb=>if jX t.edges p.edge<0 then 5 else 0) i.pubs=0:=heq;clear heq;(repeat' ((conv=>whnf);first|refine zG ?_|apply zA|intro h|exact zT));all_goals conv=>whnf
 refine gV Nat (fun n=>⟨2,[(0,kM t),(1,lM i)],[(2,.op 0 0),(3,.op 1 0),(16,.v (.int .i64 n))]⟩) (fun n=>n<=i.hids.length/\lP (fun h:Hn=>if jX t.edges h.edge<0 then 5 else(kJ t i h.grp).2) i.hids=lP (fun h:Hn=>if jX t.edges h.edge<0 then 5 else(kJ t i h.grp).2) (i.hids.drop n)) (fun n=>i.hids.length-n) 0 ⟨aK _,by rw[bP]⟩ ?_ ?_
 ·exact leA
 intro n ⟨hn1,heq⟩;rcases aD n i.hids.length with hnl|hnl
 ·obtain⟨x,hx⟩:=gex hnl;have hdr:i.hids.drop n=x::i.hids.drop (n+1):=by
   rw[aE hnl]at hx;rw[<-bB hx,<-bA hnl]
  rw[hdr,nK]at heq;have hgx:=fun {K} h=>@hg x.grp K h;generalize kJ t i x.grp=G at*;obtain⟨Gs,Ge⟩:=G;simp only at heq hgx;(repeat' ((conv=>whnf);first|(with_reducible first|refine iI hnl ?_|refine iH hx ?_|refine vY t _ ht ?_|refine hgx ?_)|refine zG ?_|apply zA|intro h|exact zT));all_goals conv=>whnf
  all_goals first
   |(rename_i hz
     rw[aF hz,aF (fun hh=>hh h)]at heq;refine⟨n+1,⟨hnl,heq⟩,by omega,?_⟩;rw[aN,aM];exact leA)
   |(rw[aH h,aH zd]at heq
     rw[aF (fun hh=>hh e0),aF (fun hh=>hh e1),aF (fun hh=>hh e2),aF (fun hh=>hh e3)]at hK;rw[heq]at hK;exact hK)
   |(rename_i hz
     rw[aF hz,aH h]at heq;rw[aF (fun hh=>hh e0),aF (fun hh=>hh e1),aF (fun hh=>hh e2),aF (fun hh=>hh e3)]at hK;rw[heq]at hK;exact hK)
 rw[bO hnl]at heq;have e4:lP (fun h:Hn=>if jX t.edges h.edge<0 then 5 else(kJ t i h.grp).2) i.hids=0:=heq;clear heq;rw[aF (fun hh=>hh e0),aF (fun hh=>hh e1),aF (fun hh=>hh e2),aF (fun hh=>hh e3),e4]at hK;(repeat' ((conv=>whnf);first|refine zG ?_|apply zA|intro h|exact zT));all_goals conv=>whnf
 exact hK
theorem aKM(t:Tp)(v:Int)(he:t.edges.length<1000000)(hp:t.pools.length<1000000){K:KT}(hK:K (.sb (wL t v)) []):AC 127 [jT t,.v (.int .u32 v)] [] K:=by
 refine gZ (aDN rfl rfl ?_);unfold wL at hK;(repeat' ((conv=>whnf);first|refine zG ?_|apply zA|intro h|exact zT));all_goals conv=>whnf
 refine gV Nat (fun k=>⟨1,[(0,kM t)],[(1,.v (.int .u32 v)),(2,.op 0 0),(5,.v (.int .i64 k))]⟩) (fun k=>k<=t.pools.length/\∀(i:Nat) y,i<k->t.pools[i]? =some y->y.has v=false) (fun k=>t.pools.length-k) 0 ⟨aK _,fun i y hi=>absurd hi (bD _)⟩ ?_ ?_
 ·exact leA
 intro k ⟨hk,hinv⟩;rcases aD k t.pools.length with hkl|hkl
 ·obtain⟨x,hx⟩:=gex hkl;have hit:x.has v=true->(t.pools.any fun p=>p.has v)=true:=fun h=>bR.2 ⟨x,aG hx,h⟩;(repeat' ((conv=>whnf);first|(with_reducible first|refine iI hkl ?_|refine iH hx ?_|refine aAX x v ?_)|refine zG ?_|apply zA|intro h|exact zT));all_goals conv=>whnf
  all_goals first
   |(rw[hit zw,Bool.or_true]at hK
     exact kE hK rfl)
   |(refine⟨k+1,⟨by omega,jJ hx zw hinv⟩,by omega,?_⟩
     rw[aN,aM];exact leA)
 ·have hno:(t.pools.any fun p=>p.has v)=false:=by
   rw[bY,ne_eq,bR]
   rintro⟨m,hm,h⟩
   obtain⟨i,hi⟩:=bH.1 hm;rw[iL hkl hinv i m hi]at h;cases h
  rw[hno,fW]at hK;(repeat' ((conv=>whnf);first|(with_reducible refine aBc t v he ?_)|refine zG ?_|apply zA|intro h|exact zT));all_goals conv=>whnf
  all_goals first
   |exact kB hK rfl
   |(refine kB hK ?_;rw[bK,aL,aL])
theorem aVi(t:Tp)(l:List Pb)(n:Nat)(x:Pb)(hx:l[n]? =some x)(he:t.edges.length<1000000)(hp:t.pools.length<1000000)(hl:l.length<1000000){K:KT}(hK:K (.v (.int .i64 (sP t (l.take n) x))) []):AC 63 [jT t,.lst (l.map jU),.v (.int .i64 n)] [] K:=by
 have hnl:=(aP.1 hx).1;refine aDO rfl rfl ?_;have hins:∀{K:KT},K (.sb (wL t x.addr)) []->AC 127 [jT t,.v (.int .u32 x.addr)] [] K:=fun h=>aKM t x.addr he hp h;have hat:∀{K:KT},K (.v (.int .i64 (mY t x.real))) []->AC 21 [jT t,.v (.int .u32 x.real)] [] K:=fun h=>aBc t x.real he h;have hed:∀{K:KT},K (.v (.int .i64 (jX t.edges x.edge))) []->AC 20 [jT t,.v (.string x.edge)] [] K:=fun h=>vY t x.edge he h;unfold sP at hK;generalize wL t x.addr=ib at*;generalize mY t x.real=ea at*;generalize jX t.edges x.edge=ei at*;(repeat' ((conv=>whnf);first|(with_reducible first|refine iI hnl ?_|refine iH hx ?_|refine hat ?_|refine hins ?_|refine hed ?_)|refine zG ?_|apply zA|intro h|exact zT));all_goals conv=>whnf
 all_goals first
  |(rw[aH (by simp_all)]at hK;exact hK)
  |(rw[aF (by simp_all),aH zo]at hK;exact hK)
  |(rw[aF (by simp_all),aF zo,aH zo]at hK;exact hK)
  |skip
 all_goals rw[aF (by simp_all),aF zo,aF zo]at hK
 all_goals refine gV Nat (fun k=>⟨2,[(1,.box (aRW x))],[(1,.lst (l.map jU)),(2,.v (.int .i64 n)),(7,.op 1 0),(8,.v (.int .i64 k))]⟩) (fun k=>k<=n/\∀(i:Nat) y,i<k->l[i]? =some y->Fd x y=false) (fun k=>n-k) 0 ⟨aK _,fun i y hi=>absurd hi (bD _)⟩ ?_ ?_
 all_goals first
  |((exact leA)
    done)
  |skip
 all_goals
  intro k ⟨hk,hinv⟩;rcases aD k n with hkn|hkn
  ·have hkl:k<l.length:=by omega
   obtain⟨q,hq⟩:=gex hkl;have hit:Fd x q=true->(l.take n).any (Fd x)=true:=fun h=>bR.2 ⟨q,aG (i:=k) (by rw[eY hkn];exact hq),h⟩;have hdu:Fd x q=((x.edge.toList==q.edge.toList)&&(decide (x.proto=q.proto)&&((decide (x.addr=q.addr)&&decide (x.port=q.port))||(decide (x.real=q.real)&&decide (x.rport=q.rport))))):=by
    unfold Fd sEq;rw[show(q.edge.toList==x.edge.toList)=(x.edge.toList==q.edge.toList)from BEq.comm,show decide (q.proto=x.proto)=decide (x.proto=q.proto)from decide_eq_decide.2 ⟨Eq.symm,Eq.symm⟩,show decide (q.addr=x.addr)=decide (x.addr=q.addr)from decide_eq_decide.2 ⟨Eq.symm,Eq.symm⟩,show decide (q.port=x.port)=decide (x.port=q.port)from decide_eq_decide.2 ⟨Eq.symm,Eq.symm⟩,show decide (q.real=x.real)=decide (x.real=q.real)from decide_eq_decide.2 ⟨Eq.symm,Eq.symm⟩,show decide (q.rport=x.rport)=decide (x.rport=q.rport)from decide_eq_decide.2 ⟨Eq.symm,Eq.symm⟩]
   (repeat' ((conv=>whnf);first|(with_reducible first|refine iI hkl ?_|refine iH hq ?_)|refine zG ?_|apply zA|intro h|exact zT));all_goals conv=>whnf
   all_goals first
    |(rw[aH (hit (by rw[hdu];simp_all))]at hK
      exact hK)
    |(refine⟨k+1,⟨hkn,jJ hq (by rw[hdu];simp_all) hinv⟩,by omega,?_⟩
      rw[aN,aM];exact leA)
  ·rw[aF (by
    rw[bR]
    rintro⟨m,hm,h⟩
    obtain⟨i,hi⟩:=bH.1 hm;have hin:i<n:=by
     have:=(aP.1 hi).1;rw[aV]at this;omega
    rw[eY hin]at hi;rw[hinv i m zo hi]at h;cases h)]at hK
   (repeat' ((conv=>whnf);first|refine zG ?_|apply zA|intro h|exact zT));all_goals conv=>whnf
   exact hK
theorem aVg(t:Tp)(i:Nt)(n:Nat)(x:Hn)(hx:i.hids[n]? =some x)(he:t.edges.length<1000000)(hp:t.pools.length<1000000)(hpl:i.pubs.length<1000000)(hl:i.hids.length<1000000){K:KT}(hK:K (.v (.int .i64 (Dz t i (i.hids.take n) x))) []):
  AC 64 [jT t,jC i,.v (.int .i64 n)] [] K:=by
 have hnl:=(aP.1 hx).1;have hins:∀{K:KT},K (.sb (wL t x.addr)) []->AC 127 [jT t,.v (.int .u32 x.addr)] [] K:=fun h=>aKM t x.addr he hp h;refine aDK rfl rfl ?_;unfold Dz at hK;generalize wL t x.addr=ib at*;(repeat' ((conv=>whnf);first|(with_reducible first|refine iI hnl ?_|refine iH hx ?_|refine hins ?_)|refine zG ?_|apply zA|intro h|exact zT));all_goals conv=>whnf
 all_goals first
  |(rw[aH (by simp_all)]at hK;exact hK)
  |skip
 rw[aF (by simp_all)]at hK;refine gV Nat (fun k=>⟨3,[(1,lM i),(2,.box (Qk x))],[(2,.v (.int .i64 n)),(4,.op 1 0),(7,.op 2 0),(8,.v (.int .i64 k))]⟩) (fun k=>k<=i.pubs.length/\∀(j:Nat) y,j<k->i.pubs[j]? =some y->(sEq y.edge x.edge&&decide (y.addr=x.addr))=false) (fun k=>i.pubs.length-k) 0 ⟨aK _,fun j y hj=>absurd hj (bD _)⟩ ?_ ?_
 ·exact leA
 intro k ⟨hk,hinv⟩;rcases aD k i.pubs.length with hkl|hkl
 ·obtain⟨q,hq⟩:=gex hkl;have hit:(sEq q.edge x.edge&&decide (q.addr=x.addr))=true->(i.pubs.any fun p=>sEq p.edge x.edge&&decide (p.addr=x.addr))=true:=fun h=>bR.2 ⟨q,aG hq,h⟩;have hdu:(sEq q.edge x.edge&&decide (q.addr=x.addr))=((q.edge.toList==x.edge.toList)&&decide (q.addr=x.addr)):=rfl;(repeat' ((conv=>whnf);first|(with_reducible first|refine iI hkl ?_|refine iH hq ?_)|refine zG ?_|apply zA|intro h|exact zT));all_goals conv=>whnf
  all_goals first
   |(rw[aH (hit (by rw[hdu];simp_all))]at hK
     exact hK)
   |(refine⟨k+1,⟨by omega,jJ hq (by rw[hdu];simp_all) hinv⟩,by omega,?_⟩
     rw[aN,aM];exact leA)
 rw[aF (by
  rw[bR]
  rintro⟨m,hm,h⟩
  obtain⟨j,hj⟩:=bH.1 hm;rw[iL hkl hinv j m hj]at h;cases h)]at hK
 clear hinv;(repeat' ((conv=>whnf);first|refine zG ?_|apply zA|intro h|exact zT));all_goals conv=>whnf
 refine gV Nat (fun k=>⟨3,[(1,lM i),(2,.box (Qk x))],[(2,.v (.int .i64 n)),(4,.op 1 0),(7,.op 2 0),(9,.v (.int .i64 k))]⟩) (fun k=>k<=n/\∀(j:Nat) y,j<k->i.hids[j]? =some y->(sEq y.edge x.edge&&decide (y.addr=x.addr))=false) (fun k=>n-k) 0 ⟨aK _,fun j y hj=>absurd hj (bD _)⟩ ?_ ?_
 ·exact leA
 intro k ⟨hk,hinv⟩;rcases aD k n with hkn|hkn
 ·have hkl:k<i.hids.length:=by omega
  obtain⟨q,hq⟩:=gex hkl;have hit:(sEq q.edge x.edge&&decide (q.addr=x.addr))=true->((i.hids.take n).any fun p=>sEq p.edge x.edge&&decide (p.addr=x.addr))=true:=fun h=>bR.2 ⟨q,aG (i:=k) (by rw[eY hkn];exact hq),h⟩;have hdu:(sEq q.edge x.edge&&decide (q.addr=x.addr))=((q.edge.toList==x.edge.toList)&&decide (q.addr=x.addr)):=rfl;(repeat' ((conv=>whnf);first|(with_reducible first|refine iI hkl ?_|refine iH hq ?_)|refine zG ?_|apply zA|intro h|exact zT));all_goals conv=>whnf
  all_goals first
   |(rw[aH (hit (by rw[hdu];simp_all))]at hK
     exact hK)
   |(refine⟨k+1,⟨hkn,jJ hq (by rw[hdu];simp_all) hinv⟩,by omega,?_⟩
     rw[aN,aM];exact leA)
 ·rw[aF (by
   rw[bR]
   rintro⟨m,hm,h⟩
   obtain⟨j,hj⟩:=bH.1 hm;have hin:j<n:=by
    have:=(aP.1 hj).1;rw[aV]at this;omega
   rw[eY hin]at hj;rw[hinv j m zo hj]at h;cases h)]at hK
  (repeat' ((conv=>whnf);first|refine zG ?_|apply zA|intro h|exact zT));all_goals conv=>whnf
  exact hK
theorem Rl(t:Tp)(i:Nt)(hT:TrB t i){K:KT}(hK:K (.v (.int .i64 (trP t i))) []):AC 19 [jT t,jC i] [] K:=by
 obtain⟨het,hdt,hpt,hb,hpa,hha⟩:=hT;have hck:∀{K:KT},K (.v (.int .i64 (tJ t i))) []->AC 62 [jT t,jC i] [] K:=fun h=>aSG t het hdt i hb h;refine aDJ rfl rfl ?_;unfold trP at hK;by_cases hc0:tJ t i=0
 case neg=>
  rw[aH hc0]at hK;generalize tJ t i=c at*;(repeat' ((conv=>whnf);first|(with_reducible refine hck ?_)|refine zG ?_|apply zA|intro h|exact zT));all_goals conv=>whnf
  all_goals first
   |exact hK
   |(exfalso;omega)
 obtain⟨hc,hn⟩:=uN hc0;have hok:=ntB_iff.1 hn;have hpl:=hok.pl;have hhl:=hok.hl;rw[aF zo]at hK;rw[hc0]at hck;(repeat' ((conv=>whnf);first|(with_reducible refine hck ?_)|refine zG ?_|apply zA|intro h|exact zT));all_goals conv=>whnf
 all_goals first
  |(exfalso;omega)
  |skip
 refine gV Nat (fun k=>⟨2,[(0,kM t),(1,lM i)],[(2,.op 0 0),(3,.op 1 0),(6,.v (.int .i64 k))]⟩) (fun k=>k<=i.pubs.length/\rO (sP t) [] i.pubs=rO (sP t) (i.pubs.take k) (i.pubs.drop k)) (fun k=>i.pubs.length-k) 0 ⟨aK _,by rw[cA,bP]⟩ ?_ ?_
 ·exact leA
 intro k ⟨hk,hinv⟩;rcases aD k i.pubs.length with hkl|hkl
 ·obtain⟨x,hx⟩:=gex hkl;have hst:=uB (f:=sP t) hx;have hpu:=fun {K}=>@aVi t i.pubs k x hx het hpt zo K;rw[hst]at hinv;generalize sP t (i.pubs.take k) x=pe at*;(repeat' ((conv=>whnf);first|(with_reducible refine hpu ?_)|refine zG ?_|apply zA|intro h|exact zT));all_goals conv=>whnf
  all_goals first
   |(rw[aH zw]at hinv
     rw[aH (by rw[hinv];with_reducible assumption),hinv]at hK;exact hK)
   |(refine⟨k+1,⟨hkl,by rw[aF zo]at hinv;exact hinv⟩,by omega,?_⟩
     rw[aN,aM];exact leA)
 rw[Du hkl]at hinv;rw[aF zo]at hK;clear hinv;(repeat' ((conv=>whnf);first|refine zG ?_|apply zA|intro h|exact zT));all_goals conv=>whnf
 refine gV Nat (fun k=>⟨2,[(0,kM t),(1,lM i)],[(2,.op 0 0),(3,.op 1 0),(8,.v (.int .i64 k))]⟩) (fun k=>k<=i.hids.length/\rO (Dz t i) [] i.hids=rO (Dz t i) (i.hids.take k) (i.hids.drop k)) (fun k=>i.hids.length-k) 0 ⟨aK _,by rw[cA,bP]⟩ ?_ ?_
 ·exact leA
 intro k ⟨hk,hinv⟩;rcases aD k i.hids.length with hkl|hkl
 ·obtain⟨x,hx⟩:=gex hkl;have hst:=uB (f:=Dz t i) hx;have hpu:=fun {K}=>@aVg t i k x hx het hpt zo zo K;rw[hst]at hinv;generalize Dz t i (i.hids.take k) x=pe at*;(repeat' ((conv=>whnf);first|(with_reducible refine hpu ?_)|refine zG ?_|apply zA|intro h|exact zT));all_goals conv=>whnf
  all_goals first
   |(rw[aH zw]at hinv
     rw[aH (by rw[hinv];with_reducible assumption),hinv]at hK;exact hK)
   |(refine⟨k+1,⟨hkl,by rw[aF zo]at hinv;exact hinv⟩,by omega,?_⟩
     rw[aN,aM];exact leA)
 rw[Du hkl]at hinv;rw[aF zo]at hK;clear hinv;(repeat' ((conv=>whnf);first|refine zG ?_|apply zA|intro h|exact zT));all_goals conv=>whnf
 refine gV Nat (fun k=>⟨2,[(0,kM t),(1,lM i)],[(2,.op 0 0),(3,.op 1 0),(10,.v (.int .i64 k))]⟩) (fun k=>k<=t.edges.length/\∀(j:Nat) y,j<k->t.edges[j]? =some y->decide (256<(uE t i y).length)=false) (fun k=>t.edges.length-k) 0 ⟨aK _,fun j y hj=>absurd hj (bD _)⟩ ?_ ?_
 ·exact leA
 intro k ⟨hk,hinv⟩;rcases aD k t.edges.length with hkl|hkl
 ·obtain⟨e,he⟩:=gex hkl;have hhi:=fun {K}=>@aCE t i k e he hc hn hb het K;have hit:256<(uE t i e).length->(t.edges.any fun e=>decide (256<(uE t i e).length))=true:=fun h=>bR.2 ⟨e,aG he,decide_eq_true h⟩;have hml:((uE t i e).map pV).length=(uE t i e).length:=aA ..;(repeat' ((conv=>whnf);first|(with_reducible refine hhi ?_)|refine zG ?_|apply zA|intro h|exact zT));all_goals conv=>whnf
  all_goals first
   |(rw[aH (hit zo)]at hK;exact hK)
   |(refine⟨k+1,⟨by omega,jJ he (decide_eq_false zo) hinv⟩,by omega,?_⟩
     rw[aN,aM];exact leA)
 ·rw[aF (by
   rw[bR]
   rintro⟨m,hm,h⟩
   obtain⟨j,hj⟩:=bH.1 hm;rw[iL hkl hinv j m hj]at h;cases h)]at hK
  (repeat' ((conv=>whnf);first|refine zG ?_|apply zA|intro h|exact zT));all_goals conv=>whnf
  exact hK
/-! ### Unions of ranges out of a list -/
def UnB(B:List Rg)(c:Int->Bool):Prop:=∃P:Rg->Prop,∀u,c u=true↔∃r,r∈B/\P r/\inR r u=true
theorem aCL{U V:Type}{l:List Df}{vis:It->U->Prop}{vis':It->V->Prop}{p:V->U->Prop}(h:∀x u,vis x u↔∃r,vis' x r/\p r u){nm:ByteArray}{u:U}:Lead l vis nm u↔∃r,Lead l vis' nm r/\p r u:=by
 constructor
 ·intro hl
  induction hl with
  |here h1 h2 h3 h4 h5=>
   obtain⟨r,h6,h7⟩:=(h _ _).1 h5;exact⟨r,.here h1 h2 h3 h4 h6,h7⟩
  |there h1 h2 h3 h4 h5 ih=>
   obtain⟨r,h6,h7⟩:=ih;exact⟨r,.there h1 h2 h3 h4 h6,h7⟩
 ·rintro⟨r,hl,hp⟩
  induction hl with
  |here h1 h2 h3 h4 h5=>exact .here h1 h2 h3 h4 ((h _ _).2 ⟨_,h5,hp⟩)
  |there h1 h2 h3 h4 h5 ih=>exact .there h1 h2 h3 h4 (ih hp)
theorem Y3{U:Type}{l:List Df}{vis:It->U->Prop}{nm:ByteArray}{u:U}(h:Lead l vis nm u):∃d x,d∈l/\x∈d.items/\x.kind≠3/\vis x u:=by
 induction h with
 |here h1 h2 h3 h4 h5=>exact⟨_,_,aG h2,h3,h4,h5⟩
 |there h1 h2 h3 h4 h5 ih=>exact ih
def aJI(t:Tp)(x:It)(r:Rg):Prop:=if x.kind=2 then r=x.pf.rg else ∃e,e∈t.edges/\sEq e.zone x.name=true/\r=e.pf.rg
theorem aHp(t:Tp)(x:It)(u:Int):Yy t x u↔∃r,aJI t x r/\inR r u=true:=by
 have h1:∀r:Rg,has [r] u=true↔inR r u=true:=fun r=>by simp[has,inR]
 unfold Yy aJI;by_cases hk:x.kind=2
 ·simp only[aH hk,exists_eq_left];exact h1 _
 ·simp only[aF hk];constructor
  ·rintro⟨e,he,hz,hu⟩;exact⟨_,⟨e,he,hz,rfl⟩,(h1 _).1 hu⟩
  ·rintro⟨r,⟨e,he,hz,rfl⟩,hu⟩;exact⟨e,he,hz,(h1 _).2 hu⟩
theorem aHf{l:List Rg}{u:Int}:has l u=true↔∃r,r∈l/\inR r u=true:=by
 rw[has_iff];exact exists_congr fun r=>and_congr_right fun _=>inR_iff.symm
theorem aNK(t:Tp)(i:Nt)(nm:ByteArray)(h:(qA t i.grps nm).1=0):UnB (aJJ t i) (has (qA t i.grps nm).2):=by
 cases hn:sEq nm ⟨#[]⟩with
 |true=>
  refine⟨fun r=>∃e,e∈t.edges/\r=e.pf.rg,fun u=>?_⟩;have e:(qA t i.grps nm).2=t.edges.map fun e=>e.pf.rg:=by unfold qA;rw[aH hn]
  rw[e,aHf];constructor
  ·rintro⟨r,hr,hu⟩
   obtain⟨x,hx,rfl⟩:=bQ.1 hr;exact⟨_,cF _ (bQ.2 ⟨x,hx,rfl⟩),⟨x,hx,rfl⟩,hu⟩
  ·rintro⟨r,_,⟨x,hx,rfl⟩,hu⟩
   exact⟨_,bQ.2 ⟨x,hx,rfl⟩,hu⟩
 |false=>
  obtain⟨_,hl⟩:=aCc hn h;refine⟨fun r=>Lead i.grps (aJI t) nm r,fun u=>?_⟩;rw[hl u,aCL (aHp t)];constructor
  ·rintro⟨r,hr,hu⟩
   refine⟨r,?_,hr,hu⟩;obtain⟨d,x,hd,hx,_,hv⟩:=Y3 hr;unfold aJI at hv;split at hv
   ·subst hv;exact eT _ (eA.2 ⟨d,hd,bQ.2 ⟨x,hx,rfl⟩⟩)
   ·obtain⟨e,he,_,rfl⟩:=hv;exact cF _ (bQ.2 ⟨e,he,rfl⟩)
  ·rintro⟨r,_,hr,hu⟩;exact⟨r,hr,hu⟩
theorem aCa(t:Tp)(i:Nt)(nm:ByteArray)(h:(kJ t i nm).2=0):Canon (kJ t i nm).1/\UnB (aJJ t i) (has (kJ t i nm).1):=by
 unfold kJ at h⊢;split at h
 ·rename_i h0;rw[aH h0];obtain⟨h1,h2⟩:=aAC (qA t i.grps nm).2;refine⟨h1,?_⟩;obtain⟨P,hP⟩:=aNK t i nm h0;exact⟨P,fun u=>by rw[h2 u];exact hP u⟩
 ·rename_i h0;exact absurd h h0
section
variable {I:List (Int×Rg)}
end
theorem aFI(raw:List Int)(pos:Nat)(hp:pos<=raw.length)(hr:raw.length<=9223372036854775807){K:KT}
  (hK:∀(t:Tp) (pos':Nat),GTop t->t.devs.length<=3->pos'<=raw.length->K (jT t) [iO raw pos']):
  AC 42 [.op 0 0,.v (.int .i64 3)] [iO raw pos] K:=by
 refine K9 (aKn raw pos 3 zd hp hr fun t p h1 h2 h3=>?_);(repeat' ((conv=>whnf);first|(with_reducible refine iT (aA ..) ?_)|refine zG ?_|apply zA|intro h|exact zT));all_goals conv=>whnf
 exact hK t p h1 zo h3
theorem aKI(raw:List Int)(pos:Nat)(hp:pos<=raw.length)(hr:raw.length<=9223372036854775807){K:KT}
  (hK:∀(m:Int) (pos':Nat),0<=m->m<10080->pos'<=raw.length->K (.v (.int .i64 m)) [iO raw pos']):AC 44 [.op 0 0] [iO raw pos] K:=by
 refine aPN rfl rfl ?_;(repeat' ((conv=>whnf);first|(with_reducible first|refine jI raw _ _ zo zw hr fun m1 p1 hm1 hp1=>?_|refine iJ zo ?_|refine Ju [0,479,480,481,1019,1020,1439,700] 8 0 1439 rfl rfl zd zo fun c h0 h1=>?_)|refine zG ?_|apply zA|intro h|exact zT));all_goals conv=>whnf
 all_goals exact hK _ _ zo zo zw
theorem aBp(ns:Nat)(hns:ns<=4)(raw:List Int)(pos:Nat)(t:Tp)(hg:GTop t)(hp:pos<=raw.length)(hr:raw.length<=9223372036854775807){K:KT}
  (hK:∀(i:Nt) (pos':Nat),ENt i->pos'<=raw.length->K (jC i) [iO raw pos']):
  AC 43 [.op 0 0,jT t,.v (.int .i64 ns)] [iO raw pos] K:=aSK raw pos t hg.e5 (by have:=hg.d6;omega) (aJZ hg) ns hns hp hr hK
theorem aRY(ns:Nat)(hns:ns<=4)(raw:List Int)(pos:Nat)(hp:pos<=raw.length)(hr:raw.length<=9223372036854775807){K:KT}
  (hK:∀(t:Tp) (i:Nt) (m:Int) (pos':Nat),GTop t->t.devs.length<=3->ENt i->0<=m->m<10080->pos'<=raw.length->K (.tup [jT t,jC i,.v (.int .i64 m)]) [iO raw pos']):
  AC 10 [.op 0 0,.v (.int .i64 3),.v (.int .i64 ns)] [iO raw pos] K:=by
 refine aDu rfl rfl ?_;(repeat' ((conv=>whnf);first|(with_reducible first|refine aFI raw _ zw hr fun t p1 ht hd hp1=>?_|refine aBp ns hns raw _ _ zw zw hr fun i p2 hi hp2=>?_|refine aKI raw _ zw hr fun m p3 m0 m1 hp3=>?_)|refine zG ?_|apply zA|intro h|exact zT));all_goals conv=>whnf
 exact hK t i m p3 ht hd hi m0 m1 hp3
end Go.Proofs.YtgicddadddhonaaGreatDoor
