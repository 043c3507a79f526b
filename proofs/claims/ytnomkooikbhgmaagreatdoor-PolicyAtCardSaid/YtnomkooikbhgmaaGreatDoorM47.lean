/- Lemmas. -/
import Derived.Test.YtnomkooikbhgmaaGreatDoorM34
set_option linter.unusedVariables false
set_option linter.unusedSimpArgs false
set_option maxRecDepth 100000
set_option maxHeartbeats 4000000
namespace Go.Proofs.YtnomkooikbhgmaaGreatDoor
open Go Go.Vm
abbrev zoneL(t:Tp)(s:ByteArray):List Nat:=ixs (fun e=>sEq e.zone s) t.edges t.edges.length
theorem ixs_no(p:Ed->Bool){l:List Ed}{k:Nat}{e:Ed}(h:l[k]? =some e)(hp:p e=false):ixs p l (k+1)=ixs p l k:=by rw[ixs_succ p h,aD (by rw[hp];decide),bF]
theorem ixs_yes(p:Ed->Bool){l:List Ed}{k:Nat}{e:Ed}(h:l[k]? =some e)(hp:p e=true):ixs p l (k+1)=ixs p l k++[k]:=by rw[ixs_succ p h,aG hp]
theorem dkZone(t:Tp)(s:ByteArray)(hl:t.edges.length<=1000){K:KT}(hK:K (.lst ((zoneL t s).map vN)) []):AC 179 [encT t,.v (.string s)] [] K:=by
 refine ofh11Zone rfl rfl ?_;(repeat' ((conv=>whnf);first|refine zG ?_|apply zA|intro h|exact zT));all_goals conv=>whnf
 refine gL Nat (fun i=>⟨2,[(0,boxT t),(1,.arr 1 ((ixs (fun e=>sEq e.zone s) t.edges i).map vN))],[(1,.v (.string s)),(2,.op 0 0),(5,.os 1 1 0 (ixs (fun e=>sEq e.zone s) t.edges i).length),(6,.v (.int .i64 i))]⟩)
  (fun i=>i<=t.edges.length) (fun i=>t.edges.length-i) 0 (aK _) ?_ ?_
 ·exact leA
 intro i h1;have hil2:=ixs_len (fun e=>sEq e.zone s) t.edges i;rcases aF i t.edges.length with hil|hil
 ·obtain⟨x,hx⟩:=gex hil;(repeat' ((conv=>whnf);first|(with_reducible first|refine hU hil ?_|refine hJ hx ?_)|refine zG ?_|apply zA|intro h|exact zT));all_goals conv=>whnf
  all_goals first
   |(refine⟨i+1,hil,by omega,?_⟩
     rw[ixs_yes _ hx (show sEq x.zone s=true from h),aQ,aC,aO,aN];exact leA)
   |(refine⟨i+1,hil,by omega,?_⟩
     rw[ixs_no _ hx (show sEq x.zone s=false from h),aO,aN];exact leA)
 ·have hie:i=t.edges.length:=by omega
  subst hie;(repeat' ((conv=>whnf);first|(with_reducible refine sl_full (aA ..) ?_)|refine zG ?_|apply zA|intro h|exact zT));all_goals conv=>whnf
  exact hK
theorem dkEdg(t:Tp)(l:List Nat)(hl:l.length<=1000)(hb:∀n,n∈l->n<t.edges.length){K:KT}(hK:K (encRs (l.map (rgAt t))) []):AC 176 [encT t,.lst (l.map vN)] [] K:=by
 refine ofh17Edg rfl rfl ?_;(repeat' ((conv=>whnf);first|refine zG ?_|apply zA|intro h|exact zT));all_goals conv=>whnf
 refine gL Nat (fun i=>⟨2,[(0,boxT t),(1,.arr 2 (((l.take i).map (rgAt t)).map encR))],[(1,.lst (l.map vN)),(2,.op 0 0),(5,.os 1 2 0 ((l.take i).map (rgAt t)).length),(6,.v (.int .i64 i))]⟩)
  (fun i=>i<=l.length) (fun i=>l.length-i) 0 (aK _) ?_ ?_
 ·rw[cW];exact leA
 intro i h1;have htl:((l.take i).map (rgAt t)).length=i:=by rw[aA,bA];omega
 rcases aF i l.length with hil|hil
 ·obtain⟨n,hn⟩:=gex hil;have hnl:=hb n (aI hn);obtain⟨x,hx⟩:=gex hnl;have hs:(l.take (i+1)).map (rgAt t)=(l.take i).map (rgAt t)++[x.pf.rg]:=by rw[bI,hn,aQ];simp[rgAt,hx]
  generalize hA:(l.take i).map (rgAt t)=A at*;(repeat' ((conv=>whnf);first|(with_reducible first|refine hU hil ?_|refine hJ hn ?_|refine hU hnl ?_|refine hJ hx ?_|refine crOf _ ?_)|refine zG ?_|apply zA|intro h|exact zT));all_goals conv=>whnf
  all_goals first
   |(refine⟨i+1,hil,by omega,?_⟩
     rw[hs,aQ,aC,aO,aN];exact leA)
 ·rw[aY hil];(repeat' ((conv=>whnf);first|(with_reducible refine sl_full (aA ..) ?_)|refine zG ?_|apply zA|intro h|exact zT));all_goals conv=>whnf
  exact hK
theorem dkAll(t:Tp)(hl:t.edges.length<=1000){K:KT}(hK:K (.lst ((List.range t.edges.length).map vN)) []):AC 177 [encT t] [] K:=by
 refine ofh17All rfl rfl ?_;(repeat' ((conv=>whnf);first|refine zG ?_|apply zA|intro h|exact zT));all_goals conv=>whnf
 refine gL Nat (fun i=>⟨2,[(0,boxT t),(1,.arr 1 ((List.range i).map vN))],[(1,.op 0 0),(3,.os 1 1 0 (List.range i).length),(4,.v (.int .i64 i))]⟩)
  (fun i=>i<=t.edges.length) (fun i=>t.edges.length-i) 0 (aK _) ?_ ?_
 ·exact leA
 intro i h1;have hrl:(List.range i).length=i:=fM;rcases aF i t.edges.length with hil|hil
 ·have hs:List.range (i+1)=List.range i++[i]:=fK;generalize hA:List.range i=A at*;(repeat' ((conv=>whnf);first|refine zG ?_|apply zA|intro h|exact zT));all_goals conv=>whnf
  refine⟨i+1,hil,by omega,?_⟩;rw[hs,aQ,aC,aO,aN];exact leA
 ·have hie:i=t.edges.length:=by omega
  subst hie;(repeat' ((conv=>whnf);first|(with_reducible refine sl_full (aA ..) ?_)|refine zG ?_|apply zA|intro h|exact zT));all_goals conv=>whnf
  exact hK
def visR(t:Tp)(x:It)(its:List It):Int×List It:=if x.kind=1/\zoneL t x.name=[]then(5,its)else(0,its++[x])
theorem visR_sz(t:Tp)(x:It)(its:List It)(h:(visR t x its).1=0):(visR t x its).2.length<=its.length+1000:=by
 unfold visR at h⊢;split at h
 ·simp at h
 ·rename_i hc;rw[aD hc];simp
theorem dkFol(t:Tp)(ht:t.edges.length<=1000)(l:List Df)(hl:l.length<=999)(hit:∀d,d∈l->d.items.length<=999):∀(k:Nat) (path:List Nat) (n:Nat) (nm:ByteArray) (done:List Nat) (its:List It),Fine l path done->findD l nm=some n->path.length+k=l.length->its.length<=1000000*(done.length+path.length)->∀{K:KT},
  K (.v (.int .i64 (fol (visR t) l (k+1) path nm done its).1)) [walkO l 3 4 (fol (visR t) l (k+1) path nm done its).2.1.length (fol (visR t) l (k+1) path nm done its).2.2.length,.box [],.box [],.arr 1 ((fol (visR t) l (k+1) path nm done its).2.1.map vN),.arr 7 ((fol (visR t) l (k+1) path nm done its).2.2.map encIt)]->
  AC 245 [.op 0 0,encT t,.v (.int .i64 n),.lst (path.map vN)] [walkO l 1 2 done.length its.length,.arr 1 (done.map vN),.arr 7 (its.map encIt)] K:=by
 intro k
 induction k with
 |zero=>
  intro path n nm done its hf hn hk hsz K hK;obtain⟨x,hx,hname,hnl⟩:=findD_some hn;have hsm:=hf.small;have hm:n∈path:=Classical.byContradiction fun h=>by
   by_cases hd:n∈done
   ·have:0<done.length:=List.length_pos_of_mem hd;omega
   ·have:=(hf.push hn h hd).small;rw[aC]at this;simp only[cP]at this;omega
  simp only[fol,hn,aG hm]at hK;refine ofh17Fol rfl rfl ?_;(repeat' ((conv=>whnf);first|(with_reducible refine chHas path n zo ?_)|refine zG ?_|apply zA|intro h|exact zT));all_goals conv=>whnf
  all_goals first
   |exact hK
   |(exfalso;simp_all;done)
 |succ k ih=>
  intro path n nm done its hf hn hk hsz K hK;obtain⟨x,hx,hname,hnl⟩:=findD_some hn;have hsm:=hf.small;have hlen:=hit x (aI hx);by_cases hm:n∈path
  ·simp only[fol,hn,aG hm]at hK;refine ofh17Fol rfl rfl ?_;(repeat' ((conv=>whnf);first|(with_reducible refine chHas path n zo ?_)|refine zG ?_|apply zA|intro h|exact zT));all_goals conv=>whnf
   all_goals first
    |exact hK
    |(exfalso;simp_all;done)
  by_cases hd:n∈done
  ·simp only[fol,hn,aD hm,aG hd]at hK;refine ofh17Fol rfl rfl ?_;(repeat' ((conv=>whnf);first|(with_reducible first|refine chHas path n zo ?_|refine chHas done n zo ?_|refine sl_full (by simp only[aA,aC,aB,aH]) ?_)|refine zG ?_|apply zA|intro h|exact zT));all_goals conv=>whnf
   all_goals first
    |exact hK
    |(exfalso;simp_all;done)
  rw[fol]at hK;simp only[hn,aD hm,aD hd,hx,cS,cG]at hK;have hpush:=hf.push hn hm hd;have hrec:∀(r:Int) (m:Nat) (y:ByteArray),r=m->findD l y=some m->∀(d':List Nat) (i':List It),Fine l (path++[n]) d'->i'.length<=1000000*(d'.length+(path.length+1))->∀{K:KT},
   K (.v (.int .i64 (fol (visR t) l (k+1) (path++[n]) y d' i').1)) [walkO l 3 4 (fol (visR t) l (k+1) (path++[n]) y d' i').2.1.length (fol (visR t) l (k+1) (path++[n]) y d' i').2.2.length,.box [],.box [],.arr 1 ((fol (visR t) l (k+1) (path++[n]) y d' i').2.1.map vN),.arr 7 ((fol (visR t) l (k+1) (path++[n]) y d' i').2.2.map encIt)]->
   AC 245 [.op 0 0,encT t,.v (.int .i64 r),pthV path n] [walkO l 1 2 d'.length i'.length,.arr 1 (d'.map vN),.arr 7 (i'.map encIt)] K:=fun r m y hr hy d' i' h1 h2 K h=>by
   subst hr;have e:pthV path n=.lst ((path++[n]).map vN):=by simp[pthV]
   rw[e];exact ih (path++[n]) m y d' i' h1 hy (by rw[aC,cP];omega) (by rw[aC,cP];omega) h
  clear ih;have hfed:=fun nm d s h h0=>fol_fed (visR t) List.length (visR_sz t) l hit (k+1) (path++[n]) nm d s h h0;refine ofh17Fol rfl rfl ?_;(repeat' ((conv=>whnf);first|(with_reducible first|refine chHas path n zo ?_|refine chHas done n zo ?_|refine sl_full (by simp only[aA,aC,aB,aH]) ?_)|refine zG ?_|apply zA|intro h|exact zT));all_goals conv=>whnf
  all_goals first
   |(exfalso;simp_all;done)
   |skip
  refine gL (Nat×List Nat×List It) (fun g=>⟨6,[(0,walkO l 3 4 g.2.1.length g.2.2.length),(3,.arr 1 (g.2.1.map vN)),(4,.arr 7 (g.2.2.map encIt)),(5,boxT t)],[(0,.op 0 0),(2,.v (.int .i64 n)),(3,pthV path n),(5,.op 5 0),(9,.v (.int .i64 g.1))]⟩)
   (fun g=>g.1<=x.items.length/\Fine l (path++[n]) g.2.1/\folI (visR t) (fol (visR t) l (k+1) (path++[n])) x.items done its=folI (visR t) (fol (visR t) l (k+1) (path++[n])) (x.items.drop g.1) g.2.1 g.2.2/\done.length<=g.2.1.length/\g.2.2.length+1000000*done.length<=its.length+1000000*g.2.1.length+1000*g.1)
   (fun g=>x.items.length-g.1) (0,done,its) ⟨aK _,hpush,by rw[bZ],aM _,by simp only;omega⟩ ?_ ?_
  ·exact leA
  rintro⟨i,dn,im⟩ ⟨h1,hf1,heq,hd1,hz1⟩
  simp only at h1 hf1 heq hd1 hz1⊢;have hsm1:=hf1.small;rw[aC,cP]at hsm1;rcases aF i x.items.length with hil|hil
  ·obtain⟨y,hy⟩:=gex hil;have hdr:x.items.drop i=y::x.items.drop (i+1):=by
    rw[bB hil]
    congr 1
    rw[aE hil]at hy;cases hy;rfl
   rw[hdr,folI_cons]at heq;by_cases hk3:y.kind=3
   ·simp only[aG hk3]at heq;cases hfd:findD l y.name with
    |none=>
     have hq:fol (visR t) l (k+1) (path++[n]) y.name dn im=(5,dn,im):=by simp only[fol,hfd]
     rw[hq]at heq;simp only[show ¬((5:Int)=0) by decide,if_false]at heq;rw[heq]at hK;simp only[show ¬((5:Int)=0) by decide,if_false]at hK;have hfi:∀{K:KT},K (.v (.int .i64 (-1))) []->AC 170 [.lst (l.map encDf),.v (.string y.name)] [] K:=fun h=>djFind l y.name zo (by rw[dfIx,firstIx_find,hfd];exact h);(repeat' ((conv=>whnf);first|(with_reducible first|refine hU hnl ?_|refine hJ hx ?_|refine hU hil ?_|refine hJ hy ?_|refine hfi ?_)|refine zG ?_|apply zA|intro h|exact zT));all_goals conv=>whnf
     all_goals first
      |exact hK
      |(exfalso;omega)
    |some m=>
     have hfi:∀{K:KT},K (.v (.int .i64 m)) []->AC 170 [.lst (l.map encDf),.v (.string y.name)] [] K:=fun h=>djFind l y.name zo (by rw[dfIx,firstIx_find,hfd];exact h);have hc:=fun {K} h=>@hrec m m y.name rfl hfd dn im hf1 zo K h;have hfq:=hfed y.name dn im hf1;generalize fol (visR t) l (k+1) (path++[n]) y.name dn im=q at*;obtain⟨qe,qd,qs⟩:=q;simp only at heq hc hfq;(repeat' ((conv=>whnf);first|(with_reducible first|refine hU hnl ?_|refine hJ hx ?_|refine hU hil ?_|refine hJ hy ?_|refine hfi ?_|refine hc ?_)|refine zG ?_|apply zA|intro h|exact zT));all_goals conv=>whnf
     all_goals first
      |(exfalso;omega)
      |(have hne:¬qe=0:=by first|assumption|(intro e;simp_all;done)
        rw[heq,aD hne]at hK;simp only[aD hne]at hK;exact hK)
      |(have h0:qe=0:=by first|assumption|(simp_all;done)
        have hfq:=hfq h0;refine⟨(i+1,qd,qs),⟨hil,hfq.fine,by rw[heq,aG h0],by have:=hfq.le;simp only;omega,by have:=hfq.size;simp only;omega⟩,by simp only;omega,?_⟩;simp only[aO,aN];exact leA)
   ·simp only[aD hk3]at heq;by_cases hz:y.kind=1/\zoneL t y.name=[]
    ·have hv:visR t y im=(5,im):=by rw[visR,aG hz]
     rw[hv]at heq;simp only[show ¬((5:Int)=0) by decide,if_false]at heq;rw[heq]at hK;simp only[show ¬((5:Int)=0) by decide,if_false]at hK;(repeat' ((conv=>whnf);first|(with_reducible first|refine hU hnl ?_|refine hJ hx ?_|refine hU hil ?_|refine hJ hy ?_)|refine zG ?_|apply zA|intro h|exact zT));all_goals conv=>whnf
     all_goals first
      |(exfalso;omega)
      |skip
     refine gV Unit (fun _=>⟨0,[],[]⟩) (fun _=>False) ?_ ?_
     ·(repeat' ((conv=>whnf);first|(with_reducible refine dkZone t _ ht ?_)|refine zG ?_|apply zA|intro h|exact zT));all_goals conv=>whnf
      all_goals first
       |exact hK
       |(exfalso;simp_all;done)
     ·exact fun _ h=>h.elim
    ·have hv:visR t y im=(0,im++[y]):=by rw[visR,aD hz]
     rw[hv]at heq;simp only[if_true]at heq;(repeat' ((conv=>whnf);first|(with_reducible first|refine hU hnl ?_|refine hJ hx ?_|refine hU hil ?_|refine hJ hy ?_)|refine zG ?_|apply zA|intro h|exact zT));all_goals conv=>whnf
     all_goals first
      |(exfalso;omega)
      |skip
     refine Jn.at ⟨7,[(6,.box [.v (.int .i64 y.kind),.v (.string y.name),.v (.int .u32 y.pf.addr),.v (.int .i64 y.pf.bits),.v (.int .i64 y.proto),.v (.int .u32 y.ports.lo),.v (.int .u32 y.ports.hi)]),(0,walkO l 3 4 dn.length im.length),(3,.arr 1 (dn.map vN)),(4,.arr 7 (im.map encIt)),(5,boxT t)],[(0,.op 0 0),(2,.v (.int .i64 n)),(3,pthV path n),(5,.op 5 0),(9,.v (.int .i64 i)),(10,.op 6 0)]⟩ ?_ ?_
     ·(repeat' ((conv=>whnf);first|(with_reducible refine dkZone t _ ht ?_)|refine zG ?_|apply zA|intro h|exact zT));all_goals conv=>whnf
      all_goals first
       |(refine⟨(),trivial,?_⟩
         exact leA)
       |(exfalso;simp_all;done)
     ·(repeat' ((conv=>whnf);first|refine zG ?_|apply zA|intro h|exact zT));all_goals conv=>whnf
      refine⟨(i+1,dn,im++[y]),⟨hil,hf1,heq,hd1,by simp only[aC,cP];omega⟩,by simp only;omega,?_⟩;simp only[aQ,aC,aR,bL,aB,aH,aO,aN];exact leA
  ·have hie:i=x.items.length:=by omega
   rw[hie,List.drop_length,folI_nil]at heq;rw[heq]at hK;simp only[if_true]at hK;(repeat' ((conv=>whnf);first|(with_reducible first|refine hU hnl ?_|refine hJ hx ?_)|refine zG ?_|apply zA|intro h|exact zT));all_goals conv=>whnf
   simp only[aQ,aC,aR,bL,aB,aH]at hK;exact hK
section
variable {S T:Type} {v:It->S->Int×S} {w:It->T->Int×T} (f:S->T)
theorem folI_sim{rec:ByteArray->List Nat->S->Int×List Nat×S}{rec':ByteArray->List Nat->T->Int×List Nat×T}(hrec:∀nm d s,rec' nm d (f s)=((rec nm d s).1,(rec nm d s).2.1,f (rec nm d s).2.2)):
  ∀(its:List It) (d:List Nat) (s:S),(∀x,x∈its->x.kind≠3->∀s,(w x (f s)).1=(v x s).1/\(w x (f s)).2=f (v x s).2)->folI w rec' its d (f s)=((folI v rec its d s).1,(folI v rec its d s).2.1,f (folI v rec its d s).2.2)
 |[],d,s,_=>rfl
 |x::r,d,s,h=>by
  rw[folI_cons,folI_cons];have hq:(if x.kind=3 then rec' x.name d (f s)else((w x (f s)).1,d,(w x (f s)).2))=((if x.kind=3 then rec x.name d s else((v x s).1,d,(v x s).2)).1,(if x.kind=3 then rec x.name d s else((v x s).1,d,(v x s).2)).2.1,f (if x.kind=3 then rec x.name d s else((v x s).1,d,(v x s).2)).2.2):=by
   by_cases hk:x.kind=3
   ·simp only[aG hk];exact hrec _ _ _
   ·simp only[aD hk];obtain⟨h1,h2⟩:=h x zx hk s;rw[h1,h2]
  rw[hq];generalize (if x.kind=3 then rec x.name d s else((v x s).1,d,(v x s).2))=q at*;by_cases h0:q.1=0
  ·rw[aG h0,aG h0];exact folI_sim hrec r _ _ fun y hy=>h y (aS _ hy)
  ·rw[aD h0,aD h0]
theorem fol_sim(l:List Df)(h:∀d,d∈l->∀x,x∈d.items->x.kind≠3->∀s,(w x (f s)).1=(v x s).1/\(w x (f s)).2=f (v x s).2):∀(k:Nat) (p:List Nat) (nm:ByteArray) (d:List Nat) (s:S),fol w l k p nm d (f s)=((fol v l k p nm d s).1,(fol v l k p nm d s).2.1,f (fol v l k p nm d s).2.2)
 |0,p,nm,d,s=>rfl
 |k+1,p,nm,d,s=>by
  unfold fol;cases hn:findD l nm with
  |none=>rfl
  |some n=>
   simp only;split
   ·rfl
   split
   ·rfl
   obtain⟨df,hdf,_⟩:=findD_some hn;rw[hdf];simp only[cS,cG];rw[folI_sim f (rec:=fol v l k (p++[n])) (rec':=fol w l k (p++[n])) (fun nm d s=>fol_sim l h k (p++[n]) nm d s) df.items d s (h df (aI hdf))];split<;>rfl
end
def rsIt(t:Tp)(y:It):List Rg:=if y.kind=1 then(zoneL t y.name).map (rgAt t)else [y.pf.rg]
def rsOf(t:Tp)(its:List It):List Rg:=its.flatMap (rsIt t)
theorem rsOf_snoc(t:Tp)(its:List It)(x:It):rsOf t (its++[x])=rsOf t its++rsIt t x:=by simp[rsOf]
theorem grp_kind{x:It}(h:itB x true=true)(hk:x.kind≠3):x.kind=1\/x.kind=2:=by
 unfold itB at h;by_cases h1:x.kind=1
 ·exact .inl h1
 by_cases h2:x.kind=2
 ·exact .inr h2
 rw[aD hk,aD h1,aD h2]at h;split at h<;>simp at h
theorem svc_kind4{x:It}(h:itB x false=true)(hk:x.kind≠3):x.kind=4:=by
 unfold itB at h;by_cases h1:x.kind=1
 ·rw[aD hk,aG h1]at h;simp at h
 by_cases h2:x.kind=2
 ·rw[aD hk,aD h1,aG h2]at h;simp at h
 by_cases h4:x.kind=4
 ·exact h4
 rw[aD hk,aD h1,aD h2,aD h4]at h;simp at h
theorem dfs_it{l:List Df}{g:Bool}(h:DfsOk l g):∀d,d∈l->∀x,x∈d.items->itB x g=true:=fun d hd x hx=>by
 obtain⟨n,hn⟩:=bN.1 hd;exact(h.all n d hn).all x hx
theorem grp_sim{t:Tp}{l:List Df}(h:DfsOk l true){nm:ByteArray}(hn:sEq nm ⟨#[]⟩=false):grpE t l nm=((fol (visR t) l (l.length+1) [] nm [] []).1,rsOf t (fol (visR t) l (l.length+1) [] nm [] []).2.2):=by
 have:=fol_sim (v:=visR t) (w:=visG t) (rsOf t) l (fun d hd x hx hk s=>by
  rcases grp_kind (dfs_it h d hd x hx) hk with h1|h2
  ·unfold visG visR;rw[aD zo];by_cases hz:zoneL t x.name=[]
   ·rw[aG hz,aG ⟨h1,hz⟩];exact⟨rfl,rfl⟩
   ·rw[aD hz,aD fun hh=>hz hh.2];refine⟨rfl,?_⟩;rw[rsOf_snoc,rsIt,aG h1]
  ·unfold visG visR;rw[aG h2,aD fun hh=>by omega];refine⟨rfl,?_⟩;rw[rsOf_snoc,rsIt,aD zo]) (l.length+1) [] nm [] []
 unfold grpE;rw[aD (by rw[hn];decide)];have e:rsOf t []=[]:=rfl;rw[e]at this;rw[this]
theorem svc_sim{l:List Df}(h:DfsOk l false)(t:Tp)(nm:ByteArray):svcF l nm=((fol (visR t) l (l.length+1) [] nm [] []).1,(fol (visR t) l (l.length+1) [] nm [] []).2.2):=by
 have:=fol_sim (v:=visR t) (w:=visS) id l (fun d hd x hx hk s=>by
  have h4:=svc_kind4 (dfs_it h d hd x hx) hk;unfold visS visR;rw[aD fun hh=>by omega];exact⟨rfl,rfl⟩) (l.length+1) [] nm [] []
 unfold svcF;simp only[id]at this;rw[this]
theorem dkFind(t:Tp)(ht:t.edges.length<=1000)(l:List Df)(hl:l.length<=999)(hit:∀d,d∈l->d.items.length<=999)(s:ByteArray){K:KT}(hK:K (.tup [.lst ((fol (visR t) l (l.length+1) [] s [] []).2.2.map encIt),.v (.int .i64 (fol (visR t) l (l.length+1) [] s [] []).1)]) []):
  AC 178 [encT t,.lst (l.map encDf),.v (.string s)] [] K:=by
 refine gP (ofh17Find rfl rfl ?_);cases hfd:findD l s with
 |none=>
  have hq:fol (visR t) l (l.length+1) [] s [] []=(5,[],[]):=by simp only[fol,hfd]
  rw[hq]at hK;have hfi:∀{K:KT},K (.v (.int .i64 (-1))) []->AC 170 [.lst (l.map encDf),.v (.string s)] [] K:=fun h=>djFind l s zo (by rw[dfIx,firstIx_find,hfd];exact h);(repeat' ((conv=>whnf);first|(with_reducible refine hfi ?_)|refine zG ?_|apply zA|intro h|exact zT));all_goals conv=>whnf
  exact⟨_,gQ gR gM,hK⟩
 |some m=>
  have hfi:∀{K:KT},K (.v (.int .i64 m)) []->AC 170 [.lst (l.map encDf),.v (.string s)] [] K:=fun h=>djFind l s zo (by rw[dfIx,firstIx_find,hfd];exact h);have hf:∀{K:KT},K (.v (.int .i64 (fol (visR t) l (l.length+1) [] s [] []).1)) [walkO l 3 4 (fol (visR t) l (l.length+1) [] s [] []).2.1.length (fol (visR t) l (l.length+1) [] s [] []).2.2.length,.box [],.box [],.arr 1 ((fol (visR t) l (l.length+1) [] s [] []).2.1.map vN),.arr 7 ((fol (visR t) l (l.length+1) [] s [] []).2.2.map encIt)]->
   AC 245 [.op 0 0,encT t,.v (.int .i64 m),.nils] [walkO l 1 2 0 0,.arr 1 [],.arr 7 []] K:=fun {K} h=>
   ACall.args (ys:=[.op 0 0,encT t,.v (.int .i64 m),.lst (([]:List Nat).map vN)]) ⟨Weak.refl,gM,gM,gR,trivial⟩
    (dkFol t ht l hl hit l.length [] m s [] [] (fineNil l) hfd zx zx h)
  generalize fol (visR t) l (l.length+1) [] s [] []=q at*;obtain⟨qe,qd,qs⟩:=q;simp only at hf hK;(repeat' ((conv=>whnf);first|(with_reducible first|refine hfi ?_|refine hf ?_|refine sl_full (aA ..) ?_)|refine zG ?_|apply zA|intro h|exact zT));all_goals conv=>whnf
  all_goals first
   |exact⟨_,gM,hK⟩
   |(exfalso;omega)
theorem take_rs(t:Tp)(its:List It)(k:Nat)(h12:t.edges.length<=12):(rsOf t (its.take k)).length<=12*k:=by
 have:∀m:List It,(rsOf t m).length<=12*m.length:=fun m=>by
  induction m with
  |nil=>simp[rsOf]
  |cons x m ih=>
   have hx:(rsIt t x).length<=12:=by
    unfold rsIt;split
    ·rw[aA];exact aZ (ixs_len ..) h12
    ·simp
   have e:rsOf t (x::m)=rsIt t x++rsOf t m:=by simp[rsOf]
   rw[e,aC,aB];omega
 have h1:=this (its.take k);have h2:(its.take k).length<=k:=by rw[bA];omega
 omega
theorem range_rg(t:Tp):(List.range t.edges.length).map (rgAt t)=t.edges.map fun e=>e.pf.rg:=by
 refine List.ext_getElem zx fun i h1 h2=>?_;have hi:i<t.edges.length:=by simpa using h2
 simp[rgAt,aE hi]
theorem c14o(L:List Rg)(hL:L.length<10000){K:KT}(hK:K (encRs (canO (has L))) []):AC 175 [encRs L,.lst []] [] K:=
 c14 L [] hL zx fun out h1 h2 h3=>by
  rw[canO_eq h1 fun v=>by rw[h2];simp[has_nil]]at hK;exact hK
theorem dkGrp(t:Tp)(ht:t.edges.length<1000000)(i:Nt)(hb:Bnd i)(nm:ByteArray){K:KT}(hK:K (.tup [encRs (grpV t i nm).1,.v (.int .i64 (grpV t i nm).2)]) []):
  AC 93 [encT t,encNt i,.v (.string nm)] [] K:=by
 refine gP (ofh17Grp rfl rfl ?_);unfold grpV at hK;by_cases hc:compB t=true
 rotate_left
 ·have hcf:compB t=false:=by simpa using hc
  rw[aD (fun hh=>hc hh.1)]at hK;(repeat' ((conv=>whnf);first|(with_reducible refine cuCompB t ht ?_)|refine zG ?_|apply zA|intro h|exact zT));all_goals conv=>whnf
  exact⟨_,gQ gR gM,hK⟩
 by_cases hn:ntB i=true
 rotate_left
 ·have hnf:ntB i=false:=by simpa using hn
  rw[aD (fun hh=>hn hh.2)]at hK;(repeat' ((conv=>whnf);first|(with_reducible first|refine cuCompB t ht ?_|refine djNt i hb ?_)|refine zG ?_|apply zA|intro h|exact zT));all_goals conv=>whnf
  exact⟨_,gQ gR gM,hK⟩
 rw[aG ⟨hc,hn⟩]at hK;have hg:=(ntB_iff.1 hn).g;have h12:=comp_edges hc;have hits:=hb.its;unfold grpP at hK;by_cases hnm:sEq nm ⟨#[]⟩=true
 ·have e:grpE t i.grps nm=(0,t.edges.map fun e=>e.pf.rg):=by unfold grpE;rw[aG hnm]
  rw[e,aG rfl,<-range_rg]at hK;have hnm2:(nm.toList==(⟨#[]⟩:ByteArray).toList)=true:=hnm;(repeat' ((conv=>whnf);first|(with_reducible first|refine cuCompB t ht ?_|refine djNt i hb ?_|refine dkAll t zo ?_|refine dkEdg t (List.range t.edges.length) (by rw[fM];omega) (fun n hn=>dN.1 hn) ?_|refine c14o _ (by rw[aA,fM];omega) ?_)|refine zG ?_|apply zA|intro h|exact zT));all_goals conv=>whnf
  exact⟨_,gM,hK⟩
 ·have hnf:sEq nm ⟨#[]⟩=false:=by simpa using hnm
  have hnm2:(nm.toList==(⟨#[]⟩:ByteArray).toList)=false:=hnf;rw[grp_sim hg hnf]at hK;have hf:=fun {K} h=>@dkFind t zo i.grps hb.g hb.gi nm K h;have hlen:=fol_all (visR t) List.length 1 (fun x s h0=>by
   unfold visR at h0⊢;split
   ·simp
   ·simp) i.grps nm []
  generalize fol (visR t) i.grps (i.grps.length+1) [] nm [] []=q at*;obtain⟨qe,qd,its⟩:=q;simp only at hf hK hlen;by_cases h0:qe=0
  rotate_left
  ·rw[aD h0]at hK;(repeat' ((conv=>whnf);first|(with_reducible first|refine cuCompB t ht ?_|refine djNt i hb ?_|refine hf ?_)|refine zG ?_|apply zA|intro h|exact zT));all_goals conv=>whnf
   all_goals first
    |exact⟨_,gQ gR gM,hK⟩
    |(exfalso;omega)
  subst h0;rw[aG rfl]at hK;have hlen:=hlen rfl;simp only[aH]at hlen;(repeat' ((conv=>whnf);first|(with_reducible first|refine cuCompB t ht ?_|refine djNt i hb ?_|refine hf ?_)|refine zG ?_|apply zA|intro h|exact zT));all_goals conv=>whnf
  refine gL Nat (fun k=>⟨2,[(0,boxT t),(1,.arr 2 ((rsOf t (its.take k)).map encR))],[(3,.op 0 0),(8,.lst (its.map encIt)),(10,.os 1 2 0 (rsOf t (its.take k)).length),(11,.v (.int .i64 k))]⟩)
   (fun k=>k<=its.length) (fun k=>its.length-k) 0 (aK _) ?_ ?_
  ·rw[cW];exact leA
  intro k h1;have hrl:=take_rs t its k h12;rcases aF k its.length with hkl|hkl
  ·obtain⟨y,hy⟩:=gex hkl;have hs:rsOf t (its.take (k+1))=rsOf t (its.take k)++rsIt t y:=by rw[bI,hy];exact rsOf_snoc ..
   generalize rsOf t (its.take k)=A at*;have hzl:(zoneL t y.name).length<=12:=aZ (ixs_len ..) h12;have hzb:∀n,n∈zoneL t y.name->n<t.edges.length:=fun n hn=>(ixs_lt hn).1;(repeat' ((conv=>whnf);first|(with_reducible first|refine hU hkl ?_|refine hJ hy ?_|refine dkZone t _ zo ?_|refine dkEdg t (zoneL t y.name) zo hzb ?_|refine crOf _ ?_)|refine zG ?_|apply zA|intro h|exact zT));all_goals conv=>whnf
   all_goals first
    |(refine⟨k+1,hkl,by omega,?_⟩
      rw[hs,rsIt,aG zo];simp only[aQ,aC,aA,aO,aN];exact leA)
    |(refine⟨k+1,hkl,by omega,?_⟩
      rw[hs,rsIt,aD zo];simp only[aQ,aC,aR,bL,aB,aH,aO,aN];exact leA)
  ·rw[aY hkl]at hrl⊢;(repeat' ((conv=>whnf);first|(with_reducible first|refine sl_full (aA ..) ?_|refine c14o (rsOf t its) zo ?_)|refine zG ?_|apply zA|intro h|exact zT));all_goals conv=>whnf
   exact⟨_,gM,hK⟩
theorem dkSvc(i:Nt)(hb:Bnd i)(nm:ByteArray){K:KT}(hK:K (.tup [encXs (svcV i nm).1,.v (.int .i64 (svcV i nm).2)]) []):
  AC 94 [encNt i,.v (.string nm)] [] K:=by
 refine gP (ofh17Svc rfl rfl ?_);unfold svcV at hK;by_cases hn:ntB i=true
 rotate_left
 ·have hnf:ntB i=false:=by simpa using hn
  rw[aD hn]at hK;(repeat' ((conv=>whnf);first|(with_reducible refine djNt i hb ?_)|refine zG ?_|apply zA|intro h|exact zT));all_goals conv=>whnf
  exact⟨_,gQ gR gM,hK⟩
 rw[aG hn]at hK;have hs:=(ntB_iff.1 hn).s;unfold svcP at hK;by_cases hnm:sEq nm ⟨#[]⟩=true
 ·rw[aG hnm]at hK;have hnm2:(nm.toList==(⟨#[]⟩:ByteArray).toList)=true:=hnm;(repeat' ((conv=>whnf);first|(with_reducible first|refine djNt i hb ?_|refine cr4Init ?_)|refine zG ?_|apply zA|intro h|exact zT));all_goals conv=>whnf
  exact⟨_,gM,hK⟩
 ·rw[aD hnm]at hK;have hnm2:(nm.toList==(⟨#[]⟩:ByteArray).toList)=false:=by simpa[sEq]using hnm
  have hlen:=svcF_len (l:=i.svcs) (nm:=nm);have hsn:=hb.sits;have hok:(svcF i.svcs nm).1=0->∀x,x∈(svcF i.svcs nm).2->(hdrX x).ok:=fun h0 x hx=>by
   obtain⟨d,hd,hxd,hx3⟩:=lead_item (((svc_lead h0).2 x).1 hx);exact hdr_okK (dfs_it hs d hd x hxd) hx3
  rw[svc_sim hs tp0 nm]at hK hlen hok;have hf:∀{K:KT},K (.tup [.lst ((fol (visR tp0) i.svcs (i.svcs.length+1) [] nm [] []).2.2.map encIt),.v (.int .i64 (fol (visR tp0) i.svcs (i.svcs.length+1) [] nm [] []).1)]) []->
   AC 178 [.agg [.lst [],.lst [],.lst [],.lst [],.v (.int .i64 0)],.lst (i.svcs.map encDf),.v (.string nm)] [] K:=fun h=>dkFind tp0 (by simp[tp0]) i.svcs hb.s hb.si nm h
  generalize fol (visR tp0) i.svcs (i.svcs.length+1) [] nm [] []=q at*;obtain⟨qe,qd,its⟩:=q;simp only at hf hK hlen hok;by_cases h0:qe=0
  rotate_left
  ·rw[aG h0]at hK;(repeat' ((conv=>whnf);first|(with_reducible first|refine djNt i hb ?_|refine hf ?_)|refine zG ?_|apply zA|intro h|exact zT));all_goals conv=>whnf
   all_goals first
    |exact⟨_,gQ gR gM,hK⟩
    |(exfalso;omega)
  subst h0;rw[aD zd]at hK;have hlen:=hlen rfl;have hok:=hok rfl;(repeat' ((conv=>whnf);first|(with_reducible first|refine djNt i hb ?_|refine hf ?_)|refine zG ?_|apply zA|intro h|exact zT));all_goals conv=>whnf
  refine gL (Nat×List Bx) (fun g=>⟨0,[],[(6,.lst (its.map encIt)),(8,encXs g.2),(9,.v (.int .i64 g.1))]⟩) (fun g=>g.1<=its.length/\setB g.2=true/\svcGo its []=svcGo (its.drop g.1) g.2) (fun g=>its.length-g.1) (0,[]) ⟨aK _,setB_nil,by rw[bZ]⟩ ?_ ?_
  ·exact leA
  rintro⟨k,s⟩ ⟨hk,hs,heq⟩
  simp only at hk hs heq⊢;have hsl:=(setB_pset hs).len;rcases aF k its.length with hkl|hkl
  ·obtain⟨x,hx⟩:=gex hkl;have hd:its.drop k=x::its.drop (k+1):=by
    rw[aE hkl]at hx;rw[<-bE hx,<-bB hkl]
   rw[hd,svcGo_drop,aD (by rw[(comb_one init_set (hok x (aI hx))).1];decide)]at heq;have hsA:=setB_combP anB initS [hdrX x];have hsB:=setB_combP orB s (combP anB initS [hdrX x]).1;have hal:=(setB_pset hsA).len;have hu:=fun {K} h=>@cr4Un s (combP anB initS [hdrX x]).1 zo zo K h;have hh:=fun {K} h=>@chHdr x K h;generalize combP orB s (combP anB initS [hdrX x]).1=B at*;generalize combP anB initS [hdrX x]=A at*;obtain⟨As,Ae⟩:=A;obtain⟨Bs,Be⟩:=B;simp only at heq hsA hsB hu hh;(repeat' ((conv=>whnf);first|(with_reducible first|refine hU hkl ?_|refine hJ hx ?_|refine hh ?_|refine hu ?_)|refine zG ?_|apply zA|intro h|exact zT));all_goals conv=>whnf
   all_goals first
    |(rw[aD (fun hn=>hn zw)]at heq
      refine⟨(k+1,Bs),⟨hkl,hsB,heq⟩,by simp only;omega,?_⟩;simp only[aO,aN];exact leA)
    |(rw[aG h]at heq
      rw[heq]at hK;exact⟨_,gQ gR gM,hK⟩)
  ·rw[bU hkl]at heq;rw[heq]at hK;(repeat' ((conv=>whnf);first|refine zG ?_|apply zA|intro h|exact zT));all_goals conv=>whnf
   exact⟨_,gM,hK⟩
theorem dkBtw(a b:List Rg)(ha:a.length<=860)(hb:b.length<=860){K:KT}(hK:K (.tup [encXs (makeP (btwB a b)).1,.v (.int .i64 (makeP (btwB a b)).2)]) []):AC 100 [encRs a,encRs b] [] K:=by
 refine ofh17Btw rfl rfl ?_;(repeat' ((conv=>whnf);first|refine zG ?_|apply zA|intro h|exact zT));all_goals conv=>whnf
 refine gL Nat (fun i=>⟨1,[(0,.arr 10 ((btwB (a.take i) b).map encX))],[(0,encRs a),(1,encRs b),(6,.os 0 10 0 (btwB (a.take i) b).length),(7,.v (.int .i64 i))]⟩) (fun i=>i<=a.length) (fun i=>a.length-i) 0 (aK _) ?_ ?_
 ·rw[cW,btwB_nil];exact leA
 intro i hi;have hl:=btwB_len b (a.take i);have hm:(a.take i).length*b.length<=860*860:=dV (by rw[bA];omega) hb;rcases aF i a.length with hil|hil
 ·obtain⟨r,hr⟩:=gex hil;have hs:btwB (a.take (i+1)) b=btwB (a.take i) b++b.map fun s=>btwX r s:=by rw[bI,hr];exact btwB_snoc ..
  generalize btwB (a.take i) b=A at*;(repeat' ((conv=>whnf);first|refine zG ?_|apply zA|intro h|exact zT));all_goals conv=>whnf
  refine gL Nat (fun k=>⟨1,[(0,.arr 10 ((A++(b.take k).map fun s=>btwX r s).map encX))],[(0,encRs a),(1,encRs b),(6,.os 0 10 0 (A++(b.take k).map fun s=>btwX r s).length),(7,.v (.int .i64 i)),(8,.v (.int .i64 k))]⟩) (fun k=>k<=b.length) (fun k=>b.length-k) 0 (aK _) ?_ ?_
  ·rw[cW,bL,bF];exact leA
  intro k hk;rcases aF k b.length with hkl|hkl
  ·obtain⟨s,hs2⟩:=gex hkl;have hap:(A++(b.take (k+1)).map fun s=>btwX r s)=(A++(b.take k).map fun s=>btwX r s)++[btwX r s]:=by rw[bI,hs2];simp
   have hlen:(A++(b.take k).map fun s=>btwX r s).length<=1000000:=by rw[aC,aA,bA];omega
   generalize hB:(A++(b.take (k+1)).map fun s=>btwX r s)=B at*;generalize (A++(b.take k).map fun s=>btwX r s)=C at*;(repeat' ((conv=>whnf);first|(with_reducible first|refine cr3Full ?_|refine hU hil ?_|refine hU hkl ?_|refine hJ hr ?_|refine hJ hs2 ?_)|(refine in_c zd ?_)|refine zG ?_|apply zA|intro h|exact zT));all_goals conv=>whnf
   all_goals
    refine⟨k+1,hkl,by omega,?_⟩;rw[hB,hap,aQ,aC,aO k,aN];exact leA
  ·(repeat' ((conv=>whnf);first|refine zG ?_|apply zA|intro h|exact zT));all_goals conv=>whnf
   have hke:k=b.length:=by omega
   rw[hke,dD,<-hs];refine⟨i+1,hil,by omega,?_⟩;rw[aO i,aN];exact leA
 ·have hie:i=a.length:=by omega
  have hbl:(btwB a b).length<1000000000:=by
   have:=dV ha hb;rw[btwB_len];omega
  rw[hie,dD];have hfull:((btwB a b).map encX).length=(btwB a b).length:=aA ..;(repeat' ((conv=>whnf);first|(with_reducible first|refine sl_full hfull ?_|refine cr4Make (btwB a b) hbl ?_)|refine zG ?_|apply zA|intro h|exact zT));all_goals conv=>whnf
  exact hK
theorem dkStm(t:Tp)(ht:t.edges.length<1000000)(i:Nt)(hb:Bnd i)(n:Int){K:KT}(hK:K (.tup [encXs (stmV t i n).1,.v (.int .i64 (stmV t i n).2)]) []):AC 38 [encT t,encNt i,.v (.int .i64 n)] [] K:=by
 refine gP (ofh17Stm rfl rfl ?_);unfold stmV at hK;have bt:=hb.t;by_cases hc:compB t=true
 rotate_left
 ·have hcf:compB t=false:=by simpa using hc
  rw[aD (fun hh=>hc hh.1)]at hK;(repeat' ((conv=>whnf);first|(with_reducible refine cuCompB t ht ?_)|refine zG ?_|apply zA|intro h|exact zT));all_goals conv=>whnf
  exact⟨_,gQ gR gM,hK⟩
 by_cases hn:ntB i=true
 rotate_left
 ·have hnf:ntB i=false:=by simpa using hn
  rw[aD (fun hh=>hn hh.2)]at hK;(repeat' ((conv=>whnf);first|(with_reducible first|refine cuCompB t ht ?_|refine djNt i hb ?_)|refine zG ?_|apply zA|intro h|exact zT));all_goals conv=>whnf
  exact⟨_,gQ gR gM,hK⟩
 rw[aG ⟨hc,hn⟩]at hK;by_cases hr:n<0\/(i.sts.length:Int)<=n
 ·rw[aG hr]at hK;(repeat' ((conv=>whnf);first|(with_reducible first|refine cuCompB t ht ?_|refine djNt i hb ?_)|refine zG ?_|apply zA|intro h|exact zT));all_goals conv=>whnf
  all_goals first
   |exact⟨_,gQ gR gM,hK⟩
   |(exfalso;simp only[aA]at*;omega)
 rw[aD hr]at hK;obtain⟨k,rfl⟩:=dU (show 0<=n by omega);have hkl:k<i.sts.length:=by omega
 obtain⟨s,hs⟩:=gex hkl;simp only[eJ,hs]at hK;have hl:=fun nm=>grpP_len hc hb nm;have hg:∀(nm:ByteArray) {K:KT},K (.tup [encRs (grpP t i nm).1,.v (.int .i64 (grpP t i nm).2)]) []->AC 93 [encT t,encNt i,.v (.string nm)] [] K:=fun nm K h=>dkGrp t ht i hb nm (by rw[grpV,aG ⟨hc,hn⟩];exact h);unfold stmP at hK;have l1:=hl s.frm;have l2:=hl s.to;have l4:=hl s.exF;have l5:=hl s.exT;have g1:=fun {K} h=>@hg s.frm K h;have g2:=fun {K} h=>@hg s.to K h;have g4:=fun {K} h=>@hg s.exF K h;have g5:=fun {K} h=>@hg s.exT K h;have g3:∀{K:KT},K (.tup [encXs (svcP i s.svc).1,.v (.int .i64 (svcP i s.svc).2)]) []->AC 94 [encNt i,.v (.string s.svc)] [] K:=fun h=>dkSvc i hb s.svc (by rw[svcV,aG hn];exact h);have s3:=svcP_set i s.svc;clear hg hl;generalize grpP t i s.frm=F at*;generalize grpP t i s.to=G at*;generalize grpP t i s.exF=O at*;generalize grpP t i s.exT=N at*;generalize svcP i s.svc=V at*;obtain⟨Fs,Fe⟩:=F;obtain⟨Gs,Ge⟩:=G;obtain⟨Os,Oe⟩:=O;obtain⟨Ns,Ne⟩:=N;obtain⟨Vs,Ve⟩:=V;simp only at l1 l2 l4 l5 g1 g2 g3 g4 g5 s3 hK;have hvl:=setBlen s3;have b1:=fun {K} h=>@dkBtw Fs Gs l1 l2 K h;have sB:=setB_makeP (btwB Fs Gs);have i1:=fun {K} h=>@cr4Int (makeP (btwB Fs Gs)).1 Vs (setBlen sB) hvl K h;have sC:=setB_combP anB (makeP (btwB Fs Gs)).1 Vs;have b2:=fun {K} h=>@dkBtw Os Ns l4 l5 K h;have sD:=setB_makeP (btwB Os Ns);have i2:=fun {K} h=>@cr4Sub (combP anB (makeP (btwB Fs Gs)).1 Vs).1 (makeP (btwB Os Ns)).1 (setBlen sC) (setBlen sD) K h;generalize hB:makeP (btwB Fs Gs)=B at*;generalize hD:makeP (btwB Os Ns)=D at*;generalize hC:combP anB B.1 Vs=C at*;generalize hX:combP woB C.1 D.1=X at*;obtain⟨Bs,Be⟩:=B;obtain⟨Cs,Ce⟩:=C;obtain⟨Ds,De⟩:=D;obtain⟨Xs,Xe⟩:=X;simp only at b1 i1 b2 i2 hC hX;by_cases f0:Fe=0
 rotate_left
 ·rw[bindE_no (x:=(Fs,Fe)) f0]at hK;(repeat' ((conv=>whnf);first|(with_reducible first|refine cuCompB t ht ?_|refine djNt i hb ?_|refine hU hkl ?_|refine hJ hs ?_|refine g1 ?_)|refine zG ?_|apply zA|intro h|exact zT));all_goals conv=>whnf
  all_goals first
   |exact⟨_,gQ gR gM,hK⟩
   |(exfalso;(try simp only[aA]at*);omega)
 rw[bindE_ok (x:=(Fs,Fe)) f0]at hK;by_cases f1:Ge=0
 rotate_left
 ·rw[bindE_no (x:=(Gs,Ge)) f1]at hK;(repeat' ((conv=>whnf);first|(with_reducible first|refine cuCompB t ht ?_|refine djNt i hb ?_|refine hU hkl ?_|refine hJ hs ?_|refine g1 ?_|refine g2 ?_)|refine zG ?_|apply zA|intro h|exact zT));all_goals conv=>whnf
  all_goals first
   |exact⟨_,gQ gR gM,hK⟩
   |(exfalso;(try simp only[aA]at*);omega)
 rw[bindE_ok (x:=(Gs,Ge)) f1]at hK;by_cases f2:Ve=0
 rotate_left
 ·rw[bindE_no (x:=(Vs,Ve)) f2]at hK;(repeat' ((conv=>whnf);first|(with_reducible first|refine cuCompB t ht ?_|refine djNt i hb ?_|refine hU hkl ?_|refine hJ hs ?_|refine g1 ?_|refine g2 ?_|refine g3 ?_)|refine zG ?_|apply zA|intro h|exact zT));all_goals conv=>whnf
  all_goals first
   |exact⟨_,gQ gR gM,hK⟩
   |(exfalso;(try simp only[aA]at*);omega)
 rw[bindE_ok (x:=(Vs,Ve)) f2]at hK;simp only[hB]at hK;by_cases hex:s.exc=true
 ·simp only[hex,if_true]at hK;by_cases f3:Oe=0
  rotate_left
  ·rw[bindE_no (x:=(Os,Oe)) f3]at hK;(repeat' ((conv=>whnf);first|(with_reducible first|refine cuCompB t ht ?_|refine djNt i hb ?_|refine hU hkl ?_|refine hJ hs ?_|refine g1 ?_|refine g2 ?_|refine g3 ?_|refine g4 ?_)|refine zG ?_|apply zA|intro h|exact zT));all_goals conv=>whnf
   all_goals first
    |exact⟨_,gQ gR gM,hK⟩
    |(exfalso;(try simp only[aA]at*);omega)
  rw[bindE_ok (x:=(Os,Oe)) f3]at hK;by_cases f4:Ne=0
  rotate_left
  ·rw[bindE_no (x:=(Ns,Ne)) f4]at hK;(repeat' ((conv=>whnf);first|(with_reducible first|refine cuCompB t ht ?_|refine djNt i hb ?_|refine hU hkl ?_|refine hJ hs ?_|refine g1 ?_|refine g2 ?_|refine g3 ?_|refine g4 ?_|refine g5 ?_)|refine zG ?_|apply zA|intro h|exact zT));all_goals conv=>whnf
   all_goals first
    |exact⟨_,gQ gR gM,hK⟩
    |(exfalso;(try simp only[aA]at*);omega)
  rw[bindE_ok (x:=(Ns,Ne)) f4]at hK;simp only[hD]at hK;by_cases f5:Be=0
  rotate_left
  ·rw[bindE_no (x:=(Bs,Be)) f5]at hK;(repeat' ((conv=>whnf);first|(with_reducible first|refine cuCompB t ht ?_|refine djNt i hb ?_|refine hU hkl ?_|refine hJ hs ?_|refine g1 ?_|refine g2 ?_|refine g3 ?_|refine g4 ?_|refine g5 ?_|refine b1 ?_)|refine zG ?_|apply zA|intro h|exact zT));all_goals conv=>whnf
   all_goals first
    |exact⟨_,gQ gR gM,hK⟩
    |(exfalso;(try simp only[aA]at*);omega)
  rw[bindE_ok (x:=(Bs,Be)) f5]at hK;simp only[hC]at hK;by_cases f6:Ce=0
  rotate_left
  ·rw[aG (.inl f6)]at hK;(repeat' ((conv=>whnf);first|(with_reducible first|refine cuCompB t ht ?_|refine djNt i hb ?_|refine hU hkl ?_|refine hJ hs ?_|refine g1 ?_|refine g2 ?_|refine g3 ?_|refine g4 ?_|refine g5 ?_|refine b1 ?_|refine i1 ?_)|refine zG ?_|apply zA|intro h|exact zT));all_goals conv=>whnf
   all_goals first
    |exact⟨_,gM,hK⟩
    |(exfalso;(try simp only[aA]at*);omega)
  rw[aD (fun hh=>hh.elim (fun hn=>hn f6) (fun hn=>by cases hn))]at hK;by_cases f7:De=0
  rotate_left
  ·rw[bindE_no (x:=(Ds,De)) f7]at hK;(repeat' ((conv=>whnf);first|(with_reducible first|refine cuCompB t ht ?_|refine djNt i hb ?_|refine hU hkl ?_|refine hJ hs ?_|refine g1 ?_|refine g2 ?_|refine g3 ?_|refine g4 ?_|refine g5 ?_|refine b1 ?_|refine i1 ?_|refine b2 ?_)|refine zG ?_|apply zA|intro h|exact zT));all_goals conv=>whnf
   all_goals first
    |exact⟨_,gQ gR gM,hK⟩
    |(exfalso;(try simp only[aA]at*);omega)
  rw[bindE_ok (x:=(Ds,De)) f7]at hK;simp only[hX]at hK;(repeat' ((conv=>whnf);first|(with_reducible first|refine cuCompB t ht ?_|refine djNt i hb ?_|refine hU hkl ?_|refine hJ hs ?_|refine g1 ?_|refine g2 ?_|refine g3 ?_|refine g4 ?_|refine g5 ?_|refine b1 ?_|refine i1 ?_|refine b2 ?_|refine i2 ?_)|refine zG ?_|apply zA|intro h|exact zT));all_goals conv=>whnf
  all_goals first
   |exact⟨_,gM,hK⟩
   |(exfalso;(try simp only[aA]at*);omega)
 ·have hexf:s.exc=false:=by simpa using hex
  simp only[hexf,cM,if_false]at hK;rw[bindE_ok (x:=(([]:List Rg),(0:Int))) rfl,bindE_ok (x:=(([]:List Rg),(0:Int))) rfl]at hK;by_cases f5:Be=0
  rotate_left
  ·rw[bindE_no (x:=(Bs,Be)) f5]at hK;(repeat' ((conv=>whnf);first|(with_reducible first|refine cuCompB t ht ?_|refine djNt i hb ?_|refine hU hkl ?_|refine hJ hs ?_|refine g1 ?_|refine g2 ?_|refine g3 ?_|refine b1 ?_)|refine zG ?_|apply zA|intro h|exact zT));all_goals conv=>whnf
   all_goals first
    |exact⟨_,gQ gR gM,hK⟩
    |(exfalso;(try simp only[aA]at*);omega)
  rw[bindE_ok (x:=(Bs,Be)) f5]at hK;simp only[hC,or_true,if_true]at hK;(repeat' ((conv=>whnf);first|(with_reducible first|refine cuCompB t ht ?_|refine djNt i hb ?_|refine hU hkl ?_|refine hJ hs ?_|refine g1 ?_|refine g2 ?_|refine g3 ?_|refine b1 ?_|refine i1 ?_)|refine zG ?_|apply zA|intro h|exact zT));all_goals conv=>whnf
  all_goals first
   |exact⟨_,gM,hK⟩
   |(exfalso;(try simp only[aA]at*);omega)
theorem dkCls(t:Tp)(s:ByteArray)(hd:t.devs.length<1000000){K:KT}(hK:K (.sb (t.devs.any fun d=>sEq d.cls s)) []):AC 95 [encT t,.v (.string s)] [] K:=by
 refine gO (ofh17Cls rfl rfl ?_);(repeat' ((conv=>whnf);first|refine zG ?_|apply zA|intro h|exact zT));all_goals conv=>whnf
 refine gL Nat (fun k=>⟨1,[(0,boxT t)],[(1,.v (.string s)),(2,.op 0 0),(5,.v (.int .i64 k))]⟩) (fun k=>k<=t.devs.length/\∀(j:Nat) x,j<k->t.devs[j]? =some x->sEq x.cls s=false) (fun k=>t.devs.length-k) 0 ⟨aK _,fun j x h=>absurd h (bC _)⟩ ?_ ?_
 ·exact leA
 intro k ⟨hk,hinv⟩;rcases aF k t.devs.length with hkl|hkl
 ·obtain⟨x,hx⟩:=gex hkl;(repeat' ((conv=>whnf);first|(with_reducible first|refine hU hkl ?_|refine hJ hx ?_)|refine zG ?_|apply zA|intro h|exact zT));all_goals conv=>whnf
  all_goals first
   |exact fin_t hK (dJ.2 ⟨x,aI hx,h⟩)
   |(refine⟨k+1,⟨hkl,iC hx (by first|exact h|simpa[sEq]using h) hinv⟩,by omega,?_⟩
     rw[aO,aN];exact leA)
 ·(repeat' ((conv=>whnf);first|refine zG ?_|apply zA|intro h|exact zT));all_goals conv=>whnf
  refine fin_f hK ?_;rw[bV,ne_eq,dJ]
  rintro⟨x,hx,hc⟩
  obtain⟨j,hj⟩:=bN.1 hx;have:=iB hkl hinv j x hj;rw[hc]at this;cases this
theorem dkChk(t:Tp)(ht:t.edges.length<1000000)(hd:t.devs.length<1000000)(i:Nt)(hb:Bnd i){K:KT}(hK:K (.v (.int .i64 (chkV t i))) []):AC 36 [encT t,encNt i] [] K:=by
 have bg:=hb.g;have bs:=hb.s;have bt:=hb.t;have bp:=hb.p;have bh:=hb.h;refine ofh17Chk rfl rfl ?_;unfold chkV at hK;by_cases hc:compB t=true
 rotate_left
 ·have hcf:compB t=false:=by simpa using hc
  rw[aD (fun hh=>hc hh.1)]at hK;(repeat' ((conv=>whnf);first|(with_reducible refine cuCompB t ht ?_)|refine zG ?_|apply zA|intro h|exact zT));all_goals conv=>whnf
  exact hK
 by_cases hn:ntB i=true
 rotate_left
 ·have hnf:ntB i=false:=by simpa using hn
  rw[aD (fun hh=>hn hh.2)]at hK;(repeat' ((conv=>whnf);first|(with_reducible first|refine cuCompB t ht ?_|refine djNt i hb ?_)|refine zG ?_|apply zA|intro h|exact zT));all_goals conv=>whnf
  exact hK
 rw[aG ⟨hc,hn⟩,chkP_eq]at hK;have hg:∀(nm:ByteArray) {K:KT},K (.tup [encRs (grpP t i nm).1,.v (.int .i64 (grpP t i nm).2)]) []->AC 93 [encT t,encNt i,.v (.string nm)] [] K:=fun nm K h=>dkGrp t ht i hb nm (by rw[grpV,aG ⟨hc,hn⟩];exact h);have hs:∀(nm:ByteArray) {K:KT},K (.tup [encXs (svcP i nm).1,.v (.int .i64 (svcP i nm).2)]) []->AC 94 [encNt i,.v (.string nm)] [] K:=fun nm K h=>dkSvc i hb nm (by rw[svcV,aG hn];exact h);have hm:∀(k:Nat) (s:Sm),k<i.sts.length->i.sts[k]? =some s->∀{K:KT},K (.tup [encXs (stmP t i s).1,.v (.int .i64 (stmP t i s).2)]) []->AC 38 [encT t,encNt i,.v (.int .i64 k)] [] K:=fun k s hk hs K h=>dkStm t ht i hb k (by
  rw[stmV,aG ⟨hc,hn⟩,aD zo,eJ,hs];exact h)
 (repeat' ((conv=>whnf);first|(with_reducible first|refine cuCompB t ht ?_|refine djNt i hb ?_)|refine zG ?_|apply zA|intro h|exact zT));all_goals conv=>whnf
 refine gL Nat (fun n=>⟨2,[(0,boxT t),(1,boxNt i)],[(2,.op 0 0),(3,.op 1 0),(5,.v (.int .i64 n))]⟩) (fun n=>n<=i.grps.length/\fstE (fun d:Df=>(grpP t i d.name).2) i.grps=fstE (fun d:Df=>(grpP t i d.name).2) (i.grps.drop n)) (fun n=>i.grps.length-n) 0 ⟨aK _,by rw[bZ]⟩ ?_ ?_
 ·exact leA
 intro n ⟨hn1,heq⟩;rcases aF n i.grps.length with hnl|hnl
 ·obtain⟨x,hx⟩:=gex hnl;have hdr:i.grps.drop n=x::i.grps.drop (n+1):=by
   rw[aE hnl]at hx;rw[<-bE hx,<-bB hnl]
  rw[hdr,fstE_cons]at heq;have hgx:=fun {K} h=>@hg x.name K h;generalize grpP t i x.name=G at*;obtain⟨Gs,Ge⟩:=G;simp only at heq hgx;(repeat' ((conv=>whnf);first|(with_reducible first|refine hU hnl ?_|refine hJ hx ?_|refine hgx ?_)|refine zG ?_|apply zA|intro h|exact zT));all_goals conv=>whnf
  all_goals first
   |(rw[aD (fun hh=>hh h)]at heq
     refine⟨n+1,⟨hnl,heq⟩,by omega,?_⟩;rw[aO,aN];exact leA)
   |(rw[aG h]at heq
     rw[heq,aG h]at hK;exact hK)
 rw[bU hnl]at heq;have e0:fstE (fun d:Df=>(grpP t i d.name).2) i.grps=0:=heq;clear heq;(repeat' ((conv=>whnf);first|refine zG ?_|apply zA|intro h|exact zT));all_goals conv=>whnf
 refine gL Nat (fun n=>⟨2,[(0,boxT t),(1,boxNt i)],[(2,.op 0 0),(3,.op 1 0),(8,.v (.int .i64 n))]⟩) (fun n=>n<=i.svcs.length/\fstE (fun d:Df=>(svcP i d.name).2) i.svcs=fstE (fun d:Df=>(svcP i d.name).2) (i.svcs.drop n)) (fun n=>i.svcs.length-n) 0 ⟨aK _,by rw[bZ]⟩ ?_ ?_
 ·exact leA
 intro n ⟨hn1,heq⟩;rcases aF n i.svcs.length with hnl|hnl
 ·obtain⟨x,hx⟩:=gex hnl;have hdr:i.svcs.drop n=x::i.svcs.drop (n+1):=by
   rw[aE hnl]at hx;rw[<-bE hx,<-bB hnl]
  rw[hdr,fstE_cons]at heq;have hsx:=fun {K} h=>@hs x.name K h;generalize svcP i x.name=G at*;obtain⟨Gs,Ge⟩:=G;simp only at heq hsx;(repeat' ((conv=>whnf);first|(with_reducible first|refine hU hnl ?_|refine hJ hx ?_|refine hsx ?_)|refine zG ?_|apply zA|intro h|exact zT));all_goals conv=>whnf
  all_goals first
   |(rw[aD (fun hh=>hh h)]at heq
     refine⟨n+1,⟨hnl,heq⟩,by omega,?_⟩;rw[aO,aN];exact leA)
   |(rw[aG h]at heq
     rw[aD (fun hh=>hh e0)]at hK;rw[heq,aG h]at hK;exact hK)
 rw[bU hnl]at heq;have e1:fstE (fun d:Df=>(svcP i d.name).2) i.svcs=0:=heq;clear heq;(repeat' ((conv=>whnf);first|refine zG ?_|apply zA|intro h|exact zT));all_goals conv=>whnf
 refine gL Nat (fun n=>⟨2,[(0,boxT t),(1,boxNt i)],[(2,.op 0 0),(3,.op 1 0),(11,.v (.int .i64 n))]⟩) (fun n=>n<=i.sts.length/\fstE (fun s:Sm=>if(stmP t i s).2≠0 then(stmP t i s).2 else namE t i s) i.sts=fstE (fun s:Sm=>if(stmP t i s).2≠0 then(stmP t i s).2 else namE t i s) (i.sts.drop n)) (fun n=>i.sts.length-n) 0 ⟨aK _,by rw[bZ]⟩ ?_ ?_
 ·exact leA
 intro n ⟨hn1,heq⟩;rcases aF n i.sts.length with hnl|hnl
 ·obtain⟨x,hx⟩:=gex hnl;have hdr:i.sts.drop n=x::i.sts.drop (n+1):=by
   rw[aE hnl]at hx;rw[<-bE hx,<-bB hnl]
  rw[hdr,fstE_cons]at heq;have hmx:=fun {K} h=>@hm n x hnl hx K h;generalize stmP t i x=G at*;obtain⟨Gs,Ge⟩:=G;simp only at heq hmx;have hN:namE t i x=if((x.cls.toList==(⟨#[]⟩:ByteArray).toList)||(t.devs.any fun d=>sEq d.cls x.cls))&&((x.dur.toList==(⟨#[]⟩:ByteArray).toList)||decide (0<=wnIx i.wins x.dur))then 0 else 5:=by
   unfold namE;rw[<-first_any (fun w:Wn=>sEq w.name x.dur) i.wins];rfl
  (repeat' ((conv=>whnf);first|(with_reducible first|refine hU hnl ?_|refine hJ hx ?_|refine hmx ?_|refine dkCls t x.cls zo ?_|refine djFindW i.wins x.dur (by have:=hb.w;omega) ?_)|refine zG ?_|apply zA|intro h|exact zT));all_goals conv=>whnf
  all_goals first
   |(have hge:¬Ge=0:=by with_reducible assumption
     rw[aG hge,aG hge]at heq;rw[aD (fun hh=>hh e0),aD (fun hh=>hh e1)]at hK;rw[heq,aG hge]at hK;exact hK)
   |(have hge:Ge=0:=by with_reducible assumption
     have hz:namE t i x=0:=by
      clear heq hK hmx hg hs hm;rw[hN];simp_all;try omega
     rw[aD (show ¬(Ge≠0)from fun hh=>hh hge),hz,aD (fun hh=>hh rfl)]at heq;refine⟨n+1,⟨hnl,heq⟩,by omega,?_⟩;rw[aO,aN];exact leA)
   |(have hge:Ge=0:=by with_reducible assumption
     have hz:namE t i x=5:=by
      clear heq hK hmx hg hs hm;rw[hN];simp_all;try omega
     rw[aD (show ¬(Ge≠0)from fun hh=>hh hge),hz,aG zd]at heq;rw[aD (fun hh=>hh e0),aD (fun hh=>hh e1)]at hK;rw[heq,aG zd]at hK;exact hK)
 rw[bU hnl]at heq;have e2:fstE (fun s:Sm=>if(stmP t i s).2≠0 then(stmP t i s).2 else namE t i s) i.sts=0:=heq;clear heq;(repeat' ((conv=>whnf);first|refine zG ?_|apply zA|intro h|exact zT));all_goals conv=>whnf
 refine gL Nat (fun n=>⟨2,[(0,boxT t),(1,boxNt i)],[(2,.op 0 0),(3,.op 1 0),(15,.v (.int .i64 n))]⟩) (fun n=>n<=i.pubs.length/\fstE (fun p:Pb=>if edgeIx t.edges p.edge<0 then 5 else 0) i.pubs=fstE (fun p:Pb=>if edgeIx t.edges p.edge<0 then 5 else 0) (i.pubs.drop n)) (fun n=>i.pubs.length-n) 0 ⟨aK _,by rw[bZ]⟩ ?_ ?_
 ·exact leA
 intro n ⟨hn1,heq⟩;rcases aF n i.pubs.length with hnl|hnl
 ·obtain⟨x,hx⟩:=gex hnl;have hdr:i.pubs.drop n=x::i.pubs.drop (n+1):=by
   rw[aE hnl]at hx;rw[<-bE hx,<-bB hnl]
  rw[hdr,fstE_cons]at heq;(repeat' ((conv=>whnf);first|(with_reducible first|refine hU hnl ?_|refine hJ hx ?_|refine cuEdge t _ ht ?_)|refine zG ?_|apply zA|intro h|exact zT));all_goals conv=>whnf
  all_goals first
   |(rw[aD h,aD zd]at heq
     refine⟨n+1,⟨hnl,heq⟩,by omega,?_⟩;rw[aO,aN];exact leA)
   |(rw[aG h,aG zd]at heq
     rw[aD (fun hh=>hh e0),aD (fun hh=>hh e1),aD (fun hh=>hh e2)]at hK;rw[heq,aG zd]at hK;exact hK)
 rw[bU hnl]at heq;have e3:fstE (fun p:Pb=>if edgeIx t.edges p.edge<0 then 5 else 0) i.pubs=0:=heq;clear heq;(repeat' ((conv=>whnf);first|refine zG ?_|apply zA|intro h|exact zT));all_goals conv=>whnf
 refine gL Nat (fun n=>⟨2,[(0,boxT t),(1,boxNt i)],[(2,.op 0 0),(3,.op 1 0),(16,.v (.int .i64 n))]⟩) (fun n=>n<=i.hids.length/\fstE (fun h:Hn=>if edgeIx t.edges h.edge<0 then 5 else(grpP t i h.grp).2) i.hids=fstE (fun h:Hn=>if edgeIx t.edges h.edge<0 then 5 else(grpP t i h.grp).2) (i.hids.drop n)) (fun n=>i.hids.length-n) 0 ⟨aK _,by rw[bZ]⟩ ?_ ?_
 ·exact leA
 intro n ⟨hn1,heq⟩;rcases aF n i.hids.length with hnl|hnl
 ·obtain⟨x,hx⟩:=gex hnl;have hdr:i.hids.drop n=x::i.hids.drop (n+1):=by
   rw[aE hnl]at hx;rw[<-bE hx,<-bB hnl]
  rw[hdr,fstE_cons]at heq;have hgx:=fun {K} h=>@hg x.grp K h;generalize grpP t i x.grp=G at*;obtain⟨Gs,Ge⟩:=G;simp only at heq hgx;(repeat' ((conv=>whnf);first|(with_reducible first|refine hU hnl ?_|refine hJ hx ?_|refine cuEdge t _ ht ?_|refine hgx ?_)|refine zG ?_|apply zA|intro h|exact zT));all_goals conv=>whnf
  all_goals first
   |(rename_i hz
     rw[aD hz,aD (fun hh=>hh h)]at heq;refine⟨n+1,⟨hnl,heq⟩,by omega,?_⟩;rw[aO,aN];exact leA)
   |(rw[aG h,aG zd]at heq
     rw[aD (fun hh=>hh e0),aD (fun hh=>hh e1),aD (fun hh=>hh e2),aD (fun hh=>hh e3)]at hK;rw[heq]at hK;exact hK)
   |(rename_i hz
     rw[aD hz,aG h]at heq;rw[aD (fun hh=>hh e0),aD (fun hh=>hh e1),aD (fun hh=>hh e2),aD (fun hh=>hh e3)]at hK;rw[heq]at hK;exact hK)
 rw[bU hnl]at heq;have e4:fstE (fun h:Hn=>if edgeIx t.edges h.edge<0 then 5 else(grpP t i h.grp).2) i.hids=0:=heq;clear heq;rw[aD (fun hh=>hh e0),aD (fun hh=>hh e1),aD (fun hh=>hh e2),aD (fun hh=>hh e3),e4]at hK;(repeat' ((conv=>whnf);first|refine zG ?_|apply zA|intro h|exact zT));all_goals conv=>whnf
 exact hK
end Go.Proofs.YtnomkooikbhgmaaGreatDoor
