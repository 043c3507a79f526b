/- The reference's resolve, exactly: groups and services. -/
import Derived.Test.YtbdikofefjljoaaGreatDoorJ33
set_option linter.unusedVariables false
set_option linter.unusedSimpArgs false
set_option maxRecDepth 100000
set_option maxHeartbeats 4000000
namespace Go.Proofs.YtbdikofefjljoaaGreatDoor
open Go Go.Vm
section
variable {S T:Type} {v:It->S->Int×S} {w:It->T->Int×T} (f:S->T)
theorem folI_sim{rec:ByteArray->List Nat->S->Int×List Nat×S}{rec':ByteArray->List Nat->T->Int×List Nat×T}(hrec:∀nm d s,rec' nm d (f s)=((rec nm d s).1,(rec nm d s).2.1,f (rec nm d s).2.2)):
  ∀(its:List It) (d:List Nat) (s:S),(∀x,x∈its->x.kind≠3->∀s,(w x (f s)).1=(v x s).1/\(w x (f s)).2=f (v x s).2)->folI w rec' its d (f s)=((folI v rec its d s).1,(folI v rec its d s).2.1,f (folI v rec its d s).2.2)
 |[],d,s,_=>rfl
 |x::r,d,s,h=>by
  rw[folI_cons,folI_cons]
  have hq:(if x.kind=3 then rec' x.name d (f s)else((w x (f s)).1,d,(w x (f s)).2))=((if x.kind=3 then rec x.name d s else((v x s).1,d,(v x s).2)).1,(if x.kind=3 then rec x.name d s else((v x s).1,d,(v x s).2)).2.1,f (if x.kind=3 then rec x.name d s else((v x s).1,d,(v x s).2)).2.2):=by
   by_cases hk:x.kind=3
   ·simp only[aH hk];exact hrec _ _ _
   ·simp only[aE hk]
    obtain⟨h1,h2⟩:=h x zx hk s
    rw[h1,h2]
  rw[hq]
  generalize (if x.kind=3 then rec x.name d s else((v x s).1,d,(v x s).2))=q at*
  by_cases h0:q.1=0
  ·rw[aH h0,aH h0]
   exact folI_sim hrec r _ _ fun y hy=>h y (aX _ hy)
  ·rw[aE h0,aE h0]
theorem fol_sim(l:List Df)(h:∀d,d∈l->∀x,x∈d.items->x.kind≠3->∀s,(w x (f s)).1=(v x s).1/\(w x (f s)).2=f (v x s).2):∀(k:Nat) (p:List Nat) (nm:ByteArray) (d:List Nat) (s:S),fol w l k p nm d (f s)=((fol v l k p nm d s).1,(fol v l k p nm d s).2.1,f (fol v l k p nm d s).2.2)
 |0,p,nm,d,s=>rfl
 |k+1,p,nm,d,s=>by
  unfold fol
  cases hn:findD l nm with
  |none=>rfl
  |some n=>
   simp only
   split
   ·rfl
   split
   ·rfl
   obtain⟨df,hdf,_⟩:=findD_some hn
   rw[hdf]
   simp only[cZ,cW]
   rw[folI_sim f (rec:=fol v l k (p++[n])) (rec':=fol w l k (p++[n])) (fun nm d s=>fol_sim l h k (p++[n]) nm d s) df.items d s (h df (aG hdf))]
   split<;>rfl
end
def rsIt(t:Tp)(y:It):List Rg:=if y.kind=1 then(zoneL t y.name).map (rgAt t)else [y.pf.rg]
def rsOf(t:Tp)(its:List It):List Rg:=its.flatMap (rsIt t)
theorem rsOf_snoc(t:Tp)(its:List It)(x:It):rsOf t (its++[x])=rsOf t its++rsIt t x:=by simp[rsOf]
theorem grp_kind{x:It}(h:itB x true=true)(hk:x.kind≠3):x.kind=1\/x.kind=2:=by
 unfold itB at h
 by_cases h1:x.kind=1
 ·exact .inl h1
 by_cases h2:x.kind=2
 ·exact .inr h2
 rw[aE hk,aE h1,aE h2]at h
 split at h<;>simp at h
theorem svc_kind4{x:It}(h:itB x false=true)(hk:x.kind≠3):x.kind=4:=by
 unfold itB at h
 by_cases h1:x.kind=1
 ·rw[aE hk,aH h1]at h;simp at h
 by_cases h2:x.kind=2
 ·rw[aE hk,aE h1,aH h2]at h;simp at h
 by_cases h4:x.kind=4
 ·exact h4
 rw[aE hk,aE h1,aE h2,aE h4]at h;simp at h
theorem dfs_it{l:List Df}{g:Bool}(h:DfsOk l g):∀d,d∈l->∀x,x∈d.items->itB x g=true:=fun d hd x hx=>by
 obtain⟨n,hn⟩:=bI.1 hd
 exact(h.all n d hn).all x hx
theorem grp_sim{t:Tp}{l:List Df}(h:DfsOk l true){nm:ByteArray}(hn:sEq nm ⟨#[]⟩=false):grpE t l nm=((fol (visR t) l (l.length+1) [] nm [] []).1,rsOf t (fol (visR t) l (l.length+1) [] nm [] []).2.2):=by
 have:=fol_sim (v:=visR t) (w:=visG t) (rsOf t) l (fun d hd x hx hk s=>by
  rcases grp_kind (dfs_it h d hd x hx) hk with h1|h2
  ·unfold visG visR
   rw[aE zo]
   by_cases hz:zoneL t x.name=[]
   ·rw[aH hz,aH ⟨h1,hz⟩];exact⟨rfl,rfl⟩
   ·rw[aE hz,aE fun hh=>hz hh.2]
    refine⟨rfl,?_⟩
    rw[rsOf_snoc,rsIt,aH h1]
  ·unfold visG visR
   rw[aH h2,aE fun hh=>by omega]
   refine⟨rfl,?_⟩
   rw[rsOf_snoc,rsIt,aE zo]) (l.length+1) [] nm [] []
 unfold grpE
 rw[aE (by rw[hn];decide)]
 have e:rsOf t []=[]:=rfl
 rw[e]at this
 rw[this]
theorem svc_sim{l:List Df}(h:DfsOk l false)(t:Tp)(nm:ByteArray):svcF l nm=((fol (visR t) l (l.length+1) [] nm [] []).1,(fol (visR t) l (l.length+1) [] nm [] []).2.2):=by
 have:=fol_sim (v:=visR t) (w:=visS) id l (fun d hd x hx hk s=>by
  have h4:=svc_kind4 (dfs_it h d hd x hx) hk
  unfold visS visR
  rw[aE fun hh=>by omega]
  exact⟨rfl,rfl⟩) (l.length+1) [] nm [] []
 unfold svcF
 simp only[id]at this
 rw[this]
theorem dkFind(t:Tp)(ht:t.edges.length<=1000)(l:List Df)(hl:l.length<=999)(hit:∀d,d∈l->d.items.length<=999)(s:ByteArray){K:KT}(hK:K (.tup [.lst ((fol (visR t) l (l.length+1) [] s [] []).2.2.map encIt),.v (.int .i64 (fol (visR t) l (l.length+1) [] s [] []).1)]) []):
  AC 158 [encT t,.lst (l.map encDf),.v (.string s)] [] K:=by
 refine gP (ofh17Find rfl rfl ?_)
 cases hfd:findD l s with
 |none=>
  have hq:fol (visR t) l (l.length+1) [] s [] []=(5,[],[]):=by simp only[fol,hfd]
  rw[hq]at hK
  have hfi:∀{K:KT},K (.v (.int .i64 (-1))) []->AC 213 [.lst (l.map encDf),.v (.string s)] [] K:=fun h=>djFind l s zo (by rw[dfIx,firstIx_find,hfd];exact h)
  (repeat' ((conv=>whnf);first|(with_reducible refine hfi ?_)|refine zG ?_|apply zA|intro h|exact zT));all_goals conv=>whnf
  exact⟨_,gQ gR gM,hK⟩
 |some m=>
  have hfi:∀{K:KT},K (.v (.int .i64 m)) []->AC 213 [.lst (l.map encDf),.v (.string s)] [] K:=fun h=>djFind l s zo (by rw[dfIx,firstIx_find,hfd];exact h)
  have hf:∀{K:KT},K (.v (.int .i64 (fol (visR t) l (l.length+1) [] s [] []).1)) [walkO l 3 4 (fol (visR t) l (l.length+1) [] s [] []).2.1.length (fol (visR t) l (l.length+1) [] s [] []).2.2.length,.box [],.box [],.arr 1 ((fol (visR t) l (l.length+1) [] s [] []).2.1.map vN),.arr 7 ((fol (visR t) l (l.length+1) [] s [] []).2.2.map encIt)]->
   AC 242 [.op 0 0,encT t,.v (.int .i64 m),.nils] [walkO l 1 2 0 0,.arr 1 [],.arr 7 []] K:=fun {K} h=>
   ACall.args (ys:=[.op 0 0,encT t,.v (.int .i64 m),.lst (([]:List Nat).map vN)]) ⟨Weak.refl,gM,gM,gR,trivial⟩
    (dkFol t ht l hl hit l.length [] m s [] [] (fineNil l) hfd zx zx h)
  generalize fol (visR t) l (l.length+1) [] s [] []=q at*
  obtain⟨qe,qd,qs⟩:=q
  simp only at hf hK
  (repeat' ((conv=>whnf);first|(with_reducible first|refine hfi ?_|refine hf ?_|refine sl_full (aA ..) ?_)|refine zG ?_|apply zA|intro h|exact zT));all_goals conv=>whnf
  all_goals first
   |exact⟨_,gM,hK⟩
   |(exfalso;omega)
theorem take_rs(t:Tp)(its:List It)(k:Nat)(h12:t.edges.length<=12):(rsOf t (its.take k)).length<=12*k:=by
 have:∀m:List It,(rsOf t m).length<=12*m.length:=fun m=>by
  induction m with
  |nil=>simp[rsOf]
  |cons x m ih=>
   have hx:(rsIt t x).length<=12:=by
    unfold rsIt
    split
    ·rw[aA];exact bO (ixs_len ..) h12
    ·simp
   have e:rsOf t (x::m)=rsIt t x++rsOf t m:=by simp[rsOf]
   rw[e,aC,aK];omega
 have h1:=this (its.take k)
 have h2:(its.take k).length<=k:=by rw[bG];omega
 omega
theorem range_rg(t:Tp):(List.range t.edges.length).map (rgAt t)=t.edges.map fun e=>e.pf.rg:=by
 refine List.ext_getElem zx fun i h1 h2=>?_
 have hi:i<t.edges.length:=by simpa using h2
 simp[rgAt,aB hi]
theorem c14o(L:List Rg)(hL:L.length<10000){K:KT}(hK:K (encRs (canO (has L))) []):AC 155 [encRs L,.lst []] [] K:=
 c14 L [] hL zx fun out h1 h2 h3=>by
  rw[canO_eq h1 fun v=>by rw[h2];simp[has_nil]]at hK
  exact hK
theorem dkGrp(t:Tp)(ht:t.edges.length<1000000)(i:Nt)(hb:Bnd i)(nm:ByteArray){K:KT}(hK:K (.tup [encRs (grpV t i nm).1,.v (.int .i64 (grpV t i nm).2)]) []):
  AC 78 [encT t,encNt i,.v (.string nm)] [] K:=by
 refine gP (ofh17Grp rfl rfl ?_)
 unfold grpV at hK
 by_cases hc:compB t=true
 rotate_left
 ·have hcf:compB t=false:=by simpa using hc
  rw[aE (fun hh=>hc hh.1)]at hK
  (repeat' ((conv=>whnf);first|(with_reducible refine cuCompB t ht ?_)|refine zG ?_|apply zA|intro h|exact zT));all_goals conv=>whnf
  exact⟨_,gQ gR gM,hK⟩
 by_cases hn:ntB i=true
 rotate_left
 ·have hnf:ntB i=false:=by simpa using hn
  rw[aE (fun hh=>hn hh.2)]at hK
  (repeat' ((conv=>whnf);first|(with_reducible first|refine cuCompB t ht ?_|refine djNt i hb ?_)|refine zG ?_|apply zA|intro h|exact zT));all_goals conv=>whnf
  exact⟨_,gQ gR gM,hK⟩
 rw[aH ⟨hc,hn⟩]at hK
 have hg:=(ntB_iff.1 hn).g
 have h12:=comp_edges hc
 have hits:=hb.its
 unfold grpP at hK
 by_cases hnm:sEq nm ⟨#[]⟩=true
 ·have e:grpE t i.grps nm=(0,t.edges.map fun e=>e.pf.rg):=by unfold grpE;rw[aH hnm]
  rw[e,aH rfl,<-range_rg]at hK
  have hnm2:(nm.toList==(⟨#[]⟩:ByteArray).toList)=true:=hnm
  (repeat' ((conv=>whnf);first|(with_reducible first|refine cuCompB t ht ?_|refine djNt i hb ?_|refine dkAll t zo ?_|refine dkEdg t (List.range t.edges.length) (by rw[fO];omega) (fun n hn=>dK.1 hn) ?_|refine c14o _ (by rw[aA,fO];omega) ?_)|refine zG ?_|apply zA|intro h|exact zT));all_goals conv=>whnf
  exact⟨_,gM,hK⟩
 ·have hnf:sEq nm ⟨#[]⟩=false:=by simpa using hnm
  have hnm2:(nm.toList==(⟨#[]⟩:ByteArray).toList)=false:=hnf
  rw[grp_sim hg hnf]at hK
  have hf:=fun {K} h=>@dkFind t zo i.grps hb.g hb.gi nm K h
  have hlen:=fol_all (visR t) List.length 1 (fun x s h0=>by
   unfold visR at h0⊢
   split
   ·simp
   ·simp) i.grps nm []
  generalize fol (visR t) i.grps (i.grps.length+1) [] nm [] []=q at*
  obtain⟨qe,qd,its⟩:=q
  simp only at hf hK hlen
  by_cases h0:qe=0
  rotate_left
  ·rw[aE h0]at hK
   (repeat' ((conv=>whnf);first|(with_reducible first|refine cuCompB t ht ?_|refine djNt i hb ?_|refine hf ?_)|refine zG ?_|apply zA|intro h|exact zT));all_goals conv=>whnf
   all_goals first
    |exact⟨_,gQ gR gM,hK⟩
    |(exfalso;omega)
  subst h0
  rw[aH rfl]at hK
  have hlen:=hlen rfl
  simp only[aP]at hlen
  (repeat' ((conv=>whnf);first|(with_reducible first|refine cuCompB t ht ?_|refine djNt i hb ?_|refine hf ?_)|refine zG ?_|apply zA|intro h|exact zT));all_goals conv=>whnf
  refine gL Nat (fun k=>⟨2,[(0,boxT t),(1,.arr 2 ((rsOf t (its.take k)).map encR))],[(3,.op 0 0),(8,.lst (its.map encIt)),(10,.os 1 2 0 (rsOf t (its.take k)).length),(11,.v (.int .i64 k))]⟩)
   (fun k=>k<=its.length) (fun k=>its.length-k) 0 (aL _) ?_ ?_
  ·rw[cR]
   (exact leA)
  intro k h1
  have hrl:=take_rs t its k h12
  rcases aD k its.length with hkl|hkl
  ·obtain⟨y,hy⟩:=gex hkl
   have hs:rsOf t (its.take (k+1))=rsOf t (its.take k)++rsIt t y:=by rw[bH,hy];exact rsOf_snoc ..
   generalize rsOf t (its.take k)=A at*
   have hzl:(zoneL t y.name).length<=12:=bO (ixs_len ..) h12
   have hzb:∀n,n∈zoneL t y.name->n<t.edges.length:=fun n hn=>(ixs_lt hn).1
   (repeat' ((conv=>whnf);first|(with_reducible first|refine hJ hkl ?_|refine gZ hy ?_|refine dkZone t _ zo ?_|refine dkEdg t (zoneL t y.name) zo hzb ?_|refine crOf _ ?_)|refine zG ?_|apply zA|intro h|exact zT));all_goals conv=>whnf
   all_goals first
    |(refine⟨k+1,hkl,by omega,?_⟩
      rw[hs,rsIt,aH zo]
      simp only[aQ,aC,aA,aO,aN]
      (exact leA)
      done)
    |(refine⟨k+1,hkl,by omega,?_⟩
      rw[hs,rsIt,aE zo]
      simp only[aQ,aC,aW,bN,aK,aP,aO,aN]
      (exact leA)
      done)
  ·rw[bA hkl]at hrl⊢
   (repeat' ((conv=>whnf);first|(with_reducible first|refine sl_full (aA ..) ?_|refine c14o (rsOf t its) zo ?_)|refine zG ?_|apply zA|intro h|exact zT));all_goals conv=>whnf
   exact⟨_,gM,hK⟩
theorem dkSvc(i:Nt)(hb:Bnd i)(nm:ByteArray){K:KT}(hK:K (.tup [encXs (svcV i nm).1,.v (.int .i64 (svcV i nm).2)]) []):
  AC 79 [encNt i,.v (.string nm)] [] K:=by
 refine gP (ofh17Svc rfl rfl ?_)
 unfold svcV at hK
 by_cases hn:ntB i=true
 rotate_left
 ·have hnf:ntB i=false:=by simpa using hn
  rw[aE hn]at hK
  (repeat' ((conv=>whnf);first|(with_reducible refine djNt i hb ?_)|refine zG ?_|apply zA|intro h|exact zT));all_goals conv=>whnf
  exact⟨_,gQ gR gM,hK⟩
 rw[aH hn]at hK
 have hs:=(ntB_iff.1 hn).s
 unfold svcP at hK
 by_cases hnm:sEq nm ⟨#[]⟩=true
 ·rw[aH hnm]at hK
  have hnm2:(nm.toList==(⟨#[]⟩:ByteArray).toList)=true:=hnm
  (repeat' ((conv=>whnf);first|(with_reducible first|refine djNt i hb ?_|refine cr4Init ?_)|refine zG ?_|apply zA|intro h|exact zT));all_goals conv=>whnf
  exact⟨_,gM,hK⟩
 ·rw[aE hnm]at hK
  have hnm2:(nm.toList==(⟨#[]⟩:ByteArray).toList)=false:=by simpa[sEq]using hnm
  have hlen:=svcF_len (l:=i.svcs) (nm:=nm)
  have hsn:=hb.sits
  have hok:(svcF i.svcs nm).1=0->∀x,x∈(svcF i.svcs nm).2->(hdrX x).ok:=fun h0 x hx=>by
   obtain⟨d,hd,hxd,hx3⟩:=lead_item (((svc_lead h0).2 x).1 hx)
   exact hdr_okK (dfs_it hs d hd x hxd) hx3
  rw[svc_sim hs tp0 nm]at hK hlen hok
  have hf:∀{K:KT},K (.tup [.lst ((fol (visR tp0) i.svcs (i.svcs.length+1) [] nm [] []).2.2.map encIt),.v (.int .i64 (fol (visR tp0) i.svcs (i.svcs.length+1) [] nm [] []).1)]) []->
   AC 158 [.agg [.lst [],.lst [],.lst [],.lst [],.v (.int .i64 0)],.lst (i.svcs.map encDf),.v (.string nm)] [] K:=fun h=>dkFind tp0 (by simp[tp0]) i.svcs hb.s hb.si nm h
  generalize fol (visR tp0) i.svcs (i.svcs.length+1) [] nm [] []=q at*
  obtain⟨qe,qd,its⟩:=q
  simp only at hf hK hlen hok
  by_cases h0:qe=0
  rotate_left
  ·rw[aH h0]at hK
   (repeat' ((conv=>whnf);first|(with_reducible first|refine djNt i hb ?_|refine hf ?_)|refine zG ?_|apply zA|intro h|exact zT));all_goals conv=>whnf
   all_goals first
    |exact⟨_,gQ gR gM,hK⟩
    |(exfalso;omega)
  subst h0
  rw[aE zd]at hK
  have hlen:=hlen rfl
  have hok:=hok rfl
  (repeat' ((conv=>whnf);first|(with_reducible first|refine djNt i hb ?_|refine hf ?_)|refine zG ?_|apply zA|intro h|exact zT));all_goals conv=>whnf
  refine gL (Nat×List Bx) (fun g=>⟨0,[],[(6,.lst (its.map encIt)),(8,encXs g.2),(9,.v (.int .i64 g.1))]⟩) (fun g=>g.1<=its.length/\setB g.2=true/\svcGo its []=svcGo (its.drop g.1) g.2) (fun g=>its.length-g.1) (0,[]) ⟨aL _,setB_nil,by rw[cA]⟩ ?_ ?_
  ·(exact leA)
  rintro⟨k,s⟩ ⟨hk,hs,heq⟩
  simp only at hk hs heq⊢
  have hsl:=(setB_pset hs).len
  rcases aD k its.length with hkl|hkl
  ·obtain⟨x,hx⟩:=gex hkl
   have hd:its.drop k=x::its.drop (k+1):=by
    rw[aB hkl]at hx
    rw[<-bE hx,<-aZ hkl]
   rw[hd,svcGo_drop,aE (by rw[(comb_one init_set (hok x (aG hx))).1];decide)]at heq
   have hsA:=setB_combP anB initS [hdrX x]
   have hsB:=setB_combP orB s (combP anB initS [hdrX x]).1
   have hal:=(setB_pset hsA).len
   have hu:=fun {K} h=>@cr4Un s (combP anB initS [hdrX x]).1 zo zo K h
   have hh:=fun {K} h=>@chHdr x K h
   generalize combP orB s (combP anB initS [hdrX x]).1=B at*
   generalize combP anB initS [hdrX x]=A at*
   obtain⟨As,Ae⟩:=A
   obtain⟨Bs,Be⟩:=B
   simp only at heq hsA hsB hu hh
   (repeat' ((conv=>whnf);first|(with_reducible first|refine hJ hkl ?_|refine gZ hx ?_|refine hh ?_|refine hu ?_)|refine zG ?_|apply zA|intro h|exact zT));all_goals conv=>whnf
   all_goals first
    |(rw[aE (fun hn=>hn zw)]at heq
      refine⟨(k+1,Bs),⟨hkl,hsB,heq⟩,by simp only;omega,?_⟩
      simp only[aO,aN]
      (exact leA)
      done)
    |(rw[aH h]at heq
      rw[heq]at hK
      exact⟨_,gQ gR gM,hK⟩)
  ·rw[bU hkl]at heq
   rw[heq]at hK
   (repeat' ((conv=>whnf);first|refine zG ?_|apply zA|intro h|exact zT));all_goals conv=>whnf
   exact⟨_,gM,hK⟩
theorem dkBtw(a b:List Rg)(ha:a.length<=860)(hb:b.length<=860){K:KT}(hK:K (.tup [encXs (makeP (btwB a b)).1,.v (.int .i64 (makeP (btwB a b)).2)]) []):AC 129 [encRs a,encRs b] [] K:=by
 refine ofh17Btw rfl rfl ?_
 (repeat' ((conv=>whnf);first|refine zG ?_|apply zA|intro h|exact zT));all_goals conv=>whnf
 refine gL Nat (fun i=>⟨1,[(0,.arr 10 ((btwB (a.take i) b).map encX))],[(0,encRs a),(1,encRs b),(6,.os 0 10 0 (btwB (a.take i) b).length),(7,.v (.int .i64 i))]⟩) (fun i=>i<=a.length) (fun i=>a.length-i) 0 (aL _) ?_ ?_
 ·rw[cR,btwB_nil]
  (exact leA)
 intro i hi
 have hl:=btwB_len b (a.take i)
 have hm:(a.take i).length*b.length<=860*860:=dR (by rw[bG];omega) hb
 rcases aD i a.length with hil|hil
 ·obtain⟨r,hr⟩:=gex hil
  have hs:btwB (a.take (i+1)) b=btwB (a.take i) b++b.map fun s=>btwX r s:=by rw[bH,hr];exact btwB_snoc ..
  generalize btwB (a.take i) b=A at*
  (repeat' ((conv=>whnf);first|refine zG ?_|apply zA|intro h|exact zT));all_goals conv=>whnf
  refine gL Nat (fun k=>⟨1,[(0,.arr 10 ((A++(b.take k).map fun s=>btwX r s).map encX))],[(0,encRs a),(1,encRs b),(6,.os 0 10 0 (A++(b.take k).map fun s=>btwX r s).length),(7,.v (.int .i64 i)),(8,.v (.int .i64 k))]⟩) (fun k=>k<=b.length) (fun k=>b.length-k) 0 (aL _) ?_ ?_
  ·rw[cR,bN,bJ]
   (exact leA)
  intro k hk
  rcases aD k b.length with hkl|hkl
  ·obtain⟨s,hs2⟩:=gex hkl
   have hap:(A++(b.take (k+1)).map fun s=>btwX r s)=(A++(b.take k).map fun s=>btwX r s)++[btwX r s]:=by rw[bH,hs2];simp
   have hlen:(A++(b.take k).map fun s=>btwX r s).length<=1000000:=by rw[aC,aA,bG];omega
   generalize hB:(A++(b.take (k+1)).map fun s=>btwX r s)=B at*
   generalize (A++(b.take k).map fun s=>btwX r s)=C at*
   (repeat' ((conv=>whnf);first|(with_reducible first|refine cr3Full ?_|refine hJ hil ?_|refine hJ hkl ?_|refine gZ hr ?_|refine gZ hs2 ?_)|(refine in_c zd ?_)|refine zG ?_|apply zA|intro h|exact zT));all_goals conv=>whnf
   all_goals
    refine⟨k+1,hkl,by omega,?_⟩
    rw[hB,hap,aQ,aC,aO k,aN]
    (exact leA)
  ·(repeat' ((conv=>whnf);first|refine zG ?_|apply zA|intro h|exact zT));all_goals conv=>whnf
   have hke:k=b.length:=by omega
   rw[hke,cY,<-hs]
   refine⟨i+1,hil,by omega,?_⟩
   rw[aO i,aN]
   (exact leA)
 ·have hie:i=a.length:=by omega
  have hbl:(btwB a b).length<1000000000:=by
   have:=dR ha hb
   rw[btwB_len];omega
  rw[hie,cY]
  have hfull:((btwB a b).map encX).length=(btwB a b).length:=aA ..
  (repeat' ((conv=>whnf);first|(with_reducible first|refine sl_full hfull ?_|refine cr4Make (btwB a b) hbl ?_)|refine zG ?_|apply zA|intro h|exact zT));all_goals conv=>whnf
  exact hK
theorem dkStm(t:Tp)(ht:t.edges.length<1000000)(i:Nt)(hb:Bnd i)(n:Int){K:KT}(hK:K (.tup [encXs (stmV t i n).1,.v (.int .i64 (stmV t i n).2)]) []):AC 56 [encT t,encNt i,.v (.int .i64 n)] [] K:=by
 refine gP (ofh17Stm rfl rfl ?_)
 unfold stmV at hK
 have bt:=hb.t
 by_cases hc:compB t=true
 rotate_left
 ·have hcf:compB t=false:=by simpa using hc
  rw[aE (fun hh=>hc hh.1)]at hK
  (repeat' ((conv=>whnf);first|(with_reducible refine cuCompB t ht ?_)|refine zG ?_|apply zA|intro h|exact zT));all_goals conv=>whnf
  exact⟨_,gQ gR gM,hK⟩
 by_cases hn:ntB i=true
 rotate_left
 ·have hnf:ntB i=false:=by simpa using hn
  rw[aE (fun hh=>hn hh.2)]at hK
  (repeat' ((conv=>whnf);first|(with_reducible first|refine cuCompB t ht ?_|refine djNt i hb ?_)|refine zG ?_|apply zA|intro h|exact zT));all_goals conv=>whnf
  exact⟨_,gQ gR gM,hK⟩
 rw[aH ⟨hc,hn⟩]at hK
 by_cases hr:n<0\/(i.sts.length:Int)<=n
 ·rw[aH hr]at hK
  (repeat' ((conv=>whnf);first|(with_reducible first|refine cuCompB t ht ?_|refine djNt i hb ?_)|refine zG ?_|apply zA|intro h|exact zT));all_goals conv=>whnf
  all_goals first
   |exact⟨_,gQ gR gM,hK⟩
   |(exfalso;simp only[aA]at*;omega)
 rw[aE hr]at hK
 obtain⟨k,rfl⟩:=dW (show 0<=n by omega)
 have hkl:k<i.sts.length:=by omega
 obtain⟨s,hs⟩:=gex hkl
 simp only[fP,hs]at hK
 have hl:=fun nm=>grpP_len hc hb nm
 have hg:∀(nm:ByteArray) {K:KT},K (.tup [encRs (grpP t i nm).1,.v (.int .i64 (grpP t i nm).2)]) []->AC 78 [encT t,encNt i,.v (.string nm)] [] K:=fun nm K h=>dkGrp t ht i hb nm (by rw[grpV,aH ⟨hc,hn⟩];exact h)
 unfold stmP at hK
 have l1:=hl s.frm;have l2:=hl s.to;have l4:=hl s.exF;have l5:=hl s.exT
 have g1:=fun {K} h=>@hg s.frm K h
 have g2:=fun {K} h=>@hg s.to K h
 have g4:=fun {K} h=>@hg s.exF K h
 have g5:=fun {K} h=>@hg s.exT K h
 have g3:∀{K:KT},K (.tup [encXs (svcP i s.svc).1,.v (.int .i64 (svcP i s.svc).2)]) []->AC 79 [encNt i,.v (.string s.svc)] [] K:=fun h=>dkSvc i hb s.svc (by rw[svcV,aH hn];exact h)
 have s3:=svcP_set i s.svc
 clear hg hl
 generalize grpP t i s.frm=F at*
 generalize grpP t i s.to=G at*
 generalize grpP t i s.exF=O at*
 generalize grpP t i s.exT=N at*
 generalize svcP i s.svc=V at*
 obtain⟨Fs,Fe⟩:=F
 obtain⟨Gs,Ge⟩:=G
 obtain⟨Os,Oe⟩:=O
 obtain⟨Ns,Ne⟩:=N
 obtain⟨Vs,Ve⟩:=V
 simp only at l1 l2 l4 l5 g1 g2 g3 g4 g5 s3 hK
 have hvl:=setBlen s3
 have b1:=fun {K} h=>@dkBtw Fs Gs l1 l2 K h
 have sB:=setB_makeP (btwB Fs Gs)
 have i1:=fun {K} h=>@cr4Int (makeP (btwB Fs Gs)).1 Vs (setBlen sB) hvl K h
 have sC:=setB_combP anB (makeP (btwB Fs Gs)).1 Vs
 have b2:=fun {K} h=>@dkBtw Os Ns l4 l5 K h
 have sD:=setB_makeP (btwB Os Ns)
 have i2:=fun {K} h=>@cr4Sub (combP anB (makeP (btwB Fs Gs)).1 Vs).1 (makeP (btwB Os Ns)).1 (setBlen sC) (setBlen sD) K h
 generalize hB:makeP (btwB Fs Gs)=B at*
 generalize hD:makeP (btwB Os Ns)=D at*
 generalize hC:combP anB B.1 Vs=C at*
 generalize hX:combP woB C.1 D.1=X at*
 obtain⟨Bs,Be⟩:=B
 obtain⟨Cs,Ce⟩:=C
 obtain⟨Ds,De⟩:=D
 obtain⟨Xs,Xe⟩:=X
 simp only at b1 i1 b2 i2 hC hX
 by_cases f0:Fe=0
 rotate_left
 ·rw[bindE_no (x:=(Fs,Fe)) f0]at hK
  (repeat' ((conv=>whnf);first|(with_reducible first|refine cuCompB t ht ?_|refine djNt i hb ?_|refine hJ hkl ?_|refine gZ hs ?_|refine g1 ?_)|refine zG ?_|apply zA|intro h|exact zT));all_goals conv=>whnf
  all_goals first
   |exact⟨_,gQ gR gM,hK⟩
   |(exfalso;(try simp only[aA]at*);omega)
 rw[bindE_ok (x:=(Fs,Fe)) f0]at hK
 by_cases f1:Ge=0
 rotate_left
 ·rw[bindE_no (x:=(Gs,Ge)) f1]at hK
  (repeat' ((conv=>whnf);first|(with_reducible first|refine cuCompB t ht ?_|refine djNt i hb ?_|refine hJ hkl ?_|refine gZ hs ?_|refine g1 ?_|refine g2 ?_)|refine zG ?_|apply zA|intro h|exact zT));all_goals conv=>whnf
  all_goals first
   |exact⟨_,gQ gR gM,hK⟩
   |(exfalso;(try simp only[aA]at*);omega)
 rw[bindE_ok (x:=(Gs,Ge)) f1]at hK
 by_cases f2:Ve=0
 rotate_left
 ·rw[bindE_no (x:=(Vs,Ve)) f2]at hK
  (repeat' ((conv=>whnf);first|(with_reducible first|refine cuCompB t ht ?_|refine djNt i hb ?_|refine hJ hkl ?_|refine gZ hs ?_|refine g1 ?_|refine g2 ?_|refine g3 ?_)|refine zG ?_|apply zA|intro h|exact zT));all_goals conv=>whnf
  all_goals first
   |exact⟨_,gQ gR gM,hK⟩
   |(exfalso;(try simp only[aA]at*);omega)
 rw[bindE_ok (x:=(Vs,Ve)) f2]at hK
 simp only[hB]at hK
 by_cases hex:s.exc=true
 ·simp only[hex,if_true]at hK
  by_cases f3:Oe=0
  rotate_left
  ·rw[bindE_no (x:=(Os,Oe)) f3]at hK
   (repeat' ((conv=>whnf);first|(with_reducible first|refine cuCompB t ht ?_|refine djNt i hb ?_|refine hJ hkl ?_|refine gZ hs ?_|refine g1 ?_|refine g2 ?_|refine g3 ?_|refine g4 ?_)|refine zG ?_|apply zA|intro h|exact zT));all_goals conv=>whnf
   all_goals first
    |exact⟨_,gQ gR gM,hK⟩
    |(exfalso;(try simp only[aA]at*);omega)
  rw[bindE_ok (x:=(Os,Oe)) f3]at hK
  by_cases f4:Ne=0
  rotate_left
  ·rw[bindE_no (x:=(Ns,Ne)) f4]at hK
   (repeat' ((conv=>whnf);first|(with_reducible first|refine cuCompB t ht ?_|refine djNt i hb ?_|refine hJ hkl ?_|refine gZ hs ?_|refine g1 ?_|refine g2 ?_|refine g3 ?_|refine g4 ?_|refine g5 ?_)|refine zG ?_|apply zA|intro h|exact zT));all_goals conv=>whnf
   all_goals first
    |exact⟨_,gQ gR gM,hK⟩
    |(exfalso;(try simp only[aA]at*);omega)
  rw[bindE_ok (x:=(Ns,Ne)) f4]at hK
  simp only[hD]at hK
  by_cases f5:Be=0
  rotate_left
  ·rw[bindE_no (x:=(Bs,Be)) f5]at hK
   (repeat' ((conv=>whnf);first|(with_reducible first|refine cuCompB t ht ?_|refine djNt i hb ?_|refine hJ hkl ?_|refine gZ hs ?_|refine g1 ?_|refine g2 ?_|refine g3 ?_|refine g4 ?_|refine g5 ?_|refine b1 ?_)|refine zG ?_|apply zA|intro h|exact zT));all_goals conv=>whnf
   all_goals first
    |exact⟨_,gQ gR gM,hK⟩
    |(exfalso;(try simp only[aA]at*);omega)
  rw[bindE_ok (x:=(Bs,Be)) f5]at hK
  simp only[hC]at hK
  by_cases f6:Ce=0
  rotate_left
  ·rw[aH (.inl f6)]at hK
   (repeat' ((conv=>whnf);first|(with_reducible first|refine cuCompB t ht ?_|refine djNt i hb ?_|refine hJ hkl ?_|refine gZ hs ?_|refine g1 ?_|refine g2 ?_|refine g3 ?_|refine g4 ?_|refine g5 ?_|refine b1 ?_|refine i1 ?_)|refine zG ?_|apply zA|intro h|exact zT));all_goals conv=>whnf
   all_goals first
    |exact⟨_,gM,hK⟩
    |(exfalso;(try simp only[aA]at*);omega)
  rw[aE (fun hh=>hh.elim (fun hn=>hn f6) (fun hn=>by cases hn))]at hK
  by_cases f7:De=0
  rotate_left
  ·rw[bindE_no (x:=(Ds,De)) f7]at hK
   (repeat' ((conv=>whnf);first|(with_reducible first|refine cuCompB t ht ?_|refine djNt i hb ?_|refine hJ hkl ?_|refine gZ hs ?_|refine g1 ?_|refine g2 ?_|refine g3 ?_|refine g4 ?_|refine g5 ?_|refine b1 ?_|refine i1 ?_|refine b2 ?_)|refine zG ?_|apply zA|intro h|exact zT));all_goals conv=>whnf
   all_goals first
    |exact⟨_,gQ gR gM,hK⟩
    |(exfalso;(try simp only[aA]at*);omega)
  rw[bindE_ok (x:=(Ds,De)) f7]at hK
  simp only[hX]at hK
  (repeat' ((conv=>whnf);first|(with_reducible first|refine cuCompB t ht ?_|refine djNt i hb ?_|refine hJ hkl ?_|refine gZ hs ?_|refine g1 ?_|refine g2 ?_|refine g3 ?_|refine g4 ?_|refine g5 ?_|refine b1 ?_|refine i1 ?_|refine b2 ?_|refine i2 ?_)|refine zG ?_|apply zA|intro h|exact zT));all_goals conv=>whnf
  all_goals first
   |exact⟨_,gM,hK⟩
   |(exfalso;(try simp only[aA]at*);omega)
 ·have hexf:s.exc=false:=by simpa using hex
  simp only[hexf,cL,if_false]at hK
  rw[bindE_ok (x:=(([]:List Rg),(0:Int))) rfl,bindE_ok (x:=(([]:List Rg),(0:Int))) rfl]at hK
  by_cases f5:Be=0
  rotate_left
  ·rw[bindE_no (x:=(Bs,Be)) f5]at hK
   (repeat' ((conv=>whnf);first|(with_reducible first|refine cuCompB t ht ?_|refine djNt i hb ?_|refine hJ hkl ?_|refine gZ hs ?_|refine g1 ?_|refine g2 ?_|refine g3 ?_|refine b1 ?_)|refine zG ?_|apply zA|intro h|exact zT));all_goals conv=>whnf
   all_goals first
    |exact⟨_,gQ gR gM,hK⟩
    |(exfalso;(try simp only[aA]at*);omega)
  rw[bindE_ok (x:=(Bs,Be)) f5]at hK
  simp only[hC,or_true,if_true]at hK
  (repeat' ((conv=>whnf);first|(with_reducible first|refine cuCompB t ht ?_|refine djNt i hb ?_|refine hJ hkl ?_|refine gZ hs ?_|refine g1 ?_|refine g2 ?_|refine g3 ?_|refine b1 ?_|refine i1 ?_)|refine zG ?_|apply zA|intro h|exact zT));all_goals conv=>whnf
  all_goals first
   |exact⟨_,gM,hK⟩
   |(exfalso;(try simp only[aA]at*);omega)
theorem dkCls(t:Tp)(s:ByteArray)(hd:t.devs.length<1000000){K:KT}(hK:K (.sb (t.devs.any fun d=>sEq d.cls s)) []):AC 80 [encT t,.v (.string s)] [] K:=by
 refine gO (ofh17Cls rfl rfl ?_)
 (repeat' ((conv=>whnf);first|refine zG ?_|apply zA|intro h|exact zT));all_goals conv=>whnf
 refine gL Nat (fun k=>⟨1,[(0,boxT t)],[(1,.v (.string s)),(2,.op 0 0),(5,.v (.int .i64 k))]⟩) (fun k=>k<=t.devs.length/\∀(j:Nat) x,j<k->t.devs[j]? =some x->sEq x.cls s=false) (fun k=>t.devs.length-k) 0 ⟨aL _,fun j x h=>absurd h (aY _)⟩ ?_ ?_
 ·(exact leA)
 intro k ⟨hk,hinv⟩
 rcases aD k t.devs.length with hkl|hkl
 ·obtain⟨x,hx⟩:=gex hkl
  (repeat' ((conv=>whnf);first|(with_reducible first|refine hJ hkl ?_|refine gZ hx ?_)|refine zG ?_|apply zA|intro h|exact zT));all_goals conv=>whnf
  all_goals first
   |exact fin_t hK (cI.2 ⟨x,aG hx,h⟩)
   |(refine⟨k+1,⟨hkl,iC hx (by first|exact h|simpa[sEq]using h) hinv⟩,by omega,?_⟩
     rw[aO,aN]
     (exact leA)
     done)
 ·(repeat' ((conv=>whnf);first|refine zG ?_|apply zA|intro h|exact zT));all_goals conv=>whnf
  refine fin_f hK ?_
  rw[bV,ne_eq,cI]
  rintro⟨x,hx,hc⟩
  obtain⟨j,hj⟩:=bI.1 hx
  have:=iB hkl hinv j x hj
  rw[hc]at this;cases this
theorem dkChk(t:Tp)(ht:t.edges.length<1000000)(hd:t.devs.length<1000000)(i:Nt)(hb:Bnd i){K:KT}(hK:K (.v (.int .i64 (chkV t i))) []):AC 25 [encT t,encNt i] [] K:=by
 have bg:=hb.g;have bs:=hb.s;have bt:=hb.t;have bp:=hb.p;have bh:=hb.h
 refine ofh17Chk rfl rfl ?_
 unfold chkV at hK
 by_cases hc:compB t=true
 rotate_left
 ·have hcf:compB t=false:=by simpa using hc
  rw[aE (fun hh=>hc hh.1)]at hK
  (repeat' ((conv=>whnf);first|(with_reducible refine cuCompB t ht ?_)|refine zG ?_|apply zA|intro h|exact zT));all_goals conv=>whnf
  exact hK
 by_cases hn:ntB i=true
 rotate_left
 ·have hnf:ntB i=false:=by simpa using hn
  rw[aE (fun hh=>hn hh.2)]at hK
  (repeat' ((conv=>whnf);first|(with_reducible first|refine cuCompB t ht ?_|refine djNt i hb ?_)|refine zG ?_|apply zA|intro h|exact zT));all_goals conv=>whnf
  exact hK
 rw[aH ⟨hc,hn⟩,chkP_eq]at hK
 have hg:∀(nm:ByteArray) {K:KT},K (.tup [encRs (grpP t i nm).1,.v (.int .i64 (grpP t i nm).2)]) []->AC 78 [encT t,encNt i,.v (.string nm)] [] K:=fun nm K h=>dkGrp t ht i hb nm (by rw[grpV,aH ⟨hc,hn⟩];exact h)
 have hs:∀(nm:ByteArray) {K:KT},K (.tup [encXs (svcP i nm).1,.v (.int .i64 (svcP i nm).2)]) []->AC 79 [encNt i,.v (.string nm)] [] K:=fun nm K h=>dkSvc i hb nm (by rw[svcV,aH hn];exact h)
 have hm:∀(k:Nat) (s:Sm),k<i.sts.length->i.sts[k]? =some s->∀{K:KT},K (.tup [encXs (stmP t i s).1,.v (.int .i64 (stmP t i s).2)]) []->AC 56 [encT t,encNt i,.v (.int .i64 k)] [] K:=fun k s hk hs K h=>dkStm t ht i hb k (by
  rw[stmV,aH ⟨hc,hn⟩,aE zo,fP,hs];exact h)
 (repeat' ((conv=>whnf);first|(with_reducible first|refine cuCompB t ht ?_|refine djNt i hb ?_)|refine zG ?_|apply zA|intro h|exact zT));all_goals conv=>whnf
 refine gL Nat (fun n=>⟨2,[(0,boxT t),(1,boxNt i)],[(2,.op 0 0),(3,.op 1 0),(5,.v (.int .i64 n))]⟩) (fun n=>n<=i.grps.length/\fstE (fun d:Df=>(grpP t i d.name).2) i.grps=fstE (fun d:Df=>(grpP t i d.name).2) (i.grps.drop n)) (fun n=>i.grps.length-n) 0 ⟨aL _,by rw[cA]⟩ ?_ ?_
 ·(exact leA)
 intro n ⟨hn1,heq⟩
 rcases aD n i.grps.length with hnl|hnl
 ·obtain⟨x,hx⟩:=gex hnl
  have hdr:i.grps.drop n=x::i.grps.drop (n+1):=by
   rw[aB hnl]at hx
   rw[<-bE hx,<-aZ hnl]
  rw[hdr,fstE_cons]at heq
  have hgx:=fun {K} h=>@hg x.name K h
  generalize grpP t i x.name=G at*
  obtain⟨Gs,Ge⟩:=G
  simp only at heq hgx
  (repeat' ((conv=>whnf);first|(with_reducible first|refine hJ hnl ?_|refine gZ hx ?_|refine hgx ?_)|refine zG ?_|apply zA|intro h|exact zT));all_goals conv=>whnf
  all_goals first
   |(rw[aE (fun hh=>hh h)]at heq
     refine⟨n+1,⟨hnl,heq⟩,by omega,?_⟩
     rw[aO,aN]
     (exact leA)
     done)
   |(rw[aH h]at heq
     rw[heq,aH h]at hK
     exact hK)
 rw[bU hnl]at heq
 have e0:fstE (fun d:Df=>(grpP t i d.name).2) i.grps=0:=heq
 clear heq
 (repeat' ((conv=>whnf);first|refine zG ?_|apply zA|intro h|exact zT));all_goals conv=>whnf
 refine gL Nat (fun n=>⟨2,[(0,boxT t),(1,boxNt i)],[(2,.op 0 0),(3,.op 1 0),(8,.v (.int .i64 n))]⟩) (fun n=>n<=i.svcs.length/\fstE (fun d:Df=>(svcP i d.name).2) i.svcs=fstE (fun d:Df=>(svcP i d.name).2) (i.svcs.drop n)) (fun n=>i.svcs.length-n) 0 ⟨aL _,by rw[cA]⟩ ?_ ?_
 ·(exact leA)
 intro n ⟨hn1,heq⟩
 rcases aD n i.svcs.length with hnl|hnl
 ·obtain⟨x,hx⟩:=gex hnl
  have hdr:i.svcs.drop n=x::i.svcs.drop (n+1):=by
   rw[aB hnl]at hx
   rw[<-bE hx,<-aZ hnl]
  rw[hdr,fstE_cons]at heq
  have hsx:=fun {K} h=>@hs x.name K h
  generalize svcP i x.name=G at*
  obtain⟨Gs,Ge⟩:=G
  simp only at heq hsx
  (repeat' ((conv=>whnf);first|(with_reducible first|refine hJ hnl ?_|refine gZ hx ?_|refine hsx ?_)|refine zG ?_|apply zA|intro h|exact zT));all_goals conv=>whnf
  all_goals first
   |(rw[aE (fun hh=>hh h)]at heq
     refine⟨n+1,⟨hnl,heq⟩,by omega,?_⟩
     rw[aO,aN]
     (exact leA)
     done)
   |(rw[aH h]at heq
     rw[aE (fun hh=>hh e0)]at hK
     rw[heq,aH h]at hK
     exact hK)
 rw[bU hnl]at heq
 have e1:fstE (fun d:Df=>(svcP i d.name).2) i.svcs=0:=heq
 clear heq
 (repeat' ((conv=>whnf);first|refine zG ?_|apply zA|intro h|exact zT));all_goals conv=>whnf
 refine gL Nat (fun n=>⟨2,[(0,boxT t),(1,boxNt i)],[(2,.op 0 0),(3,.op 1 0),(11,.v (.int .i64 n))]⟩) (fun n=>n<=i.sts.length/\fstE (fun s:Sm=>if(stmP t i s).2≠0 then(stmP t i s).2 else namE t i s) i.sts=fstE (fun s:Sm=>if(stmP t i s).2≠0 then(stmP t i s).2 else namE t i s) (i.sts.drop n)) (fun n=>i.sts.length-n) 0 ⟨aL _,by rw[cA]⟩ ?_ ?_
 ·(exact leA)
 intro n ⟨hn1,heq⟩
 rcases aD n i.sts.length with hnl|hnl
 ·obtain⟨x,hx⟩:=gex hnl
  have hdr:i.sts.drop n=x::i.sts.drop (n+1):=by
   rw[aB hnl]at hx
   rw[<-bE hx,<-aZ hnl]
  rw[hdr,fstE_cons]at heq
  have hmx:=fun {K} h=>@hm n x hnl hx K h
  generalize stmP t i x=G at*
  obtain⟨Gs,Ge⟩:=G
  simp only at heq hmx
  have hN:namE t i x=if((x.cls.toList==(⟨#[]⟩:ByteArray).toList)||(t.devs.any fun d=>sEq d.cls x.cls))&&((x.dur.toList==(⟨#[]⟩:ByteArray).toList)||decide (0<=wnIx i.wins x.dur))then 0 else 5:=by
   unfold namE
   rw[<-first_any (fun w:Wn=>sEq w.name x.dur) i.wins]
   rfl
  (repeat' ((conv=>whnf);first|(with_reducible first|refine hJ hnl ?_|refine gZ hx ?_|refine hmx ?_|refine dkCls t x.cls zo ?_|refine djFindW i.wins x.dur (by have:=hb.w;omega) ?_)|refine zG ?_|apply zA|intro h|exact zT));all_goals conv=>whnf
  all_goals first
   |(have hge:¬Ge=0:=by with_reducible assumption
     rw[aH hge,aH hge]at heq
     rw[aE (fun hh=>hh e0),aE (fun hh=>hh e1)]at hK
     rw[heq,aH hge]at hK
     exact hK)
   |(have hge:Ge=0:=by with_reducible assumption
     have hz:namE t i x=0:=by
      clear heq hK hmx hg hs hm
      rw[hN]
      simp_all
      try omega
     rw[aE (show ¬(Ge≠0)from fun hh=>hh hge),hz,aE (fun hh=>hh rfl)]at heq
     refine⟨n+1,⟨hnl,heq⟩,by omega,?_⟩
     rw[aO,aN]
     (exact leA)
     done)
   |(have hge:Ge=0:=by with_reducible assumption
     have hz:namE t i x=5:=by
      clear heq hK hmx hg hs hm
      rw[hN]
      simp_all
      try omega
     rw[aE (show ¬(Ge≠0)from fun hh=>hh hge),hz,aH zd]at heq
     rw[aE (fun hh=>hh e0),aE (fun hh=>hh e1)]at hK
     rw[heq,aH zd]at hK
     exact hK)
 rw[bU hnl]at heq
 have e2:fstE (fun s:Sm=>if(stmP t i s).2≠0 then(stmP t i s).2 else namE t i s) i.sts=0:=heq
 clear heq
 (repeat' ((conv=>whnf);first|refine zG ?_|apply zA|intro h|exact zT));all_goals conv=>whnf
 refine gL Nat (fun n=>⟨2,[(0,boxT t),(1,boxNt i)],[(2,.op 0 0),(3,.op 1 0),(15,.v (.int .i64 n))]⟩) (fun n=>n<=i.pubs.length/\fstE (fun p:Pb=>if edgeIx t.edges p.edge<0 then 5 else 0) i.pubs=fstE (fun p:Pb=>if edgeIx t.edges p.edge<0 then 5 else 0) (i.pubs.drop n)) (fun n=>i.pubs.length-n) 0 ⟨aL _,by rw[cA]⟩ ?_ ?_
 ·(exact leA)
 intro n ⟨hn1,heq⟩
 rcases aD n i.pubs.length with hnl|hnl
 ·obtain⟨x,hx⟩:=gex hnl
  have hdr:i.pubs.drop n=x::i.pubs.drop (n+1):=by
   rw[aB hnl]at hx
   rw[<-bE hx,<-aZ hnl]
  rw[hdr,fstE_cons]at heq
  (repeat' ((conv=>whnf);first|(with_reducible first|refine hJ hnl ?_|refine gZ hx ?_|refine cuEdge t _ ht ?_)|refine zG ?_|apply zA|intro h|exact zT));all_goals conv=>whnf
  all_goals first
   |(rw[aE h,aE zd]at heq
     refine⟨n+1,⟨hnl,heq⟩,by omega,?_⟩
     rw[aO,aN]
     (exact leA)
     done)
   |(rw[aH h,aH zd]at heq
     rw[aE (fun hh=>hh e0),aE (fun hh=>hh e1),aE (fun hh=>hh e2)]at hK
     rw[heq,aH zd]at hK
     exact hK)
 rw[bU hnl]at heq
 have e3:fstE (fun p:Pb=>if edgeIx t.edges p.edge<0 then 5 else 0) i.pubs=0:=heq
 clear heq
 (repeat' ((conv=>whnf);first|refine zG ?_|apply zA|intro h|exact zT));all_goals conv=>whnf
 refine gL Nat (fun n=>⟨2,[(0,boxT t),(1,boxNt i)],[(2,.op 0 0),(3,.op 1 0),(16,.v (.int .i64 n))]⟩) (fun n=>n<=i.hids.length/\fstE (fun h:Hn=>if edgeIx t.edges h.edge<0 then 5 else(grpP t i h.grp).2) i.hids=fstE (fun h:Hn=>if edgeIx t.edges h.edge<0 then 5 else(grpP t i h.grp).2) (i.hids.drop n)) (fun n=>i.hids.length-n) 0 ⟨aL _,by rw[cA]⟩ ?_ ?_
 ·(exact leA)
 intro n ⟨hn1,heq⟩
 rcases aD n i.hids.length with hnl|hnl
 ·obtain⟨x,hx⟩:=gex hnl
  have hdr:i.hids.drop n=x::i.hids.drop (n+1):=by
   rw[aB hnl]at hx
   rw[<-bE hx,<-aZ hnl]
  rw[hdr,fstE_cons]at heq
  have hgx:=fun {K} h=>@hg x.grp K h
  generalize grpP t i x.grp=G at*
  obtain⟨Gs,Ge⟩:=G
  simp only at heq hgx
  (repeat' ((conv=>whnf);first|(with_reducible first|refine hJ hnl ?_|refine gZ hx ?_|refine cuEdge t _ ht ?_|refine hgx ?_)|refine zG ?_|apply zA|intro h|exact zT));all_goals conv=>whnf
  all_goals first
   |(rename_i hz
     rw[aE hz,aE (fun hh=>hh h)]at heq
     refine⟨n+1,⟨hnl,heq⟩,by omega,?_⟩
     rw[aO,aN]
     (exact leA)
     done)
   |(rw[aH h,aH zd]at heq
     rw[aE (fun hh=>hh e0),aE (fun hh=>hh e1),aE (fun hh=>hh e2),aE (fun hh=>hh e3)]at hK
     rw[heq]at hK
     exact hK)
   |(rename_i hz
     rw[aE hz,aH h]at heq
     rw[aE (fun hh=>hh e0),aE (fun hh=>hh e1),aE (fun hh=>hh e2),aE (fun hh=>hh e3)]at hK
     rw[heq]at hK
     exact hK)
 rw[bU hnl]at heq
 have e4:fstE (fun h:Hn=>if edgeIx t.edges h.edge<0 then 5 else(grpP t i h.grp).2) i.hids=0:=heq
 clear heq
 rw[aE (fun hh=>hh e0),aE (fun hh=>hh e1),aE (fun hh=>hh e2),aE (fun hh=>hh e3),e4]at hK
 (repeat' ((conv=>whnf);first|refine zG ?_|apply zA|intro h|exact zT));all_goals conv=>whnf
 exact hK
def iniB(g:Hd):Bool:=if g.pro=6\/g.pro=17 then true else if g.pro=1 then decide (g.dp=8)&&decide (g.sp≠8)else decide (g.sp=0)&&decide (g.dp=0)
theorem fb_con{a b c d e f:Int}{g:Hd}(ho:g.Ok)(hok:(fb a b c d e f).ok)(h:(((0<=a/\a<=4294967295)/\0<=b/\b<=4294967295)/\((0<=c/\c<=4294967295)/\0<=d/\d<=4294967295)/\((0<=e/\e<=4294967295)/\0<=f/\f<=4294967295))):conB (fb a b c d e f) g=true↔(a<=g.pro/\g.pro<=b)/\(c<=g.sp/\g.sp<=d)/\e<=g.dp/\g.dp<=f:=by
 obtain⟨⟨⟨a0,a1⟩,b0,b1⟩,⟨⟨c0,c1⟩,d0,d1⟩,⟨e0,e1⟩,f0,f1⟩:=h
 rw[conB_iff]
 unfold fb
 simp only
 rw[mkR_lo a0 a1 b0 b1,mkR_hi a0 a1 b0 b1,mkR_lo c0 c1 d0 d1,mkR_hi c0 c1 d0 d1,mkR_lo e0 e1 f0 f1,mkR_hi e0 e1 f0 f1,mkR_lo zd zd zd zd,mkR_hi zd zd zd zd]
 obtain⟨s0,s1,t0,t1,_⟩:=ho
 constructor
 ·rintro⟨_,_,h2,h3,h4,_⟩;exact⟨h2,h3,h4⟩
 ·rintro⟨h2,h3,h4⟩;exact⟨⟨s0,s1⟩,⟨t0,t1⟩,h2,h3,h4,hok⟩
theorem ini_any{g:Hd}(ho:g.Ok):(initS.any fun b=>conB b g)=iniB g:=by
 obtain⟨_,_,_,_,p0,p1,a0,a1,b0,b1⟩:=id ho
 have hi:iniB g=true↔(g.pro=6\/g.pro=17)\/(g.pro=1/\g.dp=8/\g.sp≠8)\/(g.pro≠6/\g.pro≠17/\g.pro≠1/\g.sp=0/\g.dp=0):=by
  unfold iniB
  split
  ·rename_i h;simp[h]
  ·split
   ·rename_i h;rw[aF,aI,aI];omega
   ·rw[aF,aI,aI];omega
 rw[bD,hi]
 unfold initS
 simp only[fY,List.any_nil,bS,cL,or_false]
 rw[fb_con ho zd zd,fb_con ho zd zd,fb_con ho zd zd,fb_con ho zd zd,fb_con ho zd zd,fb_con ho zd zd,fb_con ho zd zd,fb_con ho zd zd]
 omega
theorem coIsI(g:Hd){K:KT}(hK:K (.sb (iniB g)) []):AC 83 [encHd g] [] K:=by
 refine gO (ofr4IsI rfl rfl ?_)
 unfold iniB at hK
 (repeat' ((conv=>whnf);first|refine zG ?_|apply zA|intro h|exact zT));all_goals conv=>whnf
 all_goals first
  |(rw[aH zo]at hK;exact fin_t hK rfl)
  |(rw[aE zo,aH zo]at hK
    first
     |exact fin_f hK (by simp_all;done)
     |exact fin_t hK (by simp_all;done)
     |exact fin_s hK (by simp_all;done))
  |(rw[aE zo,aE zo]at hK
    first
     |exact fin_f hK (by simp_all;done)
     |exact fin_t hK (by simp_all;done)
     |exact fin_s hK (by simp_all;done))
theorem coIsR(t:Tp)(hl:t.edges.length<1000000)(g:Hd)(ho:g.Ok){K:KT}(hK:K (.sb (realH t g)) []):AC 26 [encT t,encHd g] [] K:=by
 refine gO (ofoIsR rfl rfl ?_)
 unfold realH at hK
 rw[ini_any ho]at hK
 have hi:∀{K:KT},K (.sb (iniB g)) []->AC 83 [encHd g] [] K:=fun h=>coIsI g h
 generalize iniB g=b at*
 (repeat' ((conv=>whnf);first|(with_reducible first|refine cuAtI t g.src hl ?_|refine cuAtI t g.dst hl ?_|refine hi ?_)|refine zG ?_|apply zA|intro h|exact zT));all_goals conv=>whnf
 all_goals first
  |(refine fin_s hK ?_
    rw[decide_eq_true ⟨by omega,by omega,by omega⟩,eF]
    done)
  |(refine fin_f hK ?_
    rw[decide_eq_false zo,fD]
    done)
  |(refine fin_s hK ?_
    rw[decide_eq_false zo,fD]
    simp_all
    done)
def priS(x:Sm):Sm:=⟨x.permit,x.frm,x.to,x.svc,x.exc,x.exF,x.exT,x.cls,x.dur,1+x.pri.tmod 999⟩
theorem pri_mod{v:Int}(h0:0<=v):1<=1+v.tmod 999/\1+v.tmod 999<=999:=by
 have:=Int.tmod_nonneg 999 h0
 have:=Int.tmod_lt_of_pos v (show(0:Int)<999 by decide)
 omega
theorem smB_pri{x:Sm}(h:smB x=true):smB (priS x)=true/\1<=(priS x).pri:=by
 have hx:=h
 unfold smB at h⊢
 simp only[aF,aI]at h⊢
 obtain⟨h1,h2,h3,h4,h5⟩:=h
 have:=pri_mod h4
 exact⟨⟨h1,h2,h3,by show 0<=1+x.pri.tmod 999;omega,by show 1+x.pri.tmod 999<=1000;omega⟩,by show 1<=1+x.pri.tmod 999;omega⟩
theorem smB_low(p:Bool):smB (lowS p)=true:=by
 have:optB ⟨#[]⟩=true:=by unfold optB;rw[sEq_self];rfl
 simp[smB,lowS,this,sEq_self]
theorem nt_wSts{i:Nt}(h:NtOk i){l:List Sm}(hl:l.length<=64)(ha:∀x,x∈l->smB x=true):NtOk (wSts i l):=⟨h.g,h.s,h.wl,hl,h.pl,h.hl,h.w,ha,h.p,h.h⟩
theorem bnd_wSts{i:Nt}(h:Bnd i){l:List Sm}(hl:l.length<=999):Bnd (wSts i l):=⟨h.g,h.s,h.w,hl,h.p,h.h,h.gi,h.si,h.wi,h.its,h.sits⟩
noncomputable abbrev lowE(p:Bool):AV:=.agg [.sb p,.v (.string ⟨#[]⟩),.v (.string ⟨#[]⟩),.v (.string ⟨#[]⟩),.sb false,.v (.string ⟨#[]⟩),.v (.string ⟨#[]⟩),.v (.string ⟨#[]⟩),.v (.string ⟨#[]⟩),.v (.int .i64 0)]
noncomputable abbrev celJ(i:Nt)(l:List Sm)(p:Bool):List AV:=[.lst (i.grps.map encDf),.lst (i.svcs.map encDf),.lst (i.wins.map encWn),.lst (l.map encSm++[lowE p]),.lst (i.pubs.map encPb),.lst (i.hids.map encHn)]
theorem celJ_eq(i:Nt)(l:List Sm)(p:Bool):celNt (wSts i (l++[lowS p]))=celJ i l p:=by
 show [_,_,_,AV.lst ((l++[lowS p]).map encSm),_,_]=[_,_,_,AV.lst (l.map encSm++[lowE p]),_,_]
 rw[aQ]
 rfl
theorem cPolPri(raw:List Int)(h0:Hd)(hr:raw.length<=9223372036854775807)(ho:h0.Ok):AC 5 [.lst (raw.map encI),encHd h0] [] Yes:=by
 have h4:∀{pos:Nat} {K:KT} (hp:pos<=raw.length),(∀(t:Tp) (i:Nt) (m:Int) (pos':Nat),GTop t->t.devs.length<=3->ENt i->0<=m->m<10080->pos'<=raw.length->K (.tup [encT t,ownNt 1 i,.v (.int .i64 m)]) (tapeO raw pos'::objNt i))->
  AC 11 [.op 0 0,.v (.int .i64 3),.v (.int .i64 3)] [tapeO raw pos] K:=fun hp h=>coNetO 3 zd raw _ hp hr h
 refine ofoPri rfl rfl ?_
 (repeat' ((conv=>whnf);first|(with_reducible first|refine c9 raw ?_|refine h4 (aL _) fun t i m p1 ht htd hi m0 m1 hp1=>?_)|refine zG ?_|apply zA|intro h|exact zT));all_goals conv=>whnf
 have hb:=bnd_ent hi
 have hc:=comp_top ht
 have he5:=ht.e5
 have hs4:=hi.t3
 refine gL Nat (fun n=>⟨7,[(0,.box (clHd h0)),(1,tapeO raw p1),(2,.arr 10 (((i.sts.take n).map priS++i.sts.drop n).map encSm)),(3,.arr 6 (i.pubs.map encPb)),(4,.arr 5 (i.hids.map encHn)),(5,boxT t),(6,.box [.lst (i.grps.map encDf),.lst (i.svcs.map encDf),.lst (i.wins.map encWn),.os 2 10 0 i.sts.length,.os 3 6 0 i.pubs.length,.os 4 5 0 i.hids.length])],[(3,.op 0 0),(5,.op 1 0),(6,.op 5 0),(7,.op 6 0),(8,.v (.int .i64 m)),(9,.v (.int .i64 n))]⟩) (fun n=>n<=i.sts.length) (fun n=>i.sts.length-n) 0 (aL _) ?_ ?_
 ·(exact leA)
 intro n hn
 rcases aD n i.sts.length with hnl|hnl
 ·obtain⟨x,hx⟩:=gex hnl
  have hx2:((i.sts.take n).map priS++i.sts.drop n)[0+n]? =some x:=by
   rw[bM,bB (by simp;omega),aA,bG,eW hn,dN,cF,dY,hx]
  have hp0:=nt_pri (ntB_true hi.ok) x (aG hx)
  have hpm:=pri_mod hp0.1
  have hset:(((i.sts.take n).map priS++i.sts.drop n).map encSm).set (0+n) (encSm (priS x))=((i.sts.take (n+1)).map priS++i.sts.drop (n+1)).map encSm:=by
   have hd:i.sts.drop n=x::i.sts.drop (n+1):=by
    rw[aB hnl]at hx
    rw[<-bE hx,<-aZ hnl]
   have hl:((i.sts.take n).map priS).length=n:=by rw[aA,bG];omega
   rw[bM,<-fG,dV _ _ zo,hl,dN,hd,List.set_cons_zero,bH,hx]
   simp
  (repeat' ((conv=>whnf);first|(with_reducible first|refine hU hnl ?_|refine gZ hx2 ?_)|refine zG ?_|apply zA|intro h|exact zT));all_goals conv=>whnf
  refine⟨n+1,hnl,by omega,?_⟩
  rw[<-hset,aO,aN]
  (exact leA)
 have hne:n=i.sts.length:=by omega
 subst hne
 rw[cY,List.drop_length,bJ]
 clear hn hnl
 have hok:=hi.ok
 have hf:=hi.gen.few
 have hgn:=hi.gen
 have hw1:=hi.w1
 have hg3:=hf.g3
 have hs2:=hi.gen.s2
 obtain⟨L,hL⟩:∃L,L=i.sts.map priS:=⟨_,rfl⟩
 have hLl:L.length=i.sts.length:=by rw[hL,aA]
 have hLs:∀x,x∈L->smB x=true/\1<=x.pri:=fun x hx=>by
  rw[hL]at hx
  obtain⟨y,hy,rfl⟩:=bK.1 hx
  exact smB_pri (hok.t y hy)
 have hn1:NtOk (wSts i L):=nt_wSts hok zo fun x hx=>(hLs x hx).1
 have hb1:Bnd (wSts i L):=bnd_wSts hb zo
 have hn2:∀p,NtOk (wSts i (L++[lowS p])):=fun p=>nt_wSts hok (by rw[aC,bZ];omega) fun x hx=>by
  rcases aU.1 hx with hx|hx
  ·exact(hLs x hx).1
  ·rw[aR.1 hx];exact smB_low p
 have hb2:∀p,Bnd (wSts i (L++[lowS p])):=fun p=>bnd_wSts hb (by rw[aC,bZ];omega)
 rw[<-hL,<-hLl]
 clear hL h4
 have hcp:∀{K:KT},K (.agg [.os 0 2 0 i.grps.length,.os 1 2 0 i.svcs.length,.os 2 2 0 i.wins.length,.os 3 10 0 L.length,.os 4 6 0 i.pubs.length,.os 5 5 0 i.hids.length])
   [.arr 2 (i.grps.map encDf),.arr 2 (i.svcs.map encDf),.arr 2 (i.wins.map encWn),.arr 10 (L.map encSm),.arr 6 (i.pubs.map encPb),.arr 5 (i.hids.map encHn)]->AC 24 [.agg [.lst (i.grps.map encDf),.lst (i.svcs.map encDf),.lst (i.wins.map encWn),.lst (L.map encSm),.lst (i.pubs.map encPb),.lst (i.hids.map encHn)]] [] K:=fun h=>
  eyCpV (wSts i L) (by show i.grps.length<=4;omega) (by show i.svcs.length<=4;omega) (by show i.wins.length<=2;omega) hb1.gi hb1.si hb1.wi hb1.t hb1.p hb1.h h
 have hk1:∀{K:KT},K (.v (.int .i64 (chkV t (wSts i L)))) []->AC 25 [encT t,.agg [.lst (i.grps.map encDf),.lst (i.svcs.map encDf),.lst (i.wins.map encWn),.lst (L.map encSm),.lst (i.pubs.map encPb),.lst (i.hids.map encHn)]] [] K:=fun h=>
  dkChk t zo (by have:=ht.d6;omega) (wSts i L) hb1 h
 have hk2:∀(p:Bool) {K:KT},K (.v (.int .i64 (chkV t (wSts i (L++[lowS p]))))) []->AC 25 [encT t,.agg (celJ i L p)] [] K:=fun p K h=>
by
  rw[<-celJ_eq]
  exact dkChk t zo (by have:=ht.d6;omega) _ (hb2 p) h
 have hd1:∀(g:Hd),g.Ok->∀{K:KT},K (.tup [.sb (decV t (wSts i L) m g).1,.v (.int .i64 (decV t (wSts i L) m g).2)]) []->AC 21 [encT t,.agg [.lst (i.grps.map encDf),.lst (i.svcs.map encDf),.lst (i.wins.map encWn),.lst (L.map encSm),.lst (i.pubs.map encPb),.lst (i.hids.map encHn)],.v (.int .i64 m),encHd g] [] K:=fun g hg K h=>
  coDec t zo zo (wSts i L) hb1 (by show L.length<=12;omega) m g hg h
 have hd2:∀(p:Bool) (g:Hd),g.Ok->∀{K:KT},K (.tup [.sb (decV t (wSts i (L++[lowS p])) m g).1,.v (.int .i64 (decV t (wSts i (L++[lowS p])) m g).2)]) []->AC 21 [encT t,.agg (celJ i L p),.v (.int .i64 m),encHd g] [] K:=fun p g hg K h=>
by
  rw[<-celJ_eq]
  exact coDec t zo zo _ (hb2 p) (by show(L++[lowS p]).length<=12;rw[aC,bZ];omega) m g hg h
 have hpre:∀{l:List Sm},NtOk (wSts i l)->chkV t (wSts i l)=0->preV t (wSts i l) m=0:=fun {l} h0 h1=>by
  have hnt:=ntB_true h0
  unfold chkV at h1
  unfold preV
  rw[aH ⟨hc,hnt⟩]at h1
  rw[aH ⟨hc,hnt⟩,aH ⟨m0,m1⟩,h1]
 have hnear0:∀{pos:Nat} {K:KT} (hp:pos<=raw.length),(∀(g:Hd) (pos':Nat),g.Ok->pos'<=raw.length->K (encHd g) [tapeO raw pos'])->
  AC 20 [.op 0 0,encT t,.nils] [tapeO raw pos] K:=fun hp h=>ACall.nil3 (coNear raw _ t [] zo zx hp hr h)
 (repeat' ((conv=>whnf);first|(with_reducible first|refine sl_full zx ?_|refine hcp ?_|refine nNext raw _ _ zd zw hr fun q p2 hq hp2=>?_|refine hk1 ?_|refine hk2 _ ?_|refine coSanZ ?_|refine hnear0 zw fun g p2 hg hp2=>?_)|refine zG ?_|apply zA|intro h|exact zT));all_goals conv=>whnf
 all_goals first
  |exact .inl rfl
  |exact .inr rfl
  |skip
 rename_i ga _ hga _
 have hc1:chkV t (wSts i L)=0:=by with_reducible assumption
 have hc2:chkV t (wSts i (L++[lowS (decide ((q:Int)=0))]))=0:=by with_reducible assumption
 generalize decide ((q:Int)=0)=p at*
 have hlaw:∀(g:Hd),g.Ok->PriF t p L.length g (decV t (wSts i L) m g) (decV t (wSts i (L++[lowS p])) m g):=fun g hg=>pri_law hgn he5 hok.s (fun x hx=>(hLs x hx).2) (hpre hn1 hc1) (hpre (hn2 p) hc2) hg
 have hall:∀x,x∈[h0,ga,g]->x.Ok:=fun x hx=>by
  simp only[aS,cK,or_false]at hx
  rcases hx with rfl|rfl|rfl<;>assumption
 obtain⟨H,hH,hHl⟩:∃H,H=[h0,ga,g]/\H.length=3:=⟨_,rfl,rfl⟩
 have hd2:=fun {g} hg {K} h=>@hd2 p g hg K h
 clear hcp hk1 hk2 hpre hn1 hn2 hb1 hb2 hc1 hc2 hnear0 hLs hb hf hgn hok hi hg3 hs2 hw1
 refine gL Nat (fun k=>⟨7,[(1,boxT t),(2,.box [.lst (i.grps.map encDf),.lst (i.svcs.map encDf),.lst (i.wins.map encWn),.lst (L.map encSm),.lst (i.pubs.map encPb),.lst (i.hids.map encHn)]),(3,.box (celJ i L p)),(4,.arr 5 (H.map encHd))],[(6,.op 1 0),(7,.op 2 0),(8,.v (.int .i64 m)),(10,.op 3 0),(11,.os 4 5 0 3),(12,.v (.int .i64 k))]⟩) (fun k=>k<=3) (fun k=>3-k) 0 (aL _) ?_ ?_
 ·rw[hH]
  (exact leA)
 rw[<-hH]at hall
 clear hH hga hg ga g
 intro k hk
 rcases aD k 3 with hkl|hkl
 ·obtain⟨g,hg⟩:∃g,H[0+k]? =some g:=⟨_,aB zo⟩
  have hgo:=hall g (aG hg)
  have f:=hlaw g hgo
  have hd1g:=fun {K} h=>@hd1 g hgo K h
  have hd2g:=fun {K} h=>@hd2 g hgo K h
  generalize decV t (wSts i L) m g=d1 at*
  generalize decV t (wSts i (L++[lowS p])) m g=d2 at*
  obtain⟨a,c⟩:=d1
  obtain⟨b,d⟩:=d2
  obtain⟨f1,f2,f3⟩:=f
  simp only at f1 f2 f3 hd1g hd2g
  have hlen:(((L.map encSm++[lowE p]).length:Nat):Int)-1=(L.length:Nat):=by rw[aC,aA,bZ];omega
  have hlt:L.length<(L.map encSm++[lowE p]).length:=by rw[aC,aA,bZ];omega
  have hlast:(L.map encSm++[lowE p])[L.length]? =some (lowE p):=by
   rw[bB (by rw[aA];exact aJ _),aA,dN];rfl
  have hrl:∀{K:KT},K (.sb (realH t g)) []->AC 26 [encT t,encHd g] [] K:=fun h=>coIsR t zo g hgo h
  generalize realH t g=re at*
  clear hlaw hd1 hd2 hall
  (repeat' ((conv=>whnf);first|(with_reducible first|refine hd1g ?_|refine hd2g ?_|refine hU hkl ?_|refine gZ hg ?_|refine hrl ?_)|(refine gS L.length hlen hlt ?_)|(refine gT hlast ?_)|refine zG ?_|apply zA|intro h|exact zT));all_goals conv=>whnf
  all_goals first
   |(refine⟨k+1,hkl,by omega,?_⟩
     rw[aO,aN]
     (exact leA)
     done)
   |skip
  all_goals
   exfalso
   simp only[Prod.mk.injEq]at f1 f2
   clear hlast hlt hd1g hd2g hrl
   rcases dO c 0 with hc0|hc0
   ·rcases dO d 0 with hd0|hd0
    ·have hre:=f3 hc0 hd0
     first
      |omega
      |(simp_all;done)
    ·obtain⟨rfl,hdl⟩:=f2 hc0 hd0
     first
      |omega
      |(simp_all;done)
   ·obtain⟨rfl,rfl⟩:=f1 hc0
    first
     |omega
     |(simp_all;done)
 ·(repeat' ((conv=>whnf);first|(with_reducible refine coSanZ ?_)|refine zG ?_|apply zA|intro h|exact zT));all_goals conv=>whnf
  all_goals first
   |exact .inl rfl
   |exact .inr rfl
   |(exfalso;simp_all;done)
end Go.Proofs.YtbdikofefjljoaaGreatDoor
