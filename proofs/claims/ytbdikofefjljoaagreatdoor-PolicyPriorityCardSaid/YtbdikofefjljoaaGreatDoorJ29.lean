/- The generator: intents are valid. -/
import Derived.Test.YtbdikofefjljoaaGreatDoorJ28
set_option linter.unusedVariables false
set_option linter.unusedSimpArgs false
set_option maxRecDepth 100000
set_option maxHeartbeats 4000000
namespace Go.Proofs.YtbdikofefjljoaaGreatDoor
open Go Go.Vm
def gN:List ByteArray:=[⟨#[103,49]⟩,⟨#[103,50]⟩,⟨#[103,51]⟩]
def sN:List ByteArray:=[⟨#[119,101,98]⟩,⟨#[115,115,104]⟩,⟨#[100,110,115]⟩]
theorem ix_strX{xs:List AV}{i:Nat}{K:AV->Prop}(L:List ByteArray)(n:Nat)(h:xs=L.map fun c=>.v (.string c))(hn:L.length=n)(hi:i<n)(hk:∀c,L[i]? =some c->K (.v (.string c))):Ix xs i K:=by
 subst h;subst hn
 exact gZ (aB hi) (hk _ (aB hi))
theorem nameB_lit{s:ByteArray}(h:nmChk s.data.toList=true):nameB s=true:=by
 exact nameB_true (nameOk_data h)
theorem gN_ok:∀s,s∈gN->nameB s=true:=fun s hs=>nameB_lit ((show ∀s,s∈gN->nmChk s.data.toList=true by decide+kernel) s hs)
theorem sN_ok:∀s,s∈sN->nameB s=true:=fun s hs=>nameB_lit ((show ∀s,s∈sN->nmChk s.data.toList=true by decide+kernel) s hs)
theorem gN_ne:∀(j i:Nat) (x y:ByteArray),j<i->gN[j]? =some x->gN[i]? =some y->sEq x y=false:=by
 have h:∀j i:Fin 3,j.val<i.val->sEqD (gN.getD j.val default) (gN.getD i.val default)=false:=by decide+kernel
 intro j i x y hji hx hy
 have h1:=(aM.1 hx).1
 have h2:=(aM.1 hy).1
 have:=h ⟨j,h1⟩ ⟨i,h2⟩ hji
 simp only[List.getD,hx,hy,cW]at this
 rw[sEq_data];exact this
theorem sN_ne:∀(j i:Nat) (x y:ByteArray),j<i->sN[j]? =some x->sN[i]? =some y->sEq x y=false:=by
 have h:∀j i:Fin 3,j.val<i.val->sEqD (sN.getD j.val default) (sN.getD i.val default)=false:=by decide+kernel
 intro j i x y hji hx hy
 have h1:=(aM.1 hx).1
 have h2:=(aM.1 hy).1
 have:=h ⟨j,h1⟩ ⟨i,h2⟩ hji
 simp only[List.getD,hx,hy,cW]at this
 rw[sEq_data];exact this
structure GDs (N:List ByteArray) (l:List Df) (g:Bool):Prop where
 nm:∀(i:Nat) d,l[i]? =some d->N[i]? =some d.name
 it:∀d,d∈l->1<=d.items.length/\d.items.length<=2
 ok:∀d,d∈l->∀y,y∈d.items->itB y g=true
theorem gds_nil{N:List ByteArray}{g:Bool}:GDs N [] g:=⟨fun i d h=>by simp at h,fun d h=>by simp at h,fun d h=>by simp at h⟩
theorem gds_snoc{N:List ByteArray}{l:List Df}{g:Bool}(h:GDs N l g){c:ByteArray}{its:List It}(hc:N[l.length]? =some c)(h1:1<=its.length/\its.length<=2)(h2:∀y,y∈its->itB y g=true):GDs N (l++[⟨c,its⟩]) g where
 nm:=fun i d hd=>by
  rcases aD i l.length with hlt|hge
  ·rw[bC hlt]at hd;exact h.nm i d hd
  ·rw[bB hge]at hd
   have:=(aM.1 hd).1
   simp only[aK,aP]at this
   have e:i=l.length:=by omega
   subst e
   simp only[dN,eM,bP]at hd
   subst hd;exact hc
 it:=fun d hd=>by
  rcases aU.1 hd with hd|hd
  ·exact h.it d hd
  ·rw[aR.1 hd];exact h1
 ok:=fun d hd=>by
  rcases aU.1 hd with hd|hd
  ·exact h.ok d hd
  ·rw[aR.1 hd];exact h2
theorem gds_names{N:List ByteArray}{l:List Df}{g:Bool}(h:GDs N l g)(hN:∀s,s∈N->nameB s=true):∀d,d∈l->nameB d.name=true:=fun d hd=>by
 obtain⟨i,hi⟩:=bI.1 hd
 exact hN _ (aG (h.nm i d hi))
theorem gds_ok{N:List ByteArray}{l:List Df}{g:Bool}(h:GDs N l g)(hN:∀s,s∈N->nameB s=true)(hne:∀(j i:Nat) (x y:ByteArray),j<i->N[j]? =some x->N[i]? =some y->sEq x y=false)(hl:l.length<=32):DfsOk l g:=by
 refine⟨hl,fun i d hd=>⟨gds_names h hN d (aG hd),?_,(h.it d (aG hd)).1,bO (h.it d (aG hd)).2 zd,h.ok d (aG hd)⟩⟩
 unfold dfIx
 exact firstIx_at (p:=fun x=>sEq x.name d.name) hd (sEq_self _) fun j y hj hy=>hne j i _ _ hj (h.nm j y hy) (h.nm i d hd)
theorem itB_zone{z:ByteArray}(h:nameB z=true):itB ⟨1,z,noPf,0,zR⟩ true=true:=by simp[itB,h,itN,noPf,zR]
theorem itB_sub{q:Pf}(h:q.okP):itB ⟨2,⟨#[]⟩,q,0,zR⟩ true=true:=by
 have:=nil_self
 simp[itB,h,itP,zR,this]
theorem itB_name{z:ByteArray}{g:Bool}(h:nameB z=true):itB ⟨3,z,noPf,0,zR⟩ g=true:=by simp[itB,h,itN,noPf,zR]
theorem itB_svc{v:Int}{r:Rg}(h:prB v r=true):itB ⟨4,⟨#[]⟩,noPf,v,r⟩ false=true:=by
 have:=nil_self
 simp[itB,h,itS,noPf,this]
theorem pb_exB{raw:List Int}{L:Nat×List Pb->Prop}(a b c:Int)(d:ByteArray)(e f:Int)(q:Nat)(hL:L (q,[⟨a,b,c,d,e,f⟩]))(hR:q<=raw.length)(hB:pbB ⟨a,b,c,d,e,f⟩=true):∃g:Nat×List Pb,(g.1<=raw.length/\g.2.length<=1/\∀x,x∈g.2->pbB x=true)/\L g:=⟨_,⟨hR,by simp,fun x hx=>by rw[aR.1 hx];exact hB⟩,hL⟩
structure TpN (t:Tp):Prop where
 cls:∀d,d∈t.devs->optB d.cls=true
 zone:∀e,e∈t.edges->nameB e.zone=true
 edge:∀e,e∈t.edges->nameB e.name=true
structure ENt (i:Nt):Prop where
 gen:GNt i
 ok:NtOk i
 g:GDs gN i.grps true
 s:GDs sN i.svcs false
 g1:1<=i.grps.length
 w1:i.wins.length<=1
 t3:i.sts.length<=4
 p1:i.pubs.length<=1
 h1:i.hids.length<=1
theorem tpn_top{t:Tp}(h:GTop t):TpN t where
 cls:=fun d hd=>by
  obtain⟨i,hi⟩:=bI.1 hd
  have hc:=(h.dv i d hi).cls
  have hl:∀s,s∈clL->sEqD s ⟨#[]⟩=true\/nmChk s.data.toList=true:=by decide+kernel
  unfold optB
  rw[bS]
  rcases hl _ hc with h1|h1
  ·exact .inl (by rw[sEq_data];exact h1)
  ·exact .inr (nameB_lit h1)
 zone:=fun e he=>by
  obtain⟨i,hi⟩:=bI.1 he
  have hz:=(h.ed i e hi).zone
  exact nameB_lit ((show ∀s,s∈zoL->nmChk s.data.toList=true by decide+kernel) _ hz)
 edge:=fun e he=>by
  obtain⟨i,hi⟩:=bI.1 he
  have hl:=(aM.1 hi).1
  have h5:=h.e5
  rw[(h.ed i e hi).name]
  exact nameB_lit ((show ∀j:Fin 5,nmChk (enL.getD j.val default).data.toList=true by decide+kernel) ⟨i,by omega⟩)
theorem sum_two(l:List Df)(h:∀d,d∈l->d.items.length<=2):itsN l<=2*l.length:=by
 unfold itsN
 induction l with
 |nil=>simp
 |cons d l ih=>
  have:=ih fun x hx=>h x (aX _ hx)
  have:=h d zx
  simp only[aW,cQ,aK];omega
theorem bnd_ent{i:Nt}(h:ENt i):Bnd i:=by
 have f:=h.gen.few
 have o:=h.ok
 have g3:=f.g3;have s3:=f.s3
 have a:=sum_two _ f.gi;have b:=sum_two _ f.si
 have c1:=o.wl;have c2:=o.tl;have c3:=o.pl;have c4:=o.hl
 exact⟨by omega,by omega,by omega,by omega,by omega,by omega,fun x hx=>bO (f.gi x hx) zd,fun x hx=>bO (f.si x hx) zd,f.sml.wi,by omega,by omega⟩
theorem setBlen{s:List Bx}(h:setB s=true):s.length<1000000000:=by have:=(setB_pset h).len;omega
theorem comp_edges{t:Tp}(hc:compB t=true):t.edges.length<=12:=(compB_iff.1 hc).1.e1
theorem crGrp(t:Tp)(hc:compB t=true)(i:Nt)(hb:Bnd i)(nm:ByteArray){K:KT}(hK:K (.tup [encRs (grpP t i nm).1,.v (.int .i64 (grpP t i nm).2)]) []):AC 193 [encT t,encNt i,.v (.string nm)] [] K:=by
 have h12:=comp_edges hc
 have hits:=hb.its
 refine cwGrp t zo i hb.g hb.gi nm (fun h=>?_) (fun h=>?_) fun h c hc hh hl=>?_
 ·have:=grpE_len (l:=i.grps) h12 h;omega
 ·rw[grpP,aE h]at hK;exact hK
 ·rw[grpP,aH h,canO_eq hc hh]at hK;exact hK
theorem grpP_len{t:Tp}(hc:compB t=true){i:Nt}(hb:Bnd i)(nm:ByteArray):(grpP t i nm).1.length<=860:=by
 have h12:=comp_edges hc
 have hits:=hb.its
 unfold grpP
 split
 ·rename_i h
  have:=grpE_len (l:=i.grps) h12 h
  have:=canO_len (grpE t i.grps nm).2
  simp only;omega
 ·exact aL _
theorem cwStS(l:List Df)(hl:l.length<=999)(hit:∀d,d∈l->d.items.length<=999)(nm:ByteArray){K:KT}
  (hK:K (.v (.int .i64 (svcF l nm).1)) [itO 2 (svcF l nm).2.length,.box [],arI (svcF l nm).2]):
  AC 263 [.lst (l.map encDf),.v (.string nm),.fn (.func 266) [] [.op 0 0]] [itO 1 0,.arr 7 []] K:=by
 refine ofwStS rfl rfl ?_
 unfold svcF at hK
 have hc:∀{K:KT},K (.v (.int .i64 (fol visS l (l.length+1) [] nm [] []).1)) [fsO l,.map (nameM l []),.map (nameM l (fol visS l (l.length+1) [] nm [] []).2.1),itO 5 (fol visS l (l.length+1) [] nm [] []).2.2.length,.box [],arI (fol visS l (l.length+1) [] nm [] []).2.2]->
   AC 318 [.op 0 0,.v (.string nm)] [fsO l,.map (fun _=>none),.map (fun _=>none),itO 4 0,.arr 7 []] K:=fun {K} h=>by
  rw[nameM_nil l]
  exact cwFos l hl hit (l.length+1) [] nm [] [] (fine_nil l) zx zx h
 (repeat' ((conv=>whnf);first|(with_reducible refine hc ?_)|refine zG ?_|apply zA|intro h|exact zT));all_goals conv=>whnf
 exact hK
theorem svcF_len{l:List Df}{nm:ByteArray}(h:(svcF l nm).1=0):(svcF l nm).2.length<=itsN l:=by
 unfold svcF at h⊢
 have:=fol_all visS List.length 1 (fun x s _=>by simp[visS]) l nm [] h
 simp only[aP]at this
 simp only;omega
theorem svcGo_drop{x:It}{r:List It}{s:List Bx}:svcGo (x::r) s=if(combP anB initS [hdrX x]).2≠0 then([],(combP anB initS [hdrX x]).2)else if(combP orB s (combP anB initS [hdrX x]).1).2≠0 then([],(combP orB s (combP anB initS [hdrX x]).1).2)else svcGo r (combP orB s (combP anB initS [hdrX x]).1).1:=rfl
theorem crSvc(i:Nt)(hb:Bnd i)(nm:ByteArray){K:KT}(hK:K (.tup [encXs (svcP i nm).1,.v (.int .i64 (svcP i nm).2)]) []):AC 194 [encNt i,.v (.string nm)] [] K:=by
 refine gP (ofwSvc rfl rfl ?_)
 unfold svcP at hK
 by_cases hnm:sEq nm ⟨#[]⟩=true
 ·rw[aH hnm]at hK
  have hnm2:(nm.toList==(⟨#[]⟩:ByteArray).toList)=true:=hnm
  (repeat' ((conv=>whnf);first|(with_reducible refine cxInit ?_)|refine zG ?_|apply zA|intro h|exact zT));all_goals conv=>whnf
  exact⟨_,gM,hK⟩
 ·rw[aE hnm]at hK
  have hnm2:(nm.toList==(⟨#[]⟩:ByteArray).toList)=false:=by simpa[sEq]using hnm
  have hc:=fun {K} h=>@cwStS i.svcs hb.s hb.si nm K h
  have hlen:=svcF_len (l:=i.svcs) (nm:=nm)
  have hsn:=hb.sits
  generalize svcF i.svcs nm=q at*
  obtain⟨qe,its⟩:=q
  simp only at hK hc hlen
  (repeat' ((conv=>whnf);first|(with_reducible refine hc ?_)|refine zG ?_|apply zA|intro h|exact zT));all_goals conv=>whnf
  ·rw[aE zo]at hK
   have hlen:=hlen h
   refine gL (Nat×List Bx) (fun g=>⟨4,[],[(8,encXs g.2),(25,.lst (its.map encIt)),(26,.v (.int .i64 (its.map encIt).length)),(27,.v (.int .i64 g.1))]⟩) (fun g=>g.1<=its.length/\setB g.2=true/\svcGo its []=svcGo (its.drop g.1) g.2) (fun g=>its.length-g.1) (0,[]) ⟨aL _,setB_nil,by rw[cA]⟩ ?_ ?_
   ·(exact leA)
   rintro⟨k,s⟩ ⟨hk,hs,heq⟩
   simp only at hk hs heq⊢
   have hsl:=setBlen hs
   rcases aD k its.length with hkl|hkl
   ·obtain⟨x,hx⟩:=gex hkl
    have hd:its.drop k=x::its.drop (k+1):=by
     rw[aB hkl]at hx
     rw[<-bE hx,<-aZ hkl]
    rw[hd,svcGo_drop]at heq
    have hq:∀{K:KT},K (.tup [encXs (combP anB initS [hdrX x]).1,.v (.int .i64 (combP anB initS [hdrX x]).2)]) []->AC 76 [encXs initS,.lst [.agg [.v (.int .u32 fullB.r0.lo),.v (.int .u32 fullB.r0.hi),.v (.int .u32 fullB.r1.lo),.v (.int .u32 fullB.r1.hi),.v (.int .u32 (wu x.proto)),.v (.int .u32 (wu x.proto)),.v (.int .u32 fullB.r3.lo),.v (.int .u32 fullB.r3.hi),.v (.int .u32 x.ports.lo),.v (.int .u32 x.ports.hi)]]] [] K:=fun {K} h=>@cxInt initS [hdrX x] zd zx K h
    have hsA:=setB_combP anB initS [hdrX x]
    have hsB:=setB_combP orB s (combP anB initS [hdrX x]).1
    have hu:=fun {K} h=>@cxUn s (combP anB initS [hdrX x]).1 zo (by have:=setBlen hsA;omega) K h
    generalize combP orB s (combP anB initS [hdrX x]).1=B at*
    generalize combP anB initS [hdrX x]=A at*
    obtain⟨As,Ae⟩:=A
    obtain⟨Bs,Be⟩:=B
    simp only at heq hsA hsB hu hq
    (repeat' ((conv=>whnf);first|(with_reducible first|refine hJ hkl ?_|refine gZ hx ?_|refine cxFull ?_)|(refine in_c zd ?_)|(with_reducible first|refine wr_u32_eq ?_|refine cxInit ?_)|(refine sl_full (by rfl) ?_)|(with_reducible first|refine hq ?_|refine hu ?_)|refine zG ?_|apply zA|intro h|exact zT));all_goals conv=>whnf
    all_goals first
     |(rw[aE (fun hn=>hn zw),aE (fun hn=>hn zw)]at heq
       refine⟨(k+1,Bs),⟨hkl,hsB,heq⟩,by simp only;omega,?_⟩
       simp only[aO,aN]
       (exact leA)
       done)
     |(rw[aH h]at heq
       rw[heq]at hK
       exact⟨_,gQ gR gM,hK⟩)
     |(rw[aE (fun hn=>hn zw),aH h]at heq
       rw[heq]at hK
       exact⟨_,gQ gR gM,hK⟩)
   ·rw[bU hkl]at heq
    rw[heq]at hK
    (repeat' ((conv=>whnf);first|refine zG ?_|apply zA|intro h|exact zT));all_goals conv=>whnf
    exact⟨_,gM,hK⟩
  ·rw[aH zp]at hK
   exact⟨_,gQ gR gM,hK⟩
theorem svcGo_set:∀(its:List It) (s:List Bx),setB s=true->setB (svcGo its s).1=true
 |[],s,h=>h
 |x::r,s,h=>by
  rw[svcGo_drop]
  split
  ·exact setB_nil
  ·split
   ·exact setB_nil
   ·exact svcGo_set r _ (setB_combP ..)
theorem svcP_set(i:Nt)(nm:ByteArray):setB (svcP i nm).1=true:=by
 unfold svcP
 split
 ·exact init_set
 ·split
  ·exact setB_nil
  ·exact svcGo_set _ _ setB_nil
theorem bwB_snoc(a:List Rg)(r:Rg)(b:List Rg):btwB (a++[r]) b=btwB a b++b.map fun s=>btwX r s:=by simp[btwB]
theorem bwB_len(b:List Rg):∀a:List Rg,(btwB a b).length=a.length*b.length
 |[]=>by simp[btwB]
 |r::a=>by
  have:=bwB_len b a
  simp only[btwB,cX,aC,aA,aK,eX]at*
  omega
theorem crBtw(a b:List Rg)(ha:a.length<=860)(hb:b.length<=860){K:KT}(hK:K (.tup [encXs (makeP (btwB a b)).1,.v (.int .i64 (makeP (btwB a b)).2)]) []):AC 199 [encRs a,encRs b] [] K:=by
 refine ofrBtw rfl rfl ?_
 (repeat' ((conv=>whnf);first|refine zG ?_|apply zA|intro h|exact zT));all_goals conv=>whnf
 refine gL Nat (fun i=>⟨1,[(0,.arr 10 ((btwB (a.take i) b).map encX))],[(1,encRs b),(6,.os 0 10 0 (btwB (a.take i) b).length),(12,encRs a),(13,.v (.int .i64 (a.map encR).length)),(14,.v (.int .i64 i))]⟩) (fun i=>i<=a.length) (fun i=>a.length-i) 0 (aL _) ?_ ?_
 ·rw[cR,show btwB [] b=[]from rfl]
  (exact leA)
 intro i hi
 have hl:=bwB_len b (a.take i)
 have hm:(a.take i).length*b.length<=860*860:=dR (by rw[bG];omega) hb
 rcases aD i a.length with hil|hil
 ·obtain⟨r,hr⟩:=gex hil
  have hs:btwB (a.take (i+1)) b=btwB (a.take i) b++b.map fun s=>btwX r s:=by rw[bH,hr];exact bwB_snoc ..
  generalize btwB (a.take i) b=A at*
  (repeat' ((conv=>whnf);first|(with_reducible first|refine hJ hil ?_|refine gZ hr ?_)|refine zG ?_|apply zA|intro h|exact zT));all_goals conv=>whnf
  refine gL Nat (fun k=>⟨2,[(0,.arr 10 ((A++(b.take k).map fun s=>btwX r s).map encX)),(1,.box [.v (.int .u32 r.lo),.v (.int .u32 r.hi)])],[(1,encRs b),(6,.os 0 10 0 (A++(b.take k).map fun s=>btwX r s).length),(8,.op 1 0),(12,encRs a),(13,.v (.int .i64 (a.map encR).length)),(14,.v (.int .i64 i)),(18,encRs b),(19,.v (.int .i64 (b.map encR).length)),(20,.v (.int .i64 k))]⟩) (fun k=>k<=b.length) (fun k=>b.length-k) 0 (aL _) ?_ ?_
  ·rw[cR,bN,bJ]
   (exact leA)
  intro k hk
  rcases aD k b.length with hkl|hkl
  ·obtain⟨s,hs2⟩:=gex hkl
   have hap:(A++(b.take (k+1)).map fun s=>btwX r s)=(A++(b.take k).map fun s=>btwX r s)++[btwX r s]:=by rw[bH,hs2];simp
   have hlen:(A++(b.take k).map fun s=>btwX r s).length<=1000000:=by rw[aC,aA,bG];omega
   generalize hB:(A++(b.take (k+1)).map fun s=>btwX r s)=B at*
   generalize (A++(b.take k).map fun s=>btwX r s)=C at*
   (repeat' ((conv=>whnf);first|(with_reducible first|refine cxFull ?_|refine hJ hkl ?_|refine gZ hs2 ?_)|(refine in_c zd ?_)|(refine sl_full (by rfl) ?_)|refine zG ?_|apply zA|intro h|exact zT));all_goals conv=>whnf
   all_goals
    refine⟨k+1,hkl,by omega,?_⟩
    rw[hB,hap,aQ,aC,aO k,aN]
    (exact leA)
  ·(repeat' ((conv=>whnf);first|refine zG ?_|apply zA|intro h|exact zT));all_goals conv=>whnf
   have hke:k=b.length:=by omega
   rw[hke,cY,<-hs]
   refine⟨i+1,hil,by omega,?_⟩
   rw[aO i,aN]
   (exact leA)
 ·have hie:i=a.length:=by omega
  have hbl:(btwB a b).length<1000000000:=by
   have:=dR ha hb
   rw[bwB_len];omega
  rw[hie,cY]
  have hfull:((btwB a b).map encX).length=(btwB a b).length:=aA ..
  (repeat' ((conv=>whnf);first|(with_reducible first|refine sl_full hfull ?_|refine cxMake (btwB a b) hbl ?_)|refine zG ?_|apply zA|intro h|exact zT));all_goals conv=>whnf
  exact hK
theorem three_lenN{I:List (Int×Rg)}{X:List Bx}(h:Sh I X)(hk:∀x,x∈I->kindI x):(cano orB 3 X []).length<=10+2*I.length:=by
 have hc:=cnt_three I
 have:=len_by h hk lotB lotB_ok.1 lotB_ok.2.1 (lot_all zd) fun r hr=>by
  rcases lotB_ok.2.2 r hr with h1|h1|h1|h1
  ·exact .inl h1
  ·exact .inr (.inl h1)
  ·exact .inr (.inr (.inl h1))
  ·exact .inr (.inr (.inr ⟨h1.1,fun _ _ _=>h1.2⟩))
 have e:(lotB.map (nPro I)).sum=1+(2+(1+((1+2*cntI I 6)+(1+((1+2*cntI I 17)+(1+(1+(1+0)))))))):=rfl
 omega
def sigI(I:List (Int×Rg))(q q':Nat->Int):Prop:=∀x,x∈I->((q 2=x.1/\x.2.lo<=q 4/\q 4<=x.2.hi)↔(q' 2=x.1/\x.2.lo<=q' 4/\q' 4<=x.2.hi))
structure Sv (I:List (Int×Rg)) (X:List Bx):Prop where
 ini:∀q,InP q->memK q 5 X=true->memK q 3 initS=true
 sig:∀q q',InP q->InP q'->(∀b,b∈initS->inK q 3 b=inK q' 3 b)->sigI I q q'->memK q 5 X=memK q' 5 X
theorem inK3_set{p:Nat->Int}{f:Nat}{v:Int}{b:Bx}(hf:f<=1):inK (setF p f v) 3 b=inK p 3 b:=inK_congr 3 b zo fun g h4 h5=>setF_ne zo
theorem memK3_set{p:Nat->Int}{f:Nat}{v:Int}{l:List Bx}(hf:f<=1):memK (setF p f v) 3 l=memK p 3 l:=memK_congr zo fun g h4 h5=>setF_ne zo
section
variable {I:List (Int×Rg)} {X:List Bx}
theorem at_two{p:Nat->Int}(u v:Int):memK p 3 (atF 1 v (atF 0 u X))=memK (setF (setF p 1 v) 0 u) 5 X:=by
 rw[memK_at (k:=3) zo v];exact memK_at (k:=4) zo u X
theorem sv_sh(h:Sv I X){u v:Int}(u0:0<=u)(u1:u<=4294967295)(v0:0<=v)(v1:v<=4294967295):Sh I (atF 1 v (atF 0 u X)) where
 ini:=fun p hp hm=>by
  rw[at_two]at hm
  have:=h.ini _ (inP_set (inP_set hp (f:=1) v0 v1) (f:=0) u0 u1) hm
  rwa[memK3_set zo,memK3_set zo]at this
 sig:=fun p p' hp hp' h1 h2=>by
  rw[at_two,at_two]
  refine h.sig _ _ (inP_set (inP_set hp (f:=1) v0 v1) (f:=0) u0 u1) (inP_set (inP_set hp' (f:=1) v0 v1) (f:=0) u0 u1) (fun b hb=>?_) h2
  rw[inK3_set zo,inK3_set zo,inK3_set zo,inK3_set zo]
  exact h1 b hb
theorem full_r:(mkR 0 4294967295).lo=0/\(mkR 0 4294967295).hi=4294967295:=by decide
theorem sv_len(h:Sv I X)(hk:∀x,x∈I->kindI x):(cano orB 5 X []).length<=10+2*I.length:=by
 have m:=full_r
 have low:∀(f:Nat) (p:Nat->Int) (u v:Int),f<=1->∀b,b∈initS->inK (setF p f u) 3 b=inK (setF p f v) 3 b:=fun f p u v hf b _=>by rw[inK3_set hf,inK3_set hf]
 refine one_pt (k:=4) zo (r:=mkR 0 4294967295) zd (fun p hp _=>inR_iff.2 ?_) (fun p u v hp hu hv u0 u1 v0 v1=>?_) fun u hu u0 u1=>?_
 ·have:=hp 0
  have t0:topF 0=4294967295:=rfl
  show(mkR 0 4294967295).lo<=p 0/\p 0<=(mkR 0 4294967295).hi
  omega
 ·exact h.sig _ _ (inP_set hp u0 u1) (inP_set hp v0 v1) (low 0 p u v zo) fun x hx=>Iff.rfl
 ·refine one_pt (k:=3) zo (r:=mkR 0 4294967295) zd (fun p hp _=>inR_iff.2 ?_) (fun p a b hp ha hb a0 a1 b0 b1=>?_) fun v hv v0 v1=>?_
  ·have:=hp 1
   have t0:topF 1=4294967295:=rfl
   show(mkR 0 4294967295).lo<=p 1/\p 1<=(mkR 0 4294967295).hi
   omega
  ·show memK (setF p 1 a) 4 (atF 0 u X)=memK (setF p 1 b) 4 (atF 0 u X)
   have e:∀w,memK (setF p 1 w) 4 (atF 0 u X)=memK (setF (setF p 1 w) 0 u) 5 X:=fun w=>memK_at (k:=4) zo u X
   rw[e,e]
   refine h.sig _ _ (inP_set (inP_set hp (f:=1) a0 a1) (f:=0) u0 u1) (inP_set (inP_set hp (f:=1) b0 b1) (f:=0) u0 u1) (fun c hc=>?_) fun x hx=>Iff.rfl
   rw[inK3_set zo,inK3_set zo,inK3_set zo,inK3_set zo]
  ·exact three_lenN (sv_sh h u0 u1 v0 v1) hk
end
theorem comb1_mem{a:List Bx}{w:Bx}(ha:setB a=true)(hw:w.ok){q:Nat->Int}(hq:InP q):memK q 5 (combP anB a [w]).1=(memK q 5 a&&inK q 5 w):=by
 obtain⟨h1,h2,h3⟩:=giv_one hw
 have hp:=setB_pset ha
 have e:givP a=(a,0):=by rw[givP,aH ha]
 have hb:=boundA 5 a (givP [w]).1 (aJ _) hp.cn h3
 have hm:a.length*(givP [w]).1.length<=a.length*1:=dT _ h2
 have hl:=hp.len
 have hlim:¬4096<(cano anB 5 a (givP [w]).1).length:=by omega
 have e2:(combP anB a [w]).1=cano anB 5 a (givP [w]).1:=by
  unfold combP
  rw[e]
  simp only[ne_eq,not_true_eq_false,if_false,h1,limP,limE,aE hlim]
 rw[e2,cano_mem anB hq 5 _ _ (aJ _),giv_one_mem hw hq,anB]
 simp[memK]
theorem memK_app(q:Nat->Int)(k:Nat)(a b:List Bx):memK q k (a++b)=(memK q k a||memK q k b):=by unfold memK;rw[List.any_append]
theorem init_q{q:Nat->Int}(hq:InP q):memK q 5 initS=memK q 3 initS:=by
 rw[bD]
 simp only[memK,cI]
 refine exists_congr fun b=>and_congr_right fun hb=>?_
 have hbf:=boxI_full (i:=⟨[],[],[],[],[],[]⟩) (cN _ hb)
 rw[inK_full hbf.1 hbf.2 hq]
section
variable {I:List (Int×Rg)}
theorem sv_nil:Sv I []:=⟨fun q _ h=>(by rw[memK_nil]at h;cases h),fun q q' _ _ _ _=>by rw[memK_nil,memK_nil]⟩
theorem init_sig{q q':Nat->Int}(h:∀b,b∈initS->inK q 3 b=inK q' 3 b):memK q 3 initS=memK q' 3 initS:=by
 rw[bD]
 simp only[memK,cI]
 exact exists_congr fun b=>and_congr_right fun hb=>by rw[h b hb]
theorem sv_init:Sv I initS:=⟨fun q hq h=>by rwa[init_q hq]at h,fun q q' hq hq' h _=>by rw[init_q hq,init_q hq'];exact init_sig h⟩
theorem sv_app{a b:List Bx}(ha:Sv I a)(hb:Sv I b):Sv I (a++b) where
 ini:=fun q hq h=>by
  rw[memK_app,bS]at h
  rcases h with h|h
  ·exact ha.ini q hq h
  ·exact hb.ini q hq h
 sig:=fun q q' hq hq' h1 h2=>by rw[memK_app,memK_app,ha.sig q q' hq hq' h1 h2,hb.sig q q' hq hq' h1 h2]
theorem sv_item{x:It}(hx:(wu x.proto,x.ports)∈I)(hw:(hdrX x).ok):Sv I (combP anB initS [hdrX x]).1 where
 ini:=fun q hq h=>by
  rw[comb1_mem init_set hw hq,aF,init_q hq]at h
  exact h.1
 sig:=fun q q' hq hq' h1 h2=>by
  rw[comb1_mem init_set hw hq,comb1_mem init_set hw hq',init_q hq,init_q hq',init_sig h1,inK_full (b:=hdrX x) rfl rfl hq,inK_full (b:=hdrX x) rfl rfl hq']
  congr 1
  rw[bD,inK_hdr hq,inK_hdr hq']
  exact h2 _ hx
theorem sv_or(hk:∀x,x∈I->kindI x)(hI:I.length<=2000){a b:List Bx}(ha:setB a=true)(hb:setB b=true)(va:Sv I a)(vb:Sv I b):
  (combP orB a b).2=0/\Sv I (combP orB a b).1/\∀q,InP q->memK q 5 (combP orB a b).1=(memK q 5 a||memK q 5 b):=by
 have hv:=sv_app va vb
 have hl:=sv_len hv hk
 have e:cano orB 5 a b=cano orB 5 (a++b) []:=cano_ext2 orB orB 5 _ _ _ _ (aJ _) fun q hq=>by
  rw[memK_app,memK_nil];simp[orB]
 have h0:(combP orB a b).2=0:=by
  rw[combP_set ha hb]
  simp only[limE]
  rw[e,aE zo]
 have hm:∀q,InP q->memK q 5 (combP orB a b).1=(memK q 5 a||memK q 5 b):=fun q hq=>by rw[combP_mem ha hb h0 hq];rfl
 refine⟨h0,⟨fun q hq h=>?_,fun q q' hq hq' h1 h2=>?_⟩,hm⟩
 ·rw[hm q hq,<-memK_app]at h
  exact hv.ini q hq h
 ·rw[hm q hq,hm q' hq',<-memK_app,<-memK_app]
  exact hv.sig q q' hq hq' h1 h2
theorem svcGo_ok(hk:∀x,x∈I->kindI x)(hI:I.length<=2000):∀(its:List It) (s:List Bx),setB s=true->Sv I s->(∀x,x∈its->(wu x.proto,x.ports)∈I/\(hdrX x).ok)->
  (svcGo its s).2=0/\Sv I (svcGo its s).1/\∀q,InP q->memK q 5 (svcGo its s).1=(memK q 5 s||(memK q 3 initS&&its.any fun x=>inK q 3 (hdrX x)))
 |[],s,hs,hv,_=>⟨rfl,hv,fun q hq=>by simp[svcGo]⟩
 |x::r,s,hs,hv,hx=>by
  obtain⟨h1,h2⟩:=hx x zx
  have c1:=comb_one init_set h2
  have hA:setB (combP anB initS [hdrX x]).1=true:=setB_combP ..
  obtain⟨d1,d2,d3⟩:=sv_or hk hI hs hA hv (sv_item h1 h2)
  rw[svcGo_drop,aE (by rw[c1.1];decide),aE (by rw[d1];decide)]
  obtain⟨e1,e2,e3⟩:=svcGo_ok hk hI r (combP orB s (combP anB initS [hdrX x]).1).1 (setB_combP ..) d2 fun y hy=>hx y (aX _ hy)
  refine⟨e1,e2,fun q hq=>?_⟩
  rw[e3 q hq,d3 q hq,comb1_mem init_set h2 hq,init_q hq,inK_full (b:=hdrX x) rfl rfl hq,fY]
  cases memK q 5 s<;>cases memK q 3 initS<;>simp
end
theorem hdr_okK{x:It}(h:itB x false=true)(hk:x.kind≠3):(hdrX x).ok:=by
 unfold itB at h
 rw[aE hk]at h
 by_cases h1:x.kind=1
 ·rw[aH h1]at h;simp at h
 by_cases h2:x.kind=2
 ·rw[aE h1,aH h2]at h;simp at h
 by_cases h4:x.kind=4
 rotate_left
 ·rw[aE h1,aE h2,aE h4]at h;simp at h
 rw[aE h1,aE h2,aH h4]at h
 simp only[eL,eF,aF]at h
 have hp:=h.1
 have e0:fullB.r0.lo=0/\fullB.r0.hi=4294967295/\fullB.r1.lo=0/\fullB.r1.hi=4294967295/\fullB.r3.lo=0/\fullB.r3.hi=65535:=by decide
 have key:(0<=x.proto/\x.proto<=255)/\x.ports.lo<=x.ports.hi/\x.ports.hi<=65535:=by
  unfold prB at hp
  split at hp
  ·have:=of_decide_eq_true hp;omega
  ·split at hp
   ·have:=of_decide_eq_true hp;omega
   ·have:=of_decide_eq_true hp;omega
 have hw:=wu_id (p:=x.proto) zo zo
 refine⟨⟨?_,?_⟩,⟨?_,?_⟩,⟨?_,?_⟩,⟨?_,?_⟩,key.2.1,key.2.2⟩
 ·show fullB.r0.lo<=fullB.r0.hi;omega
 ·show fullB.r0.hi<=4294967295;omega
 ·show fullB.r1.lo<=fullB.r1.hi;omega
 ·show fullB.r1.hi<=4294967295;omega
 ·exact cD _
 ·show wu x.proto<=255;omega
 ·show fullB.r3.lo<=fullB.r3.hi;omega
 ·show fullB.r3.hi<=65535;omega
theorem lead_item{l:List Df}{nm:ByteArray}{y:It}(h:Lead l (fun x y=>y=x) nm y):∃d,d∈l/\y∈d.items/\y.kind≠3:=by
 induction h with
 |here h1 h2 h3 h4 h5=>subst h5;exact⟨_,aG h2,h3,h4⟩
 |there h1 h2 h3 h4 h5 ih=>exact ih
theorem svcP_ok{i:Nt}(h:DfsOk i.svcs false)(hk:∀x,x∈svcI i->kindI x)(hI:(svcI i).length<=2000)(nm:ByteArray):
  ((svcP i nm).2=0\/(svcP i nm).2=5\/(svcP i nm).2=8)/\Sv (svcI i) (svcP i nm).1/\(sEq nm ⟨#[]⟩=false->(svcP i nm).2=(svcF i.svcs nm).1/\((svcF i.svcs nm).1=0->∀q,InP q->(memK q 5 (svcP i nm).1=true↔memK q 3 initS=true/\∃y,Lead i.svcs (fun x y=>y=x) nm y/\inK q 3 (hdrX y)=true))):=by
 unfold svcP
 cases hn:sEq nm ⟨#[]⟩with
 |true=>rw[aH rfl];exact⟨.inl rfl,sv_init,fun h=>(by cases h)⟩
 |false=>
  rw[aE zd]
  have he:=svcF_err i.svcs nm
  by_cases h0:(svcF i.svcs nm).1=0
  ·rw[aE zo]
   obtain⟨hg,hl⟩:=svc_lead h0
   have hits:∀x,x∈(svcF i.svcs nm).2->(wu x.proto,x.ports)∈svcI i/\(hdrX x).ok:=fun x hx=>by
    obtain⟨d,hd,hxd,hx3⟩:=lead_item ((hl x).1 hx)
    obtain⟨n,hn⟩:=bI.1 hd
    exact⟨dH.2 ⟨d,hd,bK.2 ⟨x,hxd,rfl⟩⟩,hdr_okK ((h.all n d hn).all x hxd) hx3⟩
   obtain⟨e1,e2,e3⟩:=svcGo_ok hk hI (svcF i.svcs nm).2 [] setB_nil sv_nil hits
   refine⟨.inl e1,e2,fun _=>⟨by rw[e1,h0],fun _ q hq=>?_⟩⟩
   rw[e3 q hq,memK_nil,fM,aF,cI]
   refine and_congr_right fun _=>exists_congr fun y=>?_
   rw[hl y]
  ·rw[aH h0]
   exact⟨he,sv_nil,fun _=>⟨rfl,fun h=>absurd h h0⟩⟩
theorem svcI_kind{i:Nt}(h:GNt i):∀x,x∈svcI i->kindI x:=fun x hx=>by
 obtain⟨d,hd,hx⟩:=dH.1 hx
 obtain⟨y,hy,rfl⟩:=bK.1 hx
 have:=h.sv d hd y hy
 unfold SvcIt at this
 unfold kindI
 simp only
 rcases this with⟨_,h1,h2,h3⟩|(h1|h1)|⟨h1,h2,h3⟩|⟨h1,h2,h3⟩
 ·rw[h1];exact .inr (.inr (.inr (.inr ⟨by decide,h2,h3⟩)))
 ·rw[h1];exact .inl zd
 ·rw[h1];exact .inr (.inl zd)
 ·rw[h1];exact .inr (.inr (.inl ⟨by decide,h2,h3⟩))
 ·rw[h1];exact .inr (.inr (.inr (.inl ⟨by decide,h2,h3⟩)))
theorem svcI_few{i:Nt}(h:GNt i):(svcI i).length<=4:=by
 have h1:=sum_flat_le (fun d:Df=>d.items.map fun y=>(wu y.proto,y.ports)) (c:=2) i.svcs fun d hd=>by rw[aA];exact h.few.si d hd
 have:=bR 2 h.s2
 unfold svcI;omega
def hdQ(h:Hd):Nat->Int
 |0=>h.src
 |1=>h.dst
 |2=>h.pro
 |3=>h.sp
 |_=>h.dp
theorem hdQ_in{h:Hd}(ho:h.Ok):InP (hdQ h):=fun f=>by
 obtain⟨s0,s1,d0,d1,p0,p1,a0,a1,b0,b1⟩:=ho
 unfold hdQ topF
 split<;>split<;>first|omega|(simp_all;done)|(constructor<;>assumption)
theorem edge_has{t:Tp}(hc:compB t=true){i:Nat}{e:Ed}(he:t.edges[i]? =some e)(u:Int):(!e.pl&&e.pf.has u)=has [e.pf.rg] u:=by
 obtain⟨ht,hp⟩:=compB_iff.1 hc
 obtain⟨_,_,_,_,_,ok,_⟩:=(ht.edge i e he).1
 rw[hp e (aG he),Pf.has,decide_eq_true ok]
 simp[has]
theorem at_law{t:Tp}(hc:compB t=true)(z:ByteArray)(u:Int):(∃e,e∈t.edges/\sEq e.zone z=true/\has [e.pf.rg] u=true)↔∃(n:Nat) (e:Ed),edgeAt t u=n/\t.edges[n]? =some e/\sEq e.zone z=true:=by
 constructor
 ·rintro⟨e,he,hz,hu⟩
  obtain⟨n,hn⟩:=bI.1 he
  refine⟨n,e,?_,hn,hz⟩
  refine firstIx_at (p:=fun e:Ed=> !e.pl&&e.pf.has u) hn (by rw[edge_has hc hn];exact hu) fun j y hj hy=>?_
  rw[edge_has hc hy]
  cases hyu:has [y.pf.rg] u with
  |false=>rfl
  |true=>
   exfalso
   have hap:=edges_apart hc
   have hnl:=(aM.1 hn).1
   have hjl:=(aM.1 hy).1
   have h1:=cC.1 hap j n (by rw[aA];exact hjl) (by rw[aA];exact hnl) hj
   rw[List.getElem_map,List.getElem_map]at h1
   rw[(aM.1 hn).2,(aM.1 hy).2]at h1
   obtain⟨r,hr,r1,r2⟩:=has_iff.1 hu
   obtain⟨s,hs,s1,s2⟩:=has_iff.1 hyu
   rw[aR.1 hr]at r1 r2
   rw[aR.1 hs]at s1 s2
   omega
 ·rintro⟨n,e,h1,h2,h3⟩
  obtain⟨x,hx,hp⟩:=firstIx_get (p:=fun e:Ed=> !e.pl&&e.pf.has u) h1
  rw[h2]at hx;cases hx
  rw[edge_has hc h2]at hp
  exact⟨e,aG h2,h3,hp⟩
theorem crStm(t:Tp)(hc:compB t=true)(i:Nt)(hb:Bnd i)(s:Sm){K:KT}(hK:K (.tup [encXs (stmP t i s).1,.v (.int .i64 (stmP t i s).2)]) []):AC 112 [encT t,encNt i,encSm s] [] K:=by
 refine gP (ofrStm rfl rfl ?_)
 have hl:=fun nm=>grpP_len hc hb nm
 have hg:=fun(nm:ByteArray) {K:KT} h=>@crGrp t hc i hb nm K h
 unfold stmP at hK
 have l1:=hl s.frm;have l2:=hl s.to;have l4:=hl s.exF;have l5:=hl s.exT
 have g1:=fun {K} h=>@hg s.frm K h
 have g2:=fun {K} h=>@hg s.to K h
 have g4:=fun {K} h=>@hg s.exF K h
 have g5:=fun {K} h=>@hg s.exT K h
 have g3:=fun {K} h=>@crSvc i hb s.svc K h
 have s3:=svcP_set i s.svc
 generalize grpP t i s.frm=F at*
 generalize grpP t i s.to=G at*
 generalize grpP t i s.exF=O at*
 generalize grpP t i s.exT=N at*
 generalize svcP i s.svc=V at*
 obtain⟨Fs,Fe⟩:=F
 obtain⟨Gs,Ge⟩:=G
 obtain⟨Os,Oe⟩:=O
 obtain⟨Ns,Ne⟩:=N
 obtain⟨Vs,Ve⟩:=V
 simp only at l1 l2 l4 l5 g1 g2 g3 g4 g5 s3 hK
 (repeat' ((conv=>whnf);first|(with_reducible first|refine g1 ?_|refine g2 ?_|refine g3 ?_)|refine zG ?_|apply zA|intro h|exact zT));all_goals conv=>whnf
 rotate_left
 ·rw[bindE_ok (x:=(Fs,Fe)) zw,bindE_ok (x:=(Gs,Ge)) zw,bindE_no (x:=(Vs,Ve)) h]at hK
  exact⟨_,gQ gR gM,hK⟩
 ·rw[bindE_ok (x:=(Fs,Fe)) zw,bindE_no (x:=(Gs,Ge)) h]at hK
  exact⟨_,gQ gR gM,hK⟩
 ·rw[bindE_no (x:=(Fs,Fe)) h]at hK
  exact⟨_,gQ gR gM,hK⟩
 rw[bindE_ok (x:=(Fs,Fe)) zw,bindE_ok (x:=(Gs,Ge)) zw,bindE_ok (x:=(Vs,Ve)) h]at hK
 simp only at hK
 have hvl:=setBlen s3
 have b1:=fun {K} h=>@crBtw Fs Gs l1 l2 K h
 have sB:=setB_makeP (btwB Fs Gs)
 have i1:=fun {K} h=>@cxInt (makeP (btwB Fs Gs)).1 Vs (setBlen sB) hvl K h
 have sC:=setB_combP anB (makeP (btwB Fs Gs)).1 Vs
 have b2:=fun {K} h=>@crBtw Os Ns l4 l5 K h
 have sD:=setB_makeP (btwB Os Ns)
 have i2:=fun {K} h=>@cxSub (combP anB (makeP (btwB Fs Gs)).1 Vs).1 (makeP (btwB Os Ns)).1 (setBlen sC) (setBlen sD) K h
 by_cases hex:s.exc=true
 ·simp only[hex,if_true]at hK
  refine gU Unit (fun _=>⟨3,[(2,.box [.sb s.permit,.v (.string s.frm),.v (.string s.to),.v (.string s.svc),.sb s.exc,.v (.string s.exF),.v (.string s.exT),.v (.string s.cls),.v (.string s.dur),.v (.int .i64 s.pri)])],[(5,.op 2 0),(8,encRs Fs),(10,encRs Gs),(11,encXs Vs),(12,encRs Os),(13,encRs Ns)]⟩) (fun _=>Oe=0/\Ne=0) ?_ ?_
  ·(repeat' ((conv=>whnf);first|(with_reducible first|refine g4 ?_|refine g5 ?_)|refine zG ?_|apply zA|intro h|exact zT));all_goals conv=>whnf
   all_goals first
    |(refine⟨(),⟨by with_reducible assumption,by with_reducible assumption⟩,?_⟩
      (exact leA)
      done)
    |(rw[bindE_no (x:=(Os,Oe)) h]at hK
      exact⟨_,gQ gR gM,hK⟩)
    |(rw[bindE_ok (x:=(Os,Oe)) zw,bindE_no (x:=(Ns,Ne)) h]at hK
      exact⟨_,gQ gR gM,hK⟩)
  rintro⟨⟩ ⟨h1,h2⟩
  rw[bindE_ok (x:=(Os,Oe)) h1,bindE_ok (x:=(Ns,Ne)) h2]at hK
  simp only at hK
  generalize makeP (btwB Fs Gs)=B at*
  generalize makeP (btwB Os Ns)=D at*
  generalize hC:combP anB B.1 Vs=C at*
  generalize hX:combP woB C.1 D.1=X at*
  obtain⟨Bs,Be⟩:=B
  obtain⟨Cs,Ce⟩:=C
  obtain⟨Ds,De⟩:=D
  obtain⟨Xs,Xe⟩:=X
  simp only at b1 i1 b2 i2 hK hC hX
  (repeat' ((conv=>whnf);first|(with_reducible first|refine b1 ?_|refine i1 ?_|refine b2 ?_|refine i2 ?_)|refine zG ?_|apply zA|intro h|exact zT));all_goals conv=>whnf
  ·rw[bindE_ok (x:=(Bs,Be)) zw]at hK
   simp only[hC]at hK
   rw[aE (fun hh=>hh.elim (fun hn=>hn zw) (fun hn=>by cases hn)),bindE_ok (x:=(Ds,De)) h]at hK
   simp only[hX]at hK
   exact⟨_,gM,hK⟩
  ·rw[bindE_ok (x:=(Bs,Be)) zw]at hK
   simp only[hC]at hK
   rw[aE (fun hh=>hh.elim (fun hn=>hn zw) (fun hn=>by cases hn)),bindE_no (x:=(Ds,De)) h]at hK
   exact⟨_,gQ gR gM,hK⟩
  ·rw[bindE_ok (x:=(Bs,Be)) zw]at hK
   simp only[hC]at hK
   rw[aH (.inl h)]at hK
   exact⟨_,gM,hK⟩
  ·rw[bindE_no (x:=(Bs,Be)) h]at hK
   exact⟨_,gQ gR gM,hK⟩
 ·have hexf:s.exc=false:=by simpa using hex
  simp only[hexf,cL,if_false]at hK
  rw[bindE_ok (x:=(([]:List Rg),(0:Int))) rfl,bindE_ok (x:=(([]:List Rg),(0:Int))) rfl]at hK
  refine Jn.at ⟨3,[(2,.box [.sb s.permit,.v (.string s.frm),.v (.string s.to),.v (.string s.svc),.sb s.exc,.v (.string s.exF),.v (.string s.exT),.v (.string s.cls),.v (.string s.dur),.v (.int .i64 s.pri)])],[(5,.op 2 0),(8,encRs Fs),(10,encRs Gs),(11,encXs Vs)]⟩ ?_ ?_
  ·(repeat' ((conv=>whnf);first|refine zG ?_|apply zA|intro h|exact zT));all_goals conv=>whnf
   refine⟨(),trivial,?_⟩
   (exact leA)
  simp only at hK
  generalize makeP (btwB Fs Gs)=B at*
  generalize hC:combP anB B.1 Vs=C at*
  obtain⟨Bs,Be⟩:=B
  obtain⟨Cs,Ce⟩:=C
  simp only at b1 i1 hK hC
  (repeat' ((conv=>whnf);first|(with_reducible first|refine b1 ?_|refine i1 ?_)|refine zG ?_|apply zA|intro h|exact zT));all_goals conv=>whnf
  all_goals first
   |(rw[bindE_no (x:=(Bs,Be)) h]at hK
     exact⟨_,gQ gR gM,hK⟩)
   |(rw[bindE_ok (x:=(Bs,Be)) zw]at hK
     simp only[hC,or_true,if_true,ite_self]at hK
     exact⟨_,gM,hK⟩)
noncomputable def grpV(t:Tp)(i:Nt)(nm:ByteArray):List Rg×Int:=if compB t=true/\ntB i=true then grpP t i nm else([],1)
noncomputable def svcV(i:Nt)(nm:ByteArray):List Bx×Int:=if ntB i=true then svcP i nm else([],1)
noncomputable def stmV(t:Tp)(i:Nt)(n:Int):List Bx×Int:=
 if compB t=true/\ntB i=true then(if n<0\/(i.sts.length:Int)<=n then([],2)else match i.sts[n.toNat]? with
  |some s=>stmP t i s
  |none=>([],2))else([],1)
theorem crStatement(t:Tp)(ht:t.edges.length<1000000)(i:Nt)(hb:Bnd i)(n:Int){K:KT}(hK:K (.tup [encXs (stmV t i n).1,.v (.int .i64 (stmV t i n).2)]) []):AC 48 [encT t,encNt i,.v (.int .i64 n)] [] K:=by
 refine gP (ofrStmt rfl rfl ?_)
 unfold stmV at hK
 have bt:=hb.t
 by_cases hc:compB t=true
 ·by_cases hn:n<0\/(i.sts.length:Int)<=n
  ·rw[aH hn]at hK
   (repeat' ((conv=>whnf);first|(with_reducible first|refine ctComp t ht ?_|refine ckNt i hb ?_)|refine zG ?_|apply zA|intro h|exact zT));all_goals conv=>whnf
   all_goals first
    |(rw[aH ⟨hc,zw⟩]at hK
      exact⟨_,gQ gR gM,hK⟩)
    |(rw[aE (fun hh=>by rw[hh.2]at h;cases h)]at hK
      exact⟨_,gQ gR gM,hK⟩)
    |(exfalso;simp only[aA]at*;omega)
  ·rw[aE hn]at hK
   obtain⟨k,rfl⟩:=dW (show 0<=n by omega)
   have hkl:k<i.sts.length:=by omega
   obtain⟨s,hs⟩:=gex hkl
   simp only[fP,hs]at hK
   have hg:=fun {K} h=>@crStm t hc i hb s K h
   (repeat' ((conv=>whnf);first|(with_reducible first|refine ctComp t ht ?_|refine ckNt i hb ?_|refine hJ hkl ?_|refine gZ hs ?_|refine hg ?_)|refine zG ?_|apply zA|intro h|exact zT));all_goals conv=>whnf
   all_goals first
    |(rw[aH ⟨hc,zw⟩]at hK
      exact⟨_,gM,hK⟩)
    |(rw[aE (fun hh=>by rw[hh.2]at h;cases h)]at hK
      exact⟨_,gQ gR gM,hK⟩)
    |(exfalso;simp only[aA]at*;omega)
 ·have hcf:compB t=false:=by simpa using hc
  rw[aE (fun hh=>hc hh.1)]at hK
  (repeat' ((conv=>whnf);first|(with_reducible refine ctComp t ht ?_)|refine zG ?_|apply zA|intro h|exact zT));all_goals conv=>whnf
  exact⟨_,gQ gR gM,hK⟩
end Go.Proofs.YtbdikofefjljoaaGreatDoor
