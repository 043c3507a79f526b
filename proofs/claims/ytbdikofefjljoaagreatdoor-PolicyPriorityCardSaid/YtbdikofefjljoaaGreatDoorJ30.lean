/- The program's resolve: Check. -/
import Derived.Test.YtbdikofefjljoaaGreatDoorJ29
set_option linter.unusedVariables false
set_option linter.unusedSimpArgs false
set_option maxRecDepth 100000
set_option maxHeartbeats 4000000
namespace Go.Proofs.YtbdikofefjljoaaGreatDoor
open Go Go.Vm
noncomputable abbrev clSm(s:Sm):List AV:=[.sb s.permit,.v (.string s.frm),.v (.string s.to),.v (.string s.svc),.sb s.exc,.v (.string s.exF),.v (.string s.exT),.v (.string s.cls),.v (.string s.dur),.v (.int .i64 s.pri)]
theorem crNam1(d:Dv)(s:Sm){K:KT}(hK:K (.sb (sEq d.cls s.cls)) []):AC 268 [encD d,.fp (clSm s)] [] K:=by
 refine ofrNam1 rfl rfl ?_
 (repeat' ((conv=>whnf);first|refine zG ?_|apply zA|intro h|exact zT));all_goals conv=>whnf
 exact hK
theorem crNam2(d:Wn)(s:Sm){K:KT}(hK:K (.sb (sEq d.name s.dur)) []):AC 270 [encWn d,.fp (clSm s)] [] K:=by
 refine ofrNam2 rfl rfl ?_
 (repeat' ((conv=>whnf);first|refine zG ?_|apply zA|intro h|exact zT));all_goals conv=>whnf
 exact hK
theorem crAnD(l:List Dv)(s:Sm)(hl:l.length<1000000){K:KT}(hK:K (.sb (l.any fun d=>sEq d.cls s.cls)) []):
  AC 267 [.lst (l.map encD),.fn (.func 268) [] [.fp (clSm s)]] [] K:=by
 have hc:∀{K:KT},K (.v (.int .i64 (firstIx (fun d:Dv=>sEq d.cls s.cls) l))) []->AC 284 [.lst (l.map encD),.fn (.func 268) [] [.fp (clSm s)]] [] K:=fun h=>cixDev l _ _ (fun d=>sEq d.cls s.cls) (fun x K h=>crNam1 x s h) hl h
 refine ofrAnD rfl rfl ?_
 (repeat' ((conv=>whnf);first|(with_reducible refine hc ?_)|refine zG ?_|apply zA|intro h|exact zT));all_goals conv=>whnf
 rw[<-first_any]at hK
 exact hK
theorem crAnW(l:List Wn)(s:Sm)(hl:l.length<1000000){K:KT}(hK:K (.sb (l.any fun d=>sEq d.name s.dur)) []):
  AC 269 [.lst (l.map encWn),.fn (.func 270) [] [.fp (clSm s)]] [] K:=by
 have hc:∀{K:KT},K (.v (.int .i64 (firstIx (fun d:Wn=>sEq d.name s.dur) l))) []->AC 180 [.lst (l.map encWn),.fn (.func 270) [] [.fp (clSm s)]] [] K:=fun h=>cixW l _ _ (fun d=>sEq d.name s.dur) (fun x K h=>crNam2 x s h) hl h
 refine ofrAnW rfl rfl ?_
 (repeat' ((conv=>whnf);first|(with_reducible refine hc ?_)|refine zG ?_|apply zA|intro h|exact zT));all_goals conv=>whnf
 rw[<-first_any]at hK
 exact hK
theorem crNames(t:Tp)(ht:t.devs.length<1000000)(i:Nt)(hb:Bnd i)(s:Sm){K:KT}(hK:K (.v (.int .i64 (namE t i s))) []):AC 195 [encT t,encNt i,encSm s] [] K:=by
 have bw:=hb.w
 refine ofrNames rfl rfl ?_
 (repeat' ((conv=>whnf);first|(with_reducible first|refine crAnD t.devs s ht ?_|refine crAnW i.wins s zo ?_)|refine zG ?_|apply zA|intro h|exact zT));all_goals conv=>whnf
 all_goals
  have e:∀b:ByteArray,sEq b ⟨#[]⟩=(b.toList==(⟨#[]⟩:ByteArray).toList):=fun _=>rfl
  unfold namE at hK
  rw[e,e]at hK
  simp_all
 all_goals first
  |exact hK
theorem fstE_cons{α:Type}(f:α->Int)(x:α)(l:List α):fstE f (x::l)=if f x≠0 then f x else fstE f l:=rfl
noncomputable def chkV(t:Tp)(i:Nt):Int:=if compB t=true/\ntB i=true then chkP t i else 1
theorem chkP_eq(t:Tp)(i:Nt):chkP t i=
  if fstE (fun d:Df=>(grpP t i d.name).2) i.grps≠0 then fstE (fun d:Df=>(grpP t i d.name).2) i.grps else
  if fstE (fun d:Df=>(svcP i d.name).2) i.svcs≠0 then fstE (fun d:Df=>(svcP i d.name).2) i.svcs else
  if fstE (fun s:Sm=>if(stmP t i s).2≠0 then(stmP t i s).2 else namE t i s) i.sts≠0 then fstE (fun s:Sm=>if(stmP t i s).2≠0 then(stmP t i s).2 else namE t i s) i.sts else
  if fstE (fun p:Pb=>if edgeIx t.edges p.edge<0 then 5 else 0) i.pubs≠0 then fstE (fun p:Pb=>if edgeIx t.edges p.edge<0 then 5 else 0) i.pubs else
  fstE (fun h:Hn=>if edgeIx t.edges h.edge<0 then 5 else(grpP t i h.grp).2) i.hids:=rfl
theorem crCheck(t:Tp)(ht:t.edges.length<1000000)(hd:t.devs.length<1000000)(i:Nt)(hb:Bnd i){K:KT}(hK:K (.v (.int .i64 (chkV t i))) []):AC 110 [encT t,encNt i] [] K:=by
 have bg:=hb.g;have bs:=hb.s;have bt:=hb.t;have bp:=hb.p;have bh:=hb.h
 refine ofrCheck rfl rfl ?_
 unfold chkV at hK
 by_cases hc:compB t=true
 rotate_left
 ·have hcf:compB t=false:=by simpa using hc
  rw[aE (fun hh=>hc hh.1)]at hK
  (repeat' ((conv=>whnf);first|(with_reducible refine ctComp t ht ?_)|refine zG ?_|apply zA|intro h|exact zT));all_goals conv=>whnf
  exact hK
 by_cases hn:ntB i=true
 rotate_left
 ·have hnf:ntB i=false:=by simpa using hn
  rw[aE (fun hh=>hn hh.2)]at hK
  (repeat' ((conv=>whnf);first|(with_reducible first|refine ctComp t ht ?_|refine ckNt i hb ?_)|refine zG ?_|apply zA|intro h|exact zT));all_goals conv=>whnf
  exact hK
 rw[aH ⟨hc,hn⟩,chkP_eq]at hK
 have hg:=fun(nm:ByteArray) {K:KT} h=>@crGrp t hc i hb nm K h
 have hs:=fun(nm:ByteArray) {K:KT} h=>@crSvc i hb nm K h
 have hm:=fun(s:Sm) {K:KT} h=>@crStm t hc i hb s K h
 (repeat' ((conv=>whnf);first|(with_reducible first|refine ctComp t ht ?_|refine ckNt i hb ?_)|refine zG ?_|apply zA|intro h|exact zT));all_goals conv=>whnf
 refine gL Nat (fun n=>⟨2,[(0,boxT t),(1,boxNt i)],[(2,.op 0 0),(3,.op 1 0),(33,.lst (i.grps.map encDf)),(34,.v (.int .i64 (i.grps.map encDf).length)),(35,.v (.int .i64 n))]⟩) (fun n=>n<=i.grps.length/\fstE (fun d:Df=>(grpP t i d.name).2) i.grps=fstE (fun d:Df=>(grpP t i d.name).2) (i.grps.drop n)) (fun n=>i.grps.length-n) 0 ⟨aL _,by rw[cA]⟩ ?_ ?_
 ·(exact leA)
 intro n ⟨hn1,heq⟩
 rcases aD n i.grps.length with hnl|hnl
 ·obtain⟨x,hx⟩:=gex hnl
  have hdr:i.grps.drop n=x::i.grps.drop (n+1):=by
   rw[aB hnl]at hx
   rw[<-bE hx,<-aZ hnl]
  rw[hdr,fstE_cons]at heq
  have hgx:=fun {K} h=>@hg x.name K h
  generalize grpP t i x.name=G at*
  obtain⟨Gs,Ge⟩:=G
  simp only at heq hgx
  (repeat' ((conv=>whnf);first|(with_reducible first|refine hJ hnl ?_|refine gZ hx ?_|refine hgx ?_)|refine zG ?_|apply zA|intro h|exact zT));all_goals conv=>whnf
  all_goals first
   |(rw[aE (fun hh=>hh h)]at heq
     refine⟨n+1,⟨hnl,heq⟩,by omega,?_⟩
     rw[aO,aN]
     (exact leA)
     done)
   |(rw[aH h]at heq
     rw[heq,aH h]at hK
     exact hK)
 rw[bU hnl]at heq
 have e0:fstE (fun d:Df=>(grpP t i d.name).2) i.grps=0:=heq
 clear heq
 (repeat' ((conv=>whnf);first|refine zG ?_|apply zA|intro h|exact zT));all_goals conv=>whnf
 refine gL Nat (fun n=>⟨2,[(0,boxT t),(1,boxNt i)],[(2,.op 0 0),(3,.op 1 0),(52,.lst (i.svcs.map encDf)),(53,.v (.int .i64 (i.svcs.map encDf).length)),(54,.v (.int .i64 n))]⟩) (fun n=>n<=i.svcs.length/\fstE (fun d:Df=>(svcP i d.name).2) i.svcs=fstE (fun d:Df=>(svcP i d.name).2) (i.svcs.drop n)) (fun n=>i.svcs.length-n) 0 ⟨aL _,by rw[cA]⟩ ?_ ?_
 ·(exact leA)
 intro n ⟨hn1,heq⟩
 rcases aD n i.svcs.length with hnl|hnl
 ·obtain⟨x,hx⟩:=gex hnl
  have hdr:i.svcs.drop n=x::i.svcs.drop (n+1):=by
   rw[aB hnl]at hx
   rw[<-bE hx,<-aZ hnl]
  rw[hdr,fstE_cons]at heq
  have hsx:=fun {K} h=>@hs x.name K h
  generalize svcP i x.name=G at*
  obtain⟨Gs,Ge⟩:=G
  simp only at heq hsx
  (repeat' ((conv=>whnf);first|(with_reducible first|refine hJ hnl ?_|refine gZ hx ?_|refine hsx ?_)|refine zG ?_|apply zA|intro h|exact zT));all_goals conv=>whnf
  all_goals first
   |(rw[aE (fun hh=>hh h)]at heq
     refine⟨n+1,⟨hnl,heq⟩,by omega,?_⟩
     rw[aO,aN]
     (exact leA)
     done)
   |(rw[aH h]at heq
     rw[aE (fun hh=>hh e0)]at hK
     rw[heq,aH h]at hK
     exact hK)
 rw[bU hnl]at heq
 have e1:fstE (fun d:Df=>(svcP i d.name).2) i.svcs=0:=heq
 clear heq
 (repeat' ((conv=>whnf);first|refine zG ?_|apply zA|intro h|exact zT));all_goals conv=>whnf
 refine gL Nat (fun n=>⟨2,[(0,boxT t),(1,boxNt i)],[(2,.op 0 0),(3,.op 1 0),(70,.lst (i.sts.map encSm)),(71,.v (.int .i64 (i.sts.map encSm).length)),(72,.v (.int .i64 n))]⟩) (fun n=>n<=i.sts.length/\fstE (fun s:Sm=>if(stmP t i s).2≠0 then(stmP t i s).2 else namE t i s) i.sts=fstE (fun s:Sm=>if(stmP t i s).2≠0 then(stmP t i s).2 else namE t i s) (i.sts.drop n)) (fun n=>i.sts.length-n) 0 ⟨aL _,by rw[cA]⟩ ?_ ?_
 ·(exact leA)
 intro n ⟨hn1,heq⟩
 rcases aD n i.sts.length with hnl|hnl
 ·obtain⟨x,hx⟩:=gex hnl
  have hdr:i.sts.drop n=x::i.sts.drop (n+1):=by
   rw[aB hnl]at hx
   rw[<-bE hx,<-aZ hnl]
  rw[hdr,fstE_cons]at heq
  have hmx:=fun {K} h=>@hm x K h
  generalize stmP t i x=G at*
  obtain⟨Gs,Ge⟩:=G
  simp only at heq hmx
  (repeat' ((conv=>whnf);first|(with_reducible first|refine hJ hnl ?_|refine gZ hx ?_|refine hmx ?_|refine crNames t hd i hb x ?_)|refine zG ?_|apply zA|intro h|exact zT));all_goals conv=>whnf
  all_goals first
   |(rename_i hz
     rw[aE (show ¬(Ge≠0)from fun hh=>hh hz),aE (fun hh=>hh h)]at heq
     refine⟨n+1,⟨hnl,heq⟩,by omega,?_⟩
     rw[aO,aN]
     (exact leA)
     done)
   |(rw[aH h,aH h]at heq
     rw[aE (fun hh=>hh e0),aE (fun hh=>hh e1)]at hK
     rw[heq,aH h]at hK
     exact hK)
   |(rename_i hz
     rw[aE (show ¬(Ge≠0)from fun hh=>hh hz),aH h]at heq
     rw[aE (fun hh=>hh e0),aE (fun hh=>hh e1)]at hK
     rw[heq,aH h]at hK
     exact hK)
 rw[bU hnl]at heq
 have e2:fstE (fun s:Sm=>if(stmP t i s).2≠0 then(stmP t i s).2 else namE t i s) i.sts=0:=heq
 clear heq
 (repeat' ((conv=>whnf);first|refine zG ?_|apply zA|intro h|exact zT));all_goals conv=>whnf
 refine gL Nat (fun n=>⟨2,[(0,boxT t),(1,boxNt i)],[(2,.op 0 0),(3,.op 1 0),(95,.lst (i.pubs.map encPb)),(96,.v (.int .i64 (i.pubs.map encPb).length)),(97,.v (.int .i64 n))]⟩) (fun n=>n<=i.pubs.length/\fstE (fun p:Pb=>if edgeIx t.edges p.edge<0 then 5 else 0) i.pubs=fstE (fun p:Pb=>if edgeIx t.edges p.edge<0 then 5 else 0) (i.pubs.drop n)) (fun n=>i.pubs.length-n) 0 ⟨aL _,by rw[cA]⟩ ?_ ?_
 ·(exact leA)
 intro n ⟨hn1,heq⟩
 rcases aD n i.pubs.length with hnl|hnl
 ·obtain⟨x,hx⟩:=gex hnl
  have hdr:i.pubs.drop n=x::i.pubs.drop (n+1):=by
   rw[aB hnl]at hx
   rw[<-bE hx,<-aZ hnl]
  rw[hdr,fstE_cons]at heq
  (repeat' ((conv=>whnf);first|(with_reducible first|refine hJ hnl ?_|refine gZ hx ?_|refine ctEdge t _ ht ?_)|refine zG ?_|apply zA|intro h|exact zT));all_goals conv=>whnf
  all_goals first
   |(rw[aE h,aE zd]at heq
     refine⟨n+1,⟨hnl,heq⟩,by omega,?_⟩
     rw[aO,aN]
     (exact leA)
     done)
   |(rw[aH h,aH zd]at heq
     rw[aE (fun hh=>hh e0),aE (fun hh=>hh e1),aE (fun hh=>hh e2)]at hK
     rw[heq,aH zd]at hK
     exact hK)
 rw[bU hnl]at heq
 have e3:fstE (fun p:Pb=>if edgeIx t.edges p.edge<0 then 5 else 0) i.pubs=0:=heq
 clear heq
 (repeat' ((conv=>whnf);first|refine zG ?_|apply zA|intro h|exact zT));all_goals conv=>whnf
 refine gL Nat (fun n=>⟨2,[(0,boxT t),(1,boxNt i)],[(2,.op 0 0),(3,.op 1 0),(108,.lst (i.hids.map encHn)),(109,.v (.int .i64 (i.hids.map encHn).length)),(110,.v (.int .i64 n))]⟩) (fun n=>n<=i.hids.length/\fstE (fun h:Hn=>if edgeIx t.edges h.edge<0 then 5 else(grpP t i h.grp).2) i.hids=fstE (fun h:Hn=>if edgeIx t.edges h.edge<0 then 5 else(grpP t i h.grp).2) (i.hids.drop n)) (fun n=>i.hids.length-n) 0 ⟨aL _,by rw[cA]⟩ ?_ ?_
 ·(exact leA)
 intro n ⟨hn1,heq⟩
 rcases aD n i.hids.length with hnl|hnl
 ·obtain⟨x,hx⟩:=gex hnl
  have hdr:i.hids.drop n=x::i.hids.drop (n+1):=by
   rw[aB hnl]at hx
   rw[<-bE hx,<-aZ hnl]
  rw[hdr,fstE_cons]at heq
  have hgx:=fun {K} h=>@hg x.grp K h
  generalize grpP t i x.grp=G at*
  obtain⟨Gs,Ge⟩:=G
  simp only at heq hgx
  (repeat' ((conv=>whnf);first|(with_reducible first|refine hJ hnl ?_|refine gZ hx ?_|refine ctEdge t _ ht ?_|refine hgx ?_)|refine zG ?_|apply zA|intro h|exact zT));all_goals conv=>whnf
  all_goals first
   |(rename_i hz
     rw[aE hz,aE (fun hh=>hh h)]at heq
     refine⟨n+1,⟨hnl,heq⟩,by omega,?_⟩
     rw[aO,aN]
     (exact leA)
     done)
   |(rw[aH h,aH zd]at heq
     rw[aE (fun hh=>hh e0),aE (fun hh=>hh e1),aE (fun hh=>hh e2),aE (fun hh=>hh e3)]at hK
     rw[heq]at hK
     exact hK)
   |(rename_i hz
     rw[aE hz,aH h]at heq
     rw[aE (fun hh=>hh e0),aE (fun hh=>hh e1),aE (fun hh=>hh e2),aE (fun hh=>hh e3)]at hK
     rw[heq]at hK
     exact hK)
 rw[bU hnl]at heq
 have e4:fstE (fun h:Hn=>if edgeIx t.edges h.edge<0 then 5 else(grpP t i h.grp).2) i.hids=0:=heq
 clear heq
 rw[aE (fun hh=>hh e0),aE (fun hh=>hh e1),aE (fun hh=>hh e2),aE (fun hh=>hh e3),e4]at hK
 (repeat' ((conv=>whnf);first|refine zG ?_|apply zA|intro h|exact zT));all_goals conv=>whnf
 exact hK
theorem cwSub0{K:KT}(hK:K (encP pf0) []):AC 105 [.v (.int .i64 0)] [] K:=cnSub 0 zd hK
theorem cwSub4{K:KT}(hK:K (encP pf4) []):AC 105 [.v (.int .i64 4)] [] K:=cnSub 4 zd hK
theorem eyCont(l:List Bx)(g:Hd)(ho:g.Ok)(hl:l.length<1000000000){K:KT}(hK:K (.sb (l.any fun b=>conB b g)) []):AC 22 [encXs l,encHd g] [] K:=by
 refine gO (ofnCont rfl rfl ?_)
 (repeat' ((conv=>whnf);first|refine zG ?_|apply zA|intro h|exact zT));all_goals conv=>whnf
 refine gL Nat (fun i=>⟨1,[(0,.box [.v (.int .u32 g.src),.v (.int .u32 g.dst),.v (.int .u8 g.pro),.v (.int .u16 g.sp),.v (.int .u16 g.dp)])],[(0,encXs l),(3,.op 0 0),(5,.v (.int .i64 i))]⟩) (fun i=>i<=l.length/\∀(j:Nat) x,j<i->l[j]? =some x->conB x g=false) (fun i=>l.length-i) 0 ⟨aL _,fun j x h=>absurd h (aY _)⟩ ?_ ?_
 ·(exact leA)
 intro i ⟨hi,hinv⟩
 rcases aD i l.length with hil|hil
 ·obtain⟨x,hx⟩:=gex hil
  (repeat' ((conv=>whnf);first|(with_reducible first|refine hJ hil ?_|refine gZ hx ?_|refine cvCon x g ho ?_)|refine zG ?_|apply zA|intro h|exact zT));all_goals conv=>whnf
  all_goals first
   |exact fin_t hK (cI.2 ⟨x,aG hx,h⟩)
   |(refine⟨i+1,⟨hil,iC hx (by simpa using h) hinv⟩,by omega,?_⟩
     rw[aO,aN]
     (exact leA)
     done)
 ·(repeat' ((conv=>whnf);first|refine zG ?_|apply zA|intro h|exact zT));all_goals conv=>whnf
  refine fin_f hK ?_
  rw[bV,ne_eq,cI]
  rintro⟨x,hx,hc⟩
  obtain⟨j,hj⟩:=bI.1 hx
  have:=iB hil hinv j x hj
  rw[hc]at this;cases this
theorem con_mem{X:List Bx}(hs:setB X=true){g:Hd}(ho:g.Ok):(X.any fun b=>conB b g)=memK (hdQ g) 5 X:=by
 rw[bD,cI,memK_iff]
 refine exists_congr fun b=>and_congr_right fun hb=>?_
 have hok:=okL_ok (okL_set hs) hb
 rw[conB_iff,inK_iff]
 constructor
 ·rintro⟨h0,h1,h2,h3,h4,_⟩ f hf
  obtain rfl|rfl|rfl|rfl|rfl:f=0\/f=1\/f=2\/f=3\/f=4:=by omega
  ·exact h0
  ·exact h1
  ·exact h2
  ·exact h3
  ·exact h4
 ·intro h
  exact⟨h 0 zo,h 1 zo,h 2 zo,h 3 zo,h 4 zo,hok⟩
theorem ACall_fin{P:Program}{f:FuncId}{args:List AV}{hs:List Vm.Obj}{K:KT}(h:ACall P f args hs fun v hs'=>finQ hs.length (enumH 0 hs') v K):ACall P f args hs K:=by
 obtain⟨h1,h2⟩:=h.elim
 refine ACall.intro h1 fun ι E w vals r hv=>(h2 ι E w vals r hv).mono ?_
 rintro e w' ⟨v,rr,hs',ι',E',he,hq,hr,hrel,hx⟩
 obtain⟨y,hs2,ι2,E2,k1,k2,k3,k4⟩:=finQ_sound hr (ι0:=ι) (fun id hid=>r.fresh id hid) hx.ex hrel hq
 exact⟨v,y,hs2,ι2,E2,he,k1,k2,k3,k4⟩
theorem apart_of{c:List Rg}(h:Canon c):ApartR c:=h.2.imp fun hab=>.inl zo
theorem apart_one{L:List Rg}(h:ApartR L){r s:Rg}(hr:r∈L)(hs:s∈L){u:Int}(h1:inR r u=true)(h2:inR s u=true):r=s:=by
 rcases apart_mem h r hr s hs with e|e|e
 ·exact e
 ·rw[inR_iff]at h1 h2;omega
 ·rw[inR_iff]at h1 h2;omega
theorem apart_pat{L:List Rg}(h:ApartR L){r:Rg}(hr:r∈L){u v:Int}(hu:inR r u=true)(hv:inR r v=true):∀s,s∈L->inR s u=inR s v:=fun s hs=>by
 rw[bD]
 constructor
 ·intro h1;rw[<-apart_one h hr hs hu h1];exact hv
 ·intro h1;rw[<-apart_one h hr hs hv h1];exact hu
theorem grid_len{X:List Bx}(L:List Rg)(G:Rg->List Rg)(M:Nat)(hL:ApartR L)(hle:∀r,r∈L->r.lo<=r.hi)(hG:∀r,r∈L->ApartR (G r))(hGle:∀r,r∈L->∀s,s∈G r->s.lo<=s.hi)
  (h1:∀q,InP q->memK q 5 X=true->∃r,r∈L/\inR r (q 0)=true/\∃s,s∈G r/\inR s (q 1)=true)
  (h2:∀q q',InP q->InP q'->∀r,r∈L->inR r (q 0)=true->inR r (q' 0)=true->(∀s,s∈G r->inR s (q 1)=inR s (q' 1))->q 2=q' 2->q 3=q' 3->q 4=q' 4->memK q 5 X=memK q' 5 X)
  (h3:∀u v,0<=u->u<=4294967295->0<=v->v<=4294967295->(cano orB 3 (atF 1 v (atF 0 u X)) []).length<=M):
  (cano orB 5 X []).length<=(L.map fun r=>(G r).length*M).sum:=by
 refine cano_len_ranges orB 4 X [] L hL hle (fun r=>(G r).length*M) (fun v v0 v1 hv=>rest_nil (k:=4) zo rfl fun p hp=>?_) (fun r hr u v hu hv u0 u1 v0 v1=>rest_ext (k:=4) zo (fun p hp=>?_) fun p hp=>rfl) fun r hr u hu u0 u1=>?_
 ·rw[memK_nil,orB,eK]
  cases hm:memK (setF p (4-4) v) (4+1) X with
  |false=>rfl
  |true=>
   obtain⟨r,hr,h,_⟩:=h1 _ (inP_set hp v0 v1) hm
   rw[show(setF p (4-4) v) 0=v from rfl,hv r hr]at h;cases h
 ·exact h2 _ _ (inP_set hp u0 u1) (inP_set hp v0 v1) r hr hu hv (fun s _=>rfl) rfl rfl rfl
 ·have e:∀p w,memK (setF p 1 w) 4 (atF 0 u X)=memK (setF (setF p 1 w) 0 u) 5 X:=fun p w=>memK_at (k:=4) zo u X
  have hin:∀p w,InP p->0<=w->w<=4294967295->InP (setF (setF p 1 w) 0 u):=fun p w hp w0 w1=>inP_set (inP_set hp (f:=1) w0 w1) (f:=0) u0 u1
  have:=cano_len_ranges orB 3 (atF 0 u X) [] (G r) (hG r hr) (hGle r hr) (fun _=>M) (fun v v0 v1 hv=>rest_nil (k:=3) zo rfl fun p hp=>?_) (fun s hs a b ha hb a0 a1 b0 b1=>rest_ext (k:=3) zo (fun p hp=>?_) fun p hp=>rfl) fun s hs v hv v0 v1=>h3 u v u0 u1 v0 v1
  ·rw[sum_nat_const]at this;exact this
  ·show orB (memK (setF p 1 v) 4 (atF 0 u X)) (memK (setF p 1 v) 4 [])=false
   rw[memK_nil,orB,eK,e]
   cases hm:memK (setF (setF p 1 v) 0 u) 5 X with
   |false=>rfl
   |true=>
    obtain⟨r',hr',h,s,hs,h'⟩:=h1 _ (hin p v hp v0 v1) hm
    have e0:=apart_one hL hr' hr h hu
    subst e0
    rw[show(setF (setF p 1 v) 0 u) 1=v from rfl,hv s hs]at h';cases h'
  ·show memK (setF p 1 a) 4 (atF 0 u X)=memK (setF p 1 b) 4 (atF 0 u X)
   rw[e,e]
   exact h2 _ _ (hin p a hp a0 a1) (hin p b hp b0 b1) r hr hu hu (fun z hz=>apart_pat (hG r hr) hs ha hb z hz) rfl rfl rfl
theorem fullB_ok:fullB.ok:=by decide
theorem const_three{Y:List Bx}(h:∀p p',InP p->InP p'->memK p 3 Y=memK p' 3 Y):(cano orB 3 Y []).length<=1:=by
 have hz:=inP_zero
 have hf:∀p,InP p->memK p 3 [fullB]=true:=fun p hp=>by
  have h2:=hp 2;have h3:=hp 3;have h4:=hp 4
  have e2:fullB.r2.lo=0/\fullB.r2.hi=255:=by decide
  have e3:fullB.r3.lo=0/\fullB.r3.hi=65535:=by decide
  have e4:fullB.r4.lo=0/\fullB.r4.hi=65535:=by decide
  have t2:topF 2=255:=rfl
  have t3:topF 3=65535:=rfl
  have t4:topF 4=65535:=rfl
  simp only[memK,fY,List.any_nil,eK,inK,Bx.get,dZ,Nat.reduceSub,fL,aF,aI]
  omega
 cases hm:memK (fun _=>0) 3 Y with
 |true=>
  rw[cano_ext2 orB orB 3 Y [] [fullB] [] zo fun p hp=>by rw[h p _ hp hz,hm,hf p hp]]
  exact boundO 3 [fullB] zo (cn_one 3 zo fullB_ok)
 |false=>
  rw[cano_ext2 orB orB 3 Y [] [] [] zo fun p hp=>by rw[h p _ hp hz,hm,memK_nil],cano_nils orB rfl 3]
  exact aL _
def inZ(Z:List (Rg×Rg))(q:Nat->Int):Bool:=Z.any fun z=>inR z.1 (q 0)&&inR z.2 (q 1)
theorem pairs_len{f g:List Rg}(hf:Canon f)(hg:Canon g){Z:List (Rg×Rg)}(hZ:∀z,z∈Z->z.1∈f/\z.2∈g){X:List Bx}(hX:∀q,InP q->memK q 5 X=inZ Z q):(cano orB 5 X []).length<=f.length*g.length:=by
 have:=grid_len (X:=X) f (fun _=>g) 1 (apart_of hf) hf.1 (fun _ _=>apart_of hg) (fun _ _=>hg.1) (fun q hq h=>by
  rw[hX q hq,inZ,cI]at h
  obtain⟨z,hz,hzq⟩:=h
  rw[aF]at hzq
  exact⟨z.1,(hZ z hz).1,hzq.1,z.2,(hZ z hz).2,hzq.2⟩) (fun q q' hq hq' r hr h h' hs _ _ _=>by
  rw[hX q hq,hX q' hq',inZ,inZ,bD,cI,cI]
  refine exists_congr fun z=>and_congr_right fun hz=>?_
  rw[apart_pat (apart_of hf) hr h h' z.1 (hZ z hz).1,hs z.2 (hZ z hz).2]) fun u v u0 u1 v0 v1=>const_three fun p p' hp hp'=>by
   rw[at_two,at_two,hX _ (inP_set (inP_set hp (f:=1) v0 v1) (f:=0) u0 u1),hX _ (inP_set (inP_set hp' (f:=1) v0 v1) (f:=0) u0 u1)]
   rfl
 rw[sum_nat_const,fE]at this
 exact this
theorem btwX_ok{r s:Rg}(hr:r.lo<=r.hi)(hs:s.lo<=s.hi):(btwX r s).ok:=by
 have:=r.h1;have:=s.h1
 have e:fullB.r2.okF 2/\fullB.r3.okF 3/\fullB.r4.okF 4:=by unfold Rg.okF;decide
 exact⟨⟨hr,r.h1⟩,⟨hs,s.h1⟩,e.1,e.2.1,e.2.2⟩
theorem makeGo_grid{f g:List Rg}(hf:Canon f)(hg:Canon g)(hl:f.length*g.length<=4096):∀(W Z:List (Rg×Rg)) (s:List Bx),(∀z,z∈Z->z.1∈f/\z.2∈g)->(∀z,z∈W->z.1∈f/\z.2∈g)->(∀q,InP q->memK q 5 s=inZ Z q)->
  (makeGo s (W.map fun z=>btwX z.1 z.2)).2=0
 |[],Z,s,_,_,_=>rfl
 |w::W,Z,s,hZ,hW,hs=>by
  have hw:=hW w zx
  have ho:(btwX w.1 w.2).ok:=btwX_ok (hf.1 _ hw.1) (hg.1 _ hw.2)
  have hm:∀q,InP q->memK q 5 (addO s (btwX w.1 w.2))=inZ (Z++[w]) q:=fun q hq=>by
   rw[addO,cano_mem orB hq 5 _ _ (aJ _),hs q hq,orB,inZ,inZ,List.any_append]
   simp only[memK,fY,List.any_nil,eK,inK_btw hq]
  have hZ2:∀z,z∈Z++[w]->z.1∈f/\z.2∈g:=fun z hz=>by
   rcases aU.1 hz with hz|hz
   ·exact hZ z hz
   ·rw[aR.1 hz];exact hw
  have hlen:(addO s (btwX w.1 w.2)).length<=4096:=by
   have h1:=pairs_len hf hg hZ2 hm
   rw[cano_ext2 orB orB 5 _ [] s [btwX w.1 w.2] (aJ _) fun q hq=>by
    rw[addO,cano_mem orB hq 5 _ _ (aJ _),memK_nil];simp[orB]]at h1
   exact bO h1 hl
  rw[aW,makeGo,aH ho,aE zo]
  exact makeGo_grid hf hg hl W (Z++[w]) _ hZ2 (fun z hz=>hW z (aX _ hz)) hm
theorem btw_make{f g:List Rg}(hf:Canon f)(hg:Canon g)(hl:f.length*g.length<=4096):(makeP (btwB f g)).2=0/\∀q,InP q->memK q 5 (makeP (btwB f g)).1=(has f (q 0)&&has g (q 1)):=by
 have e:btwB f g=(f.flatMap fun r=>g.map fun s=>(r,s)).map fun z=>btwX z.1 z.2:=by
  unfold btwB
  rw[List.map_flatMap]
  simp only[gK]
  rfl
 have h0:(makeP (btwB f g)).2=0:=by
  rw[e,makeP]
  exact makeGo_grid hf hg hl _ [] [] (fun z h=>by simp at h) (fun z hz=>by
   obtain⟨r,hr,hz⟩:=dH.1 hz
   obtain⟨s,hs,rfl⟩:=bK.1 hz
   exact⟨hr,hs⟩) fun q hq=>by rw[memK_nil];rfl
 refine⟨h0,fun q hq=>?_⟩
 rw[makeP,makeGo_eq hq _ _ h0,memK_nil,fM]
 exact vld_btw hq
/-! ### Unions of ranges out of a list -/
def UnB(B:List Rg)(c:Int->Bool):Prop:=∃P:Rg->Prop,∀u,c u=true↔∃r,r∈B/\P r/\inR r u=true
theorem canon_start{c:List Rg}(hc:Canon c){r:Rg}(hr:r∈c):has c r.lo=true/\has c (r.lo-1)=false:=by
 have hle:=hc.1 r hr
 refine⟨has_iff.2 ⟨r,hr,cD _,hle⟩,?_⟩
 rw[bV,ne_eq,has_iff]
 rintro⟨q,hq,q1,q2⟩
 obtain⟨i,hi,rfl⟩:=eZ.1 hr
 obtain⟨j,hj,rfl⟩:=eZ.1 hq
 have hp:=cC.1 hc.2
 rcases Nat.lt_trichotomy i j with hij|hij|hij
 ·have:=hp i j hi hj hij;omega
 ·subst hij;omega
 ·have:=hp j i hj hi hij;omega
theorem los_nodup{c:List Rg}(hc:Canon c):(c.map fun r=>r.lo).Nodup:=by
 unfold List.Nodup
 rw[List.pairwise_map]
 refine List.Pairwise.imp_of_mem ?_ hc.2
 intro a b ha _ hab e
 have:=hc.1 a ha;omega
theorem un_and{B c:List Rg}{F O:Int->Bool}(hc:Canon c)(hF:UnB B F)(hO:UnB B O)(h:∀u,has c u=(F u&&O u)):c.length<=B.length:=by
 obtain⟨P,hP⟩:=hF
 obtain⟨Q,hQ⟩:=hO
 have:=nodup_sub (los_nodup hc) (m:=B.map fun r=>r.lo) fun x hx=>by
  obtain⟨r,hr,rfl⟩:=bK.1 hx
  obtain⟨s1,s2⟩:=canon_start hc hr
  rw[h,aF]at s1
  rw[h,fH]at s2
  rcases s2 with s2|s2
  ·obtain⟨b,hb,hp,hi⟩:=(hP _).1 s1.1
   refine bK.2 ⟨b,hb,?_⟩
   have hn:¬inR b (r.lo-1)=true:=fun hh=>by
    rw[(hP _).2 ⟨b,hb,hp,hh⟩]at s2;cases s2
   rw[inR_iff]at hi hn
   omega
  ·obtain⟨b,hb,hp,hi⟩:=(hQ _).1 s1.2
   refine bK.2 ⟨b,hb,?_⟩
   have hn:¬inR b (r.lo-1)=true:=fun hh=>by
    rw[(hQ _).2 ⟨b,hb,hp,hh⟩]at s2;cases s2
   rw[inR_iff]at hi hn
   omega
 simpa using this
open Classical in
theorem un_diff{B c:List Rg}{F O:Int->Bool}(hc:Canon c)(hF:UnB B F)(hO:UnB B O)(h:∀u,has c u=(F u&& !O u)):c.length<=B.length:=by
 obtain⟨P,hP⟩:=hF
 obtain⟨Q,hQ⟩:=hO
 have:=nodup_sub (los_nodup hc) (m:=B.map fun r=>if Q r then r.hi+1 else r.lo) fun x hx=>by
  obtain⟨r,hr,rfl⟩:=bK.1 hx
  obtain⟨s1,s2⟩:=canon_start hc hr
  rw[h,aF,dI]at s1
  cases ho:O (r.lo-1)with
  |true=>
   obtain⟨b,hb,hq,hi⟩:=(hQ _).1 ho
   refine bK.2 ⟨b,hb,?_⟩
   have hn:¬inR b r.lo=true:=fun hh=>by
    rw[(hQ _).2 ⟨b,hb,hq,hh⟩]at s1;exact absurd s1.2 zd
   rw[aH hq]
   rw[inR_iff]at hi hn
   omega
  |false=>
   obtain⟨b,hb,hp,hi⟩:=(hP _).1 s1.1
   refine bK.2 ⟨b,hb,?_⟩
   have hq:¬Q b:=fun hq=>by
    rw[(hQ _).2 ⟨b,hb,hq,hi⟩]at s1;exact absurd s1.2 zd
   have hn:¬inR b (r.lo-1)=true:=fun hh=>by
    rw[h,(hP _).2 ⟨b,hb,hp,hh⟩,ho]at s2;cases s2
   rw[aE hq]
   rw[inR_iff]at hi hn
   omega
 simpa using this
end Go.Proofs.YtbdikofefjljoaaGreatDoor
