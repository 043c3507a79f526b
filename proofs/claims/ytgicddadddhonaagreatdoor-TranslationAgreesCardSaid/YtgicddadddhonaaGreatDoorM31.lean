/- Lemmas. -/
import Derived.Test.YtgicddadddhonaaGreatDoorM30
set_option linter.unusedVariables false
set_option linter.unusedSimpArgs false
set_option maxRecDepth 100000
set_option maxHeartbeats 4000000
noncomputable section
namespace Go.Proofs.YtgicddadddhonaaGreatDoor
open Go Go.Vm
abbrev Yh(s:Sm):List AV:=[.sb s.permit,.v (.string s.frm),.v (.string s.to),.v (.string s.svc),.sb s.exc,.v (.string s.exF),.v (.string s.exT),.v (.string s.cls),.v (.string s.dur),.v (.int .i64 s.pri)]
theorem aLF(d:Dv)(s:Sm){K:KT}(hK:K (.sb (sEq d.cls s.cls)) []):AC 196 [pY d,.fp (Yh s)] [] K:=by
 refine aIE rfl rfl ?_;(repeat' ((conv=>whnf);first|refine zG ?_|apply zA|intro h|exact zT));all_goals conv=>whnf
 exact hK
theorem aLG(d:Wn)(s:Sm){K:KT}(hK:K (.sb (sEq d.name s.dur)) []):AC 198 [jZ d,.fp (Yh s)] [] K:=by
 refine aIF rfl rfl ?_;(repeat' ((conv=>whnf);first|refine zG ?_|apply zA|intro h|exact zT));all_goals conv=>whnf
 exact hK
theorem aSc(l:List Dv)(s:Sm)(hl:l.length<1000000){K:KT}(hK:K (.sb (l.any fun d=>sEq d.cls s.cls)) []):
  AC 195 [.lst (l.map pY),.fn (.func 196) [] [.fp (Yh s)]] [] K:=by
 have hc:∀{K:KT},K (.v (.int .i64 (jM (fun d:Dv=>sEq d.cls s.cls) l))) []->AC 265 [.lst (l.map pY),.fn (.func 196) [] [.fp (Yh s)]] [] K:=fun h=>aAJ l _ _ (fun d=>sEq d.cls s.cls) (fun x K h=>aLF x s h) hl h;refine aQf rfl rfl ?_;(repeat' ((conv=>whnf);first|(with_reducible refine hc ?_)|refine zG ?_|apply zA|intro h|exact zT));all_goals conv=>whnf
 rw[<-first_any]at hK;exact hK
theorem aSd(l:List Wn)(s:Sm)(hl:l.length<1000000){K:KT}(hK:K (.sb (l.any fun d=>sEq d.name s.dur)) []):
  AC 197 [.lst (l.map jZ),.fn (.func 198) [] [.fp (Yh s)]] [] K:=by
 have hc:∀{K:KT},K (.v (.int .i64 (jM (fun d:Wn=>sEq d.name s.dur) l))) []->AC 252 [.lst (l.map jZ),.fn (.func 198) [] [.fp (Yh s)]] [] K:=fun h=>aRM l _ _ (fun d=>sEq d.name s.dur) (fun x K h=>aLG x s h) hl h;refine aQg rfl rfl ?_;(repeat' ((conv=>whnf);first|(with_reducible refine hc ?_)|refine zG ?_|apply zA|intro h|exact zT));all_goals conv=>whnf
 rw[<-first_any]at hK;exact hK
theorem aFs(t:Tp)(ht:t.devs.length<1000000)(i:Nt)(hb:Bnd i)(s:Sm){K:KT}(hK:K (.v (.int .i64 (zF t i s))) []):AC 114 [jT t,jC i,kC s] [] K:=by
 have bw:=hb.w;refine aDM rfl rfl ?_;(repeat' ((conv=>whnf);first|(with_reducible first|refine aSc t.devs s ht ?_|refine aSd i.wins s zo ?_)|refine zG ?_|apply zA|intro h|exact zT));all_goals conv=>whnf
 all_goals
  have e:∀b:ByteArray,sEq b ⟨#[]⟩=(b.toList==(⟨#[]⟩:ByteArray).toList):=fun _=>rfl;unfold zF at hK;rw[e,e]at hK;simp_all
 all_goals first
  |exact hK
theorem nK{α:Type}(f:α->Int)(x:α)(l:List α):lP f (x::l)=if f x≠0 then f x else lP f l:=rfl
def tJ(t:Tp)(i:Nt):Int:=if mE t=true/\ntB i=true then aAG t i else 1
theorem Vt(t:Tp)(i:Nt):aAG t i=
  if lP (fun d:Df=>(kJ t i d.name).2) i.grps≠0 then lP (fun d:Df=>(kJ t i d.name).2) i.grps else
  if lP (fun d:Df=>(rF i d.name).2) i.svcs≠0 then lP (fun d:Df=>(rF i d.name).2) i.svcs else
  if lP (fun s:Sm=>if(qJ t i s).2≠0 then(qJ t i s).2 else zF t i s) i.sts≠0 then lP (fun s:Sm=>if(qJ t i s).2≠0 then(qJ t i s).2 else zF t i s) i.sts else
  if lP (fun p:Pb=>if jX t.edges p.edge<0 then 5 else 0) i.pubs≠0 then lP (fun p:Pb=>if jX t.edges p.edge<0 then 5 else 0) i.pubs else
  lP (fun h:Hn=>if jX t.edges h.edge<0 then 5 else(kJ t i h.grp).2) i.hids:=rfl
theorem aFq(t:Tp)(ht:t.edges.length<1000000)(hd:t.devs.length<1000000)(i:Nt)(hb:Bnd i){K:KT}(hK:K (.v (.int .i64 (tJ t i))) []):AC 58 [jT t,jC i] [] K:=by
 have bg:=hb.g;have bs:=hb.s;have bt:=hb.t;have bp:=hb.p;have bh:=hb.h;refine aDI rfl rfl ?_;unfold tJ at hK;by_cases hc:mE t=true
 rotate_left
 ·have hcf:mE t=false:=by simpa using hc
  rw[aF (fun hh=>hc hh.1)]at hK;(repeat' ((conv=>whnf);first|(with_reducible refine Is t ht ?_)|refine zG ?_|apply zA|intro h|exact zT));all_goals conv=>whnf
  exact hK
 by_cases hn:ntB i=true
 rotate_left
 ·have hnf:ntB i=false:=by simpa using hn
  rw[aF (fun hh=>hn hh.2)]at hK;(repeat' ((conv=>whnf);first|(with_reducible first|refine Is t ht ?_|refine aLu i hb ?_)|refine zG ?_|apply zA|intro h|exact zT));all_goals conv=>whnf
  exact hK
 rw[aH ⟨hc,hn⟩,Vt]at hK;have hg:=fun(nm:ByteArray) {K:KT} h=>@aAY t hc i hb nm K h;have hs:=fun(nm:ByteArray) {K:KT} h=>@aKt i hb nm K h;have hm:=fun(s:Sm) {K:KT} h=>@aSf t hc i hb s K h;(repeat' ((conv=>whnf);first|(with_reducible first|refine Is t ht ?_|refine aLu i hb ?_)|refine zG ?_|apply zA|intro h|exact zT));all_goals conv=>whnf
 refine gV Nat (fun n=>⟨2,[(0,kM t),(1,lM i)],[(2,.op 0 0),(3,.op 1 0),(33,.lst (i.grps.map iQ)),(34,.v (.int .i64 (i.grps.map iQ).length)),(35,.v (.int .i64 n))]⟩) (fun n=>n<=i.grps.length/\lP (fun d:Df=>(kJ t i d.name).2) i.grps=lP (fun d:Df=>(kJ t i d.name).2) (i.grps.drop n)) (fun n=>i.grps.length-n) 0 ⟨aK _,by rw[bP]⟩ ?_ ?_
 ·exact leA
 intro n ⟨hn1,heq⟩;rcases aD n i.grps.length with hnl|hnl
 ·obtain⟨x,hx⟩:=gex hnl;have hdr:i.grps.drop n=x::i.grps.drop (n+1):=by
   rw[aE hnl]at hx;rw[<-bB hx,<-bA hnl]
  rw[hdr,nK]at heq;have hgx:=fun {K} h=>@hg x.name K h;generalize kJ t i x.name=G at*;obtain⟨Gs,Ge⟩:=G;simp only at heq hgx;(repeat' ((conv=>whnf);first|(with_reducible first|refine iI hnl ?_|refine iH hx ?_|refine hgx ?_)|refine zG ?_|apply zA|intro h|exact zT));all_goals conv=>whnf
  all_goals first
   |(rw[aF (fun hh=>hh h)]at heq
     refine⟨n+1,⟨hnl,heq⟩,by omega,?_⟩;rw[aN,aM];exact leA)
   |(rw[aH h]at heq
     rw[heq,aH h]at hK;exact hK)
 rw[bO hnl]at heq;have e0:lP (fun d:Df=>(kJ t i d.name).2) i.grps=0:=heq;clear heq;(repeat' ((conv=>whnf);first|refine zG ?_|apply zA|intro h|exact zT));all_goals conv=>whnf
 refine gV Nat (fun n=>⟨2,[(0,kM t),(1,lM i)],[(2,.op 0 0),(3,.op 1 0),(52,.lst (i.svcs.map iQ)),(53,.v (.int .i64 (i.svcs.map iQ).length)),(54,.v (.int .i64 n))]⟩) (fun n=>n<=i.svcs.length/\lP (fun d:Df=>(rF i d.name).2) i.svcs=lP (fun d:Df=>(rF i d.name).2) (i.svcs.drop n)) (fun n=>i.svcs.length-n) 0 ⟨aK _,by rw[bP]⟩ ?_ ?_
 ·exact leA
 intro n ⟨hn1,heq⟩;rcases aD n i.svcs.length with hnl|hnl
 ·obtain⟨x,hx⟩:=gex hnl;have hdr:i.svcs.drop n=x::i.svcs.drop (n+1):=by
   rw[aE hnl]at hx;rw[<-bB hx,<-bA hnl]
  rw[hdr,nK]at heq;have hsx:=fun {K} h=>@hs x.name K h;generalize rF i x.name=G at*;obtain⟨Gs,Ge⟩:=G;simp only at heq hsx;(repeat' ((conv=>whnf);first|(with_reducible first|refine iI hnl ?_|refine iH hx ?_|refine hsx ?_)|refine zG ?_|apply zA|intro h|exact zT));all_goals conv=>whnf
  all_goals first
   |(rw[aF (fun hh=>hh h)]at heq
     refine⟨n+1,⟨hnl,heq⟩,by omega,?_⟩;rw[aN,aM];exact leA)
   |(rw[aH h]at heq
     rw[aF (fun hh=>hh e0)]at hK;rw[heq,aH h]at hK;exact hK)
 rw[bO hnl]at heq;have e1:lP (fun d:Df=>(rF i d.name).2) i.svcs=0:=heq;clear heq;(repeat' ((conv=>whnf);first|refine zG ?_|apply zA|intro h|exact zT));all_goals conv=>whnf
 refine gV Nat (fun n=>⟨2,[(0,kM t),(1,lM i)],[(2,.op 0 0),(3,.op 1 0),(70,.lst (i.sts.map kC)),(71,.v (.int .i64 (i.sts.map kC).length)),(72,.v (.int .i64 n))]⟩) (fun n=>n<=i.sts.length/\lP (fun s:Sm=>if(qJ t i s).2≠0 then(qJ t i s).2 else zF t i s) i.sts=lP (fun s:Sm=>if(qJ t i s).2≠0 then(qJ t i s).2 else zF t i s) (i.sts.drop n)) (fun n=>i.sts.length-n) 0 ⟨aK _,by rw[bP]⟩ ?_ ?_
 ·exact leA
 intro n ⟨hn1,heq⟩;rcases aD n i.sts.length with hnl|hnl
 ·obtain⟨x,hx⟩:=gex hnl;have hdr:i.sts.drop n=x::i.sts.drop (n+1):=by
   rw[aE hnl]at hx;rw[<-bB hx,<-bA hnl]
  rw[hdr,nK]at heq;have hmx:=fun {K} h=>@hm x K h;generalize qJ t i x=G at*;obtain⟨Gs,Ge⟩:=G;simp only at heq hmx;(repeat' ((conv=>whnf);first|(with_reducible first|refine iI hnl ?_|refine iH hx ?_|refine hmx ?_|refine aFs t hd i hb x ?_)|refine zG ?_|apply zA|intro h|exact zT));all_goals conv=>whnf
  all_goals first
   |(rename_i hz
     rw[aF (show ¬(Ge≠0)from fun hh=>hh hz),aF (fun hh=>hh h)]at heq;refine⟨n+1,⟨hnl,heq⟩,by omega,?_⟩;rw[aN,aM];exact leA)
   |(rw[aH h,aH h]at heq
     rw[aF (fun hh=>hh e0),aF (fun hh=>hh e1)]at hK;rw[heq,aH h]at hK;exact hK)
   |(rename_i hz
     rw[aF (show ¬(Ge≠0)from fun hh=>hh hz),aH h]at heq;rw[aF (fun hh=>hh e0),aF (fun hh=>hh e1)]at hK;rw[heq,aH h]at hK;exact hK)
 rw[bO hnl]at heq;have e2:lP (fun s:Sm=>if(qJ t i s).2≠0 then(qJ t i s).2 else zF t i s) i.sts=0:=heq;clear heq;(repeat' ((conv=>whnf);first|refine zG ?_|apply zA|intro h|exact zT));all_goals conv=>whnf
 refine gV Nat (fun n=>⟨2,[(0,kM t),(1,lM i)],[(2,.op 0 0),(3,.op 1 0),(95,.lst (i.pubs.map jU)),(96,.v (.int .i64 (i.pubs.map jU).length)),(97,.v (.int .i64 n))]⟩) (fun n=>n<=i.pubs.length/\lP (fun p:Pb=>if jX t.edges p.edge<0 then 5 else 0) i.pubs=lP (fun p:Pb=>if jX t.edges p.edge<0 then 5 else 0) (i.pubs.drop n)) (fun n=>i.pubs.length-n) 0 ⟨aK _,by rw[bP]⟩ ?_ ?_
 ·exact leA
 intro n ⟨hn1,heq⟩;rcases aD n i.pubs.length with hnl|hnl
 ·obtain⟨x,hx⟩:=gex hnl;have hdr:i.pubs.drop n=x::i.pubs.drop (n+1):=by
   rw[aE hnl]at hx;rw[<-bB hx,<-bA hnl]
  rw[hdr,nK]at heq;(repeat' ((conv=>whnf);first|(with_reducible first|refine iI hnl ?_|refine iH hx ?_|refine N7 t _ ht ?_)|refine zG ?_|apply zA|intro h|exact zT));all_goals conv=>whnf
  all_goals first
   |(rw[aF h,aF zd]at heq
     refine⟨n+1,⟨hnl,heq⟩,by omega,?_⟩;rw[aN,aM];exact leA)
   |(rw[aH h,aH zd]at heq
     rw[aF (fun hh=>hh e0),aF (fun hh=>hh e1),aF (fun hh=>hh e2)]at hK;rw[heq,aH zd]at hK;exact hK)
 rw[bO hnl]at heq;have e3:lP (fun p:Pb=>if jX t.edges p.edge<0 then 5 else 0) i.pubs=0:=heq;clear heq;(repeat' ((conv=>whnf);first|refine zG ?_|apply zA|intro h|exact zT));all_goals conv=>whnf
 refine gV Nat (fun n=>⟨2,[(0,kM t),(1,lM i)],[(2,.op 0 0),(3,.op 1 0),(108,.lst (i.hids.map jY)),(109,.v (.int .i64 (i.hids.map jY).length)),(110,.v (.int .i64 n))]⟩) (fun n=>n<=i.hids.length/\lP (fun h:Hn=>if jX t.edges h.edge<0 then 5 else(kJ t i h.grp).2) i.hids=lP (fun h:Hn=>if jX t.edges h.edge<0 then 5 else(kJ t i h.grp).2) (i.hids.drop n)) (fun n=>i.hids.length-n) 0 ⟨aK _,by rw[bP]⟩ ?_ ?_
 ·exact leA
 intro n ⟨hn1,heq⟩;rcases aD n i.hids.length with hnl|hnl
 ·obtain⟨x,hx⟩:=gex hnl;have hdr:i.hids.drop n=x::i.hids.drop (n+1):=by
   rw[aE hnl]at hx;rw[<-bB hx,<-bA hnl]
  rw[hdr,nK]at heq;have hgx:=fun {K} h=>@hg x.grp K h;generalize kJ t i x.grp=G at*;obtain⟨Gs,Ge⟩:=G;simp only at heq hgx;(repeat' ((conv=>whnf);first|(with_reducible first|refine iI hnl ?_|refine iH hx ?_|refine N7 t _ ht ?_|refine hgx ?_)|refine zG ?_|apply zA|intro h|exact zT));all_goals conv=>whnf
  all_goals first
   |(rename_i hz
     rw[aF hz,aF (fun hh=>hh h)]at heq;refine⟨n+1,⟨hnl,heq⟩,by omega,?_⟩;rw[aN,aM];exact leA)
   |(rw[aH h,aH zd]at heq
     rw[aF (fun hh=>hh e0),aF (fun hh=>hh e1),aF (fun hh=>hh e2),aF (fun hh=>hh e3)]at hK;rw[heq]at hK;exact hK)
   |(rename_i hz
     rw[aF hz,aH h]at heq;rw[aF (fun hh=>hh e0),aF (fun hh=>hh e1),aF (fun hh=>hh e2),aF (fun hh=>hh e3)]at hK;rw[heq]at hK;exact hK)
 rw[bO hnl]at heq;have e4:lP (fun h:Hn=>if jX t.edges h.edge<0 then 5 else(kJ t i h.grp).2) i.hids=0:=heq;clear heq;rw[aF (fun hh=>hh e0),aF (fun hh=>hh e1),aF (fun hh=>hh e2),aF (fun hh=>hh e3),e4]at hK;(repeat' ((conv=>whnf);first|refine zG ?_|apply zA|intro h|exact zT));all_goals conv=>whnf
 exact hK
theorem aLV{K:KT}(hK:K (lN pf0) []):AC 90 [.v (.int .i64 0)] [] K:=Gk 0 zd hK
theorem aLW{K:KT}(hK:K (lN pf4) []):AC 90 [.v (.int .i64 4)] [] K:=Gk 4 zd hK
theorem aBy(l:List Bx)(g:Hd)(ho:g.Ok)(hl:l.length<1000000000){K:KT}(hK:K (.sb (l.any fun b=>oG b g)) []):AC 29 [iN l,lC g] [] K:=by
 refine gZ (aIi rfl rfl ?_);(repeat' ((conv=>whnf);first|refine zG ?_|apply zA|intro h|exact zT));all_goals conv=>whnf
 refine gV Nat (fun i=>⟨1,[(0,.box [.v (.int .u32 g.src),.v (.int .u32 g.dst),.v (.int .u8 g.pro),.v (.int .u16 g.sp),.v (.int .u16 g.dp)])],[(0,iN l),(3,.op 0 0),(5,.v (.int .i64 i))]⟩) (fun i=>i<=l.length/\∀(j:Nat) x,j<i->l[j]? =some x->oG x g=false) (fun i=>l.length-i) 0 ⟨aK _,fun j x h=>absurd h (bD _)⟩ ?_ ?_
 ·exact leA
 intro i ⟨hi,hinv⟩;rcases aD i l.length with hil|hil
 ·obtain⟨x,hx⟩:=gex hil;(repeat' ((conv=>whnf);first|(with_reducible first|refine iI hil ?_|refine iH hx ?_|refine cvCon x g ho ?_)|refine zG ?_|apply zA|intro h|exact zT));all_goals conv=>whnf
  all_goals first
   |exact kE hK (bR.2 ⟨x,aG hx,h⟩)
   |(refine⟨i+1,⟨hil,iM hx (by simpa using h) hinv⟩,by omega,?_⟩
     rw[aN,aM];exact leA)
 ·(repeat' ((conv=>whnf);first|refine zG ?_|apply zA|intro h|exact zT));all_goals conv=>whnf
  refine iU hK ?_;rw[bY,ne_eq,bR]
  rintro⟨x,hx,hc⟩
  obtain⟨j,hj⟩:=bH.1 hx;have:=iL hil hinv j x hj;rw[hc]at this;cases this
theorem aFj{X:List Bx}(hs:jW X=true){g:Hd}(ho:g.Ok):(X.any fun b=>oG b g)=jB (hdQ g) 5 X:=by
 rw[bK,bR,memK_iff];refine exists_congr fun b=>and_congr_right fun hb=>?_;have hok:=aQS (rR hs) hb;rw[pI,inK_iff];constructor
 ·rintro⟨h0,h1,h2,h3,h4,_⟩ f hf
  obtain rfl|rfl|rfl|rfl|rfl:f=0\/f=1\/f=2\/f=3\/f=4:=by omega
  ·exact h0
  ·exact h1
  ·exact h2
  ·exact h3
  ·exact h4
 ·intro h;exact⟨h 0 zo,h 1 zo,h 2 zo,h 3 zo,h 4 zo,hok⟩
theorem K9{P:Program}{f:FuncId}{args:List AV}{hs:List Vm.Obj}{K:KT}(h:ACall P f args hs fun v hs'=>aBC hs.length (jF 0 hs') v K):ACall P f args hs K:=by
 obtain⟨h1,h2⟩:=h.elim;refine ACall.intro h1 fun ι E w vals r hv=>(h2 ι E w vals r hv).mono ?_
 rintro e w' ⟨v,rr,hs',ι',E',he,hq,hr,hrel,hx⟩
 obtain⟨y,hs2,ι2,E2,k1,k2,k3,k4⟩:=yU hr (ι0:=ι) (fun id hid=>r.fresh id hid) hx.ex hrel hq;exact⟨v,y,hs2,ι2,E2,he,k1,k2,k3,k4⟩
theorem aMn(raw:List Int)(pos:Nat)(hp:pos<=raw.length)(hr:raw.length<=9223372036854775807){K:KT}
  (hK:∀(t:Tp) (pos':Nat),GTop t->t.devs.length<=2->pos'<=raw.length->K (jT t) [iO raw pos']):
  AC 42 [.op 0 0,.v (.int .i64 2)] [iO raw pos] K:=by
 refine K9 (aKn raw pos 2 zd hp hr fun t p h1 h2 h3=>?_);(repeat' ((conv=>whnf);first|(with_reducible refine iT (aA ..) ?_)|refine zG ?_|apply zA|intro h|exact zT));all_goals conv=>whnf
 exact hK t p h1 zo h3
structure Mv where
 frm:Bx
 to:Bx
def tM(r s:Rg):Prop:=r.hi-r.lo=s.hi-s.lo
instance (r s:Rg):Decidable (tM r s):=by unfold tM;infer_instance
def Mv.ok(m:Mv):Prop:=(m.frm.ok/\m.to.ok)/\tM m.frm.r0 m.to.r0/\tM m.frm.r1 m.to.r1/\tM m.frm.r2 m.to.r2/\tM m.frm.r3 m.to.r3/\tM m.frm.r4 m.to.r4
instance (m:Mv):Decidable m.ok:=by unfold Mv.ok;infer_instance
def Mv.turn(m:Mv):Mv:=⟨m.to,m.frm⟩
theorem Mv.ok_turn{m:Mv}(h:m.ok):m.turn.ok:=⟨⟨h.1.2,h.1.1⟩,h.2.1.symm,h.2.2.1.symm,h.2.2.2.1.symm,h.2.2.2.2.1.symm,h.2.2.2.2.2.symm⟩
def shH(m:Mv)(h:Hd):Hd:=⟨m.to.r0.lo+(h.src-m.frm.r0.lo),m.to.r1.lo+(h.dst-m.frm.r1.lo),m.to.r2.lo+(h.pro-m.frm.r2.lo),m.to.r3.lo+(h.sp-m.frm.r3.lo),m.to.r4.lo+(h.dp-m.frm.r4.lo)⟩
def yG(h:Hd)(m:Mv):Bool:=decide m.ok&&oG m.frm h
def Ku(h:Hd)(m:Mv):Bool:=decide m.ok&&oG m.to h
def Nk(l:List Mv)(h:Hd):Hd:=match l.find? (yG h)with
 |some m=>shH m h
 |none=>h
def zHd:Hd:=⟨0,0,0,0,0⟩
def nT(l:List Mv)(h:Hd):Hd×Bool:=if l.any (Ku h)=true then(zHd,false)else(Nk l h,true)
def Kx(r s:Rg):Prop:=r.lo<=s.lo/\s.lo<=s.hi/\s.hi<=r.hi
def inX(a x:Bx):Prop:=Kx a.r0 x.r0/\Kx a.r1 x.r1/\Kx a.r2 x.r2/\Kx a.r3 x.r3/\Kx a.r4 x.r4
def shR(a b x:Rg):Rg:=mkR (b.lo+(x.lo-a.lo)) (b.lo+(x.hi-a.lo))
def shX(a b x:Bx):Bx:=⟨shR a.r0 b.r0 x.r0,shR a.r1 b.r1 x.r1,shR a.r2 b.r2 x.r2,shR a.r3 b.r3 x.r3,shR a.r4 b.r4 x.r4⟩
def shP(m:Mv)(q:Nat->Int):Nat->Int:=fun f=>(m.to.get f).lo+(q f-(m.frm.get f).lo)
theorem zP{a b x:Rg}(h:tM a b)(hx:Kx a x):(shR a b x).lo=b.lo+(x.lo-a.lo)/\(shR a b x).hi=b.lo+(x.hi-a.lo):=by
 unfold Kx at hx;unfold tM at h;have:=b.l0;have:=b.h1;unfold shR;exact⟨kI zo zo zo zo,kP zo zo zo zo⟩
theorem Mv.ok_get{m:Mv}(h:m.ok):∀f,f<=4->tM (m.frm.get f) (m.to.get f):=fun f hf=>by
 obtain⟨_,h0,h1,h2,h3,h4⟩:=h
 match f with
 |0=>exact h0
 |1=>exact h1
 |2=>exact h2
 |3=>exact h3
 |4=>exact h4
 |n+5=>omega
theorem W1{a x:Bx}(h:inX a x):∀f,f<=4->Kx (a.get f) (x.get f):=fun f hf=>by
 obtain⟨h0,h1,h2,h3,h4⟩:=h
 match f with
 |0=>exact h0
 |1=>exact h1
 |2=>exact h2
 |3=>exact h3
 |4=>exact h4
 |n+5=>omega
theorem Xy(a b x:Bx):∀f,f<=4->(shX a b x).get f=shR (a.get f) (b.get f) (x.get f):=fun f hf=>by
 match f with
 |0=>rfl
 |1=>rfl
 |2=>rfl
 |3=>rfl
 |4=>rfl
 |n+5=>omega
theorem Fr{x:Bx}(h:∀f,f<=4->(x.get f).lo<=(x.get f).hi/\(x.get f).hi<=iX f):x.ok:=⟨h 0 zd,h 1 zd,h 2 zd,h 3 zd,h 4 zd⟩
theorem aRl{m:Mv}(h:m.ok){x:Bx}(hx:inX m.frm x):(shX m.frm m.to x).ok:=Fr fun f hf=>by
 have h1:=Mv.ok_get h f hf;have h2:=W1 hx f hf;obtain⟨e1,e2⟩:=zP h1 h2;have h3:=ok_get h.1.2 f hf;rw[Xy _ _ _ f hf,e1,e2];unfold tM at h1;unfold Kx at h2;omega
theorem aRk{m:Mv}(h:m.ok){x:Bx}(hx:inX m.frm x)(q:Nat->Int):inK q 5 (shX m.frm m.to x)=inK (shP m.turn q) 5 x:=by
 rw[bK,inK_iff,inK_iff];have:∀f,f<=4->((((shX m.frm m.to x).get f).lo<=q f/\q f<=((shX m.frm m.to x).get f).hi)↔((x.get f).lo<=shP m.turn q f/\shP m.turn q f<=(x.get f).hi)):=fun f hf=>by
  obtain⟨e1,e2⟩:=zP (Mv.ok_get h f hf) (W1 hx f hf);rw[Xy _ _ _ f hf,e1,e2];show _↔(x.get f).lo<=(m.frm.get f).lo+(q f-(m.to.get f).lo)/\(m.frm.get f).lo+(q f-(m.to.get f).lo)<=(x.get f).hi;omega
 exact⟨fun hh f hf=>(this f hf).1 (hh f hf),fun hh f hf=>(this f hf).2 (hh f hf)⟩
def shL(m:Mv)(l:List Bx):List Bx:=l.map (shX m.frm m.to)
theorem aJN{m:Mv}(h:m.ok){l:List Bx}(hl:∀x,x∈l->inX m.frm x)(q:Nat->Int):jB q 5 (shL m l)=jB (shP m.turn q) 5 l:=by
 unfold jB shL;rw[List.any_map]
 induction l with
 |nil=>rfl
 |cons x l ih=>
  rw[fA,fA,ih fun y hy=>hl y (aS _ hy)]
  congr 1
  exact aRk h (hl x zx) q
theorem aRj{m:Mv}(h:m.ok){l:List Bx}(hl:∀x,x∈l->inX m.frm x):kL (shL m l)=shL m l:=by
 unfold kL;rw[dW];intro y hy;obtain⟨x,hx,rfl⟩:=bQ.1 hy;exact decide_eq_true (aRl h (hl x hx))
theorem mH{l:List Bx}(h:jW l=true):kL l=l:=by
 unfold kL;rw[dW];intro x hx;exact decide_eq_true (Fr (rR h x hx))
theorem Hy{l:List Bx}(he:(jK l).2=0){q:Nat->Int}(hq:InP q):jB q 5 (jK l).1=jB q 5 (kL l):=by
 unfold jK at he⊢;split
 ·rw[mH zp]
 ·rename_i h;rw[aF h]at he;rw[kX,uH hq l [] he,lW,fG]
theorem combG{op:Bool->Bool->Bool}{a b:List Bx}(he:(iP op a b).2=0){q:Nat->Int}(hq:InP q):jB q 5 (iP op a b).1=op (jB q 5 (kL a)) (jB q 5 (kL b)):=by
 unfold iP at he⊢;split at he
 ·rename_i h;exact absurd he h
 rename_i h1;split at he
 ·rename_i h;exact absurd he h
 rename_i h2;rw[aF h1,aF h2];simp only at he⊢;have:(jH op 5 (jK a).1 (jK b).1).length<=4096:=by
  have:=mt limE_ne.2 (fun h=>h he);omega
 rw[nZ,aF zo,pH op hq 5 _ _ (aO _),Hy zo hq,Hy zo hq]
def kR(op:Bool->Bool->Bool)(a b:List Bx):Option (List Bx):=if(iP op a b).2=0 then some (iP op a b).1 else none
theorem mO{op:Bool->Bool->Bool}{a b s:List Bx}(h:kR op a b=some s):(iP op a b).2=0/\s=(iP op a b).1:=by
 unfold kR at h;split at h
 ·exact⟨by assumption,(bB h).symm⟩
 ·cases h
def vI(to:List Bx):List Mv->List Bx->List Bx->Option (List Bx×List Bx)
 |[],rest,out=>some (rest,out)
 |m::l,rest,out=>if m.ok then
   (kR anB rest [m.frm]).bind fun part=>(kR anB to [m.to]).bind fun into=>(kR anB part (shL m.turn into)).bind fun kept=>(kR orB out kept).bind fun out'=>(kR woB rest [m.frm]).bind fun rest'=>vI to l rest' out'
  else vI to l rest out
def preO(l:List Mv)(s:List Bx):Option (List Bx):=
 if(jK s).2=0 then(vI (jK s).1 l [fullB] []).bind fun x=>(kR anB x.1 (jK s).1).bind fun k=>kR orB x.2 k else none
def wW:List Mv->List Bx->Option (List Bx)
 |[],s=>some s
 |m::l,s=>if m.ok then(kR woB s [m.to]).bind fun s'=>wW l s' else wW l s
def G7(l:List Mv)(s:List Bx):Option (List Bx):=(preO l s).bind fun x=>wW l x
def Se(o:Option (List Bx)):List Bx×Int:=match o with
 |some s=>(s,0)
 |none=>([],3)
def Fo(q:Nat->Int)(m:Mv):Bool:=decide m.ok&&inK q 5 m.frm
theorem J4{b:Bx}(h:b.ok):kL [b]=[b]:=by simp[kL,h]
theorem nS(q:Nat->Int)(b:Bx):jB q 5 [b]=inK q 5 b:=by simp[jB]
theorem aAi{s:List Bx}{a:Bx}(ha:a.ok)(he:(iP anB s [a]).2=0):∀x,x∈(iP anB s [a]).1->inX a x:=fun x hx=>by
 have hset:=jV anB s [a];have hok:=rR hset x hx;have hin:∀q,InP q->inK q 5 x=true->inK q 5 a=true:=fun q hq hi=>by
  have h1:jB q 5 (iP anB s [a]).1=true:=memK_iff.2 ⟨x,hx,hi⟩;rw[combG he hq,J4 ha,nS]at h1;unfold anB at h1;rw[aJ]at h1;exact h1.2
 have hlo:∀f,f<=4->(a.get f).lo<=(x.get f).lo/\(x.get f).lo<=(a.get f).hi:=by
  obtain⟨q,hq,hqe⟩:=Om (p:=fun f=>(x.get f).lo) fun f hf=>⟨(x.get f).l0,by have:=hok f hf;omega⟩
  have:=inK_iff.1 (hin q hq (inK_iff.2 fun f hf=>by rw[hqe f hf];exact⟨cC _,(hok f hf).1⟩));intro f hf;have h:=this f hf;rw[hqe f hf]at h;exact h
 have hhi:∀f,f<=4->(a.get f).lo<=(x.get f).hi/\(x.get f).hi<=(a.get f).hi:=by
  obtain⟨q,hq,hqe⟩:=Om (p:=fun f=>(x.get f).hi) fun f hf=>⟨(x.get f).h0,by have:=hok f hf;omega⟩
  have:=inK_iff.1 (hin q hq (inK_iff.2 fun f hf=>by rw[hqe f hf];exact⟨(hok f hf).1,cC _⟩));intro f hf;have h:=this f hf;rw[hqe f hf]at h;exact h
 have key:∀f,f<=4->Kx (a.get f) (x.get f):=fun f hf=>⟨(hlo f hf).1,(hok f hf).1,(hhi f hf).2⟩
 exact⟨key 0 zd,key 1 zd,key 2 zd,key 3 zd,key 4 zd⟩
theorem U6{m:Mv}(h:m.ok){q:Nat->Int}(hi:inK q 5 m.frm=true):inK (shP m q) 5 m.to=true:=by
 rw[inK_iff]at hi⊢;intro f hf;have h1:=hi f hf;have h2:=Mv.ok_get h f hf;unfold tM at h2;show(m.to.get f).lo<=(m.to.get f).lo+(q f-(m.frm.get f).lo)/\(m.to.get f).lo+(q f-(m.frm.get f).lo)<=(m.to.get f).hi;omega
theorem Xx{m:Mv}(h:m.ok){q:Nat->Int}(hi:inK q 5 m.frm=true):∃p,InP p/\∀f,f<=4->p f=shP m q f:=Om fun f hf=>by
 have h1:=inK_iff.1 (U6 h hi) f hf;have h2:=ok_get h.1.2 f hf;have:=(m.to.get f).l0;omega
theorem Fx{to:List Bx}(hto:jW to=true):∀(l:List Mv) (rest out r o:List Bx),jW rest=true->jW out=true->vI to l rest out=some (r,o)->
  (jW r=true/\jW o=true)/\∀q,InP q->jB q 5 r=(jB q 5 rest&& !(l.any (Fo q)))/\jB q 5 o=(jB q 5 out||(jB q 5 rest&&match l.find? (Fo q)with
   |some m=>jB (shP m q) 5 to
   |none=>false))
 |[],rest,out,r,o,hr,ho,h=>by
  simp only[vI,bN,Prod.mk.injEq]at h;obtain⟨rfl,rfl⟩:=h;exact⟨⟨hr,ho⟩,fun q hq=>by simp⟩
 |m::l,rest,out,r,o,hr,ho,h=>by
  rw[vI]at h;split at h
  ·rename_i hm;obtain⟨part,h1,h⟩:=cI.1 h;obtain⟨into,h2,h⟩:=cI.1 h;obtain⟨kept,h3,h⟩:=cI.1 h;obtain⟨out',h4,h⟩:=cI.1 h;obtain⟨rest',h5,h⟩:=cI.1 h;obtain⟨e1,rfl⟩:=mO h1;obtain⟨e2,rfl⟩:=mO h2;obtain⟨e3,rfl⟩:=mO h3;obtain⟨e4,rfl⟩:=mO h4;obtain⟨e5,rfl⟩:=mO h5;have hin:∀x,x∈(iP anB to [m.to]).1->inX m.turn.frm x:=aAi (a:=m.to) hm.1.2 e2;obtain⟨hs,hmem⟩:=Fx hto l _ _ r o (jV ..) (jV ..) h;refine⟨hs,fun q hq=>?_⟩;obtain⟨g1,g2⟩:=hmem q hq;have k1:jB q 5 (iP woB rest [m.frm]).1=(jB q 5 rest&& !inK q 5 m.frm):=by
    rw[combG e5 hq,mH hr,J4 hm.1.1,nS];rfl
   have k2:jB q 5 (iP anB rest [m.frm]).1=(jB q 5 rest&&inK q 5 m.frm):=by
    rw[combG e1 hq,mH hr,J4 hm.1.1,nS];rfl
   have k3:jB q 5 (iP anB (iP anB rest [m.frm]).1 (shL m.turn (iP anB to [m.to]).1)).1=(jB q 5 rest&&inK q 5 m.frm&&jB (shP m q) 5 to):=by
    rw[combG e3 hq,mH (jV ..),aRj (Mv.ok_turn hm) hin,aJN (Mv.ok_turn hm) hin,k2];show(_&&jB (shP m q) 5 (iP anB to [m.to]).1)=_;cases hi:inK q 5 m.frm with
    |false=>simp
    |true=>
     obtain⟨p,hp,hpe⟩:=Xx hm hi;have c1:jB (shP m q) 5 (iP anB to [m.to]).1=jB p 5 (iP anB to [m.to]).1:=oA (aO _) fun f hf _=>(hpe f hf).symm;have c2:jB (shP m q) 5 to=jB p 5 to:=oA (aO _) fun f hf _=>(hpe f hf).symm;have c3:inK p 5 m.to=true:=by
      rw[uG 5 m.to (aO _) (q:=shP m q) fun f hf _=>hpe f hf];exact U6 hm hi
     rw[c1,c2,combG e2 hp,mH hto,J4 hm.1.2,nS,c3];simp[anB]
   have k4:jB q 5 (iP orB out (iP anB (iP anB rest [m.frm]).1 (shL m.turn (iP anB to [m.to]).1)).1).1=(jB q 5 out||(jB q 5 rest&&inK q 5 m.frm&&jB (shP m q) 5 to)):=by
    rw[combG e4 hq,mH ho,mH (jV ..),k3];rfl
   have hd:Fo q m=inK q 5 m.frm:=by unfold Fo;rw[decide_eq_true hm,dQ]
   rw[g1,g2,k1,k4,fA,List.find?_cons,hd];cases hi:inK q 5 m.frm with
   |false=>simp
   |true=>simp
  ·rename_i hm;have hd:∀q,Fo q m=false:=fun q=>by unfold Fo;rw[decide_eq_false hm,fI]
   obtain⟨hs,hmem⟩:=Fx hto l rest out r o hr ho h;refine⟨hs,fun q hq=>?_⟩;rw[fA,List.find?_cons,hd q,fG];exact hmem q hq
theorem R1{l:List Mv}{s x:List Bx}(h:preO l s=some x):jW x=true/\∀q,InP q->jB q 5 x=(match l.find? (Fo q)with
   |some m=>jB (shP m q) 5 (kL s)
   |none=>jB q 5 (kL s)):=by
 unfold preO at h;split at h;case isFalse=>cases h
 rename_i hg;obtain⟨⟨r,o⟩,h1,h⟩:=cI.1 h;obtain⟨k,h2,h3⟩:=cI.1 h;obtain⟨e2,rfl⟩:=mO h2;obtain⟨e3,rfl⟩:=mO h3;have hfull:jW [fullB]=true:=by decide+kernel
 have hto:=F6 s;obtain⟨⟨sr,so⟩,hmem⟩:=Fx hto l [fullB] [] r o hfull jP h1;refine⟨jV ..,fun q hq=>?_⟩;obtain⟨g1,g2⟩:=hmem q hq;have hf:jB q 5 [fullB]=true:=by
  rw[nS,inK_iff];intro f hf;have h1:=hq f
  match f,hf with
  |0,_=>exact h1
  |1,_=>exact h1
  |2,_=>exact h1
  |3,_=>exact h1
  |4,_=>exact h1
 simp only at e2 e3;rw[combG e3 hq,mH so,mH (jV ..),combG e2 hq,mH sr,mH hto,g1,g2,hf,lW];rw[Hy hg hq];cases hfi:l.find? (Fo q)with
 |none=>
  have:l.any (Fo q)=false:=by
   rw[bY,ne_eq,bR]
   rintro⟨m,hm,hh⟩
   have:=List.find?_eq_none.1 hfi m hm;exact this hh
  rw[this];simp[orB,anB]
 |some m=>
  have hm:=List.find?_some hfi;have hm2:=List.mem_of_find?_eq_some hfi;have:l.any (Fo q)=true:=bR.2 ⟨m,hm2,hm⟩;rw[this];unfold Fo at hm;rw[aJ,aL]at hm;obtain⟨p,hp,hpe⟩:=Xx hm.1 hm.2;simp only[dQ,fG,fV,orB,anB,fI,fW];rw[oA (q:=p) (aO _) fun f hf _=>(hpe f hf).symm,Hy hg hp];exact(oA (q:=p) (aO _) fun f hf _=>(hpe f hf).symm).symm
theorem vA:∀{l:List Mv} {s x:List Bx},jW s=true->wW l s=some x->jW x=true/\∀q,InP q->jB q 5 x=(jB q 5 s&& !(l.any fun m=>decide m.ok&&inK q 5 m.to))
 |[],s,x,hs,h=>by
  simp only[wW,bN]at h;subst h;exact⟨hs,fun q hq=>by simp⟩
 |m::l,s,x,hs,h=>by
  rw[wW]at h;split at h
  ·rename_i hm;obtain⟨s',h1,h⟩:=cI.1 h;obtain⟨e1,rfl⟩:=mO h1;obtain⟨h2,h3⟩:=vA (jV ..) h;refine⟨h2,fun q hq=>?_⟩;rw[h3 q hq,combG e1 hq,mH hs,J4 hm.1.2,nS,fA,decide_eq_true hm];cases inK q 5 m.to<;>simp[woB]
  ·rename_i hm;obtain⟨h2,h3⟩:=vA hs h;refine⟨h2,fun q hq=>?_⟩;rw[h3 q hq,fA,decide_eq_false hm,fI,fG]
theorem rN(b:Bx)(h:Hd):oG b h=true↔inK (hdQ h) 5 b=true/\b.ok:=by
 rw[pI];simp only[inK,Bx.get,hdQ,eV,Nat.reduceSub,eK,aJ,aL];constructor
 ·rintro⟨h0,h1,h2,h3,h4,h5⟩;exact⟨⟨h0,h1,h2,h3,h4⟩,h5⟩
 ·rintro⟨⟨h0,h1,h2,h3,h4⟩,h5⟩;exact⟨h0,h1,h2,h3,h4,h5⟩
theorem aFk(l:List Bx)(h:Hd):jB (hdQ h) 5 (kL l)=l.any fun b=>oG b h:=by
 rw[bK,memK_iff,bR];constructor
 ·rintro⟨b,hb,hi⟩
  unfold kL at hb;obtain⟨h1,h2⟩:=cR.1 hb;exact⟨b,h1,(rN b h).2 ⟨hi,by simpa using h2⟩⟩
 ·rintro⟨b,hb,hc⟩
  obtain⟨h1,h2⟩:=(rN b h).1 hc;exact⟨b,cR.2 ⟨hb,by simpa using h2⟩,h1⟩
theorem aOx(h:Hd):Fo (hdQ h)=yG h:=by
 funext m
 unfold Fo yG;by_cases hm:m.ok
 ·rw[decide_eq_true hm,dQ,dQ,bK,rN];exact⟨fun h1=>⟨h1,hm.1.1⟩,fun h1=>h1.1⟩
 ·rw[decide_eq_false hm];rfl
theorem aOw(l:List Mv)(h:Hd):(l.any fun m=>decide m.ok&&inK (hdQ h) 5 m.to)=l.any (Ku h):=by
 congr 1
 funext m
 unfold Ku;by_cases hm:m.ok
 ·rw[decide_eq_true hm,dQ,dQ,bK,rN];exact⟨fun h1=>⟨h1,hm.1.2⟩,fun h1=>h1.1⟩
 ·rw[decide_eq_false hm];rfl
theorem My(m:Mv)(h:Hd):∀f,f<=4->hdQ (shH m h) f=shP m (hdQ h) f:=fun f hf=>by
 match f,hf with
 |0,_=>rfl
 |1,_=>rfl
 |2,_=>rfl
 |3,_=>rfl
 |4,_=>rfl
theorem aRi{m:Mv}(hm:m.ok){h:Hd}(hc:oG m.frm h=true):(shH m h).Ok:=by
 have hi:=((rN _ _).1 hc).1;have g:=fun f (hf:f<=4)=>inK_iff.1 (U6 hm hi) f hf;have k:=fun f (hf:f<=4)=>ok_get hm.1.2 f hf;have l0:=fun f=>(m.to.get f).l0;have h0:=g 0 zd;have h1:=g 1 zd;have h2:=g 2 zd;have h3:=g 3 zd;have h4:=g 4 zd;have k0:=k 0 zd;have k1:=k 1 zd;have k2:=k 2 zd;have k3:=k 3 zd;have k4:=k 4 zd;have z0:=l0 0;have z1:=l0 1;have z2:=l0 2;have z3:=l0 3;have z4:=l0 4;rw[<-My m h 0 zd]at h0;rw[<-My m h 1 zd]at h1;rw[<-My m h 2 zd]at h2;rw[<-My m h 3 zd]at h3;rw[<-My m h 4 zd]at h4;simp only[hdQ,iX]at h0 h1 h2 h3 h4 k0 k1 k2 k3 k4;exact⟨by omega,by omega,by omega,by omega,by omega,by omega,by omega,by omega,by omega,by omega⟩
theorem aFa(l:List Mv){h:Hd}(ho:h.Ok):(Nk l h).Ok:=by
 unfold Nk;cases hf:l.find? (yG h)with
 |none=>exact ho
 |some m=>
  have:=List.find?_some hf;unfold yG at this;rw[aJ,aL]at this;exact aRi this.1 this.2
theorem aRz:zHd.Ok:=by constructor<;>decide
theorem aFc(l:List Mv){h:Hd}(ho:h.Ok):(nT l h).1.Ok:=by
 unfold nT;split
 ·exact aRz
 ·exact aFa l ho
theorem aEI{l:List Mv}{s x:List Bx}(h:G7 l s=some x){g:Hd}(ho:g.Ok):(x.any fun b=>oG b g)=((nT l g).2&&s.any fun b=>oG b (nT l g).1):=by
 unfold G7 at h;obtain⟨y,h1,h2⟩:=cI.1 h;obtain⟨sy,my⟩:=R1 h1;obtain⟨sx,mx⟩:=vA sy h2;have hq:=aCj ho;rw[aFj sx ho,mx _ hq,my _ hq,aOw,aOx];unfold nT;cases ha:l.any (Ku g)with
 |true=>simp
 |false=>
  simp only[fB,eK,dQ,cK,if_false];rw[<-aFk];unfold Nk;cases l.find? (yG g)with
  |none=>rfl
  |some m=>exact(oA (aO _) fun f hf _=>My m g f hf).symm
/-! the errors -/
end Go.Proofs.YtgicddadddhonaaGreatDoor
