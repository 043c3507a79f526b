/- Lemmas. -/
import Derived.Test.YtnomkooikbhgmaaGreatDoorK30
set_option linter.unusedVariables false
set_option linter.unusedSimpArgs false
set_option maxRecDepth 100000
set_option maxHeartbeats 4000000
noncomputable section
namespace Go.Proofs.YtnomkooikbhgmaaGreatDoor
open Go Go.Vm
structure LenNt (L:Nat) (i:Nt):Prop where
 g:i.grps.length<=L
 s:i.svcs.length<=L
 w:i.wins.length<=L
 t:i.sts.length<=L
 p:i.pubs.length<=L
 h:i.hids.length<=L
 gi:∀d,d∈i.grps->d.items.length<=L
 si:∀d,d∈i.svcs->d.items.length<=L
 wi:∀d,d∈i.wins->d.act.length<=L
def rS{α:Type}(f:α->Nat)(l:List α):Nat:=(l.map f).sum
theorem F5{α:Type}{f:α->Nat}{l:List α}{k:Nat}{d:α}(h:l[k]? =some d):rS f (l.take (k+1))=rS f (l.take k)+f d:=by
 unfold rS;rw[bF,h];simp
theorem Xb{α:Type}{f:α->Nat}{L:Nat}:∀{l:List α},(∀d,d∈l->f d<=L)->rS f l<=l.length*L
 |[],_=>by simp[rS]
 |d::l,h=>by
  have h1:=h d zx;have h2:=Xb (l:=l) fun e he=>h e (by simp[he]);unfold rS at*;simp only[aR,dC,aB,fX];omega
theorem F6{α:Type}{f:α->Nat}{L n:Nat}{l:List α}(h:∀d,d∈l->f d<=L)(hn:l.length<=n)(k:Nat):rS f (l.take k)<=n*L:=
 bA (Xb fun d hd=>h d (cL hd)) (bZ _ (by rw[aZ];omega))
def U0(i:Nt):Nat:=i.grps.length+i.svcs.length+i.wins.length+i.sts.length+i.pubs.length+i.hids.length
def Ls(i:Nt):Bool:=decide (14<U0 i)||decide (4<i.sts.length)||decide (30<U0 i+rS (fun d=>d.items.length) i.grps+rS (fun d=>d.items.length) i.svcs+rS (fun d=>d.act.length) i.wins)
theorem aJg(i:Nt)(hl:LenNt 140737488351232 i){K:KT}(hK:K (.sb (Ls i)) []):AC 13 [iS i] [] K:=by
 refine gP (aGK rfl rfl ?_);obtain⟨gs,ss,ws,ts,ps,hs'⟩:=i;obtain⟨h1,h2,h3,h4,h5,h6,h7,h8,h9⟩:=hl;simp only at h1 h2 h3 h4 h5 h6 h7 h8 h9;generalize hsx:((gs.map iG).length:Int)+((ss.map iG).length:Int)+((ws.map jD).length:Int)+((ts.map jI).length:Int)+((ps.map kG).length:Int)+((hs'.map kK).length:Int)=sx at*;have hsx':sx=(U0 ⟨gs,ss,ws,ts,ps,hs'⟩:Nat):=by rw[<-hsx];simp only[U0,aA];omega
 have hs6:U0 ⟨gs,ss,ws,ts,ps,hs'⟩=gs.length+ss.length+ws.length+ts.length+ps.length+hs'.length:=rfl;unfold Ls at hK;simp only at hK;generalize U0 ⟨gs,ss,ws,ts,ps,hs'⟩=sn at*;(repeat' ((conv=>whnf);first|(with_reducible refine jB rfl (by(try simp only[aA]);omega) (by(try simp only[aA]);omega) ?_)|refine zG ?_|apply zA|intro h|exact zT));all_goals conv=>whnf
 all_goals simp only[hsx]at*
 ·refine jU hK ?_;simp only[bR,aM];omega
 ·simp only[aA]at*;refine jU hK ?_;simp only[bR,aM];omega
 have e1:gs.length<=14:=by omega
 have e2:ss.length<=14:=by omega
 have e3:ws.length<=14:=by omega
 have t1:=fun k=>F6 h7 e1 k;have t2:=fun k=>F6 h8 e2 k;have t3:=fun k=>F6 h9 e3 k;refine gM (Nat×Int) (fun g=>⟨1,[(0,mD ⟨gs,ss,ws,ts,ps,hs'⟩)],[(1,.op 0 0),(3,.v (.int .i64 g.2)),(4,.v (.int .i64 g.1))]⟩) (fun g=>g.1<=gs.length/\g.2=(sn+rS (fun d=>d.items.length) (gs.take g.1):Nat)) (fun g=>gs.length-g.1) (0,sx) ⟨aO _,by simp[hsx',rS]⟩ ?_ ?_
 ·exact leA
 rintro⟨k,n⟩ ⟨hk,hn⟩
 simp only at hk hn⊢;have q1:=t1 k;rcases aC k gs.length with hkl|hkl
 ·obtain⟨d,hd⟩:=gex hkl;have hs:=F5 (f:=fun d=>d.items.length) hd;have q2:=t1 (k+1);(repeat' ((conv=>whnf);first|(with_reducible first|refine hZ hkl ?_|refine hU hd ?_|refine jB rfl (by(try simp only[aA]);omega) (by(try simp only[aA]);omega) ?_)|refine zG ?_|apply zA|intro h|exact zT));all_goals conv=>whnf
  refine⟨(k+1,n+((d.items.map kM).length:Int)),⟨hkl,?_⟩,by simp only;omega,?_⟩
  ·simp only[aA];rw[hs,hn];push_cast;omega
  ·simp only[aN,aL];exact leA
 rw[aU hkl]at hn q1;(repeat' ((conv=>whnf);first|refine zG ?_|apply zA|intro h|exact zT));all_goals conv=>whnf
 refine gM (Nat×Int) (fun g=>⟨1,[(0,mD ⟨gs,ss,ws,ts,ps,hs'⟩)],[(1,.op 0 0),(3,.v (.int .i64 g.2)),(5,.v (.int .i64 g.1))]⟩) (fun g=>g.1<=ss.length/\g.2=(sn+rS (fun d=>d.items.length) gs+rS (fun d=>d.items.length) (ss.take g.1):Nat)) (fun g=>ss.length-g.1) (0,n) ⟨aO _,by simp[hn,rS]⟩ ?_ ?_
 ·exact leA
 rintro⟨k2,n2⟩ ⟨hk2,hn2⟩
 simp only at hk2 hn2⊢;have q2:=t2 k2;rcases aC k2 ss.length with hkl2|hkl2
 ·obtain⟨d,hd⟩:=gex hkl2;have hs:=F5 (f:=fun d=>d.items.length) hd;have q3:=t2 (k2+1);(repeat' ((conv=>whnf);first|(with_reducible first|refine hZ hkl2 ?_|refine hU hd ?_|refine jB rfl (by(try simp only[aA]);omega) (by(try simp only[aA]);omega) ?_)|refine zG ?_|apply zA|intro h|exact zT));all_goals conv=>whnf
  refine⟨(k2+1,n2+((d.items.map kM).length:Int)),⟨hkl2,?_⟩,by simp only;omega,?_⟩
  ·simp only[aA];rw[hs,hn2];push_cast;omega
  ·simp only[aN,aL];exact leA
 rw[aU hkl2]at hn2 q2;(repeat' ((conv=>whnf);first|refine zG ?_|apply zA|intro h|exact zT));all_goals conv=>whnf
 refine gM (Nat×Int) (fun g=>⟨1,[(0,mD ⟨gs,ss,ws,ts,ps,hs'⟩)],[(1,.op 0 0),(3,.v (.int .i64 g.2)),(6,.v (.int .i64 g.1))]⟩) (fun g=>g.1<=ws.length/\g.2=(sn+rS (fun d=>d.items.length) gs+rS (fun d=>d.items.length) ss+rS (fun d=>d.act.length) (ws.take g.1):Nat)) (fun g=>ws.length-g.1) (0,n2) ⟨aO _,by simp[hn2,rS]⟩ ?_ ?_
 ·exact leA
 rintro⟨k3,n3⟩ ⟨hk3,hn3⟩
 simp only at hk3 hn3⊢;have q3:=t3 k3;rcases aC k3 ws.length with hkl3|hkl3
 ·obtain⟨d,hd⟩:=gex hkl3;have hs:=F5 (f:=fun d=>d.act.length) hd;have q4:=t3 (k3+1);(repeat' ((conv=>whnf);first|(with_reducible first|refine hZ hkl3 ?_|refine hU hd ?_|refine jB rfl (by(try simp only[aA]);omega) (by(try simp only[aA]);omega) ?_)|refine zG ?_|apply zA|intro h|exact zT));all_goals conv=>whnf
  refine⟨(k3+1,n3+((d.act.map jR).length:Int)),⟨hkl3,?_⟩,by simp only;omega,?_⟩
  ·simp only[aA];rw[hs,hn3];push_cast;omega
  ·simp only[aN,aL];exact leA
 rw[aU hkl3]at hn3 q3;(repeat' ((conv=>whnf);first|refine zG ?_|apply zA|intro h|exact zT));all_goals conv=>whnf
 all_goals first
  |(refine jU hK ?_;simp only[bR,aM];omega)
  |(refine iL hK ?_;simp only[gK,decide_eq_false_iff_not];simp only[aA]at*;omega)
  |(refine jP hK ?_;rw[bK];simp only[bR,aM];simp only[aA]at*;omega)
theorem Ew{α:Type}{f:α->Nat}:∀{l:List α} {d:α},d∈l->f d<=rS f l
 |e::l,d,h=>by
  unfold rS;simp only[aR,dC];rcases aV.1 h with rfl|h
  ·omega
  ·have:=Ew (f:=f) h;unfold rS at this;omega
theorem Zw{i:Nt}(h:Ls i=false):Bnd i:=by
 unfold Ls at h;simp only[gK,decide_eq_false_iff_not]at h;obtain⟨⟨h1,h2⟩,h3⟩:=h;have h0:U0 i=i.grps.length+i.svcs.length+i.wins.length+i.sts.length+i.pubs.length+i.hids.length:=rfl;have a1:Hb i.grps=rS (fun d=>d.items.length) i.grps:=rfl;have a2:Hb i.svcs=rS (fun d=>d.items.length) i.svcs:=rfl;refine⟨by omega,by omega,by omega,by omega,by omega,by omega,fun d hd=>?_,fun d hd=>?_,fun d hd=>?_,by omega,by omega⟩
 ·have:=Ew (f:=fun d:Df=>d.items.length) hd;(try simp only at this);omega
 ·have:=Ew (f:=fun d:Df=>d.items.length) hd;(try simp only at this);omega
 ·have:=Ew (f:=fun d:Wn=>d.act.length) hd;(try simp only at this);omega
open Go Go.Vm Go.ChangeShapes Go.WideShapes Go.ChangeAt Go.RowKit
theorem Hu{α:Type}(enc:α->AV)(p:α->Prop):∀{L:List AV},(∀y,y∈L->∃a,y=enc a/\p a)->∃l:List α,L=l.map enc/\∀a,a∈l->p a
 |[],_=>⟨[],rfl,fun a h=>by cases h⟩
 |y::L,h=>by
  obtain⟨a,rfl,pa⟩:=h y zx;obtain⟨l,rfl,pl⟩:=Hu enc p (L:=L) fun z hz=>h z (by simp[hz]);exact⟨a::l,rfl,fun b hb=>by
   rcases aV.1 hb with rfl|hb
   ·exact pa
   ·exact pl b hb⟩
theorem aDZ{d L:Nat}{y:AV}(h:TyL Tryz.prog L (d+5) 101 y):∃x:Df,y=iG x/\x.items.length<=L:=by
 obtain⟨ys,hl,rfl,hf⟩:=h
 match ys,hl with
 |[a,b],_=>
  obtain⟨a,rfl,_⟩:=hf 0 _ a rfl rfl;obtain⟨b,rfl,_,hL,hb⟩:=hf 1 _ b rfl rfl;obtain⟨b,rfl⟩:=qZ kM fun y hy=>aUa (d:=d) (hb y hy).ty;exact⟨⟨a,b⟩,rfl,by simpa using hL⟩
theorem aPQ{d L:Nat}{y:AV}(h:TyL Tryz.prog L (d+4) 105 y):∃x:Wn,y=jD x/\x.act.length<=L:=by
 obtain⟨ys,hl,rfl,hf⟩:=h
 match ys,hl with
 |[a,b],_=>
  obtain⟨a,rfl,_⟩:=hf 0 _ a rfl rfl;obtain⟨b,rfl,_,hL,hb⟩:=hf 1 _ b rfl rfl;obtain⟨b,rfl⟩:=qZ jR fun y hy=>aEa (d:=d) (hb y hy).ty;exact⟨⟨a,b⟩,rfl,by simpa using hL⟩
theorem aPP{d L:Nat}{y:AV}(h:TyL Tryz.prog L (d+7) 35 y):∃i:Nt,y=iS i/\LenNt L i:=by
 obtain⟨ys,hl,rfl,hf⟩:=h
 match ys,hl with
 |[a,b,c,e,f,g],_=>
  obtain⟨a,rfl,_,la,ha⟩:=hf 0 _ a rfl rfl;obtain⟨b,rfl,_,lb,hb⟩:=hf 1 _ b rfl rfl;obtain⟨c,rfl,_,lc,hc⟩:=hf 2 _ c rfl rfl;obtain⟨e,rfl,_,le,he⟩:=hf 3 _ e rfl rfl;obtain⟨f,rfl,_,lf,hf'⟩:=hf 4 _ f rfl rfl;obtain⟨g,rfl,_,lg,hg⟩:=hf 5 _ g rfl rfl;obtain⟨a,rfl,qa⟩:=Hu iG _ fun y hy=>aDZ (d:=d) (ha y hy);obtain⟨b,rfl,qb⟩:=Hu iG _ fun y hy=>aDZ (d:=d) (hb y hy);obtain⟨c,rfl,qc⟩:=Hu jD _ fun y hy=>aPQ (d:=d+1) (hc y hy);obtain⟨e,rfl⟩:=qZ jI fun y hy=>aUc (d:=d+3) (he y hy).ty;obtain⟨f,rfl⟩:=qZ kG fun y hy=>aUb (d:=d+3) (hf' y hy).ty;obtain⟨g,rfl⟩:=qZ kK fun y hy=>aTZ (d:=d+2) (hg y hy).ty;simp only[aA]at la lb lc le lf lg;exact⟨⟨a,b,c,e,f,g⟩,rfl,⟨la,lb,lc,le,lf,lg,qa,qb,qc⟩⟩
theorem I1(l:List Df):Fine l [] []:=⟨List.Pairwise.nil,List.Pairwise.nil,Firsts.nil,Firsts.nil,fun n h=>(by cases h),fun n h=>(by cases h),fun n h=>(by cases h)⟩
theorem aEL(t:Tp)(ht:t.edges.length<1000)(l:List Df)(hl:l.length<=999)(hit:∀d,d∈l->d.items.length<=999)(nm:ByteArray){K:KT}
  (hK:K (.v (.int .i64 (fol (nU t) l (l.length+1) [] nm [] []).1)) [adO 2,kU t,Ee 4 (fol (nU t) l (l.length+1) [] nm [] []).2.2.length,.box [],G7 (fol (nU t) l (l.length+1) [] nm [] []).2.2]):
  AC 219 [.lst (l.map iG),.v (.string nm),.fn (.func 220) [] [.op 0 0,.op 1 0]] [adO 2,kU t,Ee 3 0,.arr 2 []] K:=by
 refine aDd rfl rfl ?_;have hc:∀{K:KT},K (.v (.int .i64 (fol (nU t) l (l.length+1) [] nm [] []).1)) [foO l,.map (mW l []),.map (mW l (fol (nU t) l (l.length+1) [] nm [] []).2.1),adO 5,kU t,Ee 7 (fol (nU t) l (l.length+1) [] nm [] []).2.2.length,.box [],G7 (fol (nU t) l (l.length+1) [] nm [] []).2.2]->
   AC 286 [.op 0 0,.v (.string nm)] [foO l,.map (fun _=>none),.map (fun _=>none),adO 5,kU t,Ee 6 0,.arr 2 []] K:=fun {K} h=>by
  rw[L0 l];exact aJt t ht l hl hit (l.length+1) [] nm [] [] (I1 l) zx zx h
 (repeat' ((conv=>whnf);first|(with_reducible refine hc ?_)|refine zG ?_|apply zA|intro h|exact zT));all_goals conv=>whnf
 exact hK
def tO(t:Tp)(l:List Df)(nm:ByteArray):Int×List Rg:=
 if sEq nm ⟨#[]⟩=true then(0,t.edges.map fun e=>e.pf.rg)else((fol (nU t) l (l.length+1) [] nm [] []).1,(fol (nU t) l (l.length+1) [] nm [] []).2.2)
theorem aAG(a:List Rg)(ha:a.length<900){K:KT}(hK:∀c,jC c->(∀v,has c v=has a v)->c.length<=a.length->K (iH c) []):AC 135 [iH a,.lst []] [] K:=
 c18 a [] ha zx fun c h1 h2 h3=>hK c h1 (fun v=>by rw[h2];simp[oS]) (by simpa using h3)
theorem aQQ(t:Tp)(ht:t.edges.length<900)(i:Nt)(hl:i.grps.length<=999)(hit:∀d,d∈i.grps->d.items.length<=999)(nm:ByteArray)(hb:(tO t i.grps nm).1=0->(tO t i.grps nm).2.length<900){K:KT}
  (hK1:(tO t i.grps nm).1≠0->K (.tup [.lst [],.v (.int .i64 (tO t i.grps nm).1)]) [])
  (hK2:(tO t i.grps nm).1=0->∀c,jC c->(∀v,has c v=has (tO t i.grps nm).2 v)->c.length<=(tO t i.grps nm).2.length->K (.tup [iH c,.v (.int .i64 0)]) []):
  AC 145 [kB t,iS i,.v (.string nm)] [] K:=by
 refine gQ (aPe rfl rfl ?_);unfold tO at hb hK1 hK2;by_cases hnm:sEq nm ⟨#[]⟩=true
 ·simp only[aH hnm]at hb hK1 hK2;have hnm2:(nm.toList==(⟨#[]⟩:ByteArray).toList)=true:=hnm;(repeat' ((conv=>whnf);first|refine zG ?_|apply zA|intro h|exact zT));all_goals conv=>whnf
  all_goals first
   |skip
  refine gM (Nat×List Rg) (fun g=>⟨5,[(4,adO 2),(3,G7 g.2),(2,Ee 3 g.2.length)],[(8,.op 2 0),(9,.op 4 0),(17,.lst (t.edges.map mX)),(18,.v (.int .i64 (t.edges.map mX).length)),(19,.v (.int .i64 g.1))]⟩)
   (fun g=>g.1<=t.edges.length/\g.2=(t.edges.take g.1).map fun e=>e.pf.rg) (fun g=>t.edges.length-g.1) (0,[]) ⟨aO _,rfl⟩ ?_ ?_
  ·exact leA
  rintro⟨k,out⟩ ⟨hk,ho⟩
  simp only at hk ho⊢;have hol:out.length=k:=by rw[ho,aA,aZ];omega
  rcases aC k t.edges.length with hkl|hkl
  ·obtain⟨e,he⟩:=gex hkl;(repeat' ((conv=>whnf);first|(with_reducible first|refine hZ hkl ?_|refine hU he ?_|refine aAF e.pf out zo ?_)|refine zG ?_|apply zA|intro h|exact zT));all_goals conv=>whnf
   refine⟨(k+1,out++[e.pf.rg]),⟨hkl,?_⟩,by simp only;omega,?_⟩
   ·simp only;rw[ho,bF,he,aQ];rfl
   ·simp only[aN,aL];exact leA
  ·have hke:k=t.edges.length:=by omega
   rw[hke,dA]at ho;rw[<-ho]at hK2;(repeat' ((conv=>whnf);first|(with_reducible first|refine iP (aA ..) ?_|refine aAG out zo fun c hc1 hc2 hc3=>?_)|refine zG ?_|apply zA|intro h|exact zT));all_goals conv=>whnf
   exact⟨_,gO,hK2 trivial c hc1 hc2 hc3⟩
 ·simp only[aF hnm]at hb hK1 hK2;have hnm2:(nm.toList==(⟨#[]⟩:ByteArray).toList)=false:=by simpa[sEq]using hnm
  have hc:=fun {K} h=>@aEL t zo i.grps hl hit nm K h;generalize fol (nU t) i.grps (i.grps.length+1) [] nm [] []=q at*;obtain⟨qe,qd,qs⟩:=q;simp only at hb hK1 hK2 hc;(repeat' ((conv=>whnf);first|(with_reducible first|refine hc ?_|refine iP (aA ..) ?_|refine aAG qs (hb zp) fun c hc1 hc2 hc3=>?_)|refine zG ?_|apply zA|intro h|exact zT));all_goals conv=>whnf
  all_goals first
   |(exfalso;simp_all;done)
   |exact⟨_,gO,hK2 zp c hc1 hc2 hc3⟩
   |exact⟨_,gR gS gO,hK1 zp⟩
def Kw(l:List Df)(d:List Nat):Nat:=(d.map fun n=>((l[n]?).map fun x=>x.items.length).getD 0).sum
theorem Zj{l:List Df}{d:List Nat}{n:Nat}{x:Df}(h:l[n]? =some x):Kw l (d++[n])=Kw l d+x.items.length:=by
 rw[Kw,aQ,List.sum_append,<-Kw];simp[h]
theorem U7(l:List Df):Kw l (List.range l.length)=Hb l:=by
 unfold Kw Hb
 congr 1
 refine List.ext_getElem zx fun i h1 h2=>?_;have:i<l.length:=by simpa using h2
 simp[aE this]
theorem Zg{l:List Nat}{f:Nat->Nat}{x:Nat}(h:x∈l):(l.map f).sum=f x+((l.erase x).map f).sum:=by
 induction l with
 |nil=>simp at h
 |cons y l ih=>
  by_cases hy:y=x
  ·subst hy;simp
  ·have hx:x∈l:=by rcases aV.1 h with h|h;exact absurd h.symm hy;exact h
   have e:(y::l).erase x=y::l.erase x:=by rw[List.erase_cons_tail (by simpa using hy)]
   rw[e,aR,dC,ih hx,aR,dC];omega
theorem Mr{f:Nat->Nat}:∀{d m:List Nat},d.Nodup->(∀x,x∈d->x∈m)->(d.map f).sum<=(m.map f).sum
 |[],m,_,_=>aO _
 |x::d,m,hn,hs=>by
  obtain⟨h1,h2⟩:=List.nodup_cons.1 hn;rw[Zg (hs x zx),aR,dC];have:=Mr (f:=f) (m:=m.erase x) h2 fun y hy=>(List.mem_erase_of_ne (fun e=>h1 (by rw[<-e];exact hy))).2 (hs y (aS _ hy));omega
theorem aIZ{l:List Df}{d:List Nat}(hn:d.Nodup)(hl:∀n,n∈d->n<l.length):Kw l d<=Hb l:=by
 rw[<-U7];exact Mr hn fun x hx=>dJ.2 (hl x hx)
section
variable {S:Type} (v:It->S->Int×S) (sz:S->Nat) (c:Nat) (hv:∀x s,(v x s).1=0->sz (v x s).2<=sz s+c)
structure Fit (l:List Df) (p d:List Nat) (s:S) (d':List Nat) (s':S) (k:Nat):Prop where
 fine:Fine l p d'
 size:sz s'+c*Kw l d<=sz s+c*Kw l d'+c*k
include hv
theorem Qx{l:List Df}{p:List Nat}{rec:ByteArray->List Nat->S->Int×List Nat×S}(hrec:∀nm d s,Fine l p d->(rec nm d s).1=0->Fit sz c l p d s (rec nm d s).2.1 (rec nm d s).2.2 0):
  ∀(its:List It) (d:List Nat) (s:S),Fine l p d->(pS v rec its d s).1=0->Fit sz c l p d s (pS v rec its d s).2.1 (pS v rec its d s).2.2 its.length
 |[],d,s,hf,_=>⟨hf,by simp[pS]⟩
 |x::r,d,s,hf,h=>by
  rw[pE]at h⊢;have hq:(if x.kind=3 then rec x.name d s else((v x s).1,d,(v x s).2)).1=0->Fit sz c l p d s (if x.kind=3 then rec x.name d s else((v x s).1,d,(v x s).2)).2.1 (if x.kind=3 then rec x.name d s else((v x s).1,d,(v x s).2)).2.2 1:=by
   by_cases hk:x.kind=3
   ·rw[aH hk];intro h0;have:=hrec x.name d s hf h0;exact⟨this.fine,by have:=this.size;omega⟩
   ·rw[aF hk];intro h0;exact⟨hf,by have:=hv x s h0;simp only;omega⟩
  generalize (if x.kind=3 then rec x.name d s else((v x s).1,d,(v x s).2))=q at*;by_cases h0:q.1=0
  ·rw[aH h0]at h⊢;have hq:=hq h0;have h2:=Qx hrec r q.2.1 q.2.2 hq.fine h;exact⟨h2.fine,by have:=hq.size;have:=h2.size;rw[aB,Nat.mul_succ];omega⟩
  ·rw[aF h0]at h;exact absurd h h0
theorem V8(l:List Df):∀(k:Nat) (p:List Nat) (nm:ByteArray) (d:List Nat) (s:S),Fine l p d->(fol v l k p nm d s).1=0->
  Fit sz c l p d s (fol v l k p nm d s).2.1 (fol v l k p nm d s).2.2 0
 |0,p,nm,d,s,hf,h=>by simp[fol]at h
 |k+1,p,nm,d,s,hf,h=>by
  unfold fol at h⊢;cases hn:lK l nm with
  |none=>simp[hn]at h
  |some n=>
   simp only[hn]at h⊢;split at h
   ·simp at h
   rename_i hp;rw[aF hp];split at h
   ·rename_i hd;rw[aH hd];exact⟨hf,by simp⟩
   rename_i hd;rw[aF hd];obtain⟨df,hdf,_⟩:=lD hn;simp only[hdf,dF,cY]at h⊢;have hpush:=hf.push hn hp hd;split at h
   ·rename_i h0;rw[aH h0];have h1:=Qx v sz c hv (fun nm d s hf h=>V8 l k (p++[n]) nm d s hf h) df.items d s hpush h0;refine⟨h1.fine.pop hn,?_⟩;have:=h1.size;simp only;rw[Zj hdf,fU];omega
   ·rename_i h0;exact absurd h h0
theorem N7(l:List Df)(nm:ByteArray)(s:S)(h:(fol v l (l.length+1) [] nm [] s).1=0):sz (fol v l (l.length+1) [] nm [] s).2.2<=sz s+c*Hb l:=by
 have h1:=V8 v sz c hv l (l.length+1) [] nm [] s (I1 l) h;have h2:=aIZ h1.fine.dn h1.fine.dl;have h3:=h1.size;have h4:=dY c h2;have h5:Kw l []=0:=rfl;rw[h5]at h3;omega
end
theorem Q6{t:Tp}{l:List Df}{nm:ByteArray}(h12:t.edges.length<=12)(h:(tO t l nm).1=0):(tO t l nm).2.length<=12+12*Hb l:=by
 unfold tO at h⊢;split
 ·simp only[aA];omega
 ·rename_i hn;rw[aF hn]at h;have:=N7 (nU t) List.length 12 (fun x s h0=>by
   unfold nU at h0⊢;have hll:=vD (fun e=>sEq e.zone x.name) t.edges t.edges.length;split
   ·rw[aD];simp
   ·split
    ·simp
    ·rw[aD,aA];omega) l nm [] h
  simp only[aG]at this⊢;omega
def lZ(t:Tp)(i:Nt)(nm:ByteArray):List Rg×Int:=if(tO t i.grps nm).1=0 then(uR (has (tO t i.grps nm).2),0)else([],(tO t i.grps nm).1)
def Ez:List It->List Bx->List Bx×Int
 |[],s=>(s,0)
 |x::r,s=>if(iF anB initS [oX x]).2≠0 then([],(iF anB initS [oX x]).2)else if(iF orB s (iF anB initS [oX x]).1).2≠0 then([],(iF orB s (iF anB initS [oX x]).1).2)else Ez r (iF orB s (iF anB initS [oX x]).1).1
def xJ(l:List Df)(nm:ByteArray):Int×List It:=((fol oP l (l.length+1) [] nm [] []).1,(fol oP l (l.length+1) [] nm [] []).2.2)
def qK(i:Nt)(nm:ByteArray):List Bx×Int:=if sEq nm ⟨#[]⟩=true then(initS,0)else if(xJ i.svcs nm).1≠0 then([],(xJ i.svcs nm).1)else Ez (xJ i.svcs nm).2 []
def sG{α:Type}(x:α×Int)(k:α->List Bx×Int):List Bx×Int:=if x.2≠0 then([],x.2)else k x.1
theorem jG{α:Type}{x:α×Int}{k:α->List Bx×Int}(h:x.2=0):sG x k=k x.1:=by rw[sG,aF zo]
theorem lN{α:Type}{x:α×Int}{k:α->List Bx×Int}(h:x.2≠0):sG x k=([],x.2):=by rw[sG,aH h]
def kV(t:Tp)(i:Nt)(s:Sm):List Bx×Int:=
 sG (lZ t i s.frm) fun f=>sG (lZ t i s.to) fun g=>sG (qK i s.svc) fun v=>
 sG (if s.exc then lZ t i s.exF else([],0)) fun o=>sG (if s.exc then lZ t i s.exT else([],0)) fun n=>
 sG (kR (kZ f g)) fun b=>if(iF anB b v).2≠0\/s.exc=false then iF anB b v else
 sG (kR (kZ o n)) fun b2=>iF woB (iF anB b v).1 b2
def vE(t:Tp)(i:Nt)(s:Sm):Int:=
 if(sEq s.cls ⟨#[]⟩||t.devs.any fun d=>sEq d.cls s.cls)&&(sEq s.dur ⟨#[]⟩||i.wins.any fun w=>sEq w.name s.dur)then 0 else 5
def lG{α:Type}(f:α->Int):List α->Int
 |[]=>0
 |x::l=>if f x≠0 then f x else lG f l
def Qc(t:Tp)(i:Nt):Int:=
 let a:=lG (fun d:Df=>(lZ t i d.name).2) i.grps
 if a≠0 then a else
 let b:=lG (fun d:Df=>(qK i d.name).2) i.svcs
 if b≠0 then b else
 let c:=lG (fun s:Sm=>if(kV t i s).2≠0 then(kV t i s).2 else vE t i s) i.sts
 if c≠0 then c else
 let d:=lG (fun p:Pb=>if lP t.edges p.edge<0 then 5 else 0) i.pubs
 if d≠0 then d else
 lG (fun h:Hn=>if lP t.edges h.edge<0 then 5 else(lZ t i h.grp).2) i.hids
theorem lS{s:List Bx}(h:kN s=true):s.length<1000000000:=by have:=(rZ h).len;omega
theorem zH{t:Tp}(hc:lT t=true):t.edges.length<=12:=(compB_iff.1 hc).1.e1
theorem aJo(t:Tp)(hc:lT t=true)(i:Nt)(hb:Bnd i)(nm:ByteArray){K:KT}(hK:K (.tup [iH (lZ t i nm).1,.v (.int .i64 (lZ t i nm).2)]) []):AC 145 [kB t,iS i,.v (.string nm)] [] K:=by
 have h12:=zH hc;have hits:=hb.its;refine aQQ t zo i hb.g hb.gi nm (fun h=>?_) (fun h=>?_) fun h c hc hh hl=>?_
 ·have:=Q6 (l:=i.grps) h12 h;omega
 ·rw[lZ,aF h]at hK;exact hK
 ·rw[lZ,aH h,uS hc hh]at hK;exact hK
theorem Q7{t:Tp}(hc:lT t=true){i:Nt}(hb:Bnd i)(nm:ByteArray):(lZ t i nm).1.length<=860:=by
 have h12:=zH hc;have hits:=hb.its;unfold lZ;split
 ·rename_i h;have:=Q6 (l:=i.grps) h12 h;have:=Dl (tO t i.grps nm).2;simp only;omega
 ·exact aO _
theorem aQS(l:List Df)(hl:l.length<=999)(hit:∀d,d∈l->d.items.length<=999)(nm:ByteArray){K:KT}
  (hK:K (.v (.int .i64 (xJ l nm).1)) [itO 2 (xJ l nm).2.length,.box [],arI (xJ l nm).2]):
  AC 219 [.lst (l.map iG),.v (.string nm),.fn (.func 222) [] [.op 0 0]] [itO 1 0,.arr 7 []] K:=by
 refine aPg rfl rfl ?_;unfold xJ at hK;have hc:∀{K:KT},K (.v (.int .i64 (fol oP l (l.length+1) [] nm [] []).1)) [fsO l,.map (mW l []),.map (mW l (fol oP l (l.length+1) [] nm [] []).2.1),itO 5 (fol oP l (l.length+1) [] nm [] []).2.2.length,.box [],arI (fol oP l (l.length+1) [] nm [] []).2.2]->
   AC 286 [.op 0 0,.v (.string nm)] [fsO l,.map (fun _=>none),.map (fun _=>none),itO 4 0,.arr 7 []] K:=fun {K} h=>by
  rw[L0 l];exact aJu l hl hit (l.length+1) [] nm [] [] (I1 l) zx zx h
 (repeat' ((conv=>whnf);first|(with_reducible refine hc ?_)|refine zG ?_|apply zA|intro h|exact zT));all_goals conv=>whnf
 exact hK
theorem Ss{l:List Df}{nm:ByteArray}(h:(xJ l nm).1=0):(xJ l nm).2.length<=Hb l:=by
 unfold xJ at h⊢;have:=N7 oP List.length 1 (fun x s _=>by simp[oP]) l nm [] h;simp only[aG]at this;simp only;omega
theorem Dg{x:It}{r:List It}{s:List Bx}:Ez (x::r) s=if(iF anB initS [oX x]).2≠0 then([],(iF anB initS [oX x]).2)else if(iF orB s (iF anB initS [oX x]).1).2≠0 then([],(iF orB s (iF anB initS [oX x]).1).2)else Ez r (iF orB s (iF anB initS [oX x]).1).1:=rfl
theorem aJq(i:Nt)(hb:Bnd i)(nm:ByteArray){K:KT}(hK:K (.tup [iE (qK i nm).1,.v (.int .i64 (qK i nm).2)]) []):AC 146 [iS i,.v (.string nm)] [] K:=by
 refine gQ (aPh rfl rfl ?_);unfold qK at hK;by_cases hnm:sEq nm ⟨#[]⟩=true
 ·rw[aH hnm]at hK;have hnm2:(nm.toList==(⟨#[]⟩:ByteArray).toList)=true:=hnm;(repeat' ((conv=>whnf);first|(with_reducible refine Ir ?_)|refine zG ?_|apply zA|intro h|exact zT));all_goals conv=>whnf
  exact⟨_,gO,hK⟩
 ·rw[aF hnm]at hK;have hnm2:(nm.toList==(⟨#[]⟩:ByteArray).toList)=false:=by simpa[sEq]using hnm
  have hc:=fun {K} h=>@aQS i.svcs hb.s hb.si nm K h;have hlen:=Ss (l:=i.svcs) (nm:=nm);have hsn:=hb.sits;generalize xJ i.svcs nm=q at*;obtain⟨qe,its⟩:=q;simp only at hK hc hlen;(repeat' ((conv=>whnf);first|(with_reducible refine hc ?_)|refine zG ?_|apply zA|intro h|exact zT));all_goals conv=>whnf
  ·rw[aF zo]at hK;have hlen:=hlen h;refine gM (Nat×List Bx) (fun g=>⟨4,[],[(8,iE g.2),(25,.lst (its.map kM)),(26,.v (.int .i64 (its.map kM).length)),(27,.v (.int .i64 g.1))]⟩) (fun g=>g.1<=its.length/\kN g.2=true/\Ez its []=Ez (its.drop g.1) g.2) (fun g=>its.length-g.1) (0,[]) ⟨aO _,lC,by rw[cA]⟩ ?_ ?_
   ·exact leA
   rintro⟨k,s⟩ ⟨hk,hs,heq⟩
   simp only at hk hs heq⊢;have hsl:=lS hs;rcases aC k its.length with hkl|hkl
   ·obtain⟨x,hx⟩:=gex hkl;have hd:its.drop k=x::its.drop (k+1):=by
     rw[aE hkl]at hx;rw[<-bG hx,<-bB hkl]
    rw[hd,Dg]at heq;have hq:∀{K:KT},K (.tup [iE (iF anB initS [oX x]).1,.v (.int .i64 (iF anB initS [oX x]).2)]) []->AC 77 [iE initS,.lst [.agg [.v (.int .u32 fullB.r0.lo),.v (.int .u32 fullB.r0.hi),.v (.int .u32 fullB.r1.lo),.v (.int .u32 fullB.r1.hi),.v (.int .u32 (wu x.proto)),.v (.int .u32 (wu x.proto)),.v (.int .u32 fullB.r3.lo),.v (.int .u32 fullB.r3.hi),.v (.int .u32 x.ports.lo),.v (.int .u32 x.ports.hi)]]] [] K:=fun {K} h=>@Lc initS [oX x] zd zx K h;have hsA:=jM anB initS [oX x];have hsB:=jM orB s (iF anB initS [oX x]).1;have hu:=fun {K} h=>@aQX s (iF anB initS [oX x]).1 zo (by have:=lS hsA;omega) K h;generalize iF orB s (iF anB initS [oX x]).1=B at*;generalize iF anB initS [oX x]=A at*;obtain⟨As,Ae⟩:=A;obtain⟨Bs,Be⟩:=B;simp only at heq hsA hsB hu hq;(repeat' ((conv=>whnf);first|(with_reducible first|refine hZ hkl ?_|refine hU hx ?_|refine Ny ?_)|(refine kP zd ?_)|(with_reducible first|refine My ?_|refine Ir ?_)|(refine iP (by rfl) ?_)|(with_reducible first|refine hq ?_|refine hu ?_)|refine zG ?_|apply zA|intro h|exact zT));all_goals conv=>whnf
    all_goals first
     |(rw[aF (fun hn=>hn zw),aF (fun hn=>hn zw)]at heq
       refine⟨(k+1,Bs),⟨hkl,hsB,heq⟩,by simp only;omega,?_⟩;simp only[aN,aL];exact leA)
     |(rw[aH h]at heq
       rw[heq]at hK;exact⟨_,gR gS gO,hK⟩)
     |(rw[aF (fun hn=>hn zw),aH h]at heq
       rw[heq]at hK;exact⟨_,gR gS gO,hK⟩)
   ·rw[bV hkl]at heq;rw[heq]at hK;(repeat' ((conv=>whnf);first|refine zG ?_|apply zA|intro h|exact zT));all_goals conv=>whnf
    exact⟨_,gO,hK⟩
  ·rw[aH zp]at hK;exact⟨_,gR gS gO,hK⟩
theorem Ms:∀(its:List It) (s:List Bx),kN s=true->kN (Ez its s).1=true
 |[],s,h=>h
 |x::r,s,h=>by
  rw[Dg];split
  ·exact lC
  ·split
   ·exact lC
   ·exact Ms r _ (jM ..)
theorem Su(i:Nt)(nm:ByteArray):kN (qK i nm).1=true:=by
 unfold qK;split
 ·exact wT
 ·split
  ·exact lC
  ·exact Ms _ _ lC
theorem Z6(a:List Rg)(r:Rg)(b:List Rg):kZ (a++[r]) b=kZ a b++b.map fun s=>rL r s:=by simp[kZ]
theorem Nc(b:List Rg):∀a:List Rg,(kZ a b).length=a.length*b.length
 |[]=>by simp[kZ]
 |r::a=>by
  have:=Nc b a;simp only[kZ,dD,aD,aA,aB,fX]at*;omega
theorem aJm(a b:List Rg)(ha:a.length<=860)(hb:b.length<=860){K:KT}(hK:K (.tup [iE (kR (kZ a b)).1,.v (.int .i64 (kR (kZ a b)).2)]) []):AC 155 [iH a,iH b] [] K:=by
 refine aOG rfl rfl ?_;(repeat' ((conv=>whnf);first|refine zG ?_|apply zA|intro h|exact zT));all_goals conv=>whnf
 refine gM Nat (fun i=>⟨1,[(0,.arr 10 ((kZ (a.take i) b).map iY))],[(1,iH b),(6,.os 0 10 0 (kZ (a.take i) b).length),(12,iH a),(13,.v (.int .i64 (a.map jR).length)),(14,.v (.int .i64 i))]⟩) (fun i=>i<=a.length) (fun i=>a.length-i) 0 (aO _) ?_ ?_
 ·rw[cP,show kZ [] b=[]from rfl];exact leA
 intro i hi;have hl:=Nc b (a.take i);have hm:(a.take i).length*b.length<=860*860:=eJ (by rw[aZ];omega) hb;rcases aC i a.length with hil|hil
 ·obtain⟨r,hr⟩:=gex hil;have hs:kZ (a.take (i+1)) b=kZ (a.take i) b++b.map fun s=>rL r s:=by rw[bF,hr];exact Z6 ..
  generalize kZ (a.take i) b=A at*;(repeat' ((conv=>whnf);first|(with_reducible first|refine hZ hil ?_|refine hU hr ?_)|refine zG ?_|apply zA|intro h|exact zT));all_goals conv=>whnf
  refine gM Nat (fun k=>⟨2,[(0,.arr 10 ((A++(b.take k).map fun s=>rL r s).map iY)),(1,.box [.v (.int .u32 r.lo),.v (.int .u32 r.hi)])],[(1,iH b),(6,.os 0 10 0 (A++(b.take k).map fun s=>rL r s).length),(8,.op 1 0),(12,iH a),(13,.v (.int .i64 (a.map jR).length)),(14,.v (.int .i64 i)),(18,iH b),(19,.v (.int .i64 (b.map jR).length)),(20,.v (.int .i64 k))]⟩) (fun k=>k<=b.length) (fun k=>b.length-k) 0 (aO _) ?_ ?_
  ·rw[cP,bL,bI];exact leA
  intro k hk;rcases aC k b.length with hkl|hkl
  ·obtain⟨s,hs2⟩:=gex hkl;have hap:(A++(b.take (k+1)).map fun s=>rL r s)=(A++(b.take k).map fun s=>rL r s)++[rL r s]:=by rw[bF,hs2];simp
   have hlen:(A++(b.take k).map fun s=>rL r s).length<=1000000:=by rw[aD,aA,aZ];omega
   generalize hB:(A++(b.take (k+1)).map fun s=>rL r s)=B at*;generalize (A++(b.take k).map fun s=>rL r s)=C at*;(repeat' ((conv=>whnf);first|(with_reducible first|refine Ny ?_|refine hZ hkl ?_|refine hU hs2 ?_)|(refine kP zd ?_)|(refine iP (by rfl) ?_)|refine zG ?_|apply zA|intro h|exact zT));all_goals conv=>whnf
   all_goals
    refine⟨k+1,hkl,by omega,?_⟩;rw[hB,hap,aQ,aD,aN k,aL];exact leA
  ·(repeat' ((conv=>whnf);first|refine zG ?_|apply zA|intro h|exact zT));all_goals conv=>whnf
   have hke:k=b.length:=by omega
   rw[hke,dA,<-hs];refine⟨i+1,hil,by omega,?_⟩;rw[aN i,aL];exact leA
 ·have hie:i=a.length:=by omega
  have hbl:(kZ a b).length<1000000000:=by
   have:=eJ ha hb;rw[Nc];omega
  rw[hie,dA];have hfull:((kZ a b).map iY).length=(kZ a b).length:=aA ..;(repeat' ((conv=>whnf);first|(with_reducible first|refine iP hfull ?_|refine Tk (kZ a b) hbl ?_)|refine zG ?_|apply zA|intro h|exact zT));all_goals conv=>whnf
  exact hK
theorem aJp(t:Tp)(hc:lT t=true)(i:Nt)(hb:Bnd i)(s:Sm){K:KT}(hK:K (.tup [iE (kV t i s).1,.v (.int .i64 (kV t i s).2)]) []):AC 78 [kB t,iS i,jI s] [] K:=by
 refine gQ (aOJ rfl rfl ?_);have hl:=fun nm=>Q7 hc hb nm;have hg:=fun(nm:ByteArray) {K:KT} h=>@aJo t hc i hb nm K h;unfold kV at hK;have l1:=hl s.frm;have l2:=hl s.to;have l4:=hl s.exF;have l5:=hl s.exT;have g1:=fun {K} h=>@hg s.frm K h;have g2:=fun {K} h=>@hg s.to K h;have g4:=fun {K} h=>@hg s.exF K h;have g5:=fun {K} h=>@hg s.exT K h;have g3:=fun {K} h=>@aJq i hb s.svc K h;have s3:=Su i s.svc;generalize lZ t i s.frm=F at*;generalize lZ t i s.to=G at*;generalize lZ t i s.exF=O at*;generalize lZ t i s.exT=N at*;generalize qK i s.svc=V at*;obtain⟨Fs,Fe⟩:=F;obtain⟨Gs,Ge⟩:=G;obtain⟨Os,Oe⟩:=O;obtain⟨Ns,Ne⟩:=N;obtain⟨Vs,Ve⟩:=V;simp only at l1 l2 l4 l5 g1 g2 g3 g4 g5 s3 hK;(repeat' ((conv=>whnf);first|(with_reducible first|refine g1 ?_|refine g2 ?_|refine g3 ?_)|refine zG ?_|apply zA|intro h|exact zT));all_goals conv=>whnf
 rotate_left
 ·rw[jG (x:=(Fs,Fe)) zw,jG (x:=(Gs,Ge)) zw,lN (x:=(Vs,Ve)) h]at hK;exact⟨_,gR gS gO,hK⟩
 ·rw[jG (x:=(Fs,Fe)) zw,lN (x:=(Gs,Ge)) h]at hK;exact⟨_,gR gS gO,hK⟩
 ·rw[lN (x:=(Fs,Fe)) h]at hK;exact⟨_,gR gS gO,hK⟩
 rw[jG (x:=(Fs,Fe)) zw,jG (x:=(Gs,Ge)) zw,jG (x:=(Vs,Ve)) h]at hK;simp only at hK;have hvl:=lS s3;have b1:=fun {K} h=>@aJm Fs Gs l1 l2 K h;have sB:=pA (kZ Fs Gs);have i1:=fun {K} h=>@Lc (kR (kZ Fs Gs)).1 Vs (lS sB) hvl K h;have sC:=jM anB (kR (kZ Fs Gs)).1 Vs;have b2:=fun {K} h=>@aJm Os Ns l4 l5 K h;have sD:=pA (kZ Os Ns);have i2:=fun {K} h=>@aAL (iF anB (kR (kZ Fs Gs)).1 Vs).1 (kR (kZ Os Ns)).1 (lS sC) (lS sD) K h;by_cases hex:s.exc=true
 ·simp only[hex,if_true]at hK;refine gY Unit (fun _=>⟨3,[(2,.box [.sb s.permit,.v (.string s.frm),.v (.string s.to),.v (.string s.svc),.sb s.exc,.v (.string s.exF),.v (.string s.exT),.v (.string s.cls),.v (.string s.dur),.v (.int .i64 s.pri)])],[(5,.op 2 0),(8,iH Fs),(10,iH Gs),(11,iE Vs),(12,iH Os),(13,iH Ns)]⟩) (fun _=>Oe=0/\Ne=0) ?_ ?_
  ·(repeat' ((conv=>whnf);first|(with_reducible first|refine g4 ?_|refine g5 ?_)|refine zG ?_|apply zA|intro h|exact zT));all_goals conv=>whnf
   all_goals first
    |(refine⟨(),⟨by with_reducible assumption,by with_reducible assumption⟩,?_⟩
      exact leA)
    |(rw[lN (x:=(Os,Oe)) h]at hK
      exact⟨_,gR gS gO,hK⟩)
    |(rw[jG (x:=(Os,Oe)) zw,lN (x:=(Ns,Ne)) h]at hK
      exact⟨_,gR gS gO,hK⟩)
  rintro⟨⟩ ⟨h1,h2⟩
  rw[jG (x:=(Os,Oe)) h1,jG (x:=(Ns,Ne)) h2]at hK;simp only at hK;generalize kR (kZ Fs Gs)=B at*;generalize kR (kZ Os Ns)=D at*;generalize hC:iF anB B.1 Vs=C at*;generalize hX:iF woB C.1 D.1=X at*;obtain⟨Bs,Be⟩:=B;obtain⟨Cs,Ce⟩:=C;obtain⟨Ds,De⟩:=D;obtain⟨Xs,Xe⟩:=X;simp only at b1 i1 b2 i2 hK hC hX;(repeat' ((conv=>whnf);first|(with_reducible first|refine b1 ?_|refine i1 ?_|refine b2 ?_|refine i2 ?_)|refine zG ?_|apply zA|intro h|exact zT));all_goals conv=>whnf
  ·rw[jG (x:=(Bs,Be)) zw]at hK;simp only[hC]at hK;rw[aF (fun hh=>hh.elim (fun hn=>hn zw) (fun hn=>by cases hn)),jG (x:=(Ds,De)) h]at hK;simp only[hX]at hK;exact⟨_,gO,hK⟩
  ·rw[jG (x:=(Bs,Be)) zw]at hK;simp only[hC]at hK;rw[aF (fun hh=>hh.elim (fun hn=>hn zw) (fun hn=>by cases hn)),lN (x:=(Ds,De)) h]at hK;exact⟨_,gR gS gO,hK⟩
  ·rw[jG (x:=(Bs,Be)) zw]at hK;simp only[hC]at hK;rw[aH (.inl h)]at hK;exact⟨_,gO,hK⟩
  ·rw[lN (x:=(Bs,Be)) h]at hK;exact⟨_,gR gS gO,hK⟩
 ·have hexf:s.exc=false:=by simpa using hex
  simp only[hexf,bT,if_false]at hK;rw[jG (x:=(([]:List Rg),(0:Int))) rfl,jG (x:=(([]:List Rg),(0:Int))) rfl]at hK;refine Jn.at ⟨3,[(2,.box [.sb s.permit,.v (.string s.frm),.v (.string s.to),.v (.string s.svc),.sb s.exc,.v (.string s.exF),.v (.string s.exT),.v (.string s.cls),.v (.string s.dur),.v (.int .i64 s.pri)])],[(5,.op 2 0),(8,iH Fs),(10,iH Gs),(11,iE Vs)]⟩ ?_ ?_
  ·(repeat' ((conv=>whnf);first|refine zG ?_|apply zA|intro h|exact zT));all_goals conv=>whnf
   refine⟨(),trivial,?_⟩;exact leA
  simp only at hK;generalize kR (kZ Fs Gs)=B at*;generalize hC:iF anB B.1 Vs=C at*;obtain⟨Bs,Be⟩:=B;obtain⟨Cs,Ce⟩:=C;simp only at b1 i1 hK hC;(repeat' ((conv=>whnf);first|(with_reducible first|refine b1 ?_|refine i1 ?_)|refine zG ?_|apply zA|intro h|exact zT));all_goals conv=>whnf
  all_goals first
   |(rw[lN (x:=(Bs,Be)) h]at hK
     exact⟨_,gR gS gO,hK⟩)
   |(rw[jG (x:=(Bs,Be)) zw]at hK
     simp only[hC,or_true,if_true,ite_self]at hK;exact⟨_,gO,hK⟩)
def aBE(t:Tp)(i:Nt)(nm:ByteArray):List Rg×Int:=if lT t=true/\ntB i=true then lZ t i nm else([],1)
def aDW(i:Nt)(nm:ByteArray):List Bx×Int:=if ntB i=true then qK i nm else([],1)
def F4(t:Tp)(i:Nt)(n:Int):List Bx×Int:=
 if lT t=true/\ntB i=true then(if n<0\/(i.sts.length:Int)<=n then([],2)else match i.sts[n.toNat]? with
  |some s=>kV t i s
  |none=>([],2))else([],1)
theorem wH(t:Tp)(ht:t.edges.length<1000000)(i:Nt)(hb:Bnd i)(n:Int){K:KT}(hK:K (.tup [iE (F4 t i n).1,.v (.int .i64 (F4 t i n).2)]) []):AC 29 [kB t,iS i,.v (.int .i64 n)] [] K:=by
 refine gQ (aHB rfl rfl ?_);unfold F4 at hK;have bt:=hb.t;by_cases hc:lT t=true
 ·by_cases hn:n<0\/(i.sts.length:Int)<=n
  ·rw[aH hn]at hK;(repeat' ((conv=>whnf);first|(with_reducible first|refine uV t ht ?_|refine Nh i hb ?_)|refine zG ?_|apply zA|intro h|exact zT));all_goals conv=>whnf
   all_goals first
    |(rw[aH ⟨hc,zw⟩]at hK
      exact⟨_,gR gS gO,hK⟩)
    |(rw[aF (fun hh=>by rw[hh.2]at h;cases h)]at hK
      exact⟨_,gR gS gO,hK⟩)
    |(exfalso;simp only[aA]at*;omega)
  ·rw[aF hn]at hK;obtain⟨k,rfl⟩:=dS (show 0<=n by omega);have hkl:k<i.sts.length:=by omega
   obtain⟨s,hs⟩:=gex hkl;simp only[eQ,hs]at hK;have hg:=fun {K} h=>@aJp t hc i hb s K h;(repeat' ((conv=>whnf);first|(with_reducible first|refine uV t ht ?_|refine Nh i hb ?_|refine hZ hkl ?_|refine hU hs ?_|refine hg ?_)|refine zG ?_|apply zA|intro h|exact zT));all_goals conv=>whnf
   all_goals first
    |(rw[aH ⟨hc,zw⟩]at hK
      exact⟨_,gO,hK⟩)
    |(rw[aF (fun hh=>by rw[hh.2]at h;cases h)]at hK
      exact⟨_,gR gS gO,hK⟩)
    |(exfalso;simp only[aA]at*;omega)
 ·have hcf:lT t=false:=by simpa using hc
  rw[aF (fun hh=>hc hh.1)]at hK;(repeat' ((conv=>whnf);first|(with_reducible refine uV t ht ?_)|refine zG ?_|apply zA|intro h|exact zT));all_goals conv=>whnf
  exact⟨_,gR gS gO,hK⟩
abbrev Qd(s:Sm):List AV:=[.sb s.permit,.v (.string s.frm),.v (.string s.to),.v (.string s.svc),.sb s.exc,.v (.string s.exF),.v (.string s.exT),.v (.string s.cls),.v (.string s.dur),.v (.int .i64 s.pri)]
theorem aKH(d:Dv)(s:Sm){K:KT}(hK:K (.sb (sEq d.cls s.cls)) []):AC 224 [tN d,.fp (Qd s)] [] K:=by
 refine aHx rfl rfl ?_;(repeat' ((conv=>whnf);first|refine zG ?_|apply zA|intro h|exact zT));all_goals conv=>whnf
 exact hK
theorem aKI(d:Wn)(s:Sm){K:KT}(hK:K (.sb (sEq d.name s.dur)) []):AC 226 [jD d,.fp (Qd s)] [] K:=by
 refine aHy rfl rfl ?_;(repeat' ((conv=>whnf);first|refine zG ?_|apply zA|intro h|exact zT));all_goals conv=>whnf
 exact hK
theorem aQy(l:List Dv)(s:Sm)(hl:l.length<1000000){K:KT}(hK:K (.sb (l.any fun d=>sEq d.cls s.cls)) []):
  AC 223 [.lst (l.map tN),.fn (.func 224) [] [.fp (Qd s)]] [] K:=by
 have hc:∀{K:KT},K (.v (.int .i64 (jJ (fun d:Dv=>sEq d.cls s.cls) l))) []->AC 282 [.lst (l.map tN),.fn (.func 224) [] [.fp (Qd s)]] [] K:=fun h=>aAf l _ _ (fun d=>sEq d.cls s.cls) (fun x K h=>aKH x s h) hl h;refine aOE rfl rfl ?_;(repeat' ((conv=>whnf);first|(with_reducible refine hc ?_)|refine zG ?_|apply zA|intro h|exact zT));all_goals conv=>whnf
 rw[<-uD]at hK;exact hK
theorem aQz(l:List Wn)(s:Sm)(hl:l.length<1000000){K:KT}(hK:K (.sb (l.any fun d=>sEq d.name s.dur)) []):
  AC 225 [.lst (l.map jD),.fn (.func 226) [] [.fp (Qd s)]] [] K:=by
 have hc:∀{K:KT},K (.v (.int .i64 (jJ (fun d:Wn=>sEq d.name s.dur) l))) []->AC 129 [.lst (l.map jD),.fn (.func 226) [] [.fp (Qd s)]] [] K:=fun h=>aKh l _ _ (fun d=>sEq d.name s.dur) (fun x K h=>aKI x s h) hl h;refine aOF rfl rfl ?_;(repeat' ((conv=>whnf);first|(with_reducible refine hc ?_)|refine zG ?_|apply zA|intro h|exact zT));all_goals conv=>whnf
 rw[<-uD]at hK;exact hK
theorem aEz(t:Tp)(ht:t.devs.length<1000000)(i:Nt)(hb:Bnd i)(s:Sm){K:KT}(hK:K (.v (.int .i64 (vE t i s))) []):AC 147 [kB t,iS i,jI s] [] K:=by
 have bw:=hb.w;refine aCM rfl rfl ?_;(repeat' ((conv=>whnf);first|(with_reducible first|refine aQy t.devs s ht ?_|refine aQz i.wins s zo ?_)|refine zG ?_|apply zA|intro h|exact zT));all_goals conv=>whnf
 all_goals
  have e:∀b:ByteArray,sEq b ⟨#[]⟩=(b.toList==(⟨#[]⟩:ByteArray).toList):=fun _=>rfl;unfold vE at hK;rw[e,e]at hK;simp_all
 all_goals first
  |exact hK
theorem mF{α:Type}(f:α->Int)(x:α)(l:List α):lG f (x::l)=if f x≠0 then f x else lG f l:=rfl
def Kl(t:Tp)(i:Nt):Int:=if lT t=true/\ntB i=true then Qc t i else 1
theorem Ng(t:Tp)(i:Nt):Qc t i=
  if lG (fun d:Df=>(lZ t i d.name).2) i.grps≠0 then lG (fun d:Df=>(lZ t i d.name).2) i.grps else
  if lG (fun d:Df=>(qK i d.name).2) i.svcs≠0 then lG (fun d:Df=>(qK i d.name).2) i.svcs else
  if lG (fun s:Sm=>if(kV t i s).2≠0 then(kV t i s).2 else vE t i s) i.sts≠0 then lG (fun s:Sm=>if(kV t i s).2≠0 then(kV t i s).2 else vE t i s) i.sts else
  if lG (fun p:Pb=>if lP t.edges p.edge<0 then 5 else 0) i.pubs≠0 then lG (fun p:Pb=>if lP t.edges p.edge<0 then 5 else 0) i.pubs else
  lG (fun h:Hn=>if lP t.edges h.edge<0 then 5 else(lZ t i h.grp).2) i.hids:=rfl
theorem aEy(t:Tp)(ht:t.edges.length<1000000)(hd:t.devs.length<1000000)(i:Nt)(hb:Bnd i){K:KT}(hK:K (.v (.int .i64 (Kl t i))) []):AC 74 [kB t,iS i] [] K:=by
 have bg:=hb.g;have bs:=hb.s;have bt:=hb.t;have bp:=hb.p;have bh:=hb.h;refine aCL rfl rfl ?_;unfold Kl at hK;by_cases hc:lT t=true
 rotate_left
 ·have hcf:lT t=false:=by simpa using hc
  rw[aF (fun hh=>hc hh.1)]at hK;(repeat' ((conv=>whnf);first|(with_reducible refine uV t ht ?_)|refine zG ?_|apply zA|intro h|exact zT));all_goals conv=>whnf
  exact hK
 by_cases hn:ntB i=true
 rotate_left
 ·have hnf:ntB i=false:=by simpa using hn
  rw[aF (fun hh=>hn hh.2)]at hK;(repeat' ((conv=>whnf);first|(with_reducible first|refine uV t ht ?_|refine Nh i hb ?_)|refine zG ?_|apply zA|intro h|exact zT));all_goals conv=>whnf
  exact hK
 rw[aH ⟨hc,hn⟩,Ng]at hK;have hg:=fun(nm:ByteArray) {K:KT} h=>@aJo t hc i hb nm K h;have hs:=fun(nm:ByteArray) {K:KT} h=>@aJq i hb nm K h;have hm:=fun(s:Sm) {K:KT} h=>@aJp t hc i hb s K h;(repeat' ((conv=>whnf);first|(with_reducible first|refine uV t ht ?_|refine Nh i hb ?_)|refine zG ?_|apply zA|intro h|exact zT));all_goals conv=>whnf
 refine gM Nat (fun n=>⟨2,[(0,kU t),(1,mD i)],[(2,.op 0 0),(3,.op 1 0),(33,.lst (i.grps.map iG)),(34,.v (.int .i64 (i.grps.map iG).length)),(35,.v (.int .i64 n))]⟩) (fun n=>n<=i.grps.length/\lG (fun d:Df=>(lZ t i d.name).2) i.grps=lG (fun d:Df=>(lZ t i d.name).2) (i.grps.drop n)) (fun n=>i.grps.length-n) 0 ⟨aO _,by rw[cA]⟩ ?_ ?_
 ·exact leA
 intro n ⟨hn1,heq⟩;rcases aC n i.grps.length with hnl|hnl
 ·obtain⟨x,hx⟩:=gex hnl;have hdr:i.grps.drop n=x::i.grps.drop (n+1):=by
   rw[aE hnl]at hx;rw[<-bG hx,<-bB hnl]
  rw[hdr,mF]at heq;have hgx:=fun {K} h=>@hg x.name K h;generalize lZ t i x.name=G at*;obtain⟨Gs,Ge⟩:=G;simp only at heq hgx;(repeat' ((conv=>whnf);first|(with_reducible first|refine hZ hnl ?_|refine hU hx ?_|refine hgx ?_)|refine zG ?_|apply zA|intro h|exact zT));all_goals conv=>whnf
  all_goals first
   |(rw[aF (fun hh=>hh h)]at heq
     refine⟨n+1,⟨hnl,heq⟩,by omega,?_⟩;rw[aN,aL];exact leA)
   |(rw[aH h]at heq
     rw[heq,aH h]at hK;exact hK)
 rw[bV hnl]at heq;have e0:lG (fun d:Df=>(lZ t i d.name).2) i.grps=0:=heq;clear heq;(repeat' ((conv=>whnf);first|refine zG ?_|apply zA|intro h|exact zT));all_goals conv=>whnf
 refine gM Nat (fun n=>⟨2,[(0,kU t),(1,mD i)],[(2,.op 0 0),(3,.op 1 0),(52,.lst (i.svcs.map iG)),(53,.v (.int .i64 (i.svcs.map iG).length)),(54,.v (.int .i64 n))]⟩) (fun n=>n<=i.svcs.length/\lG (fun d:Df=>(qK i d.name).2) i.svcs=lG (fun d:Df=>(qK i d.name).2) (i.svcs.drop n)) (fun n=>i.svcs.length-n) 0 ⟨aO _,by rw[cA]⟩ ?_ ?_
 ·exact leA
 intro n ⟨hn1,heq⟩;rcases aC n i.svcs.length with hnl|hnl
 ·obtain⟨x,hx⟩:=gex hnl;have hdr:i.svcs.drop n=x::i.svcs.drop (n+1):=by
   rw[aE hnl]at hx;rw[<-bG hx,<-bB hnl]
  rw[hdr,mF]at heq;have hsx:=fun {K} h=>@hs x.name K h;generalize qK i x.name=G at*;obtain⟨Gs,Ge⟩:=G;simp only at heq hsx;(repeat' ((conv=>whnf);first|(with_reducible first|refine hZ hnl ?_|refine hU hx ?_|refine hsx ?_)|refine zG ?_|apply zA|intro h|exact zT));all_goals conv=>whnf
  all_goals first
   |(rw[aF (fun hh=>hh h)]at heq
     refine⟨n+1,⟨hnl,heq⟩,by omega,?_⟩;rw[aN,aL];exact leA)
   |(rw[aH h]at heq
     rw[aF (fun hh=>hh e0)]at hK;rw[heq,aH h]at hK;exact hK)
 rw[bV hnl]at heq;have e1:lG (fun d:Df=>(qK i d.name).2) i.svcs=0:=heq;clear heq;(repeat' ((conv=>whnf);first|refine zG ?_|apply zA|intro h|exact zT));all_goals conv=>whnf
 refine gM Nat (fun n=>⟨2,[(0,kU t),(1,mD i)],[(2,.op 0 0),(3,.op 1 0),(70,.lst (i.sts.map jI)),(71,.v (.int .i64 (i.sts.map jI).length)),(72,.v (.int .i64 n))]⟩) (fun n=>n<=i.sts.length/\lG (fun s:Sm=>if(kV t i s).2≠0 then(kV t i s).2 else vE t i s) i.sts=lG (fun s:Sm=>if(kV t i s).2≠0 then(kV t i s).2 else vE t i s) (i.sts.drop n)) (fun n=>i.sts.length-n) 0 ⟨aO _,by rw[cA]⟩ ?_ ?_
 ·exact leA
 intro n ⟨hn1,heq⟩;rcases aC n i.sts.length with hnl|hnl
 ·obtain⟨x,hx⟩:=gex hnl;have hdr:i.sts.drop n=x::i.sts.drop (n+1):=by
   rw[aE hnl]at hx;rw[<-bG hx,<-bB hnl]
  rw[hdr,mF]at heq;have hmx:=fun {K} h=>@hm x K h;generalize kV t i x=G at*;obtain⟨Gs,Ge⟩:=G;simp only at heq hmx;(repeat' ((conv=>whnf);first|(with_reducible first|refine hZ hnl ?_|refine hU hx ?_|refine hmx ?_|refine aEz t hd i hb x ?_)|refine zG ?_|apply zA|intro h|exact zT));all_goals conv=>whnf
  all_goals first
   |(rename_i hz
     rw[aF (show ¬(Ge≠0)from fun hh=>hh hz),aF (fun hh=>hh h)]at heq;refine⟨n+1,⟨hnl,heq⟩,by omega,?_⟩;rw[aN,aL];exact leA)
   |(rw[aH h,aH h]at heq
     rw[aF (fun hh=>hh e0),aF (fun hh=>hh e1)]at hK;rw[heq,aH h]at hK;exact hK)
   |(rename_i hz
     rw[aF (show ¬(Ge≠0)from fun hh=>hh hz),aH h]at heq;rw[aF (fun hh=>hh e0),aF (fun hh=>hh e1)]at hK;rw[heq,aH h]at hK;exact hK)
 rw[bV hnl]at heq;have e2:lG (fun s:Sm=>if(kV t i s).2≠0 then(kV t i s).2 else vE t i s) i.sts=0:=heq;clear heq;(repeat' ((conv=>whnf);first|refine zG ?_|apply zA|intro h|exact zT));all_goals conv=>whnf
 refine gM Nat (fun n=>⟨2,[(0,kU t),(1,mD i)],[(2,.op 0 0),(3,.op 1 0),(95,.lst (i.pubs.map kG)),(96,.v (.int .i64 (i.pubs.map kG).length)),(97,.v (.int .i64 n))]⟩) (fun n=>n<=i.pubs.length/\lG (fun p:Pb=>if lP t.edges p.edge<0 then 5 else 0) i.pubs=lG (fun p:Pb=>if lP t.edges p.edge<0 then 5 else 0) (i.pubs.drop n)) (fun n=>i.pubs.length-n) 0 ⟨aO _,by rw[cA]⟩ ?_ ?_
 ·exact leA
 intro n ⟨hn1,heq⟩;rcases aC n i.pubs.length with hnl|hnl
 ·obtain⟨x,hx⟩:=gex hnl;have hdr:i.pubs.drop n=x::i.pubs.drop (n+1):=by
   rw[aE hnl]at hx;rw[<-bG hx,<-bB hnl]
  rw[hdr,mF]at heq;(repeat' ((conv=>whnf);first|(with_reducible first|refine hZ hnl ?_|refine hU hx ?_|refine Ti t _ ht ?_)|refine zG ?_|apply zA|intro h|exact zT));all_goals conv=>whnf
  all_goals first
   |(rw[aF h,aF zd]at heq
     refine⟨n+1,⟨hnl,heq⟩,by omega,?_⟩;rw[aN,aL];exact leA)
   |(rw[aH h,aH zd]at heq
     rw[aF (fun hh=>hh e0),aF (fun hh=>hh e1),aF (fun hh=>hh e2)]at hK;rw[heq,aH zd]at hK;exact hK)
 rw[bV hnl]at heq;have e3:lG (fun p:Pb=>if lP t.edges p.edge<0 then 5 else 0) i.pubs=0:=heq;clear heq;(repeat' ((conv=>whnf);first|refine zG ?_|apply zA|intro h|exact zT));all_goals conv=>whnf
 refine gM Nat (fun n=>⟨2,[(0,kU t),(1,mD i)],[(2,.op 0 0),(3,.op 1 0),(108,.lst (i.hids.map kK)),(109,.v (.int .i64 (i.hids.map kK).length)),(110,.v (.int .i64 n))]⟩) (fun n=>n<=i.hids.length/\lG (fun h:Hn=>if lP t.edges h.edge<0 then 5 else(lZ t i h.grp).2) i.hids=lG (fun h:Hn=>if lP t.edges h.edge<0 then 5 else(lZ t i h.grp).2) (i.hids.drop n)) (fun n=>i.hids.length-n) 0 ⟨aO _,by rw[cA]⟩ ?_ ?_
 ·exact leA
 intro n ⟨hn1,heq⟩;rcases aC n i.hids.length with hnl|hnl
 ·obtain⟨x,hx⟩:=gex hnl;have hdr:i.hids.drop n=x::i.hids.drop (n+1):=by
   rw[aE hnl]at hx;rw[<-bG hx,<-bB hnl]
  rw[hdr,mF]at heq;have hgx:=fun {K} h=>@hg x.grp K h;generalize lZ t i x.grp=G at*;obtain⟨Gs,Ge⟩:=G;simp only at heq hgx;(repeat' ((conv=>whnf);first|(with_reducible first|refine hZ hnl ?_|refine hU hx ?_|refine Ti t _ ht ?_|refine hgx ?_)|refine zG ?_|apply zA|intro h|exact zT));all_goals conv=>whnf
  all_goals first
   |(rename_i hz
     rw[aF hz,aF (fun hh=>hh h)]at heq;refine⟨n+1,⟨hnl,heq⟩,by omega,?_⟩;rw[aN,aL];exact leA)
   |(rw[aH h,aH zd]at heq
     rw[aF (fun hh=>hh e0),aF (fun hh=>hh e1),aF (fun hh=>hh e2),aF (fun hh=>hh e3)]at hK;rw[heq]at hK;exact hK)
   |(rename_i hz
     rw[aF hz,aH h]at heq;rw[aF (fun hh=>hh e0),aF (fun hh=>hh e1),aF (fun hh=>hh e2),aF (fun hh=>hh e3)]at hK;rw[heq]at hK;exact hK)
 rw[bV hnl]at heq;have e4:lG (fun h:Hn=>if lP t.edges h.edge<0 then 5 else(lZ t i h.grp).2) i.hids=0:=heq;clear heq;rw[aF (fun hh=>hh e0),aF (fun hh=>hh e1),aF (fun hh=>hh e2),aF (fun hh=>hh e3),e4]at hK;(repeat' ((conv=>whnf);first|refine zG ?_|apply zA|intro h|exact zT));all_goals conv=>whnf
 exact hK
end Go.Proofs.YtnomkooikbhgmaaGreatDoor
