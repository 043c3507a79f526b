/- Lemmas. -/
import Derived.Test.YtgicddadddhonaaGreatDoorProg
import Derived.Test.YtgicddadddhonaaGreatDoorM62
set_option linter.unusedVariables false
set_option linter.unusedSimpArgs false
set_option maxRecDepth 100000
set_option maxHeartbeats 4000000
noncomputable section
namespace Go.Proofs.YtgicddadddhonaaGreatDoor
open Go Go.Vm
structure LenNt (L:Nat) (i:Nt):Prop where
 g:i.grps.length<=L
 s:i.svcs.length<=L
 w:i.wins.length<=L
 t:i.sts.length<=L
 p:i.pubs.length<=L
 h:i.hids.length<=L
 gi:∀d,d∈i.grps->d.items.length<=L
 si:∀d,d∈i.svcs->d.items.length<=L
 wi:∀d,d∈i.wins->d.act.length<=L
def sumF{α:Type}(f:α->Nat)(l:List α):Nat:=(l.map f).sum
theorem Ga{α:Type}{f:α->Nat}{l:List α}{k:Nat}{d:α}(h:l[k]? =some d):sumF f (l.take (k+1))=sumF f (l.take k)+f d:=by
 unfold sumF;rw[bE,h];simp
theorem X0{α:Type}{f:α->Nat}{L:Nat}:∀{l:List α},(∀d,d∈l->f d<=L)->sumF f l<=l.length*L
 |[],_=>by simp[sumF]
 |d::l,h=>by
  have h1:=h d zx;have h2:=X0 (l:=l) fun e he=>h e (by simp[he]);unfold sumF at*;simp only[aR,cX,aB,Nat.succ_mul];omega
theorem Gb{α:Type}{f:α->Nat}{L n:Nat}{l:List α}(h:∀d,d∈l->f d<=L)(hn:l.length<=n)(k:Nat):sumF f (l.take k)<=n*L:=
 bC (X0 fun d hd=>h d (cP hd)) (bZ _ (by rw[aV];omega))
def U7(i:Nt):Nat:=i.grps.length+i.svcs.length+i.wins.length+i.sts.length+i.pubs.length+i.hids.length
def Wu(i:Nt):Bool:=decide (14<U7 i)||decide (4<i.sts.length)||decide (30<U7 i+sumF (fun d=>d.items.length) i.grps+sumF (fun d=>d.items.length) i.svcs+sumF (fun d=>d.act.length) i.wins)
theorem aRJ(i:Nt)(hl:LenNt 140737488351232 i){K:KT}(hK:K (.sb (Wu i)) []):AC 25 [jC i] [] K:=by
 refine gZ (aIk rfl rfl ?_);obtain⟨gs,ss,ws,ts,ps,hs'⟩:=i;obtain⟨h1,h2,h3,h4,h5,h6,h7,h8,h9⟩:=hl;simp only at h1 h2 h3 h4 h5 h6 h7 h8 h9;generalize hsx:((gs.map iQ).length:Int)+((ss.map iQ).length:Int)+((ws.map jZ).length:Int)+((ts.map kC).length:Int)+((ps.map jU).length:Int)+((hs'.map jY).length:Int)=sx at*;have hsx':sx=(U7 ⟨gs,ss,ws,ts,ps,hs'⟩:Nat):=by rw[<-hsx];simp only[U7,aA];omega
 have hs6:U7 ⟨gs,ss,ws,ts,ps,hs'⟩=gs.length+ss.length+ws.length+ts.length+ps.length+hs'.length:=rfl;unfold Wu at hK;simp only at hK;generalize U7 ⟨gs,ss,ws,ts,ps,hs'⟩=sn at*;(repeat' ((conv=>whnf);first|(with_reducible refine jO rfl (by(try simp only[aA]);omega) (by(try simp only[aA]);omega) ?_)|refine zG ?_|apply zA|intro h|exact zT));all_goals conv=>whnf
 all_goals simp only[hsx]at*
 ·refine kE hK ?_;simp only[bV,aL];omega
 ·simp only[aA]at*;refine kE hK ?_;simp only[bV,aL];omega
 have e1:gs.length<=14:=by omega
 have e2:ss.length<=14:=by omega
 have e3:ws.length<=14:=by omega
 have t1:=fun k=>Gb h7 e1 k;have t2:=fun k=>Gb h8 e2 k;have t3:=fun k=>Gb h9 e3 k;refine gV (Nat×Int) (fun g=>⟨1,[(0,lM ⟨gs,ss,ws,ts,ps,hs'⟩)],[(1,.op 0 0),(3,.v (.int .i64 g.2)),(4,.v (.int .i64 g.1))]⟩) (fun g=>g.1<=gs.length/\g.2=(sn+sumF (fun d=>d.items.length) (gs.take g.1):Nat)) (fun g=>gs.length-g.1) (0,sx) ⟨aK _,by simp[hsx',sumF]⟩ ?_ ?_
 ·exact leA
 rintro⟨k,n⟩ ⟨hk,hn⟩
 simp only at hk hn⊢;have q1:=t1 k;rcases aD k gs.length with hkl|hkl
 ·obtain⟨d,hd⟩:=gex hkl;have hs:=Ga (f:=fun d=>d.items.length) hd;have q2:=t1 (k+1);(repeat' ((conv=>whnf);first|(with_reducible first|refine iI hkl ?_|refine iH hd ?_|refine jO rfl (by(try simp only[aA]);omega) (by(try simp only[aA]);omega) ?_)|refine zG ?_|apply zA|intro h|exact zT));all_goals conv=>whnf
  refine⟨(k+1,n+((d.items.map lA).length:Int)),⟨hkl,?_⟩,by simp only;omega,?_⟩
  ·simp only[aA];rw[hs,hn];push_cast;omega
  ·simp only[aN,aM];exact leA
 rw[aW hkl]at hn q1;(repeat' ((conv=>whnf);first|refine zG ?_|apply zA|intro h|exact zT));all_goals conv=>whnf
 refine gV (Nat×Int) (fun g=>⟨1,[(0,lM ⟨gs,ss,ws,ts,ps,hs'⟩)],[(1,.op 0 0),(3,.v (.int .i64 g.2)),(5,.v (.int .i64 g.1))]⟩) (fun g=>g.1<=ss.length/\g.2=(sn+sumF (fun d=>d.items.length) gs+sumF (fun d=>d.items.length) (ss.take g.1):Nat)) (fun g=>ss.length-g.1) (0,n) ⟨aK _,by simp[hn,sumF]⟩ ?_ ?_
 ·exact leA
 rintro⟨k2,n2⟩ ⟨hk2,hn2⟩
 simp only at hk2 hn2⊢;have q2:=t2 k2;rcases aD k2 ss.length with hkl2|hkl2
 ·obtain⟨d,hd⟩:=gex hkl2;have hs:=Ga (f:=fun d=>d.items.length) hd;have q3:=t2 (k2+1);(repeat' ((conv=>whnf);first|(with_reducible first|refine iI hkl2 ?_|refine iH hd ?_|refine jO rfl (by(try simp only[aA]);omega) (by(try simp only[aA]);omega) ?_)|refine zG ?_|apply zA|intro h|exact zT));all_goals conv=>whnf
  refine⟨(k2+1,n2+((d.items.map lA).length:Int)),⟨hkl2,?_⟩,by simp only;omega,?_⟩
  ·simp only[aA];rw[hs,hn2];push_cast;omega
  ·simp only[aN,aM];exact leA
 rw[aW hkl2]at hn2 q2;(repeat' ((conv=>whnf);first|refine zG ?_|apply zA|intro h|exact zT));all_goals conv=>whnf
 refine gV (Nat×Int) (fun g=>⟨1,[(0,lM ⟨gs,ss,ws,ts,ps,hs'⟩)],[(1,.op 0 0),(3,.v (.int .i64 g.2)),(6,.v (.int .i64 g.1))]⟩) (fun g=>g.1<=ws.length/\g.2=(sn+sumF (fun d=>d.items.length) gs+sumF (fun d=>d.items.length) ss+sumF (fun d=>d.act.length) (ws.take g.1):Nat)) (fun g=>ws.length-g.1) (0,n2) ⟨aK _,by simp[hn2,sumF]⟩ ?_ ?_
 ·exact leA
 rintro⟨k3,n3⟩ ⟨hk3,hn3⟩
 simp only at hk3 hn3⊢;have q3:=t3 k3;rcases aD k3 ws.length with hkl3|hkl3
 ·obtain⟨d,hd⟩:=gex hkl3;have hs:=Ga (f:=fun d=>d.act.length) hd;have q4:=t3 (k3+1);(repeat' ((conv=>whnf);first|(with_reducible first|refine iI hkl3 ?_|refine iH hd ?_|refine jO rfl (by(try simp only[aA]);omega) (by(try simp only[aA]);omega) ?_)|refine zG ?_|apply zA|intro h|exact zT));all_goals conv=>whnf
  refine⟨(k3+1,n3+((d.act.map encR).length:Int)),⟨hkl3,?_⟩,by simp only;omega,?_⟩
  ·simp only[aA];rw[hs,hn3];push_cast;omega
  ·simp only[aN,aM];exact leA
 rw[aW hkl3]at hn3 q3;(repeat' ((conv=>whnf);first|refine zG ?_|apply zA|intro h|exact zT));all_goals conv=>whnf
 all_goals first
  |(refine kE hK ?_;simp only[bV,aL];omega)
  |(refine iU hK ?_;simp only[gE,decide_eq_false_iff_not];simp only[aA]at*;omega)
  |(refine kB hK ?_;rw[bK];simp only[bV,aL];simp only[aA]at*;omega)
theorem Et{α:Type}{f:α->Nat}:∀{l:List α} {d:α},d∈l->f d<=sumF f l
 |e::l,d,h=>by
  unfold sumF;simp only[aR,cX];rcases aZ.1 h with rfl|h
  ·omega
  ·have:=Et (f:=f) h;unfold sumF at this;omega
theorem aAp{i:Nt}(h:Wu i=false):Bnd i:=by
 unfold Wu at h;simp only[gE,decide_eq_false_iff_not]at h;obtain⟨⟨h1,h2⟩,h3⟩:=h;have h0:U7 i=i.grps.length+i.svcs.length+i.wins.length+i.sts.length+i.pubs.length+i.hids.length:=rfl;have a1:Hh i.grps=sumF (fun d=>d.items.length) i.grps:=rfl;have a2:Hh i.svcs=sumF (fun d=>d.items.length) i.svcs:=rfl;refine⟨by omega,by omega,by omega,by omega,by omega,by omega,fun d hd=>?_,fun d hd=>?_,fun d hd=>?_,by omega,by omega⟩
 ·have:=Et (f:=fun d:Df=>d.items.length) hd;(try simp only at this);omega
 ·have:=Et (f:=fun d:Df=>d.items.length) hd;(try simp only at this);omega
 ·have:=Et (f:=fun d:Wn=>d.act.length) hd;(try simp only at this);omega
open Go Go.Vm Go.ChangeShapes Go.WideShapes Go.ChangeAt Go.RowKit
theorem xT{α:Type}(enc:α->AV)(p:α->Prop):∀{L:List AV},(∀y,y∈L->∃a,y=enc a/\p a)->∃l:List α,L=l.map enc/\∀a,a∈l->p a
 |[],_=>⟨[],rfl,fun a h=>by cases h⟩
 |y::L,h=>by
  obtain⟨a,rfl,pa⟩:=h y zx;obtain⟨l,rfl,pl⟩:=xT enc p (L:=L) fun z hz=>h z (by simp[hz]);exact⟨a::l,rfl,fun b hb=>by
   rcases aZ.1 hb with rfl|hb
   ·exact pa
   ·exact pl b hb⟩
theorem aET{d L:Nat}{y:AV}(h:TyL Tryz.prog L (d+5) 113 y):∃x:Df,y=iQ x/\x.items.length<=L:=by
 obtain⟨ys,hl,rfl,hf⟩:=h
 match ys,hl with
 |[a,b],_=>
  obtain⟨a,rfl,_⟩:=hf 0 _ a rfl rfl;obtain⟨b,rfl,_,hL,hb⟩:=hf 1 _ b rfl rfl;obtain⟨b,rfl⟩:=mM lA fun y hy=>aWc (d:=d) (hb y hy).ty;exact⟨⟨a,b⟩,rfl,by simpa using hL⟩
theorem aRs{d L:Nat}{y:AV}(h:TyL Tryz.prog L (d+4) 116 y):∃x:Wn,y=jZ x/\x.act.length<=L:=by
 obtain⟨ys,hl,rfl,hf⟩:=h
 match ys,hl with
 |[a,b],_=>
  obtain⟨a,rfl,_⟩:=hf 0 _ a rfl rfl;obtain⟨b,rfl,_,hL,hb⟩:=hf 1 _ b rfl rfl;obtain⟨b,rfl⟩:=mM encR fun y hy=>aEU (d:=d) (hb y hy).ty;exact⟨⟨a,b⟩,rfl,by simpa using hL⟩
theorem aRv{d:Nat}{y:AV}(h:Ty Tryz.prog (d+2) 65 y):∃x:Pb,y=jU x/\PbA x:=by
 obtain⟨ys,hl,rfl,hf⟩:=h
 match ys,hl with
 |[a,b,c,e,f,g],_=>
  obtain⟨a,rfl,a0⟩:=hf 0 _ a rfl rfl;obtain⟨b,rfl,_⟩:=hf 1 _ b rfl rfl;obtain⟨c,rfl,_⟩:=hf 2 _ c rfl rfl;obtain⟨e,rfl,_⟩:=hf 3 _ e rfl rfl;obtain⟨f,rfl,f0⟩:=hf 4 _ f rfl rfl;obtain⟨g,rfl,_⟩:=hf 5 _ g rfl rfl;exact⟨⟨a,b,c,e,f,g⟩,rfl,a0,f0⟩
theorem aRt{d:Nat}{y:AV}(h:Ty Tryz.prog (d+3) 83 y):∃x:Hn,y=jY x/\HnA x:=by
 obtain⟨ys,hl,rfl,hf⟩:=h
 match ys,hl with
 |[a,b,c,e],_=>
  obtain⟨a,rfl,_⟩:=hf 0 _ a rfl rfl;obtain⟨b,rfl,_⟩:=hf 1 _ b rfl rfl;obtain⟨c,rfl,c0⟩:=hf 2 _ c rfl rfl;obtain⟨e,rfl⟩:=aEU (d:=d) (hf 3 _ e rfl rfl);exact⟨⟨a,b,c,e⟩,rfl,c0⟩
theorem aKb{d L:Nat}{y:AV}(h:TyL Tryz.prog L (d+7) 41 y):∃i:Nt,y=jC i/\LenNt L i/\(∀p,p∈i.pubs->PbA p)/\∀h,h∈i.hids->HnA h:=by
 obtain⟨ys,hl,rfl,hf⟩:=h
 match ys,hl with
 |[a,b,c,e,f,g],_=>
  obtain⟨a,rfl,_,la,ha⟩:=hf 0 _ a rfl rfl;obtain⟨b,rfl,_,lb,hb⟩:=hf 1 _ b rfl rfl;obtain⟨c,rfl,_,lc,hc⟩:=hf 2 _ c rfl rfl;obtain⟨e,rfl,_,le,he⟩:=hf 3 _ e rfl rfl;obtain⟨f,rfl,_,lf,hf'⟩:=hf 4 _ f rfl rfl;obtain⟨g,rfl,_,lg,hg⟩:=hf 5 _ g rfl rfl;obtain⟨a,rfl,qa⟩:=xT iQ _ fun y hy=>aET (d:=d) (ha y hy);obtain⟨b,rfl,qb⟩:=xT iQ _ fun y hy=>aET (d:=d) (hb y hy);obtain⟨c,rfl,qc⟩:=xT jZ _ fun y hy=>aRs (d:=d+1) (hc y hy);obtain⟨e,rfl⟩:=mM kC fun y hy=>aWd (d:=d+3) (he y hy).ty;obtain⟨f,rfl,qf⟩:=xT jU _ fun y hy=>aRv (d:=d+3) (hf' y hy).ty;obtain⟨g,rfl,qg⟩:=xT jY _ fun y hy=>aRt (d:=d+2) (hg y hy).ty;simp only[aA]at la lb lc le lf lg;exact⟨⟨a,b,c,e,f,g⟩,rfl,⟨la,lb,lc,le,lf,lg,qa,qb,qc⟩,qf,qg⟩
def aGQ:Ctx:={N:=26}
abbrev aDR:=ofD aGQ Tryz.func211
def aGK:Ctx:={N:=47,plan:=p1 7 (lp 7 [17,19,21,23,25,27,14,28,31,32,34,37]) pn,hints:=h1 2 [.virt 7 20] (h1 8 [.freeze 7] hn)}
abbrev aDL:=ofD aGK Tryz.func128
def aBZ:Ctx:={N:=28}
abbrev Zq:=ofD aBZ Tryz.func67
def aBX:Ctx:={N:=28}
abbrev Zo:=ofD aBX Tryz.func68
def aGP:Ctx:={N:=26,plan:=p1 6 Aa pn}
abbrev aDQ:=ofD aGP Tryz.func69
def aGO:Ctx:={N:=26,plan:=p1 6 Aa pn}
abbrev aDP:=ofD aGO Tryz.func70
def aGk:Ctx:={N:=70,plan:=p1 5 (ln [1,3,4,7,9,11,13,15,17,19,21,22,25,27,29,31,33,35,37,39,41,45,47,42,48,51,53,55]) pn}
abbrev aDn:=ofD aGk Tryz.func22
theorem aKN(a pr po:Int)(a0:0<=a)(a1:a<=4294967295)(p0:0<=pr)(p1:pr<=255)(q0:0<=po)(q1:po<=65535){K:KT}
  (hK:K (.agg [.v (.int .u32 0),.v (.int .u32 4294967295),.v (.int .u32 a),.v (.int .u32 a),.v (.int .u32 pr),.v (.int .u32 pr),.v (.int .u32 0),.v (.int .u32 65535),.v (.int .u32 po),.v (.int .u32 po)]) []):
  AC 211 [.v (.int .u32 a),.v (.int .i64 pr),.v (.int .i64 po)] [] K:=by
 refine aDR rfl rfl ?_;(repeat' ((conv=>whnf);first|(with_reducible refine cr3Full ?_)|(refine kH zd ?_)|refine zG ?_|apply zA|intro h|exact zT));all_goals conv=>whnf
 exact hK
theorem aVh(t:Tp)(i:Nt)(hT:TrB t i)(m:Nat)(e:Ed)(he:t.edges[m]? =some e)(hc:mE t=true)(hn:ntB i=true){K:KT}(hK:K (lQ (qB i e)) []):AC 128 [jT t,jC i,.v (.int .i64 m)] [] K:=by
 have het:=hT.et;have hok:=ntB_iff.1 hn;have hpl:=hok.pl;have hpb:∀p,p∈i.pubs->PbB p:=fun p hp=>J9 (hok.p p hp) (hT.pa p hp);refine hJ (aDL rfl rfl ?_);(repeat' ((conv=>whnf);first|refine zG ?_|apply zA|intro h|exact zT));all_goals conv=>whnf
 refine gV Nat (fun k=>⟨3,[(0,kM t),(1,lM i),(2,.arr 20 ((((i.pubs.take k).filter fun p=>sEq p.edge e.name).map lI).map nR))],[(2,.v (.int .i64 m)),(3,.op 0 0),(4,.op 1 0),(7,.os 2 20 0 (((i.pubs.take k).filter fun p=>sEq p.edge e.name).map lI).length),(8,.v (.int .i64 k))]⟩) (fun k=>k<=i.pubs.length) (fun k=>i.pubs.length-k) 0 (aK _) ?_ ?_
 ·exact leA
 intro k hk;have hAl:(((i.pubs.take k).filter fun p=>sEq p.edge e.name).map lI).length<=16:=by
  rw[aA];refine bC (dK ..) ?_;rw[aV];omega
 rcases aD k i.pubs.length with hkl|hkl
 ·obtain⟨x,hx⟩:=gex hkl;have hxb:=hpb x (aG hx);have henc:=aCS hxb;have hst:((i.pubs.take (k+1)).filter fun p=>sEq p.edge e.name).map lI=((i.pubs.take k).filter fun p=>sEq p.edge e.name).map lI++(if sEq x.edge e.name=true then [lI x]else []):=by
   rw[bE,hx,dP,aQ];by_cases h:sEq x.edge e.name=true
   ·rw[aH h];simp[h]
   ·rw[aF h];simp[h]
  generalize ((i.pubs.take k).filter fun p=>sEq p.edge e.name).map lI=A at*;obtain⟨a0,a1,r0,r1,o0,o1,t0,t1,q0,q1⟩:=hxb;have hed:∀{K:KT},K (.v (.int .i64 (jX t.edges x.edge))) []->AC 20 [jT t,.v (.string x.edge)] [] K:=fun h=>vY t x.edge het h;have hnm:=Hu hc he x.edge;generalize jX t.edges x.edge=ei at*;by_cases hs:sEq x.edge e.name=true
  case neg=>
   rw[aF hs,bG]at hst;have hne:ei≠(m:Int):=fun h=>hs (hnm.1 h);(repeat' ((conv=>whnf);first|(with_reducible first|refine iI hkl ?_|refine iH hx ?_|refine hed ?_)|refine zG ?_|apply zA|intro h|exact zT));all_goals conv=>whnf
   all_goals first
    |(refine⟨k+1,hkl,by omega,?_⟩
      rw[hst,aN,aM];exact leA)
    |(exfalso;omega)
  rw[aH hs]at hst;have hei:ei=(m:Int):=hnm.2 hs;(repeat' ((conv=>whnf);first|(with_reducible first|refine iI hkl ?_|refine iH hx ?_|refine hed ?_|refine aKN x.addr x.proto x.port a0 a1 o0 o1 t0 t1 ?_|refine aKN x.real x.proto x.rport r0 r1 o0 o1 q0 q1 ?_)|refine zG ?_|apply zA|intro h|exact zT));all_goals conv=>whnf
  all_goals first
   |(refine⟨k+1,hkl,by omega,?_⟩
     rw[hst,aQ,aR,bI,henc,aC,aN k,aM];exact leA)
   |(exfalso;omega)
 ·rw[aW hkl];unfold qB at hK;(repeat' ((conv=>whnf);first|(with_reducible refine iT zx ?_)|refine zG ?_|apply zA|intro h|exact zT));all_goals conv=>whnf
  exact⟨_,gY,hK⟩
theorem aOJ(t:Tp)(i:Nt)(hT:TrB t i)(n:Int){K:KT}(hK:K (.tup [lQ (wQ t i n),.v (.int .i64 (pG t i n))]) []):AC 67 [jT t,jC i,.v (.int .i64 n)] [] K:=by
 have hck:=fun {K}=>@Rl t i hT K;have hml:(t.edges.map lY).length=t.edges.length:=aA ..;refine hJ (Zq rfl rfl ?_);unfold wQ at hK;by_cases h0:pG t i n=0
 case neg=>
  rw[aF h0]at hK;unfold pG at h0 hK;generalize trP t i=c at*;by_cases hc0:c=0
  case neg=>
   rw[aH hc0]at hK;(repeat' ((conv=>whnf);first|(with_reducible refine hck ?_)|refine zG ?_|apply zA|intro h|exact zT));all_goals conv=>whnf
   all_goals first
    |exact⟨_,hU hZ gY,hK⟩
    |(exfalso;omega)
  rw[aF zo]at h0 hK;have hr:n<0\/(t.edges.length:Int)<=n:=Decidable.byContradiction fun h=>h0 (by rw[aF h]);rw[aH hr]at hK;(repeat' ((conv=>whnf);first|(with_reducible refine hck ?_)|refine zG ?_|apply zA|intro h|exact zT));all_goals conv=>whnf
  all_goals first
   |exact⟨_,hU hZ gY,hK⟩
   |(exfalso;omega)
 obtain⟨⟨hc,hn⟩,n0,n1⟩:=yZ h0;obtain⟨m,rfl⟩:∃m:Nat,n=m:=⟨n.toNat,by omega⟩
 obtain⟨e,he⟩:∃r,t.edges[m]? =some r:=⟨_,aE zo⟩
 rw[aH h0,h0,dY,Y9,he]at hK;simp only at hK;have ht0:trP t i=0:=by
  unfold pG at h0;split at h0
  ·rename_i h1;exact absurd h0 h1
  ·rename_i h1;exact Decidable.byContradiction h1
 rw[ht0]at hck;(repeat' ((conv=>whnf);first|(with_reducible first|refine hck ?_|refine aVh t i hT m e he hc hn ?_)|refine zG ?_|apply zA|intro h|exact zT));all_goals conv=>whnf
 all_goals first
  |exact⟨_,gY,hK⟩
  |(exfalso;omega)
theorem aHv(t:Tp)(i:Nt)(hT:TrB t i)(n:Int){K:KT}(hK:K (.tup [nN (Kv t i n),.v (.int .i64 (pG t i n))]) []):AC 68 [jT t,jC i,.v (.int .i64 n)] [] K:=by
 have hck:=fun {K}=>@Rl t i hT K;have hml:(t.edges.map lY).length=t.edges.length:=aA ..;refine hJ (Zo rfl rfl ?_);unfold Kv at hK;by_cases h0:pG t i n=0
 case neg=>
  rw[aF h0]at hK;unfold pG at h0 hK;generalize trP t i=c at*;by_cases hc0:c=0
  case neg=>
   rw[aH hc0]at hK;(repeat' ((conv=>whnf);first|(with_reducible refine hck ?_)|refine zG ?_|apply zA|intro h|exact zT));all_goals conv=>whnf
   all_goals first
    |exact⟨_,hU hZ gY,hK⟩
    |(exfalso;omega)
  rw[aF zo]at h0 hK;have hr:n<0\/(t.edges.length:Int)<=n:=Decidable.byContradiction fun h=>h0 (by rw[aF h]);rw[aH hr]at hK;(repeat' ((conv=>whnf);first|(with_reducible refine hck ?_)|refine zG ?_|apply zA|intro h|exact zT));all_goals conv=>whnf
  all_goals first
   |exact⟨_,hU hZ gY,hK⟩
   |(exfalso;omega)
 obtain⟨⟨hc,hn⟩,n0,n1⟩:=yZ h0;obtain⟨m,rfl⟩:∃m:Nat,n=m:=⟨n.toNat,by omega⟩
 obtain⟨e,he⟩:∃r,t.edges[m]? =some r:=⟨_,aE zo⟩
 rw[aH h0,h0,dY,Yw,he]at hK;simp only at hK;have ht0:trP t i=0:=by
  unfold pG at h0;split at h0
  ·rename_i h1;exact absurd h0 h1
  ·rename_i h1;exact Decidable.byContradiction h1
 rw[ht0]at hck;(repeat' ((conv=>whnf);first|(with_reducible first|refine hck ?_|refine aCE t i m e he hc hn hT.bi hT.et ?_)|refine zG ?_|apply zA|intro h|exact zT));all_goals conv=>whnf
 all_goals first
  |exact⟨_,gY,hK⟩
  |(exfalso;omega)
def bxE(p:Bx):Bool:=((p.r0.lo==p.r0.lo&&(p.r0.hi==p.r0.hi&&true))&&((p.r1.lo==p.r1.lo&&(p.r1.hi==p.r1.hi&&true))&&((p.r2.lo==p.r2.lo&&(p.r2.hi==p.r2.hi&&true))&&((p.r3.lo==p.r3.lo&&(p.r3.hi==p.r3.hi&&true))&&((p.r4.lo==p.r4.lo&&(p.r4.hi==p.r4.hi&&true))&&true)))))
theorem aAA(p:Bx):bxE p=true:=by simp[bxE]
abbrev aRV(m:Mv):List AV:=[.v (.int .u32 m.frm.r0.lo),.v (.int .u32 m.frm.r0.hi),.v (.int .u32 m.frm.r1.lo),.v (.int .u32 m.frm.r1.hi),.v (.int .u32 m.frm.r2.lo),.v (.int .u32 m.frm.r2.hi),.v (.int .u32 m.frm.r3.lo),.v (.int .u32 m.frm.r3.hi),.v (.int .u32 m.frm.r4.lo),.v (.int .u32 m.frm.r4.hi),.v (.int .u32 m.to.r0.lo),.v (.int .u32 m.to.r0.hi),.v (.int .u32 m.to.r1.lo),.v (.int .u32 m.to.r1.hi),.v (.int .u32 m.to.r2.lo),.v (.int .u32 m.to.r2.hi),.v (.int .u32 m.to.r3.lo),.v (.int .u32 m.to.r3.hi),.v (.int .u32 m.to.r4.lo),.v (.int .u32 m.to.r4.hi)]
abbrev aRU(h:Hi):List AV:=[.v (.int .u32 h.mt.r0.lo),.v (.int .u32 h.mt.r0.hi),.v (.int .u32 h.mt.r1.lo),.v (.int .u32 h.mt.r1.hi),.v (.int .u32 h.mt.r2.lo),.v (.int .u32 h.mt.r2.hi),.v (.int .u32 h.mt.r3.lo),.v (.int .u32 h.mt.r3.hi),.v (.int .u32 h.mt.r4.lo),.v (.int .u32 h.mt.r4.hi),.v (.int .u32 h.addr),.v (.int .u32 h.ports.lo),.v (.int .u32 h.ports.hi)]
theorem aMq(m:Mv){K:Bool->Prop}(hk:K true):EqV Tryz.prog 59 (aRV m) (aRV m) K:=by
 refine yT (b:=(bxE m.frm&&(bxE m.to&&true))) rfl rfl zk zk ?_;rw[aAA,aAA];exact hk
theorem aMp(h:Hi){K:Bool->Prop}(hk:K true):EqV Tryz.prog 162 (aRU h) (aRU h) K:=by
 refine yT (b:=(bxE h.mt&&(h.addr==h.addr&&((h.ports.lo==h.ports.lo&&(h.ports.hi==h.ports.hi&&true))&&true)))) rfl rfl zk zk ?_;rw[aAA];simpa using hk
theorem aVk(l:List Mv){K:KT}(hl:l.length<1000000)(hK:K (.sb true) []):AC 69 [lQ l,lQ l] [] K:=by
 refine gZ (aDQ rfl rfl ?_);(repeat' ((conv=>whnf);first|refine zG ?_|apply zA|intro h|exact zT));all_goals conv=>whnf
 all_goals first
  |(exfalso;omega)
  |skip
 refine gV Nat (fun k=>⟨0,[],[(0,lQ l),(1,lQ l),(5,.v (.int .i64 k))]⟩) (fun k=>k<=l.length) (fun k=>l.length-k) 0 (aK _) ?_ ?_
 ·exact leA
 intro k hk;rcases aD k l.length with hkl|hkl
 ·obtain⟨x,hx⟩:=gex hkl;(repeat' ((conv=>whnf);first|(with_reducible first|refine iI hkl ?_|refine iH hx ?_)|(refine aMq x ?_)|refine zG ?_|apply zA|intro h|exact zT));all_goals conv=>whnf
  refine⟨k+1,hkl,by omega,?_⟩;rw[aN,aM];exact leA
 ·(repeat' ((conv=>whnf);first|refine zG ?_|apply zA|intro h|exact zT));all_goals conv=>whnf
  exact kE hK rfl
theorem aVj(l:List Hi){K:KT}(hl:l.length<1000000)(hK:K (.sb true) []):AC 70 [nN l,nN l] [] K:=by
 refine gZ (aDP rfl rfl ?_);(repeat' ((conv=>whnf);first|refine zG ?_|apply zA|intro h|exact zT));all_goals conv=>whnf
 all_goals first
  |(exfalso;omega)
  |skip
 refine gV Nat (fun k=>⟨0,[],[(0,nN l),(1,nN l),(5,.v (.int .i64 k))]⟩) (fun k=>k<=l.length) (fun k=>l.length-k) 0 (aK _) ?_ ?_
 ·exact leA
 intro k hk;rcases aD k l.length with hkl|hkl
 ·obtain⟨x,hx⟩:=gex hkl;(repeat' ((conv=>whnf);first|(with_reducible first|refine iI hkl ?_|refine iH hx ?_)|(refine aMp x ?_)|refine zG ?_|apply zA|intro h|exact zT));all_goals conv=>whnf
  refine⟨k+1,hkl,by omega,?_⟩;rw[aN,aM];exact leA
 ·(repeat' ((conv=>whnf);first|refine zG ?_|apply zA|intro h|exact zT));all_goals conv=>whnf
  exact kE hK rfl
theorem aCQ{t:Tp}{i:Nt}(n:Int):(wQ t i n).length<=16:=by
 unfold wQ;split
 ·rename_i h;obtain⟨⟨_,hn⟩,_,_⟩:=yZ h;unfold Y9;split
  ·unfold qB;rw[aA];exact bC (dK ..) (ntB_iff.1 hn).pl
  ·exact aK _
 ·exact aK _
theorem aCm{t:Tp}{i:Nt}(hT:TrB t i)(n:Int):(Kv t i n).length<1000000:=by
 unfold Kv;split
 ·rename_i h;obtain⟨⟨hc,hn⟩,_,_⟩:=yZ h;unfold Yw;split
  ·rename_i e _;have h1:=lH (fun h=>if sEq h.edge e.name=true then vO t i h else []) 6020 i.hids fun h _=>by
    split
    ·exact wJ hc hT.bi h
    ·exact aK _
   have h2:=(ntB_iff.1 hn).hl;have h3:i.hids.length*6020<=8*6020:=bZ _ h2;unfold uE;omega
  ·exact Nat.zero_lt_succ _
 ·exact Nat.zero_lt_succ _
theorem Rk(t:Tp)(i:Nt)(hT:TrB t i)(n:Int){K:KT}(hK:K (.sb true) []):AC 22 [jT t,jC i,.v (.int .i64 n)] [] K:=by
 have h1:=fun {K}=>@Ou t i hT n K;have h2:=fun {K}=>@aOJ t i hT n K;have h3:=fun {K}=>@W5 t i hT n K;have h4:=fun {K}=>@aHv t i hT n K;have h5:=fun {K}=>@Rm t i hT K;have h6:=fun {K}=>@Rl t i hT K;have l1:=aCQ (t:=t) (i:=i) n;have l2:=aCm hT n;refine gZ (aDn rfl rfl ?_);generalize wQ t i n=A at*;generalize Kv t i n=B at*;generalize pG t i n=c at*;generalize trP t i=d at*;(repeat' ((conv=>whnf);first|(with_reducible first|refine h1 ?_|refine h2 ?_|refine h3 ?_|refine h4 ?_|refine h5 ?_|refine h6 ?_|refine aVk A zo ?_|refine aVj B zo ?_)|refine zG ?_|apply zA|intro h|exact zT));all_goals conv=>whnf
 all_goals first
  |exact kE hK rfl
  |(refine kB hK ?_;simp;done)
  |(exfalso;omega)
  |(exfalso;simp_all;done)
end Go.Proofs.YtgicddadddhonaaGreatDoor
