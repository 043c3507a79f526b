/- Lemmas. -/
import Derived.Test.YtnomkooikbhgmaaGreatDoorProg
import Derived.Test.YtnomkooikbhgmaaGreatDoorK21
set_option linter.unusedVariables false
set_option linter.unusedSimpArgs false
set_option maxRecDepth 100000
set_option maxHeartbeats 4000000
noncomputable section
namespace Go.Proofs.YtnomkooikbhgmaaGreatDoor
open Go Go.Vm
theorem zW:∀(l s:List Bx),kH s (jN l)=kH s l
 |[],s=>rfl
 |b::l,s=>by
  by_cases h:b.ok
  ·have e:jN (b::l)=b::jN l:=by simp[jN,h]
   rw[e,kH,kH,aH h,aH h];split
   ·rfl
   ·exact zW l _
  ·have e:jN (b::l)=jN l:=by simp[jN,h]
   rw[e,kH,aF h];exact zW l s
theorem Tk(l:List Bx)(hl:l.length<1000000000){K:KT}(hK:K (.tup [iE (kR l).1,.v (.int .i64 (kR l).2)]) []):AC 75 [iE l] [] K:=by
 have hvl:=uP l;refine gQ (aIo rfl rfl ?_);(repeat' ((conv=>whnf);first|(with_reducible refine V1 l hl ?_)|refine zG ?_|apply zA|intro h|exact zT));all_goals conv=>whnf
 have hv0:∀x,x∈jN l->x.ok:=fun x hx=>by simpa using(cI.1 hx).2
 have hm0:kR l=kH [] (jN l):=(zW l []).symm;generalize jN l=v at*;refine gM (Nat×List Bx) (fun g=>⟨0,[],[(4,iE g.2),(10,iE v),(11,.v (.int .i64 ((v.map iY).length:Nat))),(12,.v (.int .i64 g.1))]⟩) (fun g=>g.1<=v.length/\PSet g.2/\okL g.2/\kR l=kH g.2 (v.drop g.1)) (fun g=>v.length-g.1) (0,[]) ⟨aO _,Eg,Ow,by rw[cA];exact hm0⟩ ?_ ?_
 ·exact leA
 rintro⟨i,s⟩ ⟨hi,hs,hos,hm⟩
 simp only at hi hs hos hm⊢;rcases aC i v.length with hil|hil
 ·obtain⟨x,hx⟩:=gex hil;have hd:v.drop i=x::v.drop (i+1):=by
   rw[aE hil]at hx;rw[<-bG hx,<-bB hil]
  have hxo:=hv0 x (aI hx);rw[hd,kH,aH hxo]at hm;have hadd:∀{K:KT},K (.tup [iE (rQ (rF s x)),.v (.int .i64 (uH (rF s x)))]) []->AC 150 [iE s,.lst [iY x],.fn (.func 151) [] []] [] K:=fun h=>
   aAI _ orB Jv s [x] hos (fun y hy=>by rw[aW.1 hy];exact Ox hxo) (by have:=hs.len;omega) zx h
  (repeat' ((conv=>whnf);first|(with_reducible first|refine hZ hil ?_|refine hU hx ?_|refine hadd ?_)|refine zG ?_|apply zA|intro h|exact zT));all_goals conv=>whnf
  ·have hlen:¬4096<(rF s x).length:=fun hh=>limE_ne.2 hh h;rw[aF hlen]at hm;refine⟨(i+1,rF s x),⟨hil,Fd (by unfold rF at hlen;omega),wZ _ _ _,hm⟩,by simp only;omega,?_⟩;rw[show rQ (rF s x)=rF s x from by unfold rQ;rw[aF hlen]];simp only;rw[aN,aL];exact leA
  ·have hlen:4096<(rF s x).length:=limE_ne.1 h;rw[aH hlen]at hm;rw[hm]at hK;have h3:uH (rF s x)=3:=by unfold uH;rw[aH hlen]
   rw[h3];exact⟨_,gR gS gO,hK⟩
 ·rw[bV hil,kH]at hm;rw[hm]at hK;(repeat' ((conv=>whnf);first|refine zG ?_|apply zA|intro h|exact zT));all_goals conv=>whnf
  exact⟨_,gO,hK⟩
theorem aJA(l:List Bx)(hl:l.length<1000000000){K:KT}(hK:K (.tup [iE (mK l).1,.v (.int .i64 (mK l).2)]) []):AC 232 [iE l] [] K:=by
 refine gQ (aPp rfl rfl ?_);unfold mK at hK;(repeat' ((conv=>whnf);first|(with_reducible first|refine Nz l hl ?_|refine Tk l hl ?_)|refine zG ?_|apply zA|intro h|exact zT));all_goals conv=>whnf
 all_goals simp_all
 all_goals exact⟨_,gO,hK⟩
theorem aLi(fn:FuncId)(op:Bool->Bool->Bool)(hop:Opf fn op)(a b:List Bx)(ha:a.length<1000000000)(hb:b.length<1000000000){K:KT}(hK:K (.tup [iE (iF op a b).1,.v (.int .i64 (iF op a b).2)]) []):
  AC 153 [iE a,iE b,.fn (.func fn) [] []] [] K:=by
 refine gQ (aTD rfl rfl ?_);unfold iF at hK;have hr:∀{K:KT},K (.tup [iE (rQ (iX op 5 (mK a).1 (mK b).1)),.v (.int .i64 (uH (iX op 5 (mK a).1 (mK b).1)))]) []->AC 150 [iE (mK a).1,iE (mK b).1,.fn (.func fn) [] []] [] K:=fun h=>aAI fn op hop _ _ (Wv a) (Wv b) (by have:=(qB a).len;omega) (by have:=(qB b).len;omega) h;(repeat' ((conv=>whnf);first|(with_reducible first|refine aJA a ha ?_|refine aJA b hb ?_|refine hr ?_)|refine zG ?_|apply zA|intro h|exact zT));all_goals conv=>whnf
 all_goals simp_all
 all_goals first|exact⟨_,gO,hK⟩|exact⟨_,gR gS gO,hK⟩
theorem Lc(a b:List Bx)(ha:a.length<1000000000)(hb:b.length<1000000000){K:KT}(hK:K (.tup [iE (iF anB a b).1,.v (.int .i64 (iF anB a b).2)]) []):AC 77 [iE a,iE b] [] K:=by
 refine aPo rfl rfl ?_;(repeat' ((conv=>whnf);first|(with_reducible refine aLi _ anB aDp a b ha hb ?_)|refine zG ?_|apply zA|intro h|exact zT));all_goals conv=>whnf
 exact hK
theorem aQX(a b:List Bx)(ha:a.length<1000000000)(hb:b.length<1000000000){K:KT}(hK:K (.tup [iE (iF orB a b).1,.v (.int .i64 (iF orB a b).2)]) []):AC 80 [iE a,iE b] [] K:=by
 refine aTE rfl rfl ?_;(repeat' ((conv=>whnf);first|(with_reducible refine aLi _ orB Jv a b ha hb ?_)|refine zG ?_|apply zA|intro h|exact zT));all_goals conv=>whnf
 exact hK
theorem aAL(a b:List Bx)(ha:a.length<1000000000)(hb:b.length<1000000000){K:KT}(hK:K (.tup [iE (iF woB a b).1,.v (.int .i64 (iF woB a b).2)]) []):AC 79 [iE a,iE b] [] K:=by
 refine aPq rfl rfl ?_;(repeat' ((conv=>whnf);first|(with_reducible refine aLi _ woB Gu a b ha hb ?_)|refine zG ?_|apply zA|intro h|exact zT));all_goals conv=>whnf
 exact hK
theorem aVh{e r:Int}{K:Int->Prop}(h0:e=r)(h1:0<=r)(h2:r<=255)(hk:K r):Wr .u8 e K:=by
 subst h0;refine Wr.intro ?_ hk;simp only[IntKind.wrap,IntKind.signed,IntKind.bits];simp;omega
theorem aUe{e r:Int}{K:Int->Prop}(h0:e=r)(h1:0<=r)(h2:r<=65535)(hk:K r):Wr .u16 e K:=by
 subst h0;refine Wr.intro ?_ hk;simp only[IntKind.wrap,IntKind.signed,IntKind.bits];simp;omega
abbrev zL(p0 p1 p2 p3 p4:Int):AV:=.agg [.v (.int .u32 p0),.v (.int .u32 p1),.v (.int .u8 p2),.v (.int .u16 p3),.v (.int .u16 p4)]
structure HdOk (p0 p1 p2 p3 p4:Int):Prop where
 l0:0<=p0
 l1:0<=p1
 l2:0<=p2
 l3:0<=p3
 l4:0<=p4
 h0:p0<=4294967295
 h1:p1<=4294967295
 h2:p2<=255
 h3:p3<=65535
 h4:p4<=65535
theorem aAO(p0 p1 p2 p3 p4:Int)(h:HdOk p0 p1 p2 p3 p4){K:KT}(hK:K (.agg [.v (.int .u32 p0),.v (.int .u32 p1),.v (.int .u32 p2),.v (.int .u32 p3),.v (.int .u32 p4)]) []):AC 194 [zL p0 p1 p2 p3 p4] [] K:=by
 obtain⟨l0,l1,l2,l3,l4,h0,h1,h2,h3,h4⟩:=h;refine aIs rfl rfl ?_;(repeat' ((conv=>whnf);first|refine zG ?_|apply zA|intro h|exact zT));all_goals conv=>whnf
 exact hK
theorem aQW(p0 p1 p2 p3 p4:Int)(h:HdOk p0 p1 p2 p3 p4){K:KT}(hK:K (zL p0 p1 p2 p3 p4) []):AC 297 [.agg [.v (.int .u32 p0),.v (.int .u32 p1),.v (.int .u32 p2),.v (.int .u32 p3),.v (.int .u32 p4)]] [] K:=by
 obtain⟨l0,l1,l2,l3,l4,h0,h1,h2,h3,h4⟩:=h;refine aPm rfl rfl ?_;(repeat' ((conv=>whnf);first|(refine kP zd ?_)|(with_reducible first|refine aVh rfl zo zo ?_|refine aUe rfl zo zo ?_)|refine zG ?_|apply zA|intro h|exact zT));all_goals conv=>whnf
 exact hK
theorem Is(f:Nat)(hf:f<=4)(p0 p1 p2 p3 p4 v:Int)(h:HdOk p0 p1 p2 p3 p4)(hv0:0<=v)(hv:v<=iN f){K:KT}
  (hK:K (zL (if f=0 then v else p0) (if f=1 then v else p1) (if f=2 then v else p2) (if f=3 then v else p3) (if f=4 then v else p4)) []):AC 256 [zL p0 p1 p2 p3 p4,.v (.int .i64 f),.v (.int .u32 v)] [] K:=by
 refine aIt rfl rfl ?_;have h':HdOk (if f=0 then v else p0) (if f=1 then v else p1) (if f=2 then v else p2) (if f=3 then v else p3) (if f=4 then v else p4):=by
  obtain⟨l0,l1,l2,l3,l4,h0,h1,h2,h3,h4⟩:=h;obtain rfl|rfl|rfl|rfl|rfl:f=0\/f=1\/f=2\/f=3\/f=4:=by omega
  all_goals(simp only[iN]at hv;constructor<;>simp<;>omega)
 obtain rfl|rfl|rfl|rfl|rfl:f=0\/f=1\/f=2\/f=3\/f=4:=by omega
 all_goals
  simp only[iN]at hv;simp only[if_true,if_false,Nat.reduceEqDiff,reduceIte,Nat.zero_ne_one,Nat.one_ne_zero]at h' hK;(repeat' ((conv=>whnf);first|(with_reducible first|refine aAO _ _ _ _ _ h ?_|refine aQW _ _ _ _ _ h' ?_)|(refine kP zd ?_)|refine zG ?_|apply zA|intro h|exact zT));all_goals conv=>whnf
  exact hK
theorem aQV(fn:FuncId)(hfn:fn=156)(op:Bool->Bool->Bool)(hop:Opf fn op)(a b:List Bx)(ha:a.length<1000000000)(hb:b.length<1000000000){K:KT}
  (hK:∀d0 d1 d2 d3 d4,HdOk d0 d1 d2 d3 d4->(iX op 5 (jN a) (jN b)≠[]->∀f,f<=4->N6 d0 d1 d2 d3 d4 f=Om (iX op 5 (jN a) (jN b)) f)->K (.tup [zL d0 d1 d2 d3 d4,.sb (!(iX op 5 (jN a) (jN b)).isEmpty)]) []):
  AC 189 [iE a,iE b,.fn (.func fn) [] []] [] K:=by
 have hva:=uP a;have hvb:=uP b;have hl:∀(c0 c1 c2 c3 c4:Int) {K:KT},E7 5 (iX op 5 (jN a) (jN b)) c0 c1 c2 c3 c4 K->AC 255 [.v (.int .i64 0),iE (jN a),iE (jN b),.fn (.func fn) [] [],.op 0 0] [Na c0 c1 c2 c3 c4] K:=fun c0 c1 c2 c3 c4 {K} h=>
  aJz fn hfn op hop 5 (aK _) (jN a) (jN b) c0 c1 c2 c3 c4 (Ww a) (Ww b) zo zo h
 have hok:=wZ op (jN a) (jN b);subst hfn;generalize iX op 5 (jN a) (jN b)=R at*;refine gQ (aPl rfl rfl ?_);(repeat' ((conv=>whnf);first|(with_reducible first|refine V1 a ha ?_|refine V1 b hb ?_)|(refine hl _ _ _ _ _ ?_)|refine zG ?_|apply zA|intro h|exact zT));all_goals conv=>whnf
 (all_goals rename_i d0 d1 d2 d3 d4 hd1 hd2);(repeat' ((conv=>whnf);first|refine zG ?_|apply zA|intro h|exact zT));all_goals conv=>whnf
 ·have hre:R=[]:=fB.1 h;have:=hK 0 0 0 0 0 (by constructor<;>decide) fun h=>absurd hre h;rw[hre]at this;exact⟨_,gR gO Weak.bool,this⟩
 ·have hre:R≠[]:=fun e=>by rw[e]at h;cases h
  have hd:=fun f hf=>hd2 hre f hf zo;obtain⟨x,l,rfl⟩:∃x l,R=x::l:=by
   cases hR:R with
   |nil=>exact absurd hR hre
   |cons x l=>exact⟨x,l,rfl⟩
  have hx:=hok x zx;have k0:=hd 0 zo;have k1:=hd 1 zo;have k2:=hd 2 zo;have k3:=hd 3 zo;have k4:=hd 4 zo;have x0:=hx 0 zo;have x1:=hx 1 zo;have x2:=hx 2 zo;have x3:=hx 3 zo;have x4:=hx 4 zo;have y0:=(x.get 0).l0;have y1:=(x.get 1).l0;have y2:=(x.get 2).l0;have y3:=(x.get 3).l0;have y4:=(x.get 4).l0;simp only[N6,Om,iN]at k0 k1 k2 k3 k4 x0 x1 x2 x3 x4;have hd0:HdOk d0 d1 d2 d3 d4:=by constructor<;>omega
  have hz:HdOk 0 0 0 0 0:=by constructor<;>decide
  have w0:∀{K:KT},K (zL d0 0 0 0 0) []->AC 256 [zL 0 0 0 0 0,.v (.int .i64 0),.v (.int .u32 d0)] [] K:=fun h=>Is 0 zo 0 0 0 0 0 d0 hz zo (by simp only[iN];omega) h;have w1:∀{K:KT},K (zL d0 d1 0 0 0) []->AC 256 [zL d0 0 0 0 0,.v (.int .i64 (0+1)),.v (.int .u32 d1)] [] K:=fun h=>Is 1 zo d0 0 0 0 0 d1 (by constructor<;>omega) zo (by simp only[iN];omega) h;have w2:∀{K:KT},K (zL d0 d1 d2 0 0) []->AC 256 [zL d0 d1 0 0 0,.v (.int .i64 (0+1+1)),.v (.int .u32 d2)] [] K:=fun h=>Is 2 zo d0 d1 0 0 0 d2 (by constructor<;>omega) zo (by simp only[iN];omega) h;have w3:∀{K:KT},K (zL d0 d1 d2 d3 0) []->AC 256 [zL d0 d1 d2 0 0,.v (.int .i64 (0+1+1+1)),.v (.int .u32 d3)] [] K:=fun h=>Is 3 zo d0 d1 d2 0 0 d3 (by constructor<;>omega) zo (by simp only[iN];omega) h;have w4:∀{K:KT},K (zL d0 d1 d2 d3 d4) []->AC 256 [zL d0 d1 d2 d3 0,.v (.int .i64 (0+1+1+1+1)),.v (.int .u32 d4)] [] K:=fun h=>Is 4 zo d0 d1 d2 d3 0 d4 (by constructor<;>omega) zo (by simp only[iN];omega) h;refine Lp.times 6 ?_;(repeat' ((conv=>whnf);first|(refine kP zd ?_)|(with_reducible first|refine w0 ?_|refine w1 ?_|refine w2 ?_|refine w3 ?_|refine w4 ?_)|refine zG ?_|apply zA|intro h|exact zT));all_goals conv=>whnf
  exact⟨_,gR gO Weak.bool,hK d0 d1 d2 d3 d4 hd0 fun _ f hf=>hd f hf⟩
theorem Tl(a b:List Bx)(ha:a.length<1000000000)(hb:b.length<1000000000){K:KT}(hK:K (.sb (iX woB 5 (jN a) (jN b)).isEmpty) []):AC 106 [iE a,iE b] [] K:=by
 refine gP (aIp rfl rfl ?_);(repeat' ((conv=>whnf);first|(refine aQV _ rfl woB Gu a b ha hb (fun d0 d1 d2 d3 d4 hd hl=>?_))|refine zG ?_|apply zA|intro h|exact zT));all_goals conv=>whnf
 refine .inr ⟨_,rfl,?_⟩;rw[Bool.not_not];exact hK
theorem aEN(xs:List AV)(n:Nat)(hn:xs.length=n)(hn2:n<1000)(p0 p1 s0 s1 d0 d1:Int){K:KT}
  (hK:K (.tup []) [.box [.os 2 10 0 (n+1)],.box [],.arr 10 (xs++[.agg [.v (.int .u32 0),.v (.int .u32 4294967295),.v (.int .u32 0),.v (.int .u32 4294967295),.v (.int .u32 p0),.v (.int .u32 p1),.v (.int .u32 s0),.v (.int .u32 s1),.v (.int .u32 d0),.v (.int .u32 d1)]])]):
  AC 117 [.v (.int .u32 p0),.v (.int .u32 p1),.v (.int .u32 s0),.v (.int .u32 s1),.v (.int .u32 d0),.v (.int .u32 d1),.op 0 0] [.box [.os 1 10 0 n],.arr 10 xs] K:=by
 refine aDi rfl rfl ?_;(repeat' ((conv=>whnf);first|(with_reducible refine Ny ?_)|(refine kP zd ?_)|(with_reducible refine iP hn ?_)|refine zG ?_|apply zA|intro h|exact zT));all_goals conv=>whnf
 exact hK
theorem Ir{K:KT}(hK:K (iE initS) []):AC 55 [] [] K:=by
 have hTop:∀{K:KT},K (.v (.int .u32 65535)) []->AC 119 [.v (.int .i64 4)] [] K:=fun h=>aAM 4 h;refine aIn rfl rfl ?_;(repeat' ((conv=>whnf);first|(with_reducible refine hTop ?_)|(refine aEN _ _ (by rfl) zd _ _ _ _ _ _ ?_)|refine zG ?_|apply zA|intro h|exact zT));all_goals conv=>whnf
 exact hK
theorem aQZ(t:Tp)(a b:Nat)(ea eb:Ed)(ha:t.edges[a]? =some ea)(hb:t.edges[b]? =some eb){K:KT}(hK:K (iY (Zk ea.pf eb.pf)) []):AC 152 [kB t,.v (.int .i64 a),.v (.int .i64 b)] [] K:=by
 have hal:=(aP.1 ha).1;have hbl:=(aP.1 hb).1;refine aPu rfl rfl ?_;(repeat' ((conv=>whnf);first|(with_reducible first|refine Ny ?_|refine hZ hal ?_|refine hZ hbl ?_|refine hU ha ?_|refine hU hb ?_|refine aQu _ ?_)|(refine kP zd ?_)|refine zG ?_|apply zA|intro h|exact zT));all_goals conv=>whnf
 exact hK
theorem V2(t:Tp)(hl:t.edges.length<10000){K:KT}(hK:K (iE (qJ t.edges)) []):AC 76 [kB t] [] K:=by
 refine aDl rfl rfl ?_;(repeat' ((conv=>whnf);first|refine zG ?_|apply zA|intro h|exact zT));all_goals conv=>whnf
 refine gM Nat (fun a=>⟨2,[(1,.arr 10 ((lF t.edges a).map iY)),(0,kU t)],[(1,.op 0 0),(3,.os 1 10 0 (lF t.edges a).length),(8,.v (.int .i64 ((t.edges.map mX).length:Nat))),(9,.v (.int .i64 a))]⟩) (fun a=>a<=t.edges.length) (fun a=>t.edges.length-a) 0 (aO _) ?_ ?_
 ·exact leA
 intro a ha;have hl1:=rB t.edges a;have hl2:a*t.edges.length<=10000*10000:=eJ zo zo;rcases aC a t.edges.length with hal|hal
 ·obtain⟨ea,hea⟩:=gex hal;(repeat' ((conv=>whnf);first|refine zG ?_|apply zA|intro h|exact zT));all_goals conv=>whnf
  refine gM Nat (fun b=>⟨2,[(1,.arr 10 ((lF t.edges a++mN t.edges a ea b).map iY)),(0,kU t)],[(1,.op 0 0),(3,.os 1 10 0 (lF t.edges a++mN t.edges a ea b).length),(4,.v (.int .i64 a)),(8,.v (.int .i64 ((t.edges.map mX).length:Nat))),(9,.v (.int .i64 a)),(14,.v (.int .i64 ((t.edges.map mX).length:Nat))),(15,.v (.int .i64 b))]⟩) (fun b=>b<=t.edges.length) (fun b=>t.edges.length-b) 0 (aO _) ?_ ?_
  ·rw[show mN t.edges a ea 0=[]from rfl,bI];exact leA
  intro b hb;have hl3:=Gv t.edges a ea b;rcases aC b t.edges.length with hbl|hbl
  ·obtain⟨eb,heb⟩:=gex hbl;have hs:=O1 (a:=a) (ea:=ea) heb;have hlen:(lF t.edges a++mN t.edges a ea b).length<=100010000:=by rw[aD];omega
   have hap:lF t.edges a++mN t.edges a ea (b+1)=(lF t.edges a++mN t.edges a ea b)++(if a=b then []else [Zk ea.pf eb.pf]):=by rw[hs,cV]
   generalize hA:lF t.edges a++mN t.edges a ea b=A at*;generalize hB:lF t.edges a++mN t.edges a ea (b+1)=B at*;(repeat' ((conv=>whnf);first|(with_reducible refine aQZ t a b ea eb hea heb ?_)|refine zG ?_|apply zA|intro h|exact zT));all_goals conv=>whnf
   all_goals
    refine⟨b+1,hbl,by omega,?_⟩;first
     |(rw[aF zo]at hap
       rw[hB,hap,aQ,aD,aN b,aL];exact leA)
     |(rw[aH zo,bI]at hap
       rw[hB,hap,aN b,aL];exact leA)
  ·(repeat' ((conv=>whnf);first|refine zG ?_|apply zA|intro h|exact zT));all_goals conv=>whnf
   have hbe:b=t.edges.length:=by omega
   rw[hbe,<-Ef hea];refine⟨a+1,hal,by omega,?_⟩;rw[aN a,aL];exact leA
 ·(repeat' ((conv=>whnf);first|refine zG ?_|apply zA|intro h|exact zT));all_goals conv=>whnf
  have hae:a=t.edges.length:=by omega
  rw[hae];exact hK
theorem aQY(t:Tp)(p:Pol)(hl:t.edges.length<1000)(hal:p.allow.length<1000000000)(hil:p.insp.length<1000000000)(hsl:∀x,x∈p.insp->x.set.length<1000000000){K:KT}(hK:K (.sb (Y4 t p)) []):AC 51 [kB t,N1 p] [] K:=by
 have hpl:=rB t.edges t.edges.length;have hpl2:t.edges.length*t.edges.length<=1000*1000:=eJ zo zo;have hinit:initS.length<1000000000:=by decide
 have hsub1:∀{K:KT},K (.sb (Pi p.allow (qJ t.edges))) []->AC 106 [iE p.allow,iE (qJ t.edges)] [] K:=fun h=>Tl _ _ hal (by rw[qJ];omega) h;have hsub2:∀{K:KT},K (.sb (Pi p.allow initS)) []->AC 106 [iE p.allow,iE initS] [] K:=fun h=>Tl _ _ hal hinit h;refine gP (aPt rfl rfl ?_);(repeat' ((conv=>whnf);first|(with_reducible first|refine uV t zo ?_|refine Nz p.allow hal ?_|refine V2 t zo ?_|refine hsub1 ?_|refine Ir ?_|refine hsub2 ?_)|refine zG ?_|apply zA|intro h|exact zT));all_goals conv=>whnf
 all_goals first
  |exact iL hK (Jy fun hp=>by have h1:=hp.comp;have h2:=hp.set;have h3:=hp.sub;have h4:=hp.init;simp_all)
  |skip
 have hc4:=h;rename_i hc1 hc2 hc3;have hbad:∀{n:Nat} {x:Insp},p.insp[n]? =some x->¬InOk p n x->Y4 t p=false:=fun hx hb=>Jy fun hp=>hb (hp.insp _ _ hx);clear hsub1 hsub2;refine gM Nat (fun n=>⟨1,[(0,S7 p)],[(3,.op 0 0),(36,.lst (p.insp.map vQ)),(37,.v (.int .i64 ((p.insp.map vQ).length:Nat))),(38,.v (.int .i64 n))]⟩) (fun n=>n<=p.insp.length/\∀(i:Nat) x,i<n->p.insp[i]? =some x->InOk p i x) (fun n=>p.insp.length-n) 0 ⟨aO _,fun i x h=>absurd h (bC _)⟩ ?_ ?_
 ·exact leA
 intro n ⟨hn,hinv⟩;rcases aC n p.insp.length with hnl|hnl
 ·obtain⟨x,hx⟩:=gex hnl;have hxl:=hsl x (aI hx);have hsubx:∀{K:KT},K (.sb (Pi x.set p.allow)) []->AC 106 [iE x.set,iE p.allow] [] K:=fun h=>Tl _ _ hxl hal h;have hprev:n=0\/∃k y,n=k+1/\p.insp[k]? =some y:=by
   cases n with
   |zero=>exact .inl rfl
   |succ k=>exact .inr ⟨k,_,rfl,aE zo⟩
  have hbx:=fun h=>hbad hx h;have hslice:∀{K:List AV->Prop},K ((p.insp.take n).map vQ)->Sl (p.insp.map vQ) 0 (n-0) K:=fun {K} h=>mQ zo (by rw[cA,eN];exact h);(repeat' ((conv=>whnf);first|(with_reducible first|refine hZ hnl ?_|refine iA hnl ?_|refine hU hx ?_)|refine zG ?_|apply zA|intro h|exact zT));all_goals conv=>whnf
  refine gY Unit (fun _=>⟨2,[(1,.box [.v (.string x.cls),iE x.set]),(0,S7 p)],[(3,.op 0 0),(6,.op 1 0),(36,.lst (p.insp.map vQ)),(37,.v (.int .i64 ((p.insp.map vQ).length:Nat))),(38,.v (.int .i64 n)),(5,.v (.int .i64 n))]⟩)
   (fun _=>nQ x.cls/\(∀k y,n=k+1->p.insp[k]? =some y->leS x.cls y.cls=false)/\x.set≠[]/\kN x.set=true/\Pi x.set p.allow=true) ?_ ?_
  ·have hemp:∀{l:List Bx},¬(((l.map iY).length:Nat):Int)=0->l≠[]:=fun h e=>h (by rw[e];rfl);rcases hprev with rfl|⟨k,y,rfl,hy⟩
   ·(repeat' ((conv=>whnf);first|(with_reducible first|refine hZ hnl ?_|refine iA hnl ?_|refine hU hx ?_|refine tM _ ?_|refine Nz x.set hxl ?_|refine hsubx ?_)|refine zG ?_|apply zA|intro h|exact zT));all_goals conv=>whnf
    all_goals first
     |(exact iL hK (hbx fun ho=>by first
        |exact absurd h (by rw[nD ho.name];decide)
        |exact absurd h (by rw[ho.set];decide)
        |exact absurd h (by rw[ho.sub];decide)
        |exact ho.ne (cG.1 (by rw[aA]at h;omega))))
     |(refine⟨(),⟨nameB_iff.1 zp,fun k y h=>by omega,hemp zp,by assumption,by assumption⟩,?_⟩
       exact leA)
   ·have hkl:k<p.insp.length:=by omega
    have hordk:(Op.bytesLess x.cls.toList y.cls.toList||x.cls.toList==y.cls.toList)=false->∀k' y',k+1=k'+1->p.insp[k']? =some y'->leS x.cls y'.cls=false:=fun h k' y' h1 h2=>by
     obtain rfl:k=k':=by omega
     rw[hy]at h2;cases h2;exact h
    (repeat' ((conv=>whnf);first|(with_reducible first|refine hZ hnl ?_|refine iA hnl ?_|refine gU k zo (by rw[aA];exact hkl) ?_|refine hU hx ?_|refine hU hy ?_|refine tM _ ?_|refine Nz x.set hxl ?_|refine hsubx ?_)|refine zG ?_|apply zA|intro h|exact zT));all_goals conv=>whnf
    all_goals first
     |(exact iL hK (hbx fun ho=>by first
        |exact absurd h (by rw[nD ho.name];decide)
        |exact absurd h (by rw[ho.set];decide)
        |exact absurd h (by rw[ho.sub];decide)
        |exact ho.ne (cG.1 (by rw[aA]at h;omega))
        |exact absurd (show leS x.cls y.cls=true from h) (by rw[ho.ord k y rfl hy];decide)))
     |(refine⟨(),⟨nameB_iff.1 zp,hordk zp,hemp zp,by assumption,by assumption⟩,?_⟩
       exact leA)
  ·rintro⟨⟩ ⟨f1,f2,f3,f4,f5⟩
   (repeat' ((conv=>whnf);first|(with_reducible first|refine gZ 0 n rfl rfl zo (by rw[aA];omega) ?_|refine hslice ?_)|refine zG ?_|apply zA|intro h|exact zT));all_goals conv=>whnf
   have htl:(p.insp.take n).length=n:=by rw[aZ];omega
   refine gM Nat (fun k=>⟨2,[(1,.box [.v (.string x.cls),iE x.set]),(0,S7 p)],[(3,.op 0 0),(6,.op 1 0),(36,.lst (p.insp.map vQ)),(37,.v (.int .i64 ((p.insp.map vQ).length:Nat))),(38,.v (.int .i64 n)),(86,.lst ((p.insp.take n).map vQ)),(87,.v (.int .i64 (((p.insp.take n).map vQ).length:Nat))),(88,.v (.int .i64 k))]⟩) (fun k=>k<=n/\∀(i:Nat) y,i<k->p.insp[i]? =some y->aAQ x.set y.set) (fun k=>n-k) 0 ⟨aO _,fun i y h=>absurd h (bC _)⟩ ?_ ?_
   ·exact leA
   intro k ⟨hk,hdis⟩;rcases aC k n with hkn|hkn
   ·obtain⟨y,hy⟩:∃y,p.insp[k]? =some y:=⟨_,aE zo⟩
    have hyt:(p.insp.take n)[k]? =some y:=by rw[cW,aH hkn];exact hy
    have hkt:k<(p.insp.take n).length:=by omega
    have hyl:=hsl y (aI hy);have hys:=(hinv k y hkn hy).set;have hdi:=Qp f4 hys;have hle:=Ye (iX anB 5 x.set y.set);have hint:∀{K:KT},K (.tup [iE (rQ (iX anB 5 x.set y.set)),.v (.int .i64 (uH (iX anB 5 x.set y.set)))]) []->AC 77 [iE x.set,iE y.set] [] K:=fun h=>Lc x.set y.set hxl hyl (by rw[pX f4 hys];exact h);generalize iX anB 5 x.set y.set=c at*;(repeat' ((conv=>whnf);first|(with_reducible first|refine hZ hkt ?_|refine iA hkt ?_|refine hU hyt ?_|refine hint ?_)|refine zG ?_|apply zA|intro h|exact zT));all_goals conv=>whnf
    all_goals first
     |(refine⟨k+1,⟨hkn,iD hy (hdi.1 (Decidable.byContradiction fun hc=>?_)) hdis⟩,by omega,?_⟩
       ·rcases hle.2 hc with h1|h1
        ·exact h1 zp
        ·simp only[aA]at*;omega
       ·rw[aN,aL];(exact leA))
     |(refine iL hK (hbx fun ho=>?_)
       have hc:=hdi.2 (ho.disj k y hkn hy);refine absurd hc (hle.1 ?_);first
        |(right;rw[aA]at h;omega)
        |(left;assumption))
   ·have hke:k=n:=by omega
    subst hke;(repeat' ((conv=>whnf);first|refine zG ?_|apply zA|intro h|exact zT));all_goals conv=>whnf
    refine⟨k+1,⟨hnl,iD hx ⟨f1,f2,f3,f4,f5,fun j y hj hy=>hdis j y hj hy⟩ hinv⟩,by omega,?_⟩;rw[aN,aL];exact leA
 ·(repeat' ((conv=>whnf);first|refine zG ?_|apply zA|intro h|exact zT));all_goals conv=>whnf
  exact jU hK (Mc ⟨hc1,hc2,hc3,hc4,iC hnl hinv⟩)
end Go.Proofs.YtnomkooikbhgmaaGreatDoor
