/- Lemmas. -/
import Derived.Test.YtnomkooikbhgmaaGreatDoorProg
import Derived.Test.YtnomkooikbhgmaaGreatDoorM21
set_option linter.unusedVariables false
set_option linter.unusedSimpArgs false
set_option maxRecDepth 100000
set_option maxHeartbeats 4000000
noncomputable section
namespace Go.Proofs.YtnomkooikbhgmaaGreatDoor
open Go Go.Vm
theorem makeGo_vld:∀(l s:List Bx),makeGo s (vldB l)=makeGo s l
 |[],s=>rfl
 |b::l,s=>by
  by_cases h:b.ok
  ·have e:vldB (b::l)=b::vldB l:=by simp[vldB,h]
   rw[e,makeGo,makeGo,aG h,aG h];split
   ·rfl
   ·exact makeGo_vld l _
  ·have e:vldB (b::l)=vldB l:=by simp[vldB,h]
   rw[e,makeGo,aD h];exact makeGo_vld l s
theorem cxMake(l:List Bx)(hl:l.length<1000000000){K:KT}(hK:K (.tup [encXs (makeP l).1,.v (.int .i64 (makeP l).2)]) []):AC 75 [encXs l] [] K:=by
 have hvl:=vldB_len l;refine gP (ofxMake rfl rfl ?_);(repeat' ((conv=>whnf);first|(with_reducible refine cxVal l hl ?_)|refine zG ?_|apply zA|intro h|exact zT));all_goals conv=>whnf
 have hv0:∀x,x∈vldB l->x.ok:=fun x hx=>by simpa using(cJ.1 hx).2
 have hm0:makeP l=makeGo [] (vldB l):=(makeGo_vld l []).symm;generalize vldB l=v at*;refine gL (Nat×List Bx) (fun g=>⟨0,[],[(4,encXs g.2),(10,encXs v),(11,.v (.int .i64 ((v.map encX).length:Nat))),(12,.v (.int .i64 g.1))]⟩) (fun g=>g.1<=v.length/\PSet g.2/\okL g.2/\makeP l=makeGo g.2 (v.drop g.1)) (fun g=>v.length-g.1) (0,[]) ⟨aK _,pset_nil,okL_nil,by rw[bZ];exact hm0⟩ ?_ ?_
 ·exact leA
 rintro⟨i,s⟩ ⟨hi,hs,hos,hm⟩
 simp only at hi hs hos hm⊢;rcases aF i v.length with hil|hil
 ·obtain⟨x,hx⟩:=gex hil;have hd:v.drop i=x::v.drop (i+1):=by
   rw[aE hil]at hx;rw[<-bE hx,<-bB hil]
  have hxo:=hv0 x (aI hx);rw[hd,makeGo,aG hxo]at hm;have hadd:∀{K:KT},K (.tup [encXs (limP (addO s x)),.v (.int .i64 (limE (addO s x)))]) []->AC 150 [encXs s,.lst [encX x],.fn (.func 151) [] []] [] K:=fun h=>
   cxComb _ orB opf_either s [x] hos (fun y hy=>by rw[aV.1 hy];exact ok_get hxo) (by have:=hs.len;omega) zx h
  (repeat' ((conv=>whnf);first|(with_reducible first|refine hU hil ?_|refine hJ hx ?_|refine hadd ?_)|refine zG ?_|apply zA|intro h|exact zT));all_goals conv=>whnf
  ·have hlen:¬4096<(addO s x).length:=fun hh=>limE_ne.2 hh h;rw[aD hlen]at hm;refine⟨(i+1,addO s x),⟨hil,cano_pset (by unfold addO at hlen;omega),okL_cano _ _ _,hm⟩,by simp only;omega,?_⟩;rw[show limP (addO s x)=addO s x from by unfold limP;rw[aD hlen]];simp only;rw[aO,aN];exact leA
  ·have hlen:4096<(addO s x).length:=limE_ne.1 h;rw[aG hlen]at hm;rw[hm]at hK;have h3:limE (addO s x)=3:=by unfold limE;rw[aG hlen]
   rw[h3];exact⟨_,gQ gR gM,hK⟩
 ·rw[bU hil,makeGo]at hm;rw[hm]at hK;(repeat' ((conv=>whnf);first|refine zG ?_|apply zA|intro h|exact zT));all_goals conv=>whnf
  exact⟨_,gM,hK⟩
theorem cxSet(l:List Bx)(hl:l.length<1000000000){K:KT}(hK:K (.tup [encXs (givP l).1,.v (.int .i64 (givP l).2)]) []):AC 232 [encXs l] [] K:=by
 refine gP (ofxSet rfl rfl ?_);unfold givP at hK;(repeat' ((conv=>whnf);first|(with_reducible first|refine cxVald l hl ?_|refine cxMake l hl ?_)|refine zG ?_|apply zA|intro h|exact zT));all_goals conv=>whnf
 all_goals simp_all
 all_goals exact⟨_,gM,hK⟩
theorem cxOf(fn:FuncId)(op:Bool->Bool->Bool)(hop:Opf fn op)(a b:List Bx)(ha:a.length<1000000000)(hb:b.length<1000000000){K:KT}(hK:K (.tup [encXs (combP op a b).1,.v (.int .i64 (combP op a b).2)]) []):
  AC 153 [encXs a,encXs b,.fn (.func fn) [] []] [] K:=by
 refine gP (ofxOf rfl rfl ?_);unfold combP at hK;have hr:∀{K:KT},K (.tup [encXs (limP (cano op 5 (givP a).1 (givP b).1)),.v (.int .i64 (limE (cano op 5 (givP a).1 (givP b).1)))]) []->AC 150 [encXs (givP a).1,encXs (givP b).1,.fn (.func fn) [] []] [] K:=fun h=>cxComb fn op hop _ _ (okL_giv a) (okL_giv b) (by have:=(givP_pset a).len;omega) (by have:=(givP_pset b).len;omega) h;(repeat' ((conv=>whnf);first|(with_reducible first|refine cxSet a ha ?_|refine cxSet b hb ?_|refine hr ?_)|refine zG ?_|apply zA|intro h|exact zT));all_goals conv=>whnf
 all_goals simp_all
 all_goals first|exact⟨_,gM,hK⟩|exact⟨_,gQ gR gM,hK⟩
theorem cxInt(a b:List Bx)(ha:a.length<1000000000)(hb:b.length<1000000000){K:KT}(hK:K (.tup [encXs (combP anB a b).1,.v (.int .i64 (combP anB a b).2)]) []):AC 77 [encXs a,encXs b] [] K:=by
 refine ofxInt rfl rfl ?_;(repeat' ((conv=>whnf);first|(with_reducible refine cxOf _ anB opf_both a b ha hb ?_)|refine zG ?_|apply zA|intro h|exact zT));all_goals conv=>whnf
 exact hK
theorem cxUn(a b:List Bx)(ha:a.length<1000000000)(hb:b.length<1000000000){K:KT}(hK:K (.tup [encXs (combP orB a b).1,.v (.int .i64 (combP orB a b).2)]) []):AC 80 [encXs a,encXs b] [] K:=by
 refine ofxUn rfl rfl ?_;(repeat' ((conv=>whnf);first|(with_reducible refine cxOf _ orB opf_either a b ha hb ?_)|refine zG ?_|apply zA|intro h|exact zT));all_goals conv=>whnf
 exact hK
theorem cxSub(a b:List Bx)(ha:a.length<1000000000)(hb:b.length<1000000000){K:KT}(hK:K (.tup [encXs (combP woB a b).1,.v (.int .i64 (combP woB a b).2)]) []):AC 79 [encXs a,encXs b] [] K:=by
 refine ofxSub rfl rfl ?_;(repeat' ((conv=>whnf);first|(with_reducible refine cxOf _ woB opf_without a b ha hb ?_)|refine zG ?_|apply zA|intro h|exact zT));all_goals conv=>whnf
 exact hK
theorem wrU8{e r:Int}{K:Int->Prop}(h0:e=r)(h1:0<=r)(h2:r<=255)(hk:K r):Wr .u8 e K:=by
 subst h0;refine Wr.intro ?_ hk;simp only[IntKind.wrap,IntKind.signed,IntKind.bits];simp;omega
theorem wrU16{e r:Int}{K:Int->Prop}(h0:e=r)(h1:0<=r)(h2:r<=65535)(hk:K r):Wr .u16 e K:=by
 subst h0;refine Wr.intro ?_ hk;simp only[IntKind.wrap,IntKind.signed,IntKind.bits];simp;omega
abbrev encH(p0 p1 p2 p3 p4:Int):AV:=.agg [.v (.int .u32 p0),.v (.int .u32 p1),.v (.int .u8 p2),.v (.int .u16 p3),.v (.int .u16 p4)]
structure HdOk (p0 p1 p2 p3 p4:Int):Prop where
 l0:0<=p0
 l1:0<=p1
 l2:0<=p2
 l3:0<=p3
 l4:0<=p4
 h0:p0<=4294967295
 h1:p1<=4294967295
 h2:p2<=255
 h3:p3<=65535
 h4:p4<=65535
theorem cxVals(p0 p1 p2 p3 p4:Int)(h:HdOk p0 p1 p2 p3 p4){K:KT}(hK:K (.agg [.v (.int .u32 p0),.v (.int .u32 p1),.v (.int .u32 p2),.v (.int .u32 p3),.v (.int .u32 p4)]) []):AC 194 [encH p0 p1 p2 p3 p4] [] K:=by
 obtain⟨l0,l1,l2,l3,l4,h0,h1,h2,h3,h4⟩:=h;refine ofxVals rfl rfl ?_;(repeat' ((conv=>whnf);first|refine zG ?_|apply zA|intro h|exact zT));all_goals conv=>whnf
 exact hK
theorem cxHdr(p0 p1 p2 p3 p4:Int)(h:HdOk p0 p1 p2 p3 p4){K:KT}(hK:K (encH p0 p1 p2 p3 p4) []):AC 297 [.agg [.v (.int .u32 p0),.v (.int .u32 p1),.v (.int .u32 p2),.v (.int .u32 p3),.v (.int .u32 p4)]] [] K:=by
 obtain⟨l0,l1,l2,l3,l4,h0,h1,h2,h3,h4⟩:=h;refine ofxHdr rfl rfl ?_;(repeat' ((conv=>whnf);first|(refine in_c zd ?_)|(with_reducible first|refine wrU8 rfl zo zo ?_|refine wrU16 rfl zo zo ?_)|refine zG ?_|apply zA|intro h|exact zT));all_goals conv=>whnf
 exact hK
theorem cxWith(f:Nat)(hf:f<=4)(p0 p1 p2 p3 p4 v:Int)(h:HdOk p0 p1 p2 p3 p4)(hv0:0<=v)(hv:v<=topF f){K:KT}
  (hK:K (encH (if f=0 then v else p0) (if f=1 then v else p1) (if f=2 then v else p2) (if f=3 then v else p3) (if f=4 then v else p4)) []):AC 256 [encH p0 p1 p2 p3 p4,.v (.int .i64 f),.v (.int .u32 v)] [] K:=by
 refine ofxWith rfl rfl ?_;have h':HdOk (if f=0 then v else p0) (if f=1 then v else p1) (if f=2 then v else p2) (if f=3 then v else p3) (if f=4 then v else p4):=by
  obtain⟨l0,l1,l2,l3,l4,h0,h1,h2,h3,h4⟩:=h;obtain rfl|rfl|rfl|rfl|rfl:f=0\/f=1\/f=2\/f=3\/f=4:=by omega
  all_goals(simp only[topF]at hv;constructor<;>simp<;>omega)
 obtain rfl|rfl|rfl|rfl|rfl:f=0\/f=1\/f=2\/f=3\/f=4:=by omega
 all_goals
  simp only[topF]at hv;simp only[if_true,if_false,Nat.reduceEqDiff,reduceIte,Nat.zero_ne_one,Nat.one_ne_zero]at h' hK;(repeat' ((conv=>whnf);first|(with_reducible first|refine cxVals _ _ _ _ _ h ?_|refine cxHdr _ _ _ _ _ h' ?_)|(refine in_c zd ?_)|refine zG ?_|apply zA|intro h|exact zT));all_goals conv=>whnf
  exact hK
theorem cxFst(fn:FuncId)(hfn:fn=156)(op:Bool->Bool->Bool)(hop:Opf fn op)(a b:List Bx)(ha:a.length<1000000000)(hb:b.length<1000000000){K:KT}
  (hK:∀d0 d1 d2 d3 d4,HdOk d0 d1 d2 d3 d4->(cano op 5 (vldB a) (vldB b)≠[]->∀f,f<=4->five d0 d1 d2 d3 d4 f=lows (cano op 5 (vldB a) (vldB b)) f)->K (.tup [encH d0 d1 d2 d3 d4,.sb (!(cano op 5 (vldB a) (vldB b)).isEmpty)]) []):
  AC 189 [encXs a,encXs b,.fn (.func fn) [] []] [] K:=by
 have hva:=vldB_len a;have hvb:=vldB_len b;have hl:∀(c0 c1 c2 c3 c4:Int) {K:KT},LeastK 5 (cano op 5 (vldB a) (vldB b)) c0 c1 c2 c3 c4 K->AC 255 [.v (.int .i64 0),encXs (vldB a),encXs (vldB b),.fn (.func fn) [] [],.op 0 0] [boxV c0 c1 c2 c3 c4] K:=fun c0 c1 c2 c3 c4 {K} h=>
  cxLst fn hfn op hop 5 (aM _) (vldB a) (vldB b) c0 c1 c2 c3 c4 (okL_vld a) (okL_vld b) zo zo h
 have hok:=okL_cano op (vldB a) (vldB b);subst hfn;generalize cano op 5 (vldB a) (vldB b)=R at*;refine gP (ofxFst rfl rfl ?_);(repeat' ((conv=>whnf);first|(with_reducible first|refine cxVal a ha ?_|refine cxVal b hb ?_)|(refine hl _ _ _ _ _ ?_)|refine zG ?_|apply zA|intro h|exact zT));all_goals conv=>whnf
 (all_goals rename_i d0 d1 d2 d3 d4 hd1 hd2);(repeat' ((conv=>whnf);first|refine zG ?_|apply zA|intro h|exact zT));all_goals conv=>whnf
 ·have hre:R=[]:=eZ.1 h;have:=hK 0 0 0 0 0 (by constructor<;>decide) fun h=>absurd hre h;rw[hre]at this;exact⟨_,gQ gM Weak.bool,this⟩
 ·have hre:R≠[]:=fun e=>by rw[e]at h;cases h
  have hd:=fun f hf=>hd2 hre f hf zo;obtain⟨x,l,rfl⟩:∃x l,R=x::l:=by
   cases hR:R with
   |nil=>exact absurd hR hre
   |cons x l=>exact⟨x,l,rfl⟩
  have hx:=hok x zx;have k0:=hd 0 zo;have k1:=hd 1 zo;have k2:=hd 2 zo;have k3:=hd 3 zo;have k4:=hd 4 zo;have x0:=hx 0 zo;have x1:=hx 1 zo;have x2:=hx 2 zo;have x3:=hx 3 zo;have x4:=hx 4 zo;have y0:=(x.get 0).l0;have y1:=(x.get 1).l0;have y2:=(x.get 2).l0;have y3:=(x.get 3).l0;have y4:=(x.get 4).l0;simp only[five,lows,topF]at k0 k1 k2 k3 k4 x0 x1 x2 x3 x4;have hd0:HdOk d0 d1 d2 d3 d4:=by constructor<;>omega
  have hz:HdOk 0 0 0 0 0:=by constructor<;>decide
  have w0:∀{K:KT},K (encH d0 0 0 0 0) []->AC 256 [encH 0 0 0 0 0,.v (.int .i64 0),.v (.int .u32 d0)] [] K:=fun h=>cxWith 0 zo 0 0 0 0 0 d0 hz zo (by simp only[topF];omega) h;have w1:∀{K:KT},K (encH d0 d1 0 0 0) []->AC 256 [encH d0 0 0 0 0,.v (.int .i64 (0+1)),.v (.int .u32 d1)] [] K:=fun h=>cxWith 1 zo d0 0 0 0 0 d1 (by constructor<;>omega) zo (by simp only[topF];omega) h;have w2:∀{K:KT},K (encH d0 d1 d2 0 0) []->AC 256 [encH d0 d1 0 0 0,.v (.int .i64 (0+1+1)),.v (.int .u32 d2)] [] K:=fun h=>cxWith 2 zo d0 d1 0 0 0 d2 (by constructor<;>omega) zo (by simp only[topF];omega) h;have w3:∀{K:KT},K (encH d0 d1 d2 d3 0) []->AC 256 [encH d0 d1 d2 0 0,.v (.int .i64 (0+1+1+1)),.v (.int .u32 d3)] [] K:=fun h=>cxWith 3 zo d0 d1 d2 0 0 d3 (by constructor<;>omega) zo (by simp only[topF];omega) h;have w4:∀{K:KT},K (encH d0 d1 d2 d3 d4) []->AC 256 [encH d0 d1 d2 d3 0,.v (.int .i64 (0+1+1+1+1)),.v (.int .u32 d4)] [] K:=fun h=>cxWith 4 zo d0 d1 d2 d3 0 d4 (by constructor<;>omega) zo (by simp only[topF];omega) h;refine Lp.times 6 ?_;(repeat' ((conv=>whnf);first|(refine in_c zd ?_)|(with_reducible first|refine w0 ?_|refine w1 ?_|refine w2 ?_|refine w3 ?_|refine w4 ?_)|refine zG ?_|apply zA|intro h|exact zT));all_goals conv=>whnf
  exact⟨_,gQ gM Weak.bool,hK d0 d1 d2 d3 d4 hd0 fun _ f hf=>hd f hf⟩
theorem cxSubs(a b:List Bx)(ha:a.length<1000000000)(hb:b.length<1000000000){K:KT}(hK:K (.sb (cano woB 5 (vldB a) (vldB b)).isEmpty) []):AC 106 [encXs a,encXs b] [] K:=by
 refine gO (ofxSubs rfl rfl ?_);(repeat' ((conv=>whnf);first|(refine cxFst _ rfl woB opf_without a b ha hb (fun d0 d1 d2 d3 d4 hd hl=>?_))|refine zG ?_|apply zA|intro h|exact zT));all_goals conv=>whnf
 refine .inr ⟨_,rfl,?_⟩;rw[Bool.not_not];exact hK
theorem cxInitC(xs:List AV)(n:Nat)(hn:xs.length=n)(hn2:n<1000)(p0 p1 s0 s1 d0 d1:Int){K:KT}
  (hK:K (.tup []) [.box [.os 2 10 0 (n+1)],.box [],.arr 10 (xs++[.agg [.v (.int .u32 0),.v (.int .u32 4294967295),.v (.int .u32 0),.v (.int .u32 4294967295),.v (.int .u32 p0),.v (.int .u32 p1),.v (.int .u32 s0),.v (.int .u32 s1),.v (.int .u32 d0),.v (.int .u32 d1)]])]):
  AC 117 [.v (.int .u32 p0),.v (.int .u32 p1),.v (.int .u32 s0),.v (.int .u32 s1),.v (.int .u32 d0),.v (.int .u32 d1),.op 0 0] [.box [.os 1 10 0 n],.arr 10 xs] K:=by
 refine ofxInitC rfl rfl ?_;(repeat' ((conv=>whnf);first|(with_reducible refine cxFull ?_)|(refine in_c zd ?_)|(with_reducible refine sl_full hn ?_)|refine zG ?_|apply zA|intro h|exact zT));all_goals conv=>whnf
 exact hK
theorem cxInit{K:KT}(hK:K (encXs initS) []):AC 55 [] [] K:=by
 have hTop:∀{K:KT},K (.v (.int .u32 65535)) []->AC 119 [.v (.int .i64 4)] [] K:=fun h=>cxTop 4 h;refine ofxInit rfl rfl ?_;(repeat' ((conv=>whnf);first|(with_reducible refine hTop ?_)|(refine cxInitC _ _ (by rfl) zd _ _ _ _ _ _ ?_)|refine zG ?_|apply zA|intro h|exact zT));all_goals conv=>whnf
 exact hK
theorem cyWho(t:Tp)(a b:Nat)(ea eb:Ed)(ha:t.edges[a]? =some ea)(hb:t.edges[b]? =some eb){K:KT}(hK:K (encX (whoB ea.pf eb.pf)) []):AC 152 [encT t,.v (.int .i64 a),.v (.int .i64 b)] [] K:=by
 have hal:=(aP.1 ha).1;have hbl:=(aP.1 hb).1;refine ofyWho rfl rfl ?_;(repeat' ((conv=>whnf);first|(with_reducible first|refine cxFull ?_|refine hU hal ?_|refine hU hbl ?_|refine hJ ha ?_|refine hJ hb ?_|refine cpOf _ ?_)|(refine in_c zd ?_)|refine zG ?_|apply zA|intro h|exact zT));all_goals conv=>whnf
 exact hK
theorem cyPairs(t:Tp)(hl:t.edges.length<10000){K:KT}(hK:K (encXs (pairsB t.edges)) []):AC 76 [encT t] [] K:=by
 refine ofyPairs rfl rfl ?_;(repeat' ((conv=>whnf);first|refine zG ?_|apply zA|intro h|exact zT));all_goals conv=>whnf
 refine gL Nat (fun a=>⟨2,[(1,.arr 10 ((pairsTo t.edges a).map encX)),(0,boxT t)],[(1,.op 0 0),(3,.os 1 10 0 (pairsTo t.edges a).length),(8,.v (.int .i64 ((t.edges.map encE).length:Nat))),(9,.v (.int .i64 a))]⟩) (fun a=>a<=t.edges.length) (fun a=>t.edges.length-a) 0 (aK _) ?_ ?_
 ·exact leA
 intro a ha;have hl1:=pairsTo_len t.edges a;have hl2:a*t.edges.length<=10000*10000:=dV zo zo;rcases aF a t.edges.length with hal|hal
 ·obtain⟨ea,hea⟩:=gex hal;(repeat' ((conv=>whnf);first|refine zG ?_|apply zA|intro h|exact zT));all_goals conv=>whnf
  refine gL Nat (fun b=>⟨2,[(1,.arr 10 ((pairsTo t.edges a++pairsAt t.edges a ea b).map encX)),(0,boxT t)],[(1,.op 0 0),(3,.os 1 10 0 (pairsTo t.edges a++pairsAt t.edges a ea b).length),(4,.v (.int .i64 a)),(8,.v (.int .i64 ((t.edges.map encE).length:Nat))),(9,.v (.int .i64 a)),(14,.v (.int .i64 ((t.edges.map encE).length:Nat))),(15,.v (.int .i64 b))]⟩) (fun b=>b<=t.edges.length) (fun b=>t.edges.length-b) 0 (aK _) ?_ ?_
  ·rw[show pairsAt t.edges a ea 0=[]from rfl,bF];exact leA
  intro b hb;have hl3:=pairsAt_len t.edges a ea b;rcases aF b t.edges.length with hbl|hbl
  ·obtain⟨eb,heb⟩:=gex hbl;have hs:=pairsAt_succ (a:=a) (ea:=ea) heb;have hlen:(pairsTo t.edges a++pairsAt t.edges a ea b).length<=100010000:=by rw[aC];omega
   have hap:pairsTo t.edges a++pairsAt t.edges a ea (b+1)=(pairsTo t.edges a++pairsAt t.edges a ea b)++(if a=b then []else [whoB ea.pf eb.pf]):=by rw[hs,cN]
   generalize hA:pairsTo t.edges a++pairsAt t.edges a ea b=A at*;generalize hB:pairsTo t.edges a++pairsAt t.edges a ea (b+1)=B at*;(repeat' ((conv=>whnf);first|(with_reducible refine cyWho t a b ea eb hea heb ?_)|refine zG ?_|apply zA|intro h|exact zT));all_goals conv=>whnf
   all_goals
    refine⟨b+1,hbl,by omega,?_⟩;first
     |(rw[aD zo]at hap
       rw[hB,hap,aQ,aC,aO b,aN];exact leA)
     |(rw[aG zo,bF]at hap
       rw[hB,hap,aO b,aN];exact leA)
  ·(repeat' ((conv=>whnf);first|refine zG ?_|apply zA|intro h|exact zT));all_goals conv=>whnf
   have hbe:b=t.edges.length:=by omega
   rw[hbe,<-pairsTo_succ hea];refine⟨a+1,hal,by omega,?_⟩;rw[aO a,aN];exact leA
 ·(repeat' ((conv=>whnf);first|refine zG ?_|apply zA|intro h|exact zT));all_goals conv=>whnf
  have hae:a=t.edges.length:=by omega
  rw[hae];exact hK
theorem cyVal(t:Tp)(p:Pol)(hl:t.edges.length<1000)(hal:p.allow.length<1000000000)(hil:p.insp.length<1000000000)(hsl:∀x,x∈p.insp->x.set.length<1000000000){K:KT}(hK:K (.sb (polB t p)) []):AC 51 [encT t,encPol p] [] K:=by
 have hpl:=pairsTo_len t.edges t.edges.length;have hpl2:t.edges.length*t.edges.length<=1000*1000:=dV zo zo;have hinit:initS.length<1000000000:=by decide
 have hsub1:∀{K:KT},K (.sb (subB p.allow (pairsB t.edges))) []->AC 106 [encXs p.allow,encXs (pairsB t.edges)] [] K:=fun h=>cxSubs _ _ hal (by rw[pairsB];omega) h;have hsub2:∀{K:KT},K (.sb (subB p.allow initS)) []->AC 106 [encXs p.allow,encXs initS] [] K:=fun h=>cxSubs _ _ hal hinit h;refine gO (ofyVal rfl rfl ?_);(repeat' ((conv=>whnf);first|(with_reducible first|refine ctComp t zo ?_|refine cxVald p.allow hal ?_|refine cyPairs t zo ?_|refine hsub1 ?_|refine cxInit ?_|refine hsub2 ?_)|refine zG ?_|apply zA|intro h|exact zT));all_goals conv=>whnf
 all_goals first
  |exact fin_f hK (polB_false fun hp=>by have h1:=hp.comp;have h2:=hp.set;have h3:=hp.sub;have h4:=hp.init;simp_all)
  |skip
 have hc4:=h;rename_i hc1 hc2 hc3;have hbad:∀{n:Nat} {x:Insp},p.insp[n]? =some x->¬InOk p n x->polB t p=false:=fun hx hb=>polB_false fun hp=>hb (hp.insp _ _ hx);clear hsub1 hsub2;refine gL Nat (fun n=>⟨1,[(0,boxPol p)],[(3,.op 0 0),(36,.lst (p.insp.map encIn)),(37,.v (.int .i64 ((p.insp.map encIn).length:Nat))),(38,.v (.int .i64 n))]⟩) (fun n=>n<=p.insp.length/\∀(i:Nat) x,i<n->p.insp[i]? =some x->InOk p i x) (fun n=>p.insp.length-n) 0 ⟨aK _,fun i x h=>absurd h (bC _)⟩ ?_ ?_
 ·exact leA
 intro n ⟨hn,hinv⟩;rcases aF n p.insp.length with hnl|hnl
 ·obtain⟨x,hx⟩:=gex hnl;have hxl:=hsl x (aI hx);have hsubx:∀{K:KT},K (.sb (subB x.set p.allow)) []->AC 106 [encXs x.set,encXs p.allow] [] K:=fun h=>cxSubs _ _ hxl hal h;have hprev:n=0\/∃k y,n=k+1/\p.insp[k]? =some y:=by
   cases n with
   |zero=>exact .inl rfl
   |succ k=>exact .inr ⟨k,_,rfl,aE zo⟩
  have hbx:=fun h=>hbad hx h;have hslice:∀{K:List AV->Prop},K ((p.insp.take n).map encIn)->Sl (p.insp.map encIn) 0 (n-0) K:=fun {K} h=>sl_map zo (by rw[bZ,eL];exact h);(repeat' ((conv=>whnf);first|(with_reducible first|refine hU hnl ?_|refine hZ hnl ?_|refine hJ hx ?_)|refine zG ?_|apply zA|intro h|exact zT));all_goals conv=>whnf
  refine gV Unit (fun _=>⟨2,[(1,.box [.v (.string x.cls),encXs x.set]),(0,boxPol p)],[(3,.op 0 0),(6,.op 1 0),(36,.lst (p.insp.map encIn)),(37,.v (.int .i64 ((p.insp.map encIn).length:Nat))),(38,.v (.int .i64 n)),(5,.v (.int .i64 n))]⟩)
   (fun _=>nameOk x.cls/\(∀k y,n=k+1->p.insp[k]? =some y->leS x.cls y.cls=false)/\x.set≠[]/\setB x.set=true/\subB x.set p.allow=true) ?_ ?_
  ·have hemp:∀{l:List Bx},¬(((l.map encX).length:Nat):Int)=0->l≠[]:=fun h e=>h (by rw[e];rfl);rcases hprev with rfl|⟨k,y,rfl,hy⟩
   ·(repeat' ((conv=>whnf);first|(with_reducible first|refine hU hnl ?_|refine hZ hnl ?_|refine hJ hx ?_|refine csName _ ?_|refine cxVald x.set hxl ?_|refine hsubx ?_)|refine zG ?_|apply zA|intro h|exact zT));all_goals conv=>whnf
    all_goals first
     |(exact fin_f hK (hbx fun ho=>by first
        |exact absurd h (by rw[nameB_true ho.name];decide)
        |exact absurd h (by rw[ho.set];decide)
        |exact absurd h (by rw[ho.sub];decide)
        |exact ho.ne (bY.1 (by rw[aA]at h;omega))))
     |(refine⟨(),⟨nameB_iff.1 zp,fun k y h=>by omega,hemp zp,by assumption,by assumption⟩,?_⟩
       exact leA)
   ·have hkl:k<p.insp.length:=by omega
    have hordk:(Op.bytesLess x.cls.toList y.cls.toList||x.cls.toList==y.cls.toList)=false->∀k' y',k+1=k'+1->p.insp[k']? =some y'->leS x.cls y'.cls=false:=fun h k' y' h1 h2=>by
     obtain rfl:k=k':=by omega
     rw[hy]at h2;cases h2;exact h
    (repeat' ((conv=>whnf);first|(with_reducible first|refine hU hnl ?_|refine hZ hnl ?_|refine gT k zo (by rw[aA];exact hkl) ?_|refine hJ hx ?_|refine hJ hy ?_|refine csName _ ?_|refine cxVald x.set hxl ?_|refine hsubx ?_)|refine zG ?_|apply zA|intro h|exact zT));all_goals conv=>whnf
    all_goals first
     |(exact fin_f hK (hbx fun ho=>by first
        |exact absurd h (by rw[nameB_true ho.name];decide)
        |exact absurd h (by rw[ho.set];decide)
        |exact absurd h (by rw[ho.sub];decide)
        |exact ho.ne (bY.1 (by rw[aA]at h;omega))
        |exact absurd (show leS x.cls y.cls=true from h) (by rw[ho.ord k y rfl hy];decide)))
     |(refine⟨(),⟨nameB_iff.1 zp,hordk zp,hemp zp,by assumption,by assumption⟩,?_⟩
       exact leA)
  ·rintro⟨⟩ ⟨f1,f2,f3,f4,f5⟩
   (repeat' ((conv=>whnf);first|(with_reducible first|refine gY 0 n rfl rfl zo (by rw[aA];omega) ?_|refine hslice ?_)|refine zG ?_|apply zA|intro h|exact zT));all_goals conv=>whnf
   have htl:(p.insp.take n).length=n:=by rw[bA];omega
   refine gL Nat (fun k=>⟨2,[(1,.box [.v (.string x.cls),encXs x.set]),(0,boxPol p)],[(3,.op 0 0),(6,.op 1 0),(36,.lst (p.insp.map encIn)),(37,.v (.int .i64 ((p.insp.map encIn).length:Nat))),(38,.v (.int .i64 n)),(86,.lst ((p.insp.take n).map encIn)),(87,.v (.int .i64 (((p.insp.take n).map encIn).length:Nat))),(88,.v (.int .i64 k))]⟩) (fun k=>k<=n/\∀(i:Nat) y,i<k->p.insp[i]? =some y->disjS x.set y.set) (fun k=>n-k) 0 ⟨aK _,fun i y h=>absurd h (bC _)⟩ ?_ ?_
   ·exact leA
   intro k ⟨hk,hdis⟩;rcases aF k n with hkn|hkn
   ·obtain⟨y,hy⟩:∃y,p.insp[k]? =some y:=⟨_,aE zo⟩
    have hyt:(p.insp.take n)[k]? =some y:=by rw[cY,aG hkn];exact hy
    have hkt:k<(p.insp.take n).length:=by omega
    have hyl:=hsl y (aI hy);have hys:=(hinv k y hkn hy).set;have hdi:=disj_iff f4 hys;have hle:=lim_empty (cano anB 5 x.set y.set);have hint:∀{K:KT},K (.tup [encXs (limP (cano anB 5 x.set y.set)),.v (.int .i64 (limE (cano anB 5 x.set y.set)))]) []->AC 77 [encXs x.set,encXs y.set] [] K:=fun h=>cxInt x.set y.set hxl hyl (by rw[combP_set f4 hys];exact h);generalize cano anB 5 x.set y.set=c at*;(repeat' ((conv=>whnf);first|(with_reducible first|refine hU hkt ?_|refine hZ hkt ?_|refine hJ hyt ?_|refine hint ?_)|refine zG ?_|apply zA|intro h|exact zT));all_goals conv=>whnf
    all_goals first
     |(refine⟨k+1,⟨hkn,iC hy (hdi.1 (Decidable.byContradiction fun hc=>?_)) hdis⟩,by omega,?_⟩
       ·rcases hle.2 hc with h1|h1
        ·exact h1 zp
        ·simp only[aA]at*;omega
       ·rw[aO,aN];(exact leA))
     |(refine fin_f hK (hbx fun ho=>?_)
       have hc:=hdi.2 (ho.disj k y hkn hy);refine absurd hc (hle.1 ?_);first
        |(right;rw[aA]at h;omega)
        |(left;assumption))
   ·have hke:k=n:=by omega
    subst hke;(repeat' ((conv=>whnf);first|refine zG ?_|apply zA|intro h|exact zT));all_goals conv=>whnf
    refine⟨k+1,⟨hnl,iC hx ⟨f1,f2,f3,f4,f5,fun j y hj hy=>hdis j y hj hy⟩ hinv⟩,by omega,?_⟩;rw[aO,aN];exact leA
 ·(repeat' ((conv=>whnf);first|refine zG ?_|apply zA|intro h|exact zT));all_goals conv=>whnf
  exact fin_t hK (polB_true ⟨hc1,hc2,hc3,hc4,iB hnl hinv⟩)
end Go.Proofs.YtnomkooikbhgmaaGreatDoor
