/- Lemmas. -/
import Derived.Test.YtgicddadddhonaaGreatDoorProg
import Derived.Test.YtgicddadddhonaaGreatDoorM50
set_option linter.unusedVariables false
set_option linter.unusedSimpArgs false
set_option maxRecDepth 100000
set_option maxHeartbeats 4000000
noncomputable section
namespace Go.Proofs.YtgicddadddhonaaGreatDoor
open Go Go.Vm
def aMM:Ctx:={N:=44,own:=oz [215],plan:=p1 9 (ln [1,3,5,7,13,8,11,15,16]) pn,hints:=h1 11 [.freeze 8,.asL 8] hn}
abbrev aHM:=ofD aMM Tryz.func277
def aTz:Ctx:={N:=14,np:=1,own:=oz [213]}
abbrev aPw:=ofD aTz Tryz.func232
def aTJ:Ctx:={N:=22,plan:=p1 1 (ln [1,3,4,7,9,11,13,15,17,19,21,23,25,27,29,31,32,35,37,39]) pn}
abbrev aPG:=ofD aTJ Tryz.func158
def aTB:Ctx:={N:=25,hints:=h1 2 [.virt 3 10] hn}
abbrev aPy:=ofD aTB Tryz.func157
def aTC:Ctx:={N:=39,np:=1,own:=oz [132,136],hints:=h1 2 [.virt 8 1] hn}
abbrev aPz:=ofD aTC Tryz.func156
def aTs:Ctx:={N:=56,np:=1,own:=oz [232,215],plan:=p1 6 (lp 6 [12]) (p1 12 Ad pn),hints:=h1 8 [.freeze 7,.asL 7] hn}
abbrev aPp:=ofD aTs Tryz.func159
def aTu:Ctx:={N:=47,own:=oz [130,135,156,159,137],hints:=h1 4 [.asL 9] hn}
abbrev aPr:=ofD aTu Tryz.func91
def aTr:Ctx:={N:=11}
abbrev aPo:=ofD aTr Tryz.func34
theorem aOT{K:KT}(hK:K (.v (.int .u32 4294967295)) []):AC 231 [.v (.int .i64 0)] [] K:=V6 0 hK
theorem aCJ{K:KT}(hK:K (.v (.int .u32 65535)) []):AC 231 [.v (.int .i64 3)] [] K:=V6 3 hK
theorem aJY:top0.lo<=top0.hi/\top0.hi<=4294967295:=by decide
theorem aOM(a:List Bx)(ha:okL a)(hl:a.length<1000000000){K:KT}(hK:K (.tup [iN (nZ (jH orB 5 a [])),.v (.int .i64 (pM (jH orB 5 a [])))]) []):AC 217 [iN a,.lst [],.fn (.func 264) [] []] [] K:=
 Tf _ orB zI a [] ha H2 hl zd hK
theorem aON(l:List Bx)(hl:l.length<1000000000){K:KT}(hK:K (.tup [iN (Q1 l).1,.v (.int .i64 (Q1 l).2)]) []):AC 277 [iN l,.v (.int .i64 0)] [] K:=by
 have hset:=fun {K}=>@aBi l hl K;unfold Q1 at hK;have hps:=pD l;have hok:=O2 l;refine hJ (aHM rfl rfl ?_);generalize jK l=g at*;obtain⟨s,e⟩:=g;simp only at hK hps hok hset;have hsl:=hps.len;by_cases h0:e=0
 case neg=>
  rw[aH h0]at hK;(repeat' ((conv=>whnf);first|(with_reducible refine hset ?_)|refine zG ?_|apply zA|intro h|exact zT));all_goals conv=>whnf
  all_goals first
   |exact⟨_,hU hZ gY,hK⟩
   |(exfalso;omega)
 subst h0;rw[aF (fun h=>h rfl)]at hK;have hok2:okL (s.map fun b=>b.put 0 top0):=fun y hy f hf=>by
  obtain⟨b,hb,rfl⟩:=bQ.1 hy;have h1:=hok b hb f hf
  match f,hf with
  |0,_=>exact aJY
  |1,_=>exact h1
  |2,_=>exact h1
  |3,_=>exact h1
  |4,_=>exact h1
 have hflen:(s.map fun b=>b.put 0 top0).length=s.length:=aA ..;obtain⟨F,hF⟩:∃F,F=s.map fun b=>b.put 0 top0:=⟨_,rfl⟩
 rw[<-hF]at hK hok2 hflen;have hcm:∀{K:KT},K (.tup [iN (nZ (jH orB 5 F [])),.v (.int .i64 (pM (jH orB 5 F [])))]) []->AC 217 [iN F,.lst [],.fn (.func 264) [] []] [] K:=fun h=>aOM F hok2 zo h;simp only at hK;generalize nZ (jH orB 5 F [])=R at*;generalize pM (jH orB 5 F [])=RE at*;(repeat' ((conv=>whnf);first|(with_reducible refine hset ?_)|refine zG ?_|apply zA|intro h|exact zT));all_goals conv=>whnf
 all_goals first
  |(exfalso;omega)
  |skip
 refine Ma s zo (fun e=>?_) ?_
 ·subst e;obtain rfl:F=[]:=hF;have hcm:∀{K:KT},K (.tup [iN R,.v (.int .i64 RE)]) []->AC 217 [.lst [],.lst [],.fn (.func 264) [] []] [] K:=fun h=>hcm h;(repeat' ((conv=>whnf);first|(with_reducible first|refine Lp.times 1 ?_|refine hcm ?_)|refine zG ?_|apply zA|intro h|exact zT));all_goals conv=>whnf
  exact⟨_,gY,hK⟩
 ·(repeat' ((conv=>whnf);first|refine zG ?_|apply zA|intro h|exact zT));all_goals conv=>whnf
  refine gV Nat (fun i=>⟨1,[(0,.arr 10 (((s.take i).map (fun b=>b.put 0 top0)++s.drop i).map iV))],[(1,.v (.int .i64 0)),(8,.os 0 10 0 s.length),(21,.v (.int .i64 s.length)),(22,.v (.int .i64 i))]⟩) (fun i=>i<=s.length) (fun i=>s.length-i) 0 (aK _) ?_ ?_
  ·rw[cA,bP];exact leA
  intro i hi;rcases aD i s.length with hil|hil
  ·obtain⟨x,hx⟩:=gex hil;have hd:s.drop i=x::s.drop (i+1):=by
    rw[aE hil]at hx;rw[<-bB hx,<-bA hil]
   have htl:((s.take i).map fun b=>b.put 0 top0).length=i:=by rw[aA,aV];omega
   have hget:((s.take i).map (fun b=>b.put 0 top0)++s.drop i)[0+i]? =some x:=by
    rw[bM,bF zo,htl,dH,hd];rfl
   have hset:∀y:Bx,(((s.take i).map (fun b=>b.put 0 top0)++s.drop i).map iV).set (0+i) (iV y)=((s.take i).map (fun b=>b.put 0 top0)++y::s.drop (i+1)).map iV:=fun y=>by
    rw[bM,<-fS,dO _ _ zo,htl,dH,hd];rfl
   have hnext:(s.take (i+1)).map (fun b=>b.put 0 top0)++s.drop (i+1)=(s.take i).map (fun b=>b.put 0 top0)++x.put 0 top0::s.drop (i+1):=by
    rw[bE,hx,aQ,cM];rfl
   have hlen:0+i<(((s.take i).map (fun b=>b.put 0 top0)++s.drop i).map iV).length:=by
    rw[aA,aC,htl,cH];omega
   generalize hA:(s.take i).map (fun b=>b.put 0 top0)++s.drop i=A at*;(repeat' ((conv=>whnf);first|(with_reducible first|refine iJ hil ?_|refine iH hget ?_|refine yY (by simpa only[cL]using hlen) ?_)|(refine kH zd ?_)|(refine aOT ?_)|refine zG ?_|apply zA|intro h|exact zT));all_goals conv=>whnf
   refine⟨i+1,hil,by omega,?_⟩;try simp only[List.set_set]
   rw[hnext,<-hset,aN,aM];exact leA
  ·rw[aW hil,bO hil,bG,<-hF];(repeat' ((conv=>whnf);first|(with_reducible first|refine iT (by rw[aA,hflen]) ?_|refine hcm ?_)|refine zG ?_|apply zA|intro h|exact zT));all_goals conv=>whnf
   exact⟨_,gY,hK⟩
theorem L2(e:Int)(l:List Bx):(wD e l).1.length<=4096:=by
 unfold wD;have hc:∀c:List Bx,(nZ c).length<=4096:=fun c=>by
  unfold nZ;split
  ·exact aK _
  ·omega
 have hk:∀r:List Bx×Int,r.1.length<=4096->(kN e r).1.length<=4096:=fun r hr=>by
  unfold kN;split
  ·exact aK _
  ·split
   ·exact aK _
   ·exact hr
 refine hk _ ?_;unfold Q1;split
 ·exact aK _
 ·exact hc _
theorem aVr(e:Int)(l:List Bx)(hl:l.length<1000000000){K:KT}(hK:K (iN (wD e l).1) [oN (wD e l).2]):AC 232 [.op 0 0,iN l,.v (.int .i64 0)] [oN e] K:=by
 refine hJ (aPw rfl rfl ?_);unfold wD at hK;have hm:=fun {K}=>@aON l hl K;generalize Q1 l=q at*;obtain⟨s,r⟩:=q;(repeat' ((conv=>whnf);first|(with_reducible first|refine hm ?_|refine Fp e s r ?_)|refine zG ?_|apply zA|intro h|exact zT));all_goals conv=>whnf
 exact⟨_,gY,hK⟩
theorem W7(x:Hi){K:KT}(hK:K (.sb (decide x.ok)) []):AC 158 [pV x] [] K:=by
 refine gZ (aPG rfl rfl ?_);have hd:∀{b:Bool},((b=true)↔x.ok)->b=decide x.ok:=fun h=>by rw[bK,aL];exact h
 unfold Hi.ok at hd hK;by_cases hf:x.mt.ok
 case neg=>
  have v1:∀{K:KT},K (.sb false) []->AC 104 [iV x.mt] [] K:=fun h=>tL _ (by rw[decide_eq_false hf];exact h);have hn:decide (x.mt.ok/\x.ports.lo<=x.ports.hi/\x.ports.hi<=65535)=false:=decide_eq_false fun h=>hf h.1;(repeat' ((conv=>whnf);first|(refine v1 ?_)|(refine aCJ ?_)|refine zG ?_|apply zA|intro h|exact zT));all_goals conv=>whnf
  all_goals first
   |exact iU hK hn
 have v1:∀{K:KT},K (.sb true) []->AC 104 [iV x.mt] [] K:=fun h=>tL _ (by rw[decide_eq_true hf];exact h);(repeat' ((conv=>whnf);first|(refine v1 ?_)|(refine aCJ ?_)|refine zG ?_|apply zA|intro h|exact zT));all_goals conv=>whnf
 all_goals first
  |exact kB hK (hd ⟨fun h'=>⟨hf,h,of_decide_eq_true h'⟩,fun h'=>decide_eq_true h'.2.2⟩)
  |exact kB hK (hd ⟨fun h'=>⟨hf,h,of_decide_eq_true h'⟩,fun h'=>decide_eq_true h'.2.2⟩).symm
  |exact kE hK (decide_eq_true ⟨hf,by omega,by omega⟩)
  |exact iU hK (decide_eq_false fun h=>by omega)
def aRC:Bx:=⟨mkR 1 0,zR,zR,zR,zR⟩
def mtX(x:Hi):Bx:=if x.ok then x.mt else aRC
theorem aCR(x:Hi):(mtX x).ok↔x.ok:=by
 unfold mtX;by_cases h:x.ok
 ·rw[aH h];exact⟨fun _=>h,fun _=>h.1⟩
 ·rw[aF h];exact⟨fun hb=>absurd hb (by decide+kernel),fun h'=>absurd h' h⟩
theorem aVt(l:List Hi)(hl:l.length<1000000){K:KT}(hK:K (iN (l.map mtX)) []):AC 157 [nN l] [] K:=by
 refine hJ (aPy rfl rfl ?_);(repeat' ((conv=>whnf);first|refine zG ?_|apply zA|intro h|exact zT));all_goals conv=>whnf
 refine gV Nat (fun k=>⟨1,[(0,.arr 10 (((l.take k).map mtX).map iV))],[(3,.os 0 10 0 ((l.take k).map mtX).length),(6,nN l),(7,.v (.int .i64 (l.map pV).length)),(8,.v (.int .i64 k))]⟩) (fun k=>k<=l.length) (fun k=>l.length-k) 0 (aK _) ?_ ?_
 ·exact leA
 intro k hk;rcases aD k l.length with hkl|hkl
 ·obtain⟨x,hx⟩:=gex hkl;have hst:(l.take (k+1)).map mtX=(l.take k).map mtX++[mtX x]:=by
   rw[bE,hx,aQ];rfl
  have hel:((l.take k).map mtX).length<=1000000:=by rw[aA,aV];omega
  generalize (l.take k).map mtX=A at*;by_cases ho:x.ok
  ·have v1:∀{K:KT},K (.sb true) []->AC 158 [pV x] [] K:=fun h=>W7 _ (by rw[decide_eq_true ho];exact h);have hm:mtX x=x.mt:=by unfold mtX;rw[aH ho]
   (repeat' ((conv=>whnf);first|(with_reducible first|refine iI hkl ?_|refine iH hx ?_)|(refine v1 ?_)|refine zG ?_|apply zA|intro h|exact zT));all_goals conv=>whnf
   refine⟨k+1,hkl,by omega,?_⟩;rw[hst,hm,aQ,aC,aN k,aM];exact leA
  ·have v1:∀{K:KT},K (.sb false) []->AC 158 [pV x] [] K:=fun h=>W7 _ (by rw[decide_eq_false ho];exact h);have hm:mtX x=aRC:=by unfold mtX;rw[aF ho]
   (repeat' ((conv=>whnf);first|(with_reducible first|refine iI hkl ?_|refine iH hx ?_)|(refine v1 ?_)|refine zG ?_|apply zA|intro h|exact zT));all_goals conv=>whnf
   refine⟨k+1,hkl,by omega,?_⟩;rw[hst,hm,aQ,aC,aN k,aM];exact leA
 ·rw[aW hkl];(repeat' ((conv=>whnf);first|(with_reducible refine iT zx ?_)|refine zG ?_|apply zA|intro h|exact zT));all_goals conv=>whnf
  exact⟨_,gY,hK⟩
def peX(x:Hi)(p:List Bx):AV:=if x.ok then iN p else .nils
theorem Gg{α β γ:Type}(f:α->β->γ):∀(l:List α) (ps:List β) (x:α) (p:β),l.length=ps.length->List.zipWith f (l++[x]) (ps++[p])=List.zipWith f l ps++[f x p]
 |[],[],x,p,_=>rfl
 |a::l,b::ps,x,p,h=>by
  rw[eW,eW,List.zipWith_cons_cons,Gg f l ps x p (by simpa using h)];rfl
theorem Zv(l:List Hi)(k:Nat)(x:Hi)(h:l[k]? =some x)(s:List (List Bx)×List Bx×Int):rS (l.take (k+1)) s=Hm x (rS (l.take k) s):=by
 rw[bE,h];unfold rS;rw[List.foldl_append];rfl
theorem aEp(x:Hi)(s:List (List Bx)×List Bx×Int):(Hm x s).1.length=s.1.length+1:=by
 unfold Hm;split<;>simp
theorem J7:∀(l:List Hi) (s:List (List Bx)×List Bx×Int),(rS l s).1.length=s.1.length+l.length
 |[],s=>rfl
 |x::l,s=>by
  show(rS l (Hm x s)).1.length=_;rw[J7 l,aEp,aB];omega
structure ParI (s:List (List Bx)×List Bx×Int):Prop where
 rest:jW s.2.1=true
 parts:∀p,p∈s.1->jW p=true
theorem aQW(x:Hi){s:List (List Bx)×List Bx×Int}(h:ParI s):ParI (Hm x s):=by
 unfold Hm;split
 ·refine⟨tC ..,fun p hp=>?_⟩;rcases aX.1 hp with hp|hp
  ·exact h.parts p hp
  ·rw[aU.1 hp];exact tC ..
 ·refine⟨h.rest,fun p hp=>?_⟩;rcases aX.1 hp with hp|hp
  ·exact h.parts p hp
  ·rw[aU.1 hp];exact jP
theorem Uy:∀(l:List Hi) {s:List (List Bx)×List Bx×Int},ParI s->ParI (rS l s)
 |[],s,h=>h
 |x::l,s,h=>Uy l (aQW x h)
theorem aVu(l:List Hi)(hl:l.length<1000000)(s:List Bx)(hs:jW s=true)(e:Int){K:KT}(hK:K (.tup [.lst (List.zipWith peX l (rS l ([],s,e)).1),iN (rS l ([],s,e)).2.1]) [oN (rS l ([],s,e)).2.2]):AC 156 [.op 0 0,iN (l.map mtX),iN s] [oN e] K:=by
 refine hJ (aPz rfl rfl ?_);(repeat' ((conv=>whnf);first|refine zG ?_|apply zA|intro h|exact zT));all_goals conv=>whnf
 refine gV Nat (fun k=>⟨2,[(0,oN (rS (l.take k) ([],s,e)).2.2),(1,.arr 1 (List.zipWith peX (l.take k) (rS (l.take k) ([],s,e)).1))],[(0,.op 0 0),(2,iN (rS (l.take k) ([],s,e)).2.1),(8,.os 1 1 0 (List.zipWith peX (l.take k) (rS (l.take k) ([],s,e)).1).length),(11,iN (l.map mtX)),(12,.v (.int .i64 ((l.map mtX).map iV).length)),(13,.v (.int .i64 k))]⟩) (fun k=>k<=l.length) (fun k=>l.length-k) 0 (aK _) ?_ ?_
 ·exact leA
 intro k hk;have hmm:((l.map mtX).map iV).length=l.length:=by simp
 rcases aD k l.length with hkl|hkl
 ·obtain⟨x,hx⟩:=gex hkl;have hxm:(l.map mtX)[k]? =some (mtX x):=by rw[bX,hx];rfl
  have hkm:k<(l.map mtX).length:=by simpa using hkl
  have hst:=Zv l k x hx ([],s,e);have hi:=Uy (l.take k) (s:=([],s,e)) ⟨hs,fun p hp=>by cases hp⟩;have hln:=J7 (l.take k) ([],s,e);have htk:l.take (k+1)=l.take k++[x]:=by rw[bE,hx];rfl
  have hlt:(l.take k).length<=1000000:=by rw[aV];omega
  have hrl:=(kU hi.rest).len;generalize rS (l.take k) ([],s,e)=q at*;generalize l.take k=L at*;obtain⟨ps,r,c⟩:=q;simp only at hln hrl hi⊢;have hzl:(List.zipWith peX L ps).length=L.length:=by rw[List.length_zipWith,hln];simp
  unfold Hm at hst;by_cases ho:x.ok
  ·have v1:∀{K:KT},K (.sb true) []->AC 104 [iV (mtX x)] [] K:=fun h=>tL _ (by rw[decide_eq_true ((aCR x).2 ho)];exact h);have hmx:mtX x=x.mt:=by unfold mtX;rw[aH ho]
   rw[hmx]at v1 hxm;rw[aH ho]at hst;simp only at hst;have z1:=fun {K}=>@Uc c r x.mt zo K;have z2:=fun c {K}=>@aCI c r x.mt zo K;have hpe:∀p,peX x p=iN p:=fun p=>by unfold peX;rw[aH ho]
   have hzs:=fun p=>Gg peX L ps x p (by rw[hln];simp);generalize opK anB c r [x.mt]=q1 at*;obtain⟨p,c1⟩:=q1;simp only at z1 hst;have hzs:=hzs p;rw[hpe,<-htk]at hzs;have z2:=fun {K}=>@z2 c1 K;generalize opK woB c1 r [x.mt]=q2 at*;obtain⟨r2,c2⟩:=q2;simp only at z2;generalize List.zipWith peX L ps=Z at*;(repeat' ((conv=>whnf);first|(with_reducible first|refine iI hkm ?_|refine iH hxm ?_)|(refine v1 ?_)|(refine z1 ?_)|(refine z2 ?_)|refine zG ?_|apply zA|intro h|exact zT));all_goals conv=>whnf
   refine⟨k+1,hkl,by omega,?_⟩;rw[hst];simp only;rw[hzs,aC,aN k,aM];exact leA
  ·have v1:∀{K:KT},K (.sb false) []->AC 104 [iV (mtX x)] [] K:=fun h=>tL _ (by rw[decide_eq_false (fun h=>ho ((aCR x).1 h))];exact h);rw[aF ho]at hst;simp only at hst;have hpe:∀p,peX x p=.nils:=fun p=>by unfold peX;rw[aF ho]
   have hzs:=Gg peX L ps x [] (by rw[hln];simp);rw[hpe,<-htk]at hzs;generalize List.zipWith peX L ps=Z at*;(repeat' ((conv=>whnf);first|(with_reducible first|refine iI hkm ?_|refine iH hxm ?_)|(refine v1 ?_)|refine zG ?_|apply zA|intro h|exact zT));all_goals conv=>whnf
   refine⟨k+1,hkl,by omega,?_⟩;rw[hst];simp only;rw[hzs,aC,aN k,aM];exact leA
 ·rw[aW hkl];(repeat' ((conv=>whnf);first|(with_reducible refine iT zx ?_)|refine zG ?_|apply zA|intro h|exact zT));all_goals conv=>whnf
  exact⟨_,gY,hK⟩
theorem aAk(x:Hi)(b:Bx){i:Nat}(hi:i<=4096):iV (yE x b i)=.agg [.v (.int .u32 (2*(i:Int))),.v (.int .u32 (2*(i:Int))),.v (.int .u32 b.r1.lo),.v (.int .u32 b.r1.hi),.v (.int .u32 b.r2.lo),.v (.int .u32 b.r2.hi),.v (.int .u32 x.ports.lo),.v (.int .u32 x.ports.hi),.v (.int .u32 b.r4.lo),.v (.int .u32 b.r4.hi)]:=by
 show AV.agg [.v (.int .u32 (mkR (2*(i:Int)) (2*(i:Int))).lo),.v (.int .u32 (mkR (2*(i:Int)) (2*(i:Int))).hi),.v (.int .u32 b.r1.lo),.v (.int .u32 b.r1.hi),.v (.int .u32 b.r2.lo),.v (.int .u32 b.r2.hi),.v (.int .u32 x.ports.lo),.v (.int .u32 x.ports.hi),.v (.int .u32 b.r4.lo),.v (.int .u32 b.r4.hi)]=_;rw[kI zo zo zo zo,kP zo zo zo zo]
theorem aEz(x:Hi)(h0:0<=x.addr)(h1:x.addr<=4294967295)(b:Bx):iV (b.put 0 (mkR x.addr x.addr))=.agg [.v (.int .u32 x.addr),.v (.int .u32 x.addr),.v (.int .u32 b.r1.lo),.v (.int .u32 b.r1.hi),.v (.int .u32 b.r2.lo),.v (.int .u32 b.r2.hi),.v (.int .u32 b.r3.lo),.v (.int .u32 b.r3.hi),.v (.int .u32 b.r4.lo),.v (.int .u32 b.r4.hi)]:=by
 show AV.agg [.v (.int .u32 (mkR x.addr x.addr).lo),.v (.int .u32 (mkR x.addr x.addr).hi),.v (.int .u32 b.r1.lo),.v (.int .u32 b.r1.hi),.v (.int .u32 b.r2.lo),.v (.int .u32 b.r2.hi),.v (.int .u32 b.r3.lo),.v (.int .u32 b.r3.hi),.v (.int .u32 b.r4.lo),.v (.int .u32 b.r4.hi)]=_;rw[kI h0 h1 h0 h1,kP h0 h1 h0 h1]
theorem Lc(x:Hi):∀(l:List Bx) (j:Nat) (i:Nat) (b:Bx),l[i]? =some b->lU x j (l.take (i+1))=lU x j (l.take i)++[yE x b (j+i)]
 |[],j,i,b,h=>by simp at h
 |a::l,j,0,b,h=>by simp at h;subst h;rfl
 |a::l,j,i+1,b,h=>by
  rw[gK,gK,lU,lU,Lc x l (j+1) i b (by simpa using h),eW,Nat.add_right_comm,cD]
abbrev aKj(h:Hi):Vm.Obj:=.box [.v (.int .u32 h.mt.r0.lo),.v (.int .u32 h.mt.r0.hi),.v (.int .u32 h.mt.r1.lo),.v (.int .u32 h.mt.r1.hi),.v (.int .u32 h.mt.r2.lo),.v (.int .u32 h.mt.r2.hi),.v (.int .u32 h.mt.r3.lo),.v (.int .u32 h.mt.r3.hi),.v (.int .u32 h.mt.r4.lo),.v (.int .u32 h.mt.r4.hi),.v (.int .u32 h.addr),.v (.int .u32 h.ports.lo),.v (.int .u32 h.ports.hi)]
theorem P6{A D:List Bx}{i:Nat}{x:Bx}(hl:A.length=i):(A++x::D)[0+i]? =some x/\(∀y:Bx,((A++x::D).map iV).set (0+i) (iV y)=(A++y::D).map iV)/\0+i<((A++x::D).map iV).length:=by
 refine⟨?_,fun y=>?_,?_⟩
 ·rw[bM,bF zo,hl,dH];rfl
 ·rw[bM,<-fS,dO _ _ zo,hl,dH];rfl
 ·rw[aA,aC,hl,aB];omega
theorem aVn(x:Hi)(h0:0<=x.addr)(h1:x.addr<=4294967295)(e:Int)(p:List Bx)(hp:p.length<=4096){K:KT}(hK:K (iN (Kw x e p).1) [oN (Kw x e p).2]):AC 159 [.op 0 0,pV x,iN p] [oN e] K:=by
 refine hJ (aPp rfl rfl ?_);have hfr:=fun {K}=>@aVr e (lU x 0 p) (by rw[vU];omega) K;have hfs:=L2 e (lU x 0 p);unfold Kw at hK;generalize hfg:wD e (lU x 0 p)=fr at*;obtain⟨fs,fe⟩:=fr;simp only at hK hfr hfs;(repeat' ((conv=>whnf);first|refine zG ?_|apply zA|intro h|exact zT));all_goals conv=>whnf
 refine Ma p zo (fun e0=>?_) ?_
 ·subst e0;have hf0:fs=[]:=by
   have h1:(wD e (lU x 0 [])).1=[]:=by
    have h2:jK []=([],0):=by decide+kernel
    have h3:jH orB 5 ([]:List Bx) []=[]:=rU orB rfl 5;unfold wD Q1 kN;rw[show lU x 0 []=[]from rfl,h2];simp only[bI,h3];split
    ·rfl
    ·rfl
   rw[hfg]at h1;exact h1
  subst hf0;have hfr:∀{K:KT},K (.lst []) [oN fe]->AC 232 [.op 0 0,.lst [],.v (.int .i64 0)] [oN e] K:=fun h=>hfr h;(repeat' ((conv=>whnf);first|(with_reducible first|refine Lp.times 1 ?_|refine hfr ?_)|refine zG ?_|apply zA|intro h|exact zT));all_goals conv=>whnf
  refine Ma [] zx (fun e1=>?_) ?_
  ·(repeat' ((conv=>whnf);first|(with_reducible refine Lp.times 1 ?_)|refine zG ?_|apply zA|intro h|exact zT));all_goals conv=>whnf
   exact⟨_,hZ,hK⟩
  ·(repeat' ((conv=>whnf);first|(with_reducible refine Lp.times 1 ?_)|(refine iE (ys:=[]) (aK _) rfl ?_)|refine zG ?_|apply zA|intro h|exact zT));all_goals conv=>whnf
   exact⟨_,gY,hK⟩
 ·(repeat' ((conv=>whnf);first|refine zG ?_|apply zA|intro h|exact zT));all_goals conv=>whnf
  refine gV Nat (fun i=>⟨3,[(0,oN e),(1,aKj x),(2,.arr 10 ((lU x 0 (p.take i)++p.drop i).map iV))],[(0,.op 0 0),(4,.op 1 0),(7,.os 2 10 0 p.length),(14,.v (.int .i64 p.length)),(15,.v (.int .i64 i))]⟩) (fun i=>i<=p.length) (fun i=>p.length-i) 0 (aK _) ?_ ?_
  ·rw[cA,bP];exact leA
  intro i hi;rcases aD i p.length with hil|hil
  ·obtain⟨b,hb⟩:=gex hil;have hd:p.drop i=b::p.drop (i+1):=by
    rw[aE hil]at hb;rw[<-bB hb,<-bA hil]
   have hnext:lU x 0 (p.take (i+1))++p.drop (i+1)=lU x 0 (p.take i)++yE x b i::p.drop (i+1):=by
    rw[Lc x p 0 i b hb,bM,cM];rfl
   have htl:(lU x 0 (p.take i)).length=i:=by rw[vU,aV];omega
   obtain⟨hget,hset,hlen⟩:=P6 (x:=b) (D:=p.drop (i+1)) htl;have hpe:=aAk x b (i:=i) zo;have hset:=hset (yE x b i);rw[<-hnext]at hset;rw[hd];generalize hA:lU x 0 (p.take i)++b::p.drop (i+1)=A at*;(repeat' ((conv=>whnf);first|(with_reducible first|refine iJ hil ?_|refine iH hget ?_|refine yY (by simpa only[cL]using hlen) ?_)|(refine kH zd ?_)|refine zG ?_|apply zA|intro h|exact zT));all_goals conv=>whnf
   all_goals
    refine⟨i+1,hil,by omega,?_⟩;try simp only[List.set_set]
    rw[<-hset,hpe,aN,aM];exact leA
  ·rw[aW hil,bO hil,bG];have hfr:∀{K:KT},K (iN fs) [oN fe]->AC 232 [.op 0 0,iN (lU x 0 p),.v (.int .i64 0)] [oN e] K:=fun h=>hfr h;(repeat' ((conv=>whnf);first|(with_reducible first|refine iT (by rw[aA,vU]) ?_|refine hfr ?_)|refine zG ?_|apply zA|intro h|exact zT));all_goals conv=>whnf
   refine Ma fs zo (fun e1=>?_) ?_
   ·subst e1;(repeat' ((conv=>whnf);first|(with_reducible refine Lp.times 1 ?_)|refine zG ?_|apply zA|intro h|exact zT));all_goals conv=>whnf
    exact⟨_,hZ,hK⟩
   (repeat' ((conv=>whnf);first|refine zG ?_|apply zA|intro h|exact zT));all_goals conv=>whnf
   refine gV Nat (fun i=>⟨3,[(0,oN fe),(1,aKj x),(2,.arr 10 (((fs.take i).map (fun b=>b.put 0 (mkR x.addr x.addr))++fs.drop i).map iV))],[(4,.op 1 0),(9,.os 2 10 0 fs.length),(41,.v (.int .i64 fs.length)),(42,.v (.int .i64 i))]⟩) (fun i=>i<=fs.length) (fun i=>fs.length-i) 0 (aK _) ?_ ?_
   ·rw[cA,bP];exact leA
   intro i hi;rcases aD i fs.length with hil|hil
   ·obtain⟨b,hb⟩:=gex hil;have hd:fs.drop i=b::fs.drop (i+1):=by
     rw[aE hil]at hb;rw[<-bB hb,<-bA hil]
    have hnext:(fs.take (i+1)).map (fun b=>b.put 0 (mkR x.addr x.addr))++fs.drop (i+1)=(fs.take i).map (fun b=>b.put 0 (mkR x.addr x.addr))++b.put 0 (mkR x.addr x.addr)::fs.drop (i+1):=by
     rw[bE,hb,aQ,cM];rfl
    have htl:((fs.take i).map fun b=>b.put 0 (mkR x.addr x.addr)).length=i:=by rw[aA,aV];omega
    obtain⟨hget,hset,hlen⟩:=P6 (x:=b) (D:=fs.drop (i+1)) htl;have hpe:=aEz x h0 h1 b;have hset:=hset (b.put 0 (mkR x.addr x.addr));rw[<-hnext]at hset;rw[hd];generalize hA:(fs.take i).map (fun b=>b.put 0 (mkR x.addr x.addr))++b::fs.drop (i+1)=A at*;(repeat' ((conv=>whnf);first|(with_reducible first|refine iJ hil ?_|refine iH hget ?_|refine yY (by simpa only[cL]using hlen) ?_)|(refine kH zd ?_)|refine zG ?_|apply zA|intro h|exact zT));all_goals conv=>whnf
    all_goals
     refine⟨i+1,hil,by omega,?_⟩;try simp only[List.set_set]
     rw[<-hset,hpe,aN,aM];exact leA
   ·rw[aW hil,bO hil,bG];(repeat' ((conv=>whnf);first|(with_reducible refine iT (by rw[aA,aA]) ?_)|refine zG ?_|apply zA|intro h|exact zT));all_goals conv=>whnf
    exact⟨_,gY,hK⟩
theorem aOA(x:Hi)(p:List Bx){s:List Bx×Int}(h:jW s.1=true):jW (Ol x p s).1=true:=by
 unfold Ol;split
 ·exact tC ..
 ·exact h
theorem aCs(x:Hi)(e:Int)(p:List Bx):(Kw x e p).1.length<=4096:=by
 unfold Kw;simp only[aA];exact L2 e _
theorem aHm{l:List Hi}{ps:List (List Bx)}{k:Nat}{x:Hi}{p:List Bx}(h:l[k]? =some x)(hp:ps[k]? =some p)(s:List Bx×Int):wK (l.drop k) (ps.drop k) s=wK (l.drop (k+1)) (ps.drop (k+1)) (Ol x p s):=by
 have hk:=(aP.1 h).1;have e:l[k]=x:=(aP.1 h).2;have hk2:=(aP.1 hp).1;have e2:ps[k]=p:=(aP.1 hp).2;rw[bA hk,bA hk2,e,e2];rfl
theorem L8(s:List Bx):jW (kN 0 (jK s)).1=true:=by
 unfold kN;rw[aF (fun h=>h rfl)];split
 ·exact jP
 ·exact F6 s
theorem aVp(l:List Hi)(hl:l.length<1000000)(ha:∀x,x∈l->0<=x.addr/\x.addr<=4294967295)(s:List Bx)(hs:s.length<1000000000){K:KT}(hK:K (.tup [iN (aCp l s).1,.v (.int .i64 (aCp l s).2)]) []):AC 91 [nN l,iN s] [] K:=by
 refine hJ (aPr rfl rfl ?_);unfold aCp at hK;have hm:=fun {K}=>@aCG 0 s hs rfl K;have hq:=fun {K}=>@aVu l hl (kN 0 (jK s)).1 (L8 s) (kN 0 (jK s)).2 K;have hi:=Uy l (s:=([],(kN 0 (jK s)).1,(kN 0 (jK s)).2)) ⟨L8 s,fun p hp=>by cases hp⟩;have hn:=J7 l ([],(kN 0 (jK s)).1,(kN 0 (jK s)).2);simp only at hK;generalize kN 0 (jK s)=g at*;obtain⟨s1,e1⟩:=g;simp only at hK hm hq hi hn;generalize rS l ([],s1,e1)=q at*;obtain⟨ps,r,e2⟩:=q;simp only at hK hq hi hn;have hrl:=(kU hi.rest).len;simp only at hrl;simp only[aI,bM]at hn;have hzl:(List.zipWith peX l ps).length=l.length:=by rw[List.length_zipWith,hn];simp
 have hz:∀(k:Nat) x p,l[k]? =some x->ps[k]? =some p->(List.zipWith peX l ps)[k]? =some (peX x p):=fun k x p h1 h2=>by rw[List.getElem?_zipWith,h1,h2]
 (repeat' ((conv=>whnf);first|(with_reducible first|refine aVt l hl ?_|refine hm ?_|refine hq ?_)|refine zG ?_|apply zA|intro h|exact zT));all_goals conv=>whnf
 generalize List.zipWith peX l ps=Z at*;refine gV (Nat×List Bx×Int) (fun g=>⟨1,[(0,oN g.2.2)],[(0,nN l),(6,.op 0 0),(8,iN r),(9,iN g.2.1),(20,.lst Z),(21,.v (.int .i64 Z.length)),(22,.v (.int .i64 g.1))]⟩) (fun g=>g.1<=l.length/\jW g.2.1=true/\wK l ps ([],e2)=wK (l.drop g.1) (ps.drop g.1) g.2) (fun g=>l.length-g.1) (0,[],e2) ⟨aK _,jP,by rw[bP,bP]⟩ ?_ ?_
 ·exact leA
 rintro⟨k,o,c⟩ ⟨hk,ho,hinv⟩
 simp only at hk ho hinv⊢;have hol:=(kU ho).len;rcases aD k l.length with hkl|hkl
 ·obtain⟨x,hx⟩:=gex hkl;obtain⟨p,hp⟩:∃p,ps[k]? =some p:=⟨_,aE zo⟩
  have hpl:=(kU (hi.parts p (aG hp))).len;have hzk:=hz k x p hx hp;have hkz:k<Z.length:=by omega
  have hst:=aHm hx hp (o,c);have hsi:=aOA x p (s:=(o,c)) ho;obtain⟨a0,a1⟩:=ha x (aG hx);unfold Ol at hst hsi;by_cases hxo:x.ok
  ·have v1:∀{K:KT},K (.sb true) []->AC 158 [pV x] [] K:=fun h=>W7 _ (by rw[decide_eq_true hxo];exact h);have hpe:peX x p=iN p:=by unfold peX;rw[aH hxo]
   rw[hpe]at hzk;rw[aH hxo]at hst hsi;have z1:=fun {K}=>@aVn x a0 a1 c p hpl K;have hil:=aCs x c p;generalize Kw x c p=q1 at*;obtain⟨i1,c1⟩:=q1;simp only at z1 hst hsi hil;have z2:=fun {K}=>@W6 c1 o i1 zo zo K;generalize opK orB c1 o i1=q2 at*;obtain⟨o2,c2⟩:=q2;simp only at z2 hst hsi;(repeat' ((conv=>whnf);first|(refine iB k rfl hkz ?_)|(refine iC hzk ?_)|(with_reducible first|refine iI hkl ?_|refine iH hx ?_)|(refine v1 ?_)|(refine z1 ?_)|(refine z2 ?_)|refine zG ?_|apply zA|intro h|exact zT));all_goals conv=>whnf
   refine⟨(k+1,o2,c2),⟨hkl,hsi,hinv.trans hst⟩,by simp only;omega,?_⟩;simp only;rw[aN k,aM];exact leA
  ·have v1:∀{K:KT},K (.sb false) []->AC 158 [pV x] [] K:=fun h=>W7 _ (by rw[decide_eq_false hxo];exact h);rw[aF hxo]at hst hsi;have hpe:peX x p=.nils:=by unfold peX;rw[aF hxo]
   rw[hpe]at hzk;(repeat' ((conv=>whnf);first|(refine iB k rfl hkz ?_)|(refine iC hzk ?_)|(with_reducible first|refine iI hkl ?_|refine iH hx ?_)|(refine v1 ?_)|refine zG ?_|apply zA|intro h|exact zT));all_goals conv=>whnf
   refine⟨(k+1,o,c),⟨hkl,ho,hinv.trans hst⟩,by simp only;omega,?_⟩;simp only;rw[aN k,aM];exact leA
 ·have he:wK (l.drop k) (ps.drop k) (o,c)=(o,c):=by rw[bO hkl];rfl
  rw[he]at hinv;rw[hinv]at hK;simp only at hK;have z2:=fun {K}=>@W6 c o r zo zo K;have hfl:=xW orB c o r;have hfe:(opK orB c o r).2≠0->(opK orB c o r).1=[]:=fun h=>by
   unfold opK kN at h⊢;split
   ·rfl
   ·split
    ·rfl
    ·rename_i h1 h2;rw[aF h1,aF h2]at h;exact absurd rfl h
  generalize opK orB c o r=q2 at*;obtain⟨o2,c2⟩:=q2;simp only at z2 hK hfl hfe;have z3:∀{K:KT},K (.tup [iN o2,.v (.int .i64 c2)]) [oN c2]->AC 137 [.op 0 0,iN o2] [oN c2] K:=fun h=>aKR c2 o2 zo (by
   by_cases h0:c2=0
   ·rw[aF (fun h=>h h0)];exact h
   ·rw[aH h0];rw[hfe h0]at h;exact h)
  (repeat' ((conv=>whnf);first|(refine z2 ?_)|(refine z3 ?_)|refine zG ?_|apply zA|intro h|exact zT));all_goals conv=>whnf
  exact⟨_,gY,hK⟩
theorem aVm(l:List Hi)(hl:l.length<1000000)(ha:∀x,x∈l->0<=x.addr/\x.addr<=4294967295)(s:List Bx)(hs:s.length<1000000000){K:KT}(hK:K (.tup [iN (Se (T0 l s)).1,.v (.int .i64 (Se (T0 l s)).2)]) []):AC 34 [nN l,iN s] [] K:=by
 refine aPo rfl rfl ?_;have hm:=fun {K}=>@aVp l hl ha s hs K;rw[aHk]at hm;(repeat' ((conv=>whnf);first|(with_reducible refine hm ?_)|refine zG ?_|apply zA|intro h|exact zT));all_goals conv=>whnf
 exact hK
end Go.Proofs.YtgicddadddhonaaGreatDoor
