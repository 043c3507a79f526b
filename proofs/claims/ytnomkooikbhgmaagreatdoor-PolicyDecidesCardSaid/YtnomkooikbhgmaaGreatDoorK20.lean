/- Lemmas. -/
import Derived.Test.YtnomkooikbhgmaaGreatDoorK19
set_option linter.unusedVariables false
set_option linter.unusedSimpArgs false
set_option maxRecDepth 100000
set_option maxHeartbeats 4000000
noncomputable section
namespace Go.Proofs.YtnomkooikbhgmaaGreatDoor
open Go Go.Vm
theorem sR(lt:Int->Int->Bool):∀(j:Nat) (e:Array Int),(Sort.shiftDown lt j e).size=e.size
 |0,e=>rfl
 |j+1,e=>by
  rw[Sort.shiftDown];split
  ·rfl
  ·rw[sR lt j,swp_size]
theorem Es(lt:Int->Int->Bool)(b:Nat):∀(n j:Nat) (e:Array Int),b-j<=n->(Sort.shiftUp lt b j e).size=e.size:=by
 intro n
 induction n with
 |zero=>intro j e h;rw[Sort.shiftUp,aF zo]
 |succ n ih=>
  intro j e h;rw[Sort.shiftUp];split
  ·split
   ·rfl
   ·rw[ih _ _ zo,swp_size]
  ·rfl
theorem uO(lt:Int->Int->Bool)(e:Array Int)(b:Nat):∀(n i:Nat),b-i<=n->i<=Sort.scanSorted lt e b i/\(i<=b->Sort.scanSorted lt e b i<=b):=by
 intro n
 induction n with
 |zero=>intro i h;rw[Sort.scanSorted,aF (by simp;omega)];omega
 |succ n ih=>
  intro i h;rw[Sort.scanSorted];split
  ·rename_i hc;have hib:i<b:=by simp at hc;exact hc.1
   have:=ih (i+1) zo;omega
  ·omega
theorem aKS(d:Array Int)(a b:Nat)(hab:a<b)(hb:b<=d.size)(hsz:d.size<1000000000000){K:KT}(hK:K (.sb (Sort.partialInsertionSort Sort.ltInt d a b).2) [iT (Sort.partialInsertionSort Sort.ltInt d a b).1]):
  AC 330 [.os 0 1 0 d.size,.v (.int .i64 a),.v (.int .i64 b)] [iT d] K:=by
 refine gQ (aHL rfl rfl ?_);have ha1:(a:Int)+1=((a+1:Nat):Int):=by omega
 unfold Sort.partialInsertionSort at hK;(repeat' ((conv=>whnf);first|refine zG ?_|apply zA|intro h|exact zT));all_goals conv=>whnf
 refine gM (Nat×Nat×Array Int) (fun g=>⟨1,[(0,iT g.2.2)],[(0,.os 0 1 0 d.size),(1,.v (.int .i64 a)),(2,.v (.int .i64 b)),(7,.v (.int .i64 g.2.1)),(8,.v (.int .i64 g.1))]⟩)
  (fun g=>g.1<=5/\g.2.2.size=d.size/\a<g.2.1/\g.2.1<=b/\Sort.partialIns Sort.ltInt a b (5-g.1) g.2.1 g.2.2=Sort.partialIns Sort.ltInt a b 5 (a+1) d) (fun g=>5-g.1) (0,a+1,d) ⟨by dsimp only;omega,rfl,by dsimp only;omega,by dsimp only;omega,rfl⟩ ?_ ?_
 ·dsimp only;rw[<-ha1];exact leA
 generalize Sort.partialIns Sort.ltInt a b 5 (a+1) d=T at*
 rintro⟨k,i0,e⟩ ⟨hk5,hes,hai0,hib0,ht⟩
 simp only at hk5 hes hai0 hib0 ht⊢;rcases aC k 5 with hk|hk
 ·obtain⟨s,hs⟩:∃s,5-k=s+1:=⟨4-k,by omega⟩
  rw[hs,Sort.partialIns]at ht;obtain⟨i,hi⟩:∃i,i=Sort.scanSorted Sort.ltInt e b i0:=⟨_,rfl⟩
  have hsp:=uO Sort.ltInt e b _ i0 (aK _);rw[<-hi]at hsp ht;obtain⟨hi1,hi2⟩:=hsp;have hi2:=hi2 zo;simp only at ht;(repeat' ((conv=>whnf);first|refine zG ?_|apply zA|intro h|exact zT));all_goals conv=>whnf
  refine Jn.at ⟨1,[(0,iT e)],[(0,.os 0 1 0 d.size),(1,.v (.int .i64 a)),(2,.v (.int .i64 b)),(7,.v (.int .i64 i)),(8,.v (.int .i64 k))]⟩ ?_ ?_
  ·rw[hi];refine gM Nat (fun m=>⟨1,[(0,iT e)],[(0,.os 0 1 0 d.size),(1,.v (.int .i64 a)),(2,.v (.int .i64 b)),(7,.v (.int .i64 m)),(8,.v (.int .i64 k))]⟩) (fun m=>i0<=m/\m<=b/\Sort.scanSorted Sort.ltInt e b m=Sort.scanSorted Sort.ltInt e b i0) (fun m=>b-m) i0 ⟨aK _,hib0,rfl⟩ ?_ ?_
   ·exact leA
   intro m ⟨hm1,hm2,hm3⟩;rw[Sort.scanSorted]at hm3;rcases aC m b with hmb|hmb
   ·have n1:m<d.size:=by omega
    have n1':m<e.size:=by omega
    have n2':m-1<e.size:=by omega
    (repeat' ((conv=>whnf);first|(with_reducible first|refine nL _ _ ?_|refine iA n1 ?_)|(refine gU (m-1) zo zo ?_)|(with_reducible first|refine kQ n1' ?_|refine kQ n2' ?_)|refine zG ?_|apply zA|intro h|exact zT));all_goals conv=>whnf
    all_goals first
     |(rw[aH (by simp[h];omega)]at hm3
       refine⟨m+1,⟨by omega,by omega,hm3⟩,by omega,?_⟩;rw[aN,aL];(exact leA))
     |(rw[aF (by simp[h])]at hm3
       refine⟨(),trivial,?_⟩;rw[<-hm3];(exact leA))
   ·rw[aF (by simp;omega)]at hm3;(repeat' ((conv=>whnf);first|refine zG ?_|apply zA|intro h|exact zT));all_goals conv=>whnf
    refine⟨(),trivial,?_⟩;rw[<-hm3];exact leA
  rcases aC i b with hilt|hilt
  ·rw[aF zo]at ht;rcases aC (b-a) 50 with h50|h50
   ·rw[aH h50]at ht;subst ht;(repeat' ((conv=>whnf);first|refine zG ?_|apply zA|intro h|exact zT));all_goals conv=>whnf
    exact⟨_,Weak.bool,hK⟩
   ·rw[aF zo]at ht;have n1:i<d.size:=by omega
    have n1':i<e.size:=by omega
    have n2':i-1<e.size:=by omega
    (repeat' ((conv=>whnf);first|(with_reducible refine iA n1 ?_)|(refine gU (i-1) zo zo ?_)|(with_reducible first|refine kQ n1' ?_|refine kQ n2' ?_)|(refine vS n2' fun z=>?_)|(rw[wC])|refine zG ?_|apply zA|intro h|exact zT));all_goals conv=>whnf
    obtain⟨e1,he1⟩:∃e1,e1=Sort.swp e i (i-1):=⟨_,rfl⟩
    have he1s:e1.size=d.size:=by rw[he1,swp_size,hes]
    rw[<-he1]at ht⊢;obtain⟨e2,he2⟩:∃e2,e2=if i-a≥2 then Sort.shiftDown Sort.ltInt (i-1) e1 else e1:=⟨_,rfl⟩
    have he2s:e2.size=d.size:=by
     rw[he2];split
     ·rw[sR,he1s]
     ·exact he1s
    rw[<-he2]at ht;have fin:∀e3,(e3=if b-i≥2 then Sort.shiftUp Sort.ltInt b (i+1) e2 else e2)->∃g':Nat×Nat×Array Int,(g'.1<=5/\g'.2.2.size=d.size/\a<g'.2.1/\g'.2.1<=b/\Sort.partialIns Sort.ltInt a b (5-g'.1) g'.2.1 g'.2.2=T)/\5-g'.1<5-k/\g'=(k+1,i,e3):=fun e3 h3=>by
     refine⟨(k+1,i,e3),⟨by dsimp only;omega,?_,by dsimp only;omega,by dsimp only;omega,?_⟩,by dsimp only;omega,rfl⟩
     ·dsimp only;rw[h3];split
      ·rw[Es _ _ _ _ _ (aK _),he2s]
      ·exact he2s
     ·rw[h3,<-ht]
      congr 1
      omega
    refine Jn.at ⟨1,[(0,iT e2)],[(0,.os 0 1 0 d.size),(1,.v (.int .i64 a)),(2,.v (.int .i64 b)),(7,.v (.int .i64 i)),(8,.v (.int .i64 k))]⟩ ?_ ?_
    ·have hd1:decide (2<=(i:Int)-a)=decide (i-a≥2):=by rw[decide_eq_decide];omega
     rcases aC (i-a) 2 with h2|h2
     ·rw[aF zo]at he2;(repeat' ((conv=>whnf);first|refine zG ?_|apply zA|intro h|exact zT));all_goals conv=>whnf
      refine⟨(),trivial,?_⟩;rw[he2];exact leA
     ·rw[aH h2]at he2;(repeat' ((conv=>whnf);first|refine zG ?_|apply zA|intro h|exact zT));all_goals conv=>whnf
      refine gM (Nat×Array Int) (fun g=>⟨1,[(0,iT g.2)],[(0,.os 0 1 0 d.size),(1,.v (.int .i64 a)),(2,.v (.int .i64 b)),(7,.v (.int .i64 i)),(8,.v (.int .i64 k)),(9,.v (.int .i64 g.1))]⟩) (fun g=>g.1<=i/\g.2.size=d.size/\Sort.shiftDown Sort.ltInt g.1 g.2=e2) (fun g=>g.1) (i-1,e1) ⟨by dsimp only;omega,he1s,he2.symm⟩ ?_ ?_
      ·dsimp only;rw[gD zo,aL];exact leA
      rintro⟨m,f⟩ ⟨hm1,hm2,hm3⟩
      simp only at hm1 hm2 hm3⊢;rcases m with _|m
      ·rw[Sort.shiftDown]at hm3;subst hm3;(repeat' ((conv=>whnf);first|refine zG ?_|apply zA|intro h|exact zT));all_goals conv=>whnf
       refine⟨(),trivial,?_⟩;exact leA
      ·rw[Sort.shiftDown]at hm3;have m1:m+1<d.size:=by omega
       have m1':m+1<f.size:=by omega
       have m2:m<d.size:=by omega
       have m2':m<f.size:=by omega
       have hmm:((m+1:Nat):Int)-1=(m:Nat):=by omega
       (repeat' ((conv=>whnf);first|(with_reducible first|refine nL _ _ ?_|refine iA m1 ?_|refine gU m hmm m2 ?_|refine kQ m1' ?_|refine kQ m2' ?_|refine Lw (Nat.succ_ne_self m) m2' ?_)|refine zG ?_|apply zA|intro h|exact zT));all_goals conv=>whnf
       all_goals first
        |(rw[aH (by simp[h])]at hm3
          subst hm3;refine⟨(),trivial,?_⟩;(exact leA))
        |(rw[aF (by simp[h])]at hm3
          refine⟨(m,Sort.swp f (m+1) m),⟨by dsimp only;omega,by rw[swp_size,hm2],hm3⟩,by dsimp only;omega,?_⟩;dsimp only;rw[hmm,wC];(exact leA))
    rcases aC (b-i) 2 with h2|h2
    ·obtain⟨g',h1,h2,rfl⟩:=fin e2 (by rw[aF zo]);(repeat' ((conv=>whnf);first|refine zG ?_|apply zA|intro h|exact zT));all_goals conv=>whnf
     refine⟨_,h1,h2,?_⟩;dsimp only;rw[aN,aL];exact leA
    ·(repeat' ((conv=>whnf);first|refine zG ?_|apply zA|intro h|exact zT));all_goals conv=>whnf
     refine gM (Nat×Array Int) (fun g=>⟨1,[(0,iT g.2)],[(0,.os 0 1 0 d.size),(1,.v (.int .i64 a)),(2,.v (.int .i64 b)),(7,.v (.int .i64 i)),(8,.v (.int .i64 k)),(10,.v (.int .i64 g.1))]⟩) (fun g=>i+1<=g.1/\g.1<=b/\g.2.size=d.size/\Sort.shiftUp Sort.ltInt b g.1 g.2=Sort.shiftUp Sort.ltInt b (i+1) e2) (fun g=>b-g.1) (i+1,e2) ⟨by dsimp only;omega,by dsimp only;omega,he2s,rfl⟩ ?_ ?_
     ·dsimp only;rw[aN,aL];exact leA
     rintro⟨m,f⟩ ⟨hm0,hm1,hm2,hm3⟩
     simp only at hm0 hm1 hm2 hm3⊢;rw[Sort.shiftUp]at hm3;rcases aC m b with hmb|hmb
     ·rw[aH hmb]at hm3;have m1:m<d.size:=by omega
      have m1':m<f.size:=by omega
      have m2':m-1<f.size:=by omega
      (repeat' ((conv=>whnf);first|(with_reducible first|refine nL _ _ ?_|refine iA m1 ?_)|(refine gU (m-1) zo zo ?_)|(with_reducible first|refine kQ m1' ?_|refine kQ m2' ?_)|(refine vS m2' fun z=>?_)|refine zG ?_|apply zA|intro h|exact zT));all_goals conv=>whnf
      all_goals first
       |(rw[aH (by simp[h])]at hm3
         obtain⟨g',h1,h2,rfl⟩:=fin f (by rw[aH zo,hm3]);refine⟨_,h1,h2,?_⟩;dsimp only;rw[aN,aL];(exact leA))
       |(rw[aF (by simp[h])]at hm3
         refine⟨(m+1,Sort.swp f m (m-1)),⟨by dsimp only;omega,by dsimp only;omega,by rw[swp_size,hm2],hm3⟩,by dsimp only;omega,?_⟩;dsimp only;rw[aN,aL,wC];(exact leA))
     ·rw[aF zo]at hm3;obtain⟨g',h1,h2,rfl⟩:=fin f (by rw[aH zo,hm3]);(repeat' ((conv=>whnf);first|refine zG ?_|apply zA|intro h|exact zT));all_goals conv=>whnf
      refine⟨_,h1,h2,?_⟩;dsimp only;rw[aN,aL];exact leA
  ·rw[aH zo]at ht;subst ht;(repeat' ((conv=>whnf);first|refine zG ?_|apply zA|intro h|exact zT));all_goals conv=>whnf
   exact⟨_,Weak.bool,hK⟩
 ·have:k=5:=by omega
  subst this;simp only[dT,Sort.partialIns]at ht;subst ht;(repeat' ((conv=>whnf);first|refine zG ?_|apply zA|intro h|exact zT));all_goals conv=>whnf
  exact⟨_,Weak.bool,hK⟩
abbrev Ha(s:Int):Vm.Obj:=.box [.v (.int .i64 s)]
theorem Th(d:Array Int)(a b:Nat)(s:Int)(ha:a<d.size)(hb:b<d.size)(hs0:0<=s)(hs:s<=1000){K:KT}
  (hK:∀(x y:Nat) (s':Int),(x=a/\y=b\/x=b/\y=a)->s<=s'->s'<=s+1->K (.tup [.v (.int .i64 x),.v (.int .i64 y)]) [iT d,Ha s']):
  AC 339 [.os 0 1 0 d.size,.v (.int .i64 a),.v (.int .i64 b),.op 1 0] [iT d,Ha s] K:=by
 refine aHJ rfl rfl ?_;(repeat' ((conv=>whnf);first|(with_reducible first|refine nL _ _ ?_|refine iA ha ?_|refine iA hb ?_|refine kQ ha ?_|refine kQ hb ?_)|refine zG ?_|apply zA|intro h|exact zT));all_goals conv=>whnf
 ·exact hK b a (s+1) (.inr ⟨rfl,rfl⟩) zo (cC _)
 ·exact hK a b s (.inl ⟨rfl,rfl⟩) (cC _) zo
theorem aAA(d:Array Int)(a b c:Nat)(s:Int)(ha:a<d.size)(hb:b<d.size)(hc:c<d.size)(hs0:0<=s)(hs:s<=900){K:KT}
  (hK:∀(m:Nat) (s':Int),(m=a\/m=b\/m=c)->s<=s'->s'<=s+3->K (.v (.int .i64 m)) [iT d,Ha s']):
  AC 337 [.os 0 1 0 d.size,.v (.int .i64 a),.v (.int .i64 b),.v (.int .i64 c),.op 1 0] [iT d,Ha s] K:=by
 refine aOP rfl rfl ?_;(repeat' ((conv=>whnf);first|refine zG ?_|apply zA|intro h|exact zT));all_goals conv=>whnf
 refine Th d a b s ha hb hs0 zo fun x1 y1 s1 h1 l1 u1=>?_;have hx1:x1<d.size:=by omega
 have hy1:y1<d.size:=by omega
 (repeat' ((conv=>whnf);first|refine zG ?_|apply zA|intro h|exact zT));all_goals conv=>whnf
 refine Th d y1 c s1 hy1 hc zo zo fun x2 y2 s2 h2 l2 u2=>?_;have hx2:x2<d.size:=by omega
 (repeat' ((conv=>whnf);first|refine zG ?_|apply zA|intro h|exact zT));all_goals conv=>whnf
 refine Th d x1 x2 s2 hx1 hx2 zo zo fun x3 y3 s3 h3 l3 u3=>?_;(repeat' ((conv=>whnf);first|refine zG ?_|apply zA|intro h|exact zT));all_goals conv=>whnf
 exact hK y3 s3 zo zo zo
theorem Tf(d:Array Int)(a:Nat)(s:Int)(ha0:1<=a)(ha:a+1<d.size)(hsz:d.size<1000000000000)(hs0:0<=s)(hs:s<=900){K:KT}
  (hK:∀(m:Nat) (s':Int),a<=m+1->m<=a+1->s<=s'->s'<=s+3->K (.v (.int .i64 m)) [iT d,Ha s']):
  AC 336 [.os 0 1 0 d.size,.v (.int .i64 a),.op 1 0] [iT d,Ha s] K:=by
 refine aHG rfl rfl ?_;have e1:(a:Int)-1=((a-1:Nat):Int):=by omega
 have e2:(a:Int)+1=((a+1:Nat):Int):=by omega
 (repeat' ((conv=>whnf);first|refine zG ?_|apply zA|intro h|exact zT));all_goals conv=>whnf
 rw[e1,e2];refine aAA d (a-1) a (a+1) s zo zo zo hs0 hs fun m s' h l u=>?_;(repeat' ((conv=>whnf);first|refine zG ?_|apply zA|intro h|exact zT));all_goals conv=>whnf
 exact hK m s' zo zo l u
theorem aQG(d:Array Int)(a b:Nat)(hab:a<b)(hb:b<=d.size)(hsz:d.size<1000000000000){K:KT}
  (hK:∀(p:Nat) (h:Int),a<=p->p<b->K (.tup [.v (.int .i64 p),.v (.int .i64 h)]) [iT d]):
  AC 328 [.os 0 1 0 d.size,.v (.int .i64 a),.v (.int .i64 b)] [iT d] K:=by
 refine aOT rfl rfl ?_;have q0:((b:Int)-a).tdiv 4=(((b-a)/4:Nat):Int):=by rw[bX zo];omega
 have hw:∀{K:Int->Prop},K (((b-a)/4:Nat):Int)->Wr .i64 (((b:Int)-a).tdiv 4) K:=fun h=>jB q0 zo zo h;(repeat' ((conv=>whnf);first|(with_reducible refine hw ?_)|refine zG ?_|apply zA|intro h|exact zT));all_goals conv=>whnf
 all_goals
  have hq1:4*((b-a)/4)<=b-a:=by omega
  have hq2:b-a<4*((b-a)/4)+4:=by omega
  clear hw q0;generalize (b-a)/4=q at*;have e1:(a:Int)+(q:Int)*1=((a+q:Nat):Int):=by omega
  have e2:(a:Int)+(q:Int)*2=((a+2*q:Nat):Int):=by omega
  have e3:(a:Int)+(q:Int)*3=((a+3*q:Nat):Int):=by omega
  rw[e2]
 ·rw[e1];refine Tf d (a+q) 0 zo zo hsz zo zo fun i s1 hi1 hi2 l1 u1=>?_;(repeat' ((conv=>whnf);first|refine zG ?_|apply zA|intro h|exact zT));all_goals conv=>whnf
  refine Tf d (a+2*q) s1 zo zo hsz zo zo fun j s2 hj1 hj2 l2 u2=>?_;(repeat' ((conv=>whnf);first|refine zG ?_|apply zA|intro h|exact zT));all_goals conv=>whnf
  rw[e3];refine Tf d (a+3*q) s2 zo zo hsz zo zo fun k s3 hk1 hk2 l3 u3=>?_;(repeat' ((conv=>whnf);first|refine zG ?_|apply zA|intro h|exact zT));all_goals conv=>whnf
  refine aAA d i j k s3 zo zo zo zo zo fun m s4 hm l4 u4=>?_;(repeat' ((conv=>whnf);first|refine zG ?_|apply zA|intro h|exact zT));all_goals conv=>whnf
  all_goals exact hK m _ zo zo
 ·rw[e1,e3];refine aAA d (a+q) (a+2*q) (a+3*q) 0 zo zo zo zo zo fun m s4 hm l4 u4=>?_;(repeat' ((conv=>whnf);first|refine zG ?_|apply zA|intro h|exact zT));all_goals conv=>whnf
  all_goals exact hK m _ zo zo
 ·exact hK _ _ zo zo
theorem sS(e:Int):0<=IntKind.u64.wrap e/\IntKind.u64.wrap e<=18446744073709551615:=by
 simp only[IntKind.wrap,IntKind.signed,IntKind.bits];simp;omega
theorem Di{e:Int}{K:Int->Prop}(hK:∀r:Int,0<=r->r<=18446744073709551615->K r):Wr .u64 e K:=Wr.intro rfl (hK _ (sS e).1 (sS e).2)
theorem M0(a b:Int):0<=qO .xor .u64 a b/\qO .xor .u64 a b<=18446744073709551615:=sS _
theorem aAB(r:Int)(h0:0<=r)(h1:r<=18446744073709551615){K:KT}(hK:∀r':Int,0<=r'->r'<=18446744073709551615->K (.v (.int .u64 r')) [.box [.v (.int .u64 r')]]):
  AC 235 [.op 0 0] [.box [.v (.int .u64 r)]] K:=by
 refine aHI rfl rfl ?_;(repeat' ((conv=>whnf);first|(refine Di fun z _ _=>?_)|refine zG ?_|apply zA|intro h|exact zT));all_goals conv=>whnf
 exact hK _ (M0 _ _).1 (M0 _ _).2
theorem aLB(x s:Nat)(hs:s=8\/s=16\/s=32):(x:Int).fdiv (2^min (Int.toNat (s:Int)) IntKind.u64.bits)=((x/2^s:Nat):Int):=by
 have e:(2^min (Int.toNat (s:Int)) IntKind.u64.bits:Int)=((2^s:Nat):Int):=by
  rcases hs with rfl|rfl|rfl<;>rfl
 rw[e,Int.fdiv_eq_ediv_of_nonneg _ (Int.natCast_nonneg _)];exact(Int.natCast_ediv _ _).symm
theorem f32(x:Nat):(x:Int).fdiv (2^min (Int.toNat 32) IntKind.u64.bits)=((x/2^32:Nat):Int):=aLB x 32 zx
theorem f16(x:Nat):(x:Int).fdiv (2^min (Int.toNat 16) IntKind.u64.bits)=((x/2^16:Nat):Int):=aLB x 16 zx
theorem f8(x:Nat):(x:Int).fdiv (2^min (Int.toNat 8) IntKind.u64.bits)=((x/2^8:Nat):Int):=aLB x 8 zx
theorem aEE(x:Nat)(hx:x<1000000000000){K:KT}(hK:∀n:Nat,vO x n->K (.v (.int .i64 n)) []):AC 166 [.v (.int .u64 x)] [] K:=by
 refine aCN rfl rfl ?_;(repeat' ((conv=>whnf);first|refine zG ?_|apply zA|intro h|exact zT));all_goals conv=>whnf
 ·rename_i h1 h3;rw[f32]at h3;rw[f32,f16]at h;omega
 ·rename_i h1 h3;rw[f32]at h3;omega
 ·rename_i h1 h3;rw[f32]at h3;have h2:=h;rw[f32]at h2;refine Mz (x/2^32/2^8) (by rw[f32,f8]) zo ?_;(repeat' ((conv=>whnf);first|(with_reducible refine F7 zk zo fun b hb hb2=>?_)|refine zG ?_|apply zA|intro h|exact zT));all_goals conv=>whnf
  have e:(32+8+(b.toNat:Int))=((b.toNat+8+32:Nat):Int):=by omega
  unfold yP;rw[e];exact hK _ (nO (nO hb zo) zo)
 ·rename_i h1 h3;rw[f32]at h3;have h2:=h;rw[f32]at h2;refine Mz (x/2^32) (by rw[f32]) zo ?_;(repeat' ((conv=>whnf);first|(with_reducible refine F7 zk zo fun b hb hb2=>?_)|refine zG ?_|apply zA|intro h|exact zT));all_goals conv=>whnf
  have e:(32+(b.toNat:Int))=((b.toNat+32:Nat):Int):=by omega
  unfold yP;rw[e];exact hK _ (nO hb zo)
 ·have h2:=h;rw[f16]at h2;refine Mz (x/2^16/2^8) (by rw[f16,f8]) zo ?_;(repeat' ((conv=>whnf);first|(with_reducible refine F7 zk zo fun b hb hb2=>?_)|refine zG ?_|apply zA|intro h|exact zT));all_goals conv=>whnf
  have e:(0+16+8+(b.toNat:Int))=((b.toNat+8+16:Nat):Int):=by omega
  unfold yP;rw[e];exact hK _ (nO (nO hb zo) zo)
 ·have h2:=h;rw[f16]at h2;refine Mz (x/2^16) (by rw[f16]) zo ?_;(repeat' ((conv=>whnf);first|(with_reducible refine F7 zk zo fun b hb hb2=>?_)|refine zG ?_|apply zA|intro h|exact zT));all_goals conv=>whnf
  have e:(0+16+(b.toNat:Int))=((b.toNat+16:Nat):Int):=by omega
  unfold yP;rw[e];exact hK _ (nO hb zo)
 ·have h2:=h;refine Mz (x/2^8) (by rw[f8]) zo ?_;(repeat' ((conv=>whnf);first|(with_reducible refine F7 zk zo fun b hb hb2=>?_)|refine zG ?_|apply zA|intro h|exact zT));all_goals conv=>whnf
  have e:(0+8+(b.toNat:Int))=((b.toNat+8:Nat):Int):=by omega
  unfold yP;rw[e];exact hK _ (nO hb zo)
 ·have h2:=h;refine Mz x rfl zo ?_;(repeat' ((conv=>whnf);first|(with_reducible refine F7 zk zo fun b hb hb2=>?_)|refine zG ?_|apply zA|intro h|exact zT));all_goals conv=>whnf
  have e:(0+(b.toNat:Int))=((b.toNat:Nat):Int):=by omega
  unfold yP;rw[e];exact hK _ hb
theorem Vu(x:Nat)(hx:x<1000000000000){K:KT}(hK:∀n:Nat,vO x n->K (.v (.int .i64 n)) []):AC 82 [.v (.int .u64 x)] [] K:=by
 refine aOO rfl rfl ?_;(repeat' ((conv=>whnf);first|(with_reducible refine aEE x hx fun n hn=>?_)|refine zG ?_|apply zA|intro h|exact zT));all_goals conv=>whnf
 exact hK n hn
theorem Ud{x n:Nat}(hx:x<1000000000000)(h:vO x n):n<=40:=by
 rcases h.2 with h1|h1
 ·omega
 ·rcases aC 40 n with h2|h2
  ·have:=fQ (n:=2) zo (show 40<=n-1 by omega);omega
  ·exact h2
theorem aAC(x:Nat)(hx:x<1000000000000){K:KT}(hK:∀n:Nat,vO x n->K (.v (.int .u64 ((2^n:Nat):Int))) []):AC 234 [.v (.int .i64 x)] [] K:=by
 refine aHM rfl rfl ?_;(repeat' ((conv=>whnf);first|(with_reducible refine Vu x hx fun n hn=>?_)|refine zG ?_|apply zA|intro h|exact zT));all_goals conv=>whnf
 have h40:=Ud hx hn;have e:(1:Int)*2^min ((n:Int)).toNat IntKind.u64.bits=((2^n:Nat):Int):=by
  rw[Int.one_mul,eQ,show IntKind.u64.bits=64 from rfl,fN zo,Int.natCast_pow];rfl
 have hp:=fQ (n:=2) zo h40;refine xP e (Int.natCast_nonneg _) zo ?_;(repeat' ((conv=>whnf);first|refine zG ?_|apply zA|intro h|exact zT));all_goals conv=>whnf
 exact hK n hn
theorem Ky{r m:Nat}(hm:m<18446744073709551616):∃o:Nat,qO .and .u64 (r:Int) (m:Int)=(o:Int)/\o<=m:=by
 have h0:(BitVec.ofInt 64 (m:Int)).toNat=m:=by
  rw[BitVec.toNat_ofInt];omega
 have h1:(BitVec.ofInt 64 (r:Int)&&&BitVec.ofInt 64 (m:Int)).toNat<=m:=by
  rw[BitVec.toNat_and,h0];exact Nat.and_le_right
 refine⟨(BitVec.ofInt 64 (r:Int)&&&BitVec.ofInt 64 (m:Int)).toNat,?_,h1⟩;show IntKind.u64.wrap ((BitVec.ofInt 64 (r:Int)&&&BitVec.ofInt 64 (m:Int)).toNat:Int)=_;generalize (BitVec.ofInt 64 (r:Int)&&&BitVec.ofInt 64 (m:Int)).toNat=z at h1;simp only[IntKind.wrap,IntKind.signed,IntKind.bits];simp;omega
theorem aQB(d:Array Int)(a b:Nat)(hab:a<b)(hb:b<=d.size)(hsz:d.size<1000000000000){K:KT}(hK:∀e,Sort.PermIn a b d e->K (.tup []) [iT e]):
  AC 327 [.os 0 1 0 d.size,.v (.int .i64 a),.v (.int .i64 b)] [iT d] K:=by
 refine aOL rfl rfl ?_;have q0:((b:Int)-a).tdiv 4=(((b-a)/4:Nat):Int):=by rw[bX zo];omega
 have hw:∀{K:Int->Prop},K (((b-a)/4:Nat):Int)->Wr .i64 (((b:Int)-a).tdiv 4) K:=fun h=>jB q0 zo zo h;have hba:(b:Int)-a=((b-a:Nat):Int):=by omega
 have hpow:∀{K:KT},(∀n:Nat,vO (b-a) n->K (.v (.int .u64 ((2^n:Nat):Int))) [])->AC 234 [.v (.int .i64 ((b:Int)-a))] [] K:=fun h=>by rw[hba];exact aAC (b-a) zo h
 (repeat' ((conv=>whnf);first|(with_reducible first|refine hw ?_|refine hpow fun n hn=>?_)|refine zG ?_|apply zA|intro h|exact zT));all_goals conv=>whnf
 ·have h8:=h;have hp2:2^n<=2*(b-a):=by
   rcases hn.2 with h1|h1
   ·subst h1;omega
   ·rcases n with _|n
    ·omega
    ·rw[Nat.add_sub_cancel]at h1;rw[Nat.pow_succ];omega
  have hp1:=hn.1;have hp0:=fE n;have hq1:4*((b-a)/4)<=b-a:=by omega
  have hq2:b-a<4*((b-a)/4)+4:=by omega
  clear hpow q0;generalize (b-a)/4=q at*;generalize 2^n=M at*;refine gM (Nat×Int×Array Int) (fun g=>⟨2,[(0,iT g.2.2),(1,.box [.v (.int .u64 g.2.1)])],[(0,.os 0 1 0 d.size),(1,.v (.int .i64 a)),(6,.v (.int .i64 ((b:Int)-a))),(7,.op 1 0),(8,.v (.int .u64 ((M:Nat):Int))),(9,.v (.int .i64 g.1))]⟩)
   (fun g=>a+2*q<=g.1+1/\g.1<=a+2*q+2/\0<=g.2.1/\g.2.1<=18446744073709551615/\Sort.PermIn a b d g.2.2) (fun g=>a+2*q+2-g.1) (a+2*q-1,(b:Int)-a,d) ⟨by dsimp only;omega,by dsimp only;omega,by dsimp only;omega,by dsimp only;omega,Sort.permIn_refl d a b⟩ ?_ ?_
  ·dsimp only;rw[show((a+2*q-1:Nat):Int)=(a:Int)+(q:Int)*2-1 by omega];exact leA
  rintro⟨i,r,e⟩ ⟨hi1,hi2,hr1,hr2,hpe⟩
  simp only at hi1 hi2 hr1 hr2 hpe⊢;have hes:e.size=d.size:=hpe.1;rcases aC (a+2*q+1) i with h1|h1
  ·(repeat' ((conv=>whnf);first|(with_reducible refine hw ?_)|refine zG ?_|apply zA|intro h|exact zT));all_goals conv=>whnf
   exact hK e hpe
  ·(repeat' ((conv=>whnf);first|(with_reducible first|refine hw ?_|refine aAB r hr1 hr2 fun r' h0 h1=>?_)|refine zG ?_|apply zA|intro h|exact zT));all_goals conv=>whnf
   obtain⟨r',rfl⟩:=dS h0;have hM1:(M:Int)-1=((M-1:Nat):Int):=by omega
   obtain⟨o,ho,hom⟩:=Ky (r:=r') (m:=M-1) zo;rw[hM1,ho];have n1:i<d.size:=by omega
   have n1':i<e.size:=by omega
   have step:∀o':Nat,o'<b-a->∃g':Nat×Int×Array Int,(a+2*q<=g'.1+1/\g'.1<=a+2*q+2/\0<=g'.2.1/\g'.2.1<=18446744073709551615/\Sort.PermIn a b d g'.2.2)/\a+2*q+2-g'.1<a+2*q+2-i/\g'=(i+1,(r':Int),Sort.swp e i (a+o')):=fun o' ho'=>
    ⟨(i+1,(r':Int),Sort.swp e i (a+o')),⟨by dsimp only;omega,by dsimp only;omega,h0,h1,Sort.permIn_trans _ _ _ _ _ hpe (Sort.swp_permIn _ _ _ _ _ zo zo zo zo zo)⟩,by dsimp only;omega,rfl⟩
   rcases aC o (b-a)with hoL|hoL
   ·have n2':a+o<e.size:=by omega
    obtain⟨g',k1,k2,rfl⟩:=step o hoL;(repeat' ((conv=>whnf);first|(with_reducible refine iA n1 ?_)|(refine gU (a+o) zo zo ?_)|(with_reducible first|refine kQ n1' ?_|refine kQ n2' ?_)|(refine vS n2' fun z=>?_)|(rw[wC])|refine zG ?_|apply zA|intro h|exact zT));all_goals conv=>whnf
    refine⟨_,k1,k2,?_⟩;dsimp only;rw[aN,aL];exact leA
   ·have n2':a+(o-(b-a))<e.size:=by omega
    obtain⟨g',k1,k2,rfl⟩:=step (o-(b-a)) zo;(repeat' ((conv=>whnf);first|(with_reducible refine iA n1 ?_)|(refine gU (a+(o-(b-a))) zo zo ?_)|(with_reducible first|refine kQ n1' ?_|refine kQ n2' ?_)|(refine vS n2' fun z=>?_)|(rw[wC])|refine zG ?_|apply zA|intro h|exact zT));all_goals conv=>whnf
    refine⟨_,k1,k2,?_⟩;dsimp only;rw[aN i,aL];exact leA
 ·exact hK d (Sort.permIn_refl d a b)
section
variable {n:Nat} {d:Array Int} (hn:d.size=n) (a b:Nat) (hsz:n<1000000000000) {K:KT}
include hn hsz
theorem aKM(hab:a<=b)(hb:b<=n)(hK:∀e,Sort.PermIn a b d e->Sort.SortedIn Sort.ltInt a b e->K (.tup []) [iT e]):
  AC 325 [.os 0 1 0 n,.v (.int .i64 a),.v (.int .i64 b)] [iT d] K:=by
 subst hn;have h:=Sort.insertionSort_holds Sort.swo_ltInt d a b hab hb;exact aQC d a b hab hb hsz (hK _ h.1 h.2)
theorem aEB(hab:a<b)(hb:b<=n)(hK:∀e,Sort.PermIn a b d e->Sort.SortedIn Sort.ltInt a b e->K (.tup []) [iT e]):
  AC 326 [.os 0 1 0 n,.v (.int .i64 a),.v (.int .i64 b)] [iT d] K:=by
 subst hn;have h:=Sort.heapSort_holds Sort.swo_ltInt d a b zo hb;exact aKL d a b hab hb hsz (hK _ h.1 h.2)
theorem Np(hab:a<b)(hb:b<=n)(hK:∀e,Sort.PermIn a b d e->K (.tup []) [iT e]):
  AC 327 [.os 0 1 0 n,.v (.int .i64 a),.v (.int .i64 b)] [iT d] K:=by
 subst hn;exact aQB d a b hab hb hsz hK
theorem Nw(hab:a<b)(hb:b<=n)(hK:∀e,Sort.PermIn a b d e->K (.tup []) [iT e]):
  AC 329 [.os 0 1 0 n,.v (.int .i64 a),.v (.int .i64 b)] [iT d] K:=by
 subst hn;exact aQH d a b hab hb hsz (hK _ (Sort.reverseRange_holds d a b zo hb))
theorem Nv(hab:a<b)(hb:b<=n)(hK:∀(p:Nat) (h:Int),a<=p->p<b->K (.tup [.v (.int .i64 p),.v (.int .i64 h)]) [iT d]):
  AC 328 [.os 0 1 0 n,.v (.int .i64 a),.v (.int .i64 b)] [iT d] K:=by
 subst hn;exact aQG d a b hab hb hsz hK
theorem Hl(hab:a<b)(hb:b<=n)(hB:Sort.Below Sort.ltInt a b d)(hK:∀e (r:Bool),Sort.PermIn a b d e->(r=true->Sort.SortedIn Sort.ltInt a b e)->K (.sb r) [iT e]):
  AC 330 [.os 0 1 0 n,.v (.int .i64 a),.v (.int .i64 b)] [iT d] K:=by
 subst hn;have h:=Sort.partialInsertionSort_holds Sort.swo_ltInt d a b hab hb hB;exact aKS d a b hab hb hsz (hK _ _ h.1 h.2)
theorem Nu(p:Nat)(hap:a<=p)(hpb:p<b)(hb:b<=n)(ha0:0<a)(hB:Sort.Below Sort.ltInt a b d)(hnl:Sort.ltInt d[a-1]! d[p]! =false)
  (hK:∀e (mid:Nat),a<mid->mid<=b->e.size=n->Sort.Below Sort.ltInt mid b e->(∀R,Sort.PermIn mid b e R->Sort.SortedIn Sort.ltInt mid b R->Sort.PermIn a b d R/\Sort.SortedIn Sort.ltInt a b R)->K (.v (.int .i64 mid)) [iT e]):
  AC 332 [.os 0 1 0 n,.v (.int .i64 a),.v (.int .i64 b),.v (.int .i64 p)] [iT d] K:=by
 subst hn;obtain⟨h1,h2,h3,h4,h5⟩:=Sort.round_eq Sort.swo_ltInt (Sort.partitionEqual_holds Sort.ltInt) ha0 hap hpb hb hB hnl rfl;exact aQF d a b p hap hpb hb hsz (hK _ _ h1 h2 h3 h4 h5)
theorem sZ(p:Nat)(hap:a<=p)(hpb:p<b)(hb:b<=n)(hB:Sort.Below Sort.ltInt a b d)
  (hK:∀e (mid:Nat) (r:Bool),a<=mid->mid<b->e.size=n->Sort.Below Sort.ltInt a mid e->Sort.Below Sort.ltInt (mid+1) b e->
   (∀L,Sort.PermIn a mid e L->Sort.SortedIn Sort.ltInt a mid L->Sort.Below Sort.ltInt (mid+1) b L/\∀R,Sort.PermIn (mid+1) b L R->Sort.SortedIn Sort.ltInt (mid+1) b R->Sort.PermIn a b d R/\Sort.SortedIn Sort.ltInt a b R)->
   (∀L,Sort.PermIn (mid+1) b e L->Sort.SortedIn Sort.ltInt (mid+1) b L->Sort.Below Sort.ltInt a mid L/\∀R,Sort.PermIn a mid L R->Sort.SortedIn Sort.ltInt a mid R->Sort.PermIn a b d R/\Sort.SortedIn Sort.ltInt a b R)->
   K (.tup [.v (.int .i64 mid),.sb r]) [iT e]):
  AC 333 [.os 0 1 0 n,.v (.int .i64 a),.v (.int .i64 b),.v (.int .i64 p)] [iT d] K:=by
 subst hn;obtain⟨h1,h2,h3,h4,h5,h6,h7⟩:=Sort.round_part Sort.swo_ltInt (Sort.partition_holds Sort.ltInt) hap hpb hb hB rfl;exact aKP d a b p hap hpb hb hsz (hK _ _ _ h1 h2 h3 h4 h5 h6 h7)
end
theorem aQE:∀(N n:Nat) (d:Array Int) (a b limit:Nat) {K:KT},b-a<N->d.size=n->a<=b->b<=n->n<1000000000000->limit<1000->Sort.Below Sort.ltInt a b d->(∀e,Sort.PermIn a b d e->Sort.SortedIn Sort.ltInt a b e->K (.tup []) [iT e])->
  AC 321 [.os 0 1 0 n,.v (.int .i64 a),.v (.int .i64 b),.v (.int .i64 limit)] [iT d] K:=by
 intro N
 induction N with
 |zero=>intro n d a b limit K h;omega
 |succ N ih=>
  intro n d a b limit K hN hn hab hb hsz hlim hBel hK;refine aOR rfl rfl ?_;(repeat' ((conv=>whnf);first|refine zG ?_|apply zA|intro h|exact zT));all_goals conv=>whnf
  refine gM (Nat×Nat×Nat×AV×AV×Array Int) (fun g=>⟨1,[(0,iT g.2.2.2.2.2)],[(0,.os 0 1 0 n),(1,.v (.int .i64 g.1)),(2,.v (.int .i64 g.2.1)),(3,.v (.int .i64 g.2.2.1)),(8,g.2.2.2.1),(9,g.2.2.2.2.1)]⟩)
   (fun g=>a<=g.1/\g.1<=g.2.1/\g.2.1<=b/\g.2.2.1<=limit/\(g.2.2.2.1=.v (.bool true)\/∃c,g.2.2.2.1=.sb c)/\(g.2.2.2.2.1=.v (.bool true)\/∃c,g.2.2.2.2.1=.sb c)/\g.2.2.2.2.2.size=n/\Sort.Below Sort.ltInt g.1 g.2.1 g.2.2.2.2.2/\
    ∀R,Sort.PermIn g.1 g.2.1 g.2.2.2.2.2 R->Sort.SortedIn Sort.ltInt g.1 g.2.1 R->Sort.PermIn a b d R/\Sort.SortedIn Sort.ltInt a b R)
   (fun g=>g.2.1-g.1) (a,b,limit,.v (.bool true),.v (.bool true),d) ⟨aK _,hab,aK _,aK _,.inl rfl,.inl rfl,hn,hBel,fun R h1 h2=>⟨h1,h2⟩⟩ ?_ ?_
  ·exact leA
  rintro⟨a1,b1,l1,vb,vp,e⟩ ⟨ha1,hab1,hb1,hl1,hvb,hvp,hes,hB,hfin⟩
  simp only at ha1 hab1 hb1 hl1 hvb hvp hes hB hfin⊢;have hd1:((b1:Int)-a1<=12)=(b1-a1<=12):=by apply propext;omega
  rcases aC 12 (b1-a1)with h12|h12
  ·rcases cK l1 with h0|h0
   ·subst h0;(repeat' ((conv=>whnf);first|(with_reducible refine aEB hes a1 b1 hsz zo zo fun r h1 h2=>?_)|refine zG ?_|apply zA|intro h|exact zT));all_goals conv=>whnf
    exact hK r (hfin r h1 h2).1 (hfin r h1 h2).2
   ·rcases hvb with rfl|⟨c,rfl⟩<;>rcases hvp with rfl|⟨c',rfl⟩
    ·have hl1:(l1:Int)-1=((l1-1:Nat):Int):=by omega
     (repeat' ((conv=>whnf);first|refine zG ?_|apply zA|intro h|exact zT));all_goals conv=>whnf
     refine gY (Nat×Array Int) (fun g=>⟨1,[(0,iT g.2)],[(0,.os 0 1 0 n),(1,.v (.int .i64 a1)),(2,.v (.int .i64 b1)),(3,.v (.int .i64 g.1)),(8,.v (.bool true)),(9,.v (.bool true)),(10,.v (.int .i64 ((b1:Int)-a1)))]⟩) (fun g=>g.1<=limit/\Sort.PermIn a1 b1 e g.2) ?_ ?_
     ·(repeat' ((conv=>whnf);first|(with_reducible refine Np hes a1 b1 hsz zo zo fun e1 he1=>?_)|refine zG ?_|apply zA|intro h|exact zT));all_goals conv=>whnf
      all_goals first
       |(refine⟨(l1-1,e1),⟨by dsimp only;omega,he1⟩,?_⟩
         dsimp only;rw[<-hl1];(exact leA))
       |(refine⟨(l1,e),⟨by assumption,Sort.permIn_refl _ _ _⟩,?_⟩
         (exact leA))
     rintro⟨l2,e1⟩ ⟨hl2,he1⟩
     simp only at hl2 he1⊢;have he1s:e1.size=n:=he1.1.trans hes;(repeat' ((conv=>whnf);first|(with_reducible refine Nv he1s a1 b1 hsz zo zo fun p hh hp1 hp2=>?_)|refine zG ?_|apply zA|intro h|exact zT));all_goals conv=>whnf
     refine gY (Nat×Int×Array Int) (fun g=>⟨1,[(0,iT g.2.2)],[(0,.os 0 1 0 n),(1,.v (.int .i64 a1)),(2,.v (.int .i64 b1)),(3,.v (.int .i64 l2)),(8,.v (.bool true)),(9,.v (.bool true)),(10,.v (.int .i64 ((b1:Int)-a1))),(11,.v (.int .i64 g.1)),(12,.v (.int .i64 g.2.1))]⟩) (fun g=>a1<=g.1/\g.1<b1/\Sort.PermIn a1 b1 e g.2.2) ?_ ?_
     ·(repeat' ((conv=>whnf);first|(with_reducible refine Nw he1s a1 b1 hsz zo zo fun e2 he2=>?_)|refine zG ?_|apply zA|intro h|exact zT));all_goals conv=>whnf
      all_goals first
       |(refine⟨((b1-1)-(p-a1),1,e2),⟨by dsimp only;omega,by dsimp only;omega,Sort.permIn_trans _ _ _ _ _ he1 he2⟩,?_⟩
         dsimp only;rw[show(((b1-1)-(p-a1):Nat):Int)=(b1:Int)-1-((p:Int)-a1) by omega];(exact leA))
       |(refine⟨(p,hh,e1),⟨hp1,hp2,he1⟩,?_⟩
         (exact leA))
     rintro⟨p2,h2,e2⟩ ⟨hp21,hp22,he2⟩
     simp only at hp21 hp22 he2⊢;clear he1s he1 e1 hp1 hp2 p hh;have he2s:e2.size=n:=he2.1.trans hes;have hB2:=hB.perm zo he2;refine gY (Array Int) (fun g=>⟨1,[(0,iT g)],[(0,.os 0 1 0 n),(1,.v (.int .i64 a1)),(2,.v (.int .i64 b1)),(3,.v (.int .i64 l2)),(8,.v (.bool true)),(9,.v (.bool true)),(10,.v (.int .i64 ((b1:Int)-a1))),(11,.v (.int .i64 p2))]⟩) (fun g=>Sort.PermIn a1 b1 e g) ?_ ?_
     ·have stay:∃g:Array Int,Sort.PermIn a1 b1 e g/\g=e2:=⟨e2,he2,rfl⟩
      have pins:∀{K:KT},(∀e (r:Bool),Sort.PermIn a1 b1 e2 e->(r=true->Sort.SortedIn Sort.ltInt a1 b1 e)->K (.sb r) [iT e])->AC 330 [.os 0 1 0 n,.v (.int .i64 a1),.v (.int .i64 b1)] [iT e2] K:=fun h=>Hl he2s a1 b1 hsz zo zo hB2 h;(repeat' ((conv=>whnf);first|(with_reducible refine pins fun e3 r he3 hr=>?_)|refine zG ?_|apply zA|intro h|exact zT));all_goals conv=>whnf
      all_goals first
       |exact hK e3 (hfin e3 (Sort.permIn_trans _ _ _ _ _ he2 he3) (hr zp)).1 (hfin e3 (Sort.permIn_trans _ _ _ _ _ he2 he3) (hr zp)).2
       |(refine⟨e3,Sort.permIn_trans _ _ _ _ _ he2 he3,?_⟩
         (exact leA))
       |(refine⟨e2,he2,?_⟩
         (exact leA))
     intro e3 he3;have he3s:e3.size=n:=he3.1.trans hes;have hB3:=hB.perm zo he3;have hw8:∀{K:Int->Prop},K (((b1-a1)/8:Nat):Int)->Wr .i64 (((b1:Int)-a1).tdiv 8) K:=fun h=>jB (by rw[bX zo];omega) zo zo h;have n2:p2<n:=by omega
     have n2':p2<e3.size:=by omega
     have part:∀{Q:Prop},Q->Q:=fun h=>h;rcases cK a1 with ha0|ha0
     ·(repeat' ((conv=>whnf);first|refine zG ?_|apply zA|intro h|exact zT));all_goals conv=>whnf
      refine sZ he3s a1 b1 hsz p2 hp21 hp22 zo hB3 fun e4 mid r k1 k2 k3 k4 k5 k6 k7=>?_;have hr1:∀{K:KT},(∀L,Sort.PermIn a1 mid e4 L->Sort.SortedIn Sort.ltInt a1 mid L->K (.tup []) [iT L])->AC 321 [.os 0 1 0 n,.v (.int .i64 a1),.v (.int .i64 mid),.v (.int .i64 l2)] [iT e4] K:=fun h=>ih n e4 a1 mid l2 zo k3 k1 zo hsz zo k4 h;have hr2:∀{K:KT},(∀L,Sort.PermIn (mid+1) b1 e4 L->Sort.SortedIn Sort.ltInt (mid+1) b1 L->K (.tup []) [iT L])->AC 321 [.os 0 1 0 n,.v (.int .i64 ((mid:Int)+1)),.v (.int .i64 b1),.v (.int .i64 l2)] [iT e4] K:=fun h=>by
       rw[show(mid:Int)+1=((mid+1:Nat):Int) by omega];exact ih n e4 (mid+1) b1 l2 zo k3 zo zo hsz zo k5 h
      (repeat' ((conv=>whnf);first|(with_reducible first|refine hw8 ?_|refine hr1 fun L hL hs=>?_|refine hr2 fun L hL hs=>?_)|refine zG ?_|apply zA|intro h|exact zT));all_goals conv=>whnf
      ·obtain⟨m1,m2⟩:=k6 L hL hs;refine⟨(mid+1,b1,l2,.sb (decide ((((b1-a1)/8:Nat):Int)<=(mid:Int)-a1)),.sb r,L),⟨by dsimp only;omega,by dsimp only;omega,by dsimp only;omega,by dsimp only;assumption,.inr ⟨_,rfl⟩,.inr ⟨_,rfl⟩,hL.1.trans k3,m1,fun R q1 q2=>?_⟩,by dsimp only;omega,?_⟩
       ·obtain⟨q3,q4⟩:=m2 R q1 q2;exact hfin R (Sort.permIn_trans _ _ _ _ _ he3 q3) q4
       ·dsimp only;rw[show((mid+1:Nat):Int)=(mid:Int)+1 by omega];exact leA
      ·obtain⟨m1,m2⟩:=k7 L hL hs;refine⟨(a1,mid,l2,.sb (decide ((((b1-a1)/8:Nat):Int)<=(b1:Int)-mid)),.sb r,L),⟨by dsimp only;omega,by dsimp only;omega,by dsimp only;omega,by dsimp only;assumption,.inr ⟨_,rfl⟩,.inr ⟨_,rfl⟩,hL.1.trans k3,m1,fun R q1 q2=>?_⟩,by dsimp only;omega,?_⟩
       ·obtain⟨q3,q4⟩:=m2 R q1 q2;exact hfin R (Sort.permIn_trans _ _ _ _ _ he3 q3) q4
       ·exact leA
     ·have n1':a1-1<e3.size:=by omega
      (repeat' ((conv=>whnf);first|(with_reducible refine nL _ _ ?_)|(refine gU (a1-1) zo zo ?_)|(with_reducible first|refine iA n2 ?_|refine kQ n1' ?_|refine kQ n2' ?_)|refine zG ?_|apply zA|intro h|exact zT));all_goals conv=>whnf
      ·refine sZ he3s a1 b1 hsz p2 hp21 hp22 zo hB3 fun e4 mid r k1 k2 k3 k4 k5 k6 k7=>?_;have hr1:∀{K:KT},(∀L,Sort.PermIn a1 mid e4 L->Sort.SortedIn Sort.ltInt a1 mid L->K (.tup []) [iT L])->AC 321 [.os 0 1 0 n,.v (.int .i64 a1),.v (.int .i64 mid),.v (.int .i64 l2)] [iT e4] K:=fun h=>ih n e4 a1 mid l2 zo k3 k1 zo hsz zo k4 h;have hr2:∀{K:KT},(∀L,Sort.PermIn (mid+1) b1 e4 L->Sort.SortedIn Sort.ltInt (mid+1) b1 L->K (.tup []) [iT L])->AC 321 [.os 0 1 0 n,.v (.int .i64 ((mid:Int)+1)),.v (.int .i64 b1),.v (.int .i64 l2)] [iT e4] K:=fun h=>by
        rw[show(mid:Int)+1=((mid+1:Nat):Int) by omega];exact ih n e4 (mid+1) b1 l2 zo k3 zo zo hsz zo k5 h
       (repeat' ((conv=>whnf);first|(with_reducible first|refine hw8 ?_|refine hr1 fun L hL hs=>?_|refine hr2 fun L hL hs=>?_)|refine zG ?_|apply zA|intro h|exact zT));all_goals conv=>whnf
       ·obtain⟨m1,m2⟩:=k6 L hL hs;refine⟨(mid+1,b1,l2,.sb (decide ((((b1-a1)/8:Nat):Int)<=(mid:Int)-a1)),.sb r,L),⟨by dsimp only;omega,by dsimp only;omega,by dsimp only;omega,by dsimp only;assumption,.inr ⟨_,rfl⟩,.inr ⟨_,rfl⟩,hL.1.trans k3,m1,fun R q1 q2=>?_⟩,by dsimp only;omega,?_⟩
        ·obtain⟨q3,q4⟩:=m2 R q1 q2;exact hfin R (Sort.permIn_trans _ _ _ _ _ he3 q3) q4
        ·dsimp only;rw[show((mid+1:Nat):Int)=(mid:Int)+1 by omega];exact leA
       ·obtain⟨m1,m2⟩:=k7 L hL hs;refine⟨(a1,mid,l2,.sb (decide ((((b1-a1)/8:Nat):Int)<=(b1:Int)-mid)),.sb r,L),⟨by dsimp only;omega,by dsimp only;omega,by dsimp only;omega,by dsimp only;assumption,.inr ⟨_,rfl⟩,.inr ⟨_,rfl⟩,hL.1.trans k3,m1,fun R q1 q2=>?_⟩,by dsimp only;omega,?_⟩
        ·obtain⟨q3,q4⟩:=m2 R q1 q2;exact hfin R (Sort.permIn_trans _ _ _ _ _ he3 q3) q4
        ·exact leA
      ·refine Nu he3s a1 b1 hsz p2 hp21 hp22 zo ha0 hB3 zp fun e4 mid k1 k2 k3 k4 k5=>?_;(repeat' ((conv=>whnf);first|refine zG ?_|apply zA|intro h|exact zT));all_goals conv=>whnf
       refine⟨(mid,b1,l2,.v (.bool true),.v (.bool true),e4),⟨by dsimp only;omega,by dsimp only;omega,by dsimp only;omega,by dsimp only;assumption,.inl rfl,.inl rfl,k3,k4,fun R q1 q2=>?_⟩,by dsimp only;omega,?_⟩
       ·obtain⟨q3,q4⟩:=k5 R q1 q2;exact hfin R (Sort.permIn_trans _ _ _ _ _ he3 q3) q4
       ·exact leA
    ·have hl1:(l1:Int)-1=((l1-1:Nat):Int):=by omega
     (repeat' ((conv=>whnf);first|refine zG ?_|apply zA|intro h|exact zT));all_goals conv=>whnf
     refine gY (Nat×Array Int) (fun g=>⟨1,[(0,iT g.2)],[(0,.os 0 1 0 n),(1,.v (.int .i64 a1)),(2,.v (.int .i64 b1)),(3,.v (.int .i64 g.1)),(8,.v (.bool true)),(9,.sb c'),(10,.v (.int .i64 ((b1:Int)-a1)))]⟩) (fun g=>g.1<=limit/\Sort.PermIn a1 b1 e g.2) ?_ ?_
     ·(repeat' ((conv=>whnf);first|(with_reducible refine Np hes a1 b1 hsz zo zo fun e1 he1=>?_)|refine zG ?_|apply zA|intro h|exact zT));all_goals conv=>whnf
      all_goals first
       |(refine⟨(l1-1,e1),⟨by dsimp only;omega,he1⟩,?_⟩
         dsimp only;rw[<-hl1];(exact leA))
       |(refine⟨(l1,e),⟨by assumption,Sort.permIn_refl _ _ _⟩,?_⟩
         (exact leA))
     rintro⟨l2,e1⟩ ⟨hl2,he1⟩
     simp only at hl2 he1⊢;have he1s:e1.size=n:=he1.1.trans hes;(repeat' ((conv=>whnf);first|(with_reducible refine Nv he1s a1 b1 hsz zo zo fun p hh hp1 hp2=>?_)|refine zG ?_|apply zA|intro h|exact zT));all_goals conv=>whnf
     refine gY (Nat×Int×Array Int) (fun g=>⟨1,[(0,iT g.2.2)],[(0,.os 0 1 0 n),(1,.v (.int .i64 a1)),(2,.v (.int .i64 b1)),(3,.v (.int .i64 l2)),(8,.v (.bool true)),(9,.sb c'),(10,.v (.int .i64 ((b1:Int)-a1))),(11,.v (.int .i64 g.1)),(12,.v (.int .i64 g.2.1))]⟩) (fun g=>a1<=g.1/\g.1<b1/\Sort.PermIn a1 b1 e g.2.2) ?_ ?_
     ·(repeat' ((conv=>whnf);first|(with_reducible refine Nw he1s a1 b1 hsz zo zo fun e2 he2=>?_)|refine zG ?_|apply zA|intro h|exact zT));all_goals conv=>whnf
      all_goals first
       |(refine⟨((b1-1)-(p-a1),1,e2),⟨by dsimp only;omega,by dsimp only;omega,Sort.permIn_trans _ _ _ _ _ he1 he2⟩,?_⟩
         dsimp only;rw[show(((b1-1)-(p-a1):Nat):Int)=(b1:Int)-1-((p:Int)-a1) by omega];(exact leA))
       |(refine⟨(p,hh,e1),⟨hp1,hp2,he1⟩,?_⟩
         (exact leA))
     rintro⟨p2,h2,e2⟩ ⟨hp21,hp22,he2⟩
     simp only at hp21 hp22 he2⊢;clear he1s he1 e1 hp1 hp2 p hh;have he2s:e2.size=n:=he2.1.trans hes;have hB2:=hB.perm zo he2;refine gY (Array Int) (fun g=>⟨1,[(0,iT g)],[(0,.os 0 1 0 n),(1,.v (.int .i64 a1)),(2,.v (.int .i64 b1)),(3,.v (.int .i64 l2)),(8,.v (.bool true)),(9,.sb c'),(10,.v (.int .i64 ((b1:Int)-a1))),(11,.v (.int .i64 p2))]⟩) (fun g=>Sort.PermIn a1 b1 e g) ?_ ?_
     ·have stay:∃g:Array Int,Sort.PermIn a1 b1 e g/\g=e2:=⟨e2,he2,rfl⟩
      have pins:∀{K:KT},(∀e (r:Bool),Sort.PermIn a1 b1 e2 e->(r=true->Sort.SortedIn Sort.ltInt a1 b1 e)->K (.sb r) [iT e])->AC 330 [.os 0 1 0 n,.v (.int .i64 a1),.v (.int .i64 b1)] [iT e2] K:=fun h=>Hl he2s a1 b1 hsz zo zo hB2 h;(repeat' ((conv=>whnf);first|(with_reducible refine pins fun e3 r he3 hr=>?_)|refine zG ?_|apply zA|intro h|exact zT));all_goals conv=>whnf
      all_goals first
       |exact hK e3 (hfin e3 (Sort.permIn_trans _ _ _ _ _ he2 he3) (hr zp)).1 (hfin e3 (Sort.permIn_trans _ _ _ _ _ he2 he3) (hr zp)).2
       |(refine⟨e3,Sort.permIn_trans _ _ _ _ _ he2 he3,?_⟩
         (exact leA))
       |(refine⟨e2,he2,?_⟩
         (exact leA))
     intro e3 he3;have he3s:e3.size=n:=he3.1.trans hes;have hB3:=hB.perm zo he3;have hw8:∀{K:Int->Prop},K (((b1-a1)/8:Nat):Int)->Wr .i64 (((b1:Int)-a1).tdiv 8) K:=fun h=>jB (by rw[bX zo];omega) zo zo h;have n2:p2<n:=by omega
     have n2':p2<e3.size:=by omega
     have part:∀{Q:Prop},Q->Q:=fun h=>h;rcases cK a1 with ha0|ha0
     ·(repeat' ((conv=>whnf);first|refine zG ?_|apply zA|intro h|exact zT));all_goals conv=>whnf
      refine sZ he3s a1 b1 hsz p2 hp21 hp22 zo hB3 fun e4 mid r k1 k2 k3 k4 k5 k6 k7=>?_;have hr1:∀{K:KT},(∀L,Sort.PermIn a1 mid e4 L->Sort.SortedIn Sort.ltInt a1 mid L->K (.tup []) [iT L])->AC 321 [.os 0 1 0 n,.v (.int .i64 a1),.v (.int .i64 mid),.v (.int .i64 l2)] [iT e4] K:=fun h=>ih n e4 a1 mid l2 zo k3 k1 zo hsz zo k4 h;have hr2:∀{K:KT},(∀L,Sort.PermIn (mid+1) b1 e4 L->Sort.SortedIn Sort.ltInt (mid+1) b1 L->K (.tup []) [iT L])->AC 321 [.os 0 1 0 n,.v (.int .i64 ((mid:Int)+1)),.v (.int .i64 b1),.v (.int .i64 l2)] [iT e4] K:=fun h=>by
       rw[show(mid:Int)+1=((mid+1:Nat):Int) by omega];exact ih n e4 (mid+1) b1 l2 zo k3 zo zo hsz zo k5 h
      (repeat' ((conv=>whnf);first|(with_reducible first|refine hw8 ?_|refine hr1 fun L hL hs=>?_|refine hr2 fun L hL hs=>?_)|refine zG ?_|apply zA|intro h|exact zT));all_goals conv=>whnf
      ·obtain⟨m1,m2⟩:=k6 L hL hs;refine⟨(mid+1,b1,l2,.sb (decide ((((b1-a1)/8:Nat):Int)<=(mid:Int)-a1)),.sb r,L),⟨by dsimp only;omega,by dsimp only;omega,by dsimp only;omega,by dsimp only;assumption,.inr ⟨_,rfl⟩,.inr ⟨_,rfl⟩,hL.1.trans k3,m1,fun R q1 q2=>?_⟩,by dsimp only;omega,?_⟩
       ·obtain⟨q3,q4⟩:=m2 R q1 q2;exact hfin R (Sort.permIn_trans _ _ _ _ _ he3 q3) q4
       ·dsimp only;rw[show((mid+1:Nat):Int)=(mid:Int)+1 by omega];exact leA
      ·obtain⟨m1,m2⟩:=k7 L hL hs;refine⟨(a1,mid,l2,.sb (decide ((((b1-a1)/8:Nat):Int)<=(b1:Int)-mid)),.sb r,L),⟨by dsimp only;omega,by dsimp only;omega,by dsimp only;omega,by dsimp only;assumption,.inr ⟨_,rfl⟩,.inr ⟨_,rfl⟩,hL.1.trans k3,m1,fun R q1 q2=>?_⟩,by dsimp only;omega,?_⟩
       ·obtain⟨q3,q4⟩:=m2 R q1 q2;exact hfin R (Sort.permIn_trans _ _ _ _ _ he3 q3) q4
       ·exact leA
     ·have n1':a1-1<e3.size:=by omega
      (repeat' ((conv=>whnf);first|(with_reducible refine nL _ _ ?_)|(refine gU (a1-1) zo zo ?_)|(with_reducible first|refine iA n2 ?_|refine kQ n1' ?_|refine kQ n2' ?_)|refine zG ?_|apply zA|intro h|exact zT));all_goals conv=>whnf
      ·refine sZ he3s a1 b1 hsz p2 hp21 hp22 zo hB3 fun e4 mid r k1 k2 k3 k4 k5 k6 k7=>?_;have hr1:∀{K:KT},(∀L,Sort.PermIn a1 mid e4 L->Sort.SortedIn Sort.ltInt a1 mid L->K (.tup []) [iT L])->AC 321 [.os 0 1 0 n,.v (.int .i64 a1),.v (.int .i64 mid),.v (.int .i64 l2)] [iT e4] K:=fun h=>ih n e4 a1 mid l2 zo k3 k1 zo hsz zo k4 h;have hr2:∀{K:KT},(∀L,Sort.PermIn (mid+1) b1 e4 L->Sort.SortedIn Sort.ltInt (mid+1) b1 L->K (.tup []) [iT L])->AC 321 [.os 0 1 0 n,.v (.int .i64 ((mid:Int)+1)),.v (.int .i64 b1),.v (.int .i64 l2)] [iT e4] K:=fun h=>by
        rw[show(mid:Int)+1=((mid+1:Nat):Int) by omega];exact ih n e4 (mid+1) b1 l2 zo k3 zo zo hsz zo k5 h
       (repeat' ((conv=>whnf);first|(with_reducible first|refine hw8 ?_|refine hr1 fun L hL hs=>?_|refine hr2 fun L hL hs=>?_)|refine zG ?_|apply zA|intro h|exact zT));all_goals conv=>whnf
       ·obtain⟨m1,m2⟩:=k6 L hL hs;refine⟨(mid+1,b1,l2,.sb (decide ((((b1-a1)/8:Nat):Int)<=(mid:Int)-a1)),.sb r,L),⟨by dsimp only;omega,by dsimp only;omega,by dsimp only;omega,by dsimp only;assumption,.inr ⟨_,rfl⟩,.inr ⟨_,rfl⟩,hL.1.trans k3,m1,fun R q1 q2=>?_⟩,by dsimp only;omega,?_⟩
        ·obtain⟨q3,q4⟩:=m2 R q1 q2;exact hfin R (Sort.permIn_trans _ _ _ _ _ he3 q3) q4
        ·dsimp only;rw[show((mid+1:Nat):Int)=(mid:Int)+1 by omega];exact leA
       ·obtain⟨m1,m2⟩:=k7 L hL hs;refine⟨(a1,mid,l2,.sb (decide ((((b1-a1)/8:Nat):Int)<=(b1:Int)-mid)),.sb r,L),⟨by dsimp only;omega,by dsimp only;omega,by dsimp only;omega,by dsimp only;assumption,.inr ⟨_,rfl⟩,.inr ⟨_,rfl⟩,hL.1.trans k3,m1,fun R q1 q2=>?_⟩,by dsimp only;omega,?_⟩
        ·obtain⟨q3,q4⟩:=m2 R q1 q2;exact hfin R (Sort.permIn_trans _ _ _ _ _ he3 q3) q4
        ·exact leA
      ·refine Nu he3s a1 b1 hsz p2 hp21 hp22 zo ha0 hB3 zp fun e4 mid k1 k2 k3 k4 k5=>?_;(repeat' ((conv=>whnf);first|refine zG ?_|apply zA|intro h|exact zT));all_goals conv=>whnf
       refine⟨(mid,b1,l2,.v (.bool true),.sb c',e4),⟨by dsimp only;omega,by dsimp only;omega,by dsimp only;omega,by dsimp only;assumption,.inl rfl,.inr ⟨_,rfl⟩,k3,k4,fun R q1 q2=>?_⟩,by dsimp only;omega,?_⟩
       ·obtain⟨q3,q4⟩:=k5 R q1 q2;exact hfin R (Sort.permIn_trans _ _ _ _ _ he3 q3) q4
       ·exact leA
    ·have hl1:(l1:Int)-1=((l1-1:Nat):Int):=by omega
     (repeat' ((conv=>whnf);first|refine zG ?_|apply zA|intro h|exact zT));all_goals conv=>whnf
     refine gY (Nat×Array Int) (fun g=>⟨1,[(0,iT g.2)],[(0,.os 0 1 0 n),(1,.v (.int .i64 a1)),(2,.v (.int .i64 b1)),(3,.v (.int .i64 g.1)),(8,.sb c),(9,.v (.bool true)),(10,.v (.int .i64 ((b1:Int)-a1)))]⟩) (fun g=>g.1<=limit/\Sort.PermIn a1 b1 e g.2) ?_ ?_
     ·(repeat' ((conv=>whnf);first|(with_reducible refine Np hes a1 b1 hsz zo zo fun e1 he1=>?_)|refine zG ?_|apply zA|intro h|exact zT));all_goals conv=>whnf
      all_goals first
       |(refine⟨(l1-1,e1),⟨by dsimp only;omega,he1⟩,?_⟩
         dsimp only;rw[<-hl1];(exact leA))
       |(refine⟨(l1,e),⟨by assumption,Sort.permIn_refl _ _ _⟩,?_⟩
         (exact leA))
     rintro⟨l2,e1⟩ ⟨hl2,he1⟩
     simp only at hl2 he1⊢;have he1s:e1.size=n:=he1.1.trans hes;(repeat' ((conv=>whnf);first|(with_reducible refine Nv he1s a1 b1 hsz zo zo fun p hh hp1 hp2=>?_)|refine zG ?_|apply zA|intro h|exact zT));all_goals conv=>whnf
     refine gY (Nat×Int×Array Int) (fun g=>⟨1,[(0,iT g.2.2)],[(0,.os 0 1 0 n),(1,.v (.int .i64 a1)),(2,.v (.int .i64 b1)),(3,.v (.int .i64 l2)),(8,.sb c),(9,.v (.bool true)),(10,.v (.int .i64 ((b1:Int)-a1))),(11,.v (.int .i64 g.1)),(12,.v (.int .i64 g.2.1))]⟩) (fun g=>a1<=g.1/\g.1<b1/\Sort.PermIn a1 b1 e g.2.2) ?_ ?_
     ·(repeat' ((conv=>whnf);first|(with_reducible refine Nw he1s a1 b1 hsz zo zo fun e2 he2=>?_)|refine zG ?_|apply zA|intro h|exact zT));all_goals conv=>whnf
      all_goals first
       |(refine⟨((b1-1)-(p-a1),1,e2),⟨by dsimp only;omega,by dsimp only;omega,Sort.permIn_trans _ _ _ _ _ he1 he2⟩,?_⟩
         dsimp only;rw[show(((b1-1)-(p-a1):Nat):Int)=(b1:Int)-1-((p:Int)-a1) by omega];(exact leA))
       |(refine⟨(p,hh,e1),⟨hp1,hp2,he1⟩,?_⟩
         (exact leA))
     rintro⟨p2,h2,e2⟩ ⟨hp21,hp22,he2⟩
     simp only at hp21 hp22 he2⊢;clear he1s he1 e1 hp1 hp2 p hh;have he2s:e2.size=n:=he2.1.trans hes;have hB2:=hB.perm zo he2;refine gY (Array Int) (fun g=>⟨1,[(0,iT g)],[(0,.os 0 1 0 n),(1,.v (.int .i64 a1)),(2,.v (.int .i64 b1)),(3,.v (.int .i64 l2)),(8,.sb c),(9,.v (.bool true)),(10,.v (.int .i64 ((b1:Int)-a1))),(11,.v (.int .i64 p2))]⟩) (fun g=>Sort.PermIn a1 b1 e g) ?_ ?_
     ·have stay:∃g:Array Int,Sort.PermIn a1 b1 e g/\g=e2:=⟨e2,he2,rfl⟩
      have pins:∀{K:KT},(∀e (r:Bool),Sort.PermIn a1 b1 e2 e->(r=true->Sort.SortedIn Sort.ltInt a1 b1 e)->K (.sb r) [iT e])->AC 330 [.os 0 1 0 n,.v (.int .i64 a1),.v (.int .i64 b1)] [iT e2] K:=fun h=>Hl he2s a1 b1 hsz zo zo hB2 h;(repeat' ((conv=>whnf);first|(with_reducible refine pins fun e3 r he3 hr=>?_)|refine zG ?_|apply zA|intro h|exact zT));all_goals conv=>whnf
      all_goals first
       |exact hK e3 (hfin e3 (Sort.permIn_trans _ _ _ _ _ he2 he3) (hr zp)).1 (hfin e3 (Sort.permIn_trans _ _ _ _ _ he2 he3) (hr zp)).2
       |(refine⟨e3,Sort.permIn_trans _ _ _ _ _ he2 he3,?_⟩
         (exact leA))
       |(refine⟨e2,he2,?_⟩
         (exact leA))
     intro e3 he3;have he3s:e3.size=n:=he3.1.trans hes;have hB3:=hB.perm zo he3;have hw8:∀{K:Int->Prop},K (((b1-a1)/8:Nat):Int)->Wr .i64 (((b1:Int)-a1).tdiv 8) K:=fun h=>jB (by rw[bX zo];omega) zo zo h;have n2:p2<n:=by omega
     have n2':p2<e3.size:=by omega
     have part:∀{Q:Prop},Q->Q:=fun h=>h;rcases cK a1 with ha0|ha0
     ·(repeat' ((conv=>whnf);first|refine zG ?_|apply zA|intro h|exact zT));all_goals conv=>whnf
      refine sZ he3s a1 b1 hsz p2 hp21 hp22 zo hB3 fun e4 mid r k1 k2 k3 k4 k5 k6 k7=>?_;have hr1:∀{K:KT},(∀L,Sort.PermIn a1 mid e4 L->Sort.SortedIn Sort.ltInt a1 mid L->K (.tup []) [iT L])->AC 321 [.os 0 1 0 n,.v (.int .i64 a1),.v (.int .i64 mid),.v (.int .i64 l2)] [iT e4] K:=fun h=>ih n e4 a1 mid l2 zo k3 k1 zo hsz zo k4 h;have hr2:∀{K:KT},(∀L,Sort.PermIn (mid+1) b1 e4 L->Sort.SortedIn Sort.ltInt (mid+1) b1 L->K (.tup []) [iT L])->AC 321 [.os 0 1 0 n,.v (.int .i64 ((mid:Int)+1)),.v (.int .i64 b1),.v (.int .i64 l2)] [iT e4] K:=fun h=>by
       rw[show(mid:Int)+1=((mid+1:Nat):Int) by omega];exact ih n e4 (mid+1) b1 l2 zo k3 zo zo hsz zo k5 h
      (repeat' ((conv=>whnf);first|(with_reducible first|refine hw8 ?_|refine hr1 fun L hL hs=>?_|refine hr2 fun L hL hs=>?_)|refine zG ?_|apply zA|intro h|exact zT));all_goals conv=>whnf
      ·obtain⟨m1,m2⟩:=k6 L hL hs;refine⟨(mid+1,b1,l2,.sb (decide ((((b1-a1)/8:Nat):Int)<=(mid:Int)-a1)),.sb r,L),⟨by dsimp only;omega,by dsimp only;omega,by dsimp only;omega,by dsimp only;assumption,.inr ⟨_,rfl⟩,.inr ⟨_,rfl⟩,hL.1.trans k3,m1,fun R q1 q2=>?_⟩,by dsimp only;omega,?_⟩
       ·obtain⟨q3,q4⟩:=m2 R q1 q2;exact hfin R (Sort.permIn_trans _ _ _ _ _ he3 q3) q4
       ·dsimp only;rw[show((mid+1:Nat):Int)=(mid:Int)+1 by omega];exact leA
      ·obtain⟨m1,m2⟩:=k7 L hL hs;refine⟨(a1,mid,l2,.sb (decide ((((b1-a1)/8:Nat):Int)<=(b1:Int)-mid)),.sb r,L),⟨by dsimp only;omega,by dsimp only;omega,by dsimp only;omega,by dsimp only;assumption,.inr ⟨_,rfl⟩,.inr ⟨_,rfl⟩,hL.1.trans k3,m1,fun R q1 q2=>?_⟩,by dsimp only;omega,?_⟩
       ·obtain⟨q3,q4⟩:=m2 R q1 q2;exact hfin R (Sort.permIn_trans _ _ _ _ _ he3 q3) q4
       ·exact leA
     ·have n1':a1-1<e3.size:=by omega
      (repeat' ((conv=>whnf);first|(with_reducible refine nL _ _ ?_)|(refine gU (a1-1) zo zo ?_)|(with_reducible first|refine iA n2 ?_|refine kQ n1' ?_|refine kQ n2' ?_)|refine zG ?_|apply zA|intro h|exact zT));all_goals conv=>whnf
      ·refine sZ he3s a1 b1 hsz p2 hp21 hp22 zo hB3 fun e4 mid r k1 k2 k3 k4 k5 k6 k7=>?_;have hr1:∀{K:KT},(∀L,Sort.PermIn a1 mid e4 L->Sort.SortedIn Sort.ltInt a1 mid L->K (.tup []) [iT L])->AC 321 [.os 0 1 0 n,.v (.int .i64 a1),.v (.int .i64 mid),.v (.int .i64 l2)] [iT e4] K:=fun h=>ih n e4 a1 mid l2 zo k3 k1 zo hsz zo k4 h;have hr2:∀{K:KT},(∀L,Sort.PermIn (mid+1) b1 e4 L->Sort.SortedIn Sort.ltInt (mid+1) b1 L->K (.tup []) [iT L])->AC 321 [.os 0 1 0 n,.v (.int .i64 ((mid:Int)+1)),.v (.int .i64 b1),.v (.int .i64 l2)] [iT e4] K:=fun h=>by
        rw[show(mid:Int)+1=((mid+1:Nat):Int) by omega];exact ih n e4 (mid+1) b1 l2 zo k3 zo zo hsz zo k5 h
       (repeat' ((conv=>whnf);first|(with_reducible first|refine hw8 ?_|refine hr1 fun L hL hs=>?_|refine hr2 fun L hL hs=>?_)|refine zG ?_|apply zA|intro h|exact zT));all_goals conv=>whnf
       ·obtain⟨m1,m2⟩:=k6 L hL hs;refine⟨(mid+1,b1,l2,.sb (decide ((((b1-a1)/8:Nat):Int)<=(mid:Int)-a1)),.sb r,L),⟨by dsimp only;omega,by dsimp only;omega,by dsimp only;omega,by dsimp only;assumption,.inr ⟨_,rfl⟩,.inr ⟨_,rfl⟩,hL.1.trans k3,m1,fun R q1 q2=>?_⟩,by dsimp only;omega,?_⟩
        ·obtain⟨q3,q4⟩:=m2 R q1 q2;exact hfin R (Sort.permIn_trans _ _ _ _ _ he3 q3) q4
        ·dsimp only;rw[show((mid+1:Nat):Int)=(mid:Int)+1 by omega];exact leA
       ·obtain⟨m1,m2⟩:=k7 L hL hs;refine⟨(a1,mid,l2,.sb (decide ((((b1-a1)/8:Nat):Int)<=(b1:Int)-mid)),.sb r,L),⟨by dsimp only;omega,by dsimp only;omega,by dsimp only;omega,by dsimp only;assumption,.inr ⟨_,rfl⟩,.inr ⟨_,rfl⟩,hL.1.trans k3,m1,fun R q1 q2=>?_⟩,by dsimp only;omega,?_⟩
        ·obtain⟨q3,q4⟩:=m2 R q1 q2;exact hfin R (Sort.permIn_trans _ _ _ _ _ he3 q3) q4
        ·exact leA
      ·refine Nu he3s a1 b1 hsz p2 hp21 hp22 zo ha0 hB3 zp fun e4 mid k1 k2 k3 k4 k5=>?_;(repeat' ((conv=>whnf);first|refine zG ?_|apply zA|intro h|exact zT));all_goals conv=>whnf
       refine⟨(mid,b1,l2,.sb c,.v (.bool true),e4),⟨by dsimp only;omega,by dsimp only;omega,by dsimp only;omega,by dsimp only;assumption,.inr ⟨_,rfl⟩,.inl rfl,k3,k4,fun R q1 q2=>?_⟩,by dsimp only;omega,?_⟩
       ·obtain⟨q3,q4⟩:=k5 R q1 q2;exact hfin R (Sort.permIn_trans _ _ _ _ _ he3 q3) q4
       ·exact leA
    ·have hl1:(l1:Int)-1=((l1-1:Nat):Int):=by omega
     (repeat' ((conv=>whnf);first|refine zG ?_|apply zA|intro h|exact zT));all_goals conv=>whnf
     refine gY (Nat×Array Int) (fun g=>⟨1,[(0,iT g.2)],[(0,.os 0 1 0 n),(1,.v (.int .i64 a1)),(2,.v (.int .i64 b1)),(3,.v (.int .i64 g.1)),(8,.sb c),(9,.sb c'),(10,.v (.int .i64 ((b1:Int)-a1)))]⟩) (fun g=>g.1<=limit/\Sort.PermIn a1 b1 e g.2) ?_ ?_
     ·(repeat' ((conv=>whnf);first|(with_reducible refine Np hes a1 b1 hsz zo zo fun e1 he1=>?_)|refine zG ?_|apply zA|intro h|exact zT));all_goals conv=>whnf
      all_goals first
       |(refine⟨(l1-1,e1),⟨by dsimp only;omega,he1⟩,?_⟩
         dsimp only;rw[<-hl1];(exact leA))
       |(refine⟨(l1,e),⟨by assumption,Sort.permIn_refl _ _ _⟩,?_⟩
         (exact leA))
     rintro⟨l2,e1⟩ ⟨hl2,he1⟩
     simp only at hl2 he1⊢;have he1s:e1.size=n:=he1.1.trans hes;(repeat' ((conv=>whnf);first|(with_reducible refine Nv he1s a1 b1 hsz zo zo fun p hh hp1 hp2=>?_)|refine zG ?_|apply zA|intro h|exact zT));all_goals conv=>whnf
     refine gY (Nat×Int×Array Int) (fun g=>⟨1,[(0,iT g.2.2)],[(0,.os 0 1 0 n),(1,.v (.int .i64 a1)),(2,.v (.int .i64 b1)),(3,.v (.int .i64 l2)),(8,.sb c),(9,.sb c'),(10,.v (.int .i64 ((b1:Int)-a1))),(11,.v (.int .i64 g.1)),(12,.v (.int .i64 g.2.1))]⟩) (fun g=>a1<=g.1/\g.1<b1/\Sort.PermIn a1 b1 e g.2.2) ?_ ?_
     ·(repeat' ((conv=>whnf);first|(with_reducible refine Nw he1s a1 b1 hsz zo zo fun e2 he2=>?_)|refine zG ?_|apply zA|intro h|exact zT));all_goals conv=>whnf
      all_goals first
       |(refine⟨((b1-1)-(p-a1),1,e2),⟨by dsimp only;omega,by dsimp only;omega,Sort.permIn_trans _ _ _ _ _ he1 he2⟩,?_⟩
         dsimp only;rw[show(((b1-1)-(p-a1):Nat):Int)=(b1:Int)-1-((p:Int)-a1) by omega];(exact leA))
       |(refine⟨(p,hh,e1),⟨hp1,hp2,he1⟩,?_⟩
         (exact leA))
     rintro⟨p2,h2,e2⟩ ⟨hp21,hp22,he2⟩
     simp only at hp21 hp22 he2⊢;clear he1s he1 e1 hp1 hp2 p hh;have he2s:e2.size=n:=he2.1.trans hes;have hB2:=hB.perm zo he2;refine gY (Array Int) (fun g=>⟨1,[(0,iT g)],[(0,.os 0 1 0 n),(1,.v (.int .i64 a1)),(2,.v (.int .i64 b1)),(3,.v (.int .i64 l2)),(8,.sb c),(9,.sb c'),(10,.v (.int .i64 ((b1:Int)-a1))),(11,.v (.int .i64 p2))]⟩) (fun g=>Sort.PermIn a1 b1 e g) ?_ ?_
     ·have stay:∃g:Array Int,Sort.PermIn a1 b1 e g/\g=e2:=⟨e2,he2,rfl⟩
      have pins:∀{K:KT},(∀e (r:Bool),Sort.PermIn a1 b1 e2 e->(r=true->Sort.SortedIn Sort.ltInt a1 b1 e)->K (.sb r) [iT e])->AC 330 [.os 0 1 0 n,.v (.int .i64 a1),.v (.int .i64 b1)] [iT e2] K:=fun h=>Hl he2s a1 b1 hsz zo zo hB2 h;(repeat' ((conv=>whnf);first|(with_reducible refine pins fun e3 r he3 hr=>?_)|refine zG ?_|apply zA|intro h|exact zT));all_goals conv=>whnf
      all_goals first
       |exact hK e3 (hfin e3 (Sort.permIn_trans _ _ _ _ _ he2 he3) (hr zp)).1 (hfin e3 (Sort.permIn_trans _ _ _ _ _ he2 he3) (hr zp)).2
       |(refine⟨e3,Sort.permIn_trans _ _ _ _ _ he2 he3,?_⟩
         (exact leA))
       |(refine⟨e2,he2,?_⟩
         (exact leA))
     intro e3 he3;have he3s:e3.size=n:=he3.1.trans hes;have hB3:=hB.perm zo he3;have hw8:∀{K:Int->Prop},K (((b1-a1)/8:Nat):Int)->Wr .i64 (((b1:Int)-a1).tdiv 8) K:=fun h=>jB (by rw[bX zo];omega) zo zo h;have n2:p2<n:=by omega
     have n2':p2<e3.size:=by omega
     have part:∀{Q:Prop},Q->Q:=fun h=>h;rcases cK a1 with ha0|ha0
     ·(repeat' ((conv=>whnf);first|refine zG ?_|apply zA|intro h|exact zT));all_goals conv=>whnf
      refine sZ he3s a1 b1 hsz p2 hp21 hp22 zo hB3 fun e4 mid r k1 k2 k3 k4 k5 k6 k7=>?_;have hr1:∀{K:KT},(∀L,Sort.PermIn a1 mid e4 L->Sort.SortedIn Sort.ltInt a1 mid L->K (.tup []) [iT L])->AC 321 [.os 0 1 0 n,.v (.int .i64 a1),.v (.int .i64 mid),.v (.int .i64 l2)] [iT e4] K:=fun h=>ih n e4 a1 mid l2 zo k3 k1 zo hsz zo k4 h;have hr2:∀{K:KT},(∀L,Sort.PermIn (mid+1) b1 e4 L->Sort.SortedIn Sort.ltInt (mid+1) b1 L->K (.tup []) [iT L])->AC 321 [.os 0 1 0 n,.v (.int .i64 ((mid:Int)+1)),.v (.int .i64 b1),.v (.int .i64 l2)] [iT e4] K:=fun h=>by
       rw[show(mid:Int)+1=((mid+1:Nat):Int) by omega];exact ih n e4 (mid+1) b1 l2 zo k3 zo zo hsz zo k5 h
      (repeat' ((conv=>whnf);first|(with_reducible first|refine hw8 ?_|refine hr1 fun L hL hs=>?_|refine hr2 fun L hL hs=>?_)|refine zG ?_|apply zA|intro h|exact zT));all_goals conv=>whnf
      ·obtain⟨m1,m2⟩:=k6 L hL hs;refine⟨(mid+1,b1,l2,.sb (decide ((((b1-a1)/8:Nat):Int)<=(mid:Int)-a1)),.sb r,L),⟨by dsimp only;omega,by dsimp only;omega,by dsimp only;omega,by dsimp only;assumption,.inr ⟨_,rfl⟩,.inr ⟨_,rfl⟩,hL.1.trans k3,m1,fun R q1 q2=>?_⟩,by dsimp only;omega,?_⟩
       ·obtain⟨q3,q4⟩:=m2 R q1 q2;exact hfin R (Sort.permIn_trans _ _ _ _ _ he3 q3) q4
       ·dsimp only;rw[show((mid+1:Nat):Int)=(mid:Int)+1 by omega];exact leA
      ·obtain⟨m1,m2⟩:=k7 L hL hs;refine⟨(a1,mid,l2,.sb (decide ((((b1-a1)/8:Nat):Int)<=(b1:Int)-mid)),.sb r,L),⟨by dsimp only;omega,by dsimp only;omega,by dsimp only;omega,by dsimp only;assumption,.inr ⟨_,rfl⟩,.inr ⟨_,rfl⟩,hL.1.trans k3,m1,fun R q1 q2=>?_⟩,by dsimp only;omega,?_⟩
       ·obtain⟨q3,q4⟩:=m2 R q1 q2;exact hfin R (Sort.permIn_trans _ _ _ _ _ he3 q3) q4
       ·exact leA
     ·have n1':a1-1<e3.size:=by omega
      (repeat' ((conv=>whnf);first|(with_reducible refine nL _ _ ?_)|(refine gU (a1-1) zo zo ?_)|(with_reducible first|refine iA n2 ?_|refine kQ n1' ?_|refine kQ n2' ?_)|refine zG ?_|apply zA|intro h|exact zT));all_goals conv=>whnf
      ·refine sZ he3s a1 b1 hsz p2 hp21 hp22 zo hB3 fun e4 mid r k1 k2 k3 k4 k5 k6 k7=>?_;have hr1:∀{K:KT},(∀L,Sort.PermIn a1 mid e4 L->Sort.SortedIn Sort.ltInt a1 mid L->K (.tup []) [iT L])->AC 321 [.os 0 1 0 n,.v (.int .i64 a1),.v (.int .i64 mid),.v (.int .i64 l2)] [iT e4] K:=fun h=>ih n e4 a1 mid l2 zo k3 k1 zo hsz zo k4 h;have hr2:∀{K:KT},(∀L,Sort.PermIn (mid+1) b1 e4 L->Sort.SortedIn Sort.ltInt (mid+1) b1 L->K (.tup []) [iT L])->AC 321 [.os 0 1 0 n,.v (.int .i64 ((mid:Int)+1)),.v (.int .i64 b1),.v (.int .i64 l2)] [iT e4] K:=fun h=>by
        rw[show(mid:Int)+1=((mid+1:Nat):Int) by omega];exact ih n e4 (mid+1) b1 l2 zo k3 zo zo hsz zo k5 h
       (repeat' ((conv=>whnf);first|(with_reducible first|refine hw8 ?_|refine hr1 fun L hL hs=>?_|refine hr2 fun L hL hs=>?_)|refine zG ?_|apply zA|intro h|exact zT));all_goals conv=>whnf
       ·obtain⟨m1,m2⟩:=k6 L hL hs;refine⟨(mid+1,b1,l2,.sb (decide ((((b1-a1)/8:Nat):Int)<=(mid:Int)-a1)),.sb r,L),⟨by dsimp only;omega,by dsimp only;omega,by dsimp only;omega,by dsimp only;assumption,.inr ⟨_,rfl⟩,.inr ⟨_,rfl⟩,hL.1.trans k3,m1,fun R q1 q2=>?_⟩,by dsimp only;omega,?_⟩
        ·obtain⟨q3,q4⟩:=m2 R q1 q2;exact hfin R (Sort.permIn_trans _ _ _ _ _ he3 q3) q4
        ·dsimp only;rw[show((mid+1:Nat):Int)=(mid:Int)+1 by omega];exact leA
       ·obtain⟨m1,m2⟩:=k7 L hL hs;refine⟨(a1,mid,l2,.sb (decide ((((b1-a1)/8:Nat):Int)<=(b1:Int)-mid)),.sb r,L),⟨by dsimp only;omega,by dsimp only;omega,by dsimp only;omega,by dsimp only;assumption,.inr ⟨_,rfl⟩,.inr ⟨_,rfl⟩,hL.1.trans k3,m1,fun R q1 q2=>?_⟩,by dsimp only;omega,?_⟩
        ·obtain⟨q3,q4⟩:=m2 R q1 q2;exact hfin R (Sort.permIn_trans _ _ _ _ _ he3 q3) q4
        ·exact leA
      ·refine Nu he3s a1 b1 hsz p2 hp21 hp22 zo ha0 hB3 zp fun e4 mid k1 k2 k3 k4 k5=>?_;(repeat' ((conv=>whnf);first|refine zG ?_|apply zA|intro h|exact zT));all_goals conv=>whnf
       refine⟨(mid,b1,l2,.sb c,.sb c',e4),⟨by dsimp only;omega,by dsimp only;omega,by dsimp only;omega,by dsimp only;assumption,.inr ⟨_,rfl⟩,.inr ⟨_,rfl⟩,k3,k4,fun R q1 q2=>?_⟩,by dsimp only;omega,?_⟩
       ·obtain⟨q3,q4⟩:=k5 R q1 q2;exact hfin R (Sort.permIn_trans _ _ _ _ _ he3 q3) q4
       ·exact leA
  ·(repeat' ((conv=>whnf);first|(with_reducible refine aKM hes a1 b1 hsz zo zo fun r h1 h2=>?_)|refine zG ?_|apply zA|intro h|exact zT));all_goals conv=>whnf
   exact hK r (hfin r h1 h2).1 (hfin r h1 h2).2
theorem tI{d:Array Int}(h:Sort.SortedIn Sort.ltInt 0 d.size d):d.toList.Pairwise (· <= ·):=by
 rw[cJ];intro i j hi hj hij;have:=h i j (aO _) hij (by simpa using hj);simp only[dX]at hi hj;rw[getElem!_pos d i zo,getElem!_pos d j zo]at this;simp only[Sort.ltInt,decide_eq_false_iff_not]at this;simp only[Array.getElem_toList];omega
theorem Gx{d e:Array Int}(h:Sort.PermIn 0 d.size d e):e.toList.Perm d.toList:=by
 obtain⟨h1,_,h2⟩:=h;have e1:(e.extract 0 d.size)=e:=by rw[<-h1];simp
 have e2:(d.extract 0 d.size)=d:=by simp
 rw[e1,e2]at h2;exact h2
theorem aKW(l:List Int)(hl:l.length<1000000000000){K:KT}(hK:∀l':List Int,l'.Perm l->l'.Pairwise (· <= ·)->K (.tup []) [.arr 1 (l'.map mB)]):
  AC 308 [.os 0 1 0 l.length] [.arr 1 (l.map mB)] K:=by
 refine aHO rfl rfl ?_;have hp:∀{K:KT} (m:Nat),m<1000->(∀e:Array Int,Sort.PermIn 0 l.length l.toArray e->Sort.SortedIn Sort.ltInt 0 l.length e->K (.tup []) [iT e])->AC 321 [.os 0 1 0 l.length,.v (.int .i64 0),.v (.int .i64 l.length),.v (.int .i64 m)] [.arr 1 (l.map mB)] K:=fun m hm h=>
  aQE (l.length+1) l.length l.toArray 0 l.length m zo zx (aO _) (aK _) hl hm (.inl rfl) h
 (repeat' ((conv=>whnf);first|(with_reducible refine Vu l.length hl fun m hm=>?_)|refine zG ?_|apply zA|intro h|exact zT));all_goals conv=>whnf
 have hm40:=Ud hl hm;(repeat' ((conv=>whnf);first|(with_reducible refine hp m zo fun e h1 h2=>?_)|refine zG ?_|apply zA|intro h|exact zT));all_goals conv=>whnf
 have hs:e.size=l.length:=by simpa using h1.1
 refine hK e.toList ?_ ?_
 ·have:=Gx (d:=l.toArray) (e:=e) (by simpa using h1);simpa using this
 ·exact tI (by rw[hs];exact h2)
end Go.Proofs.YtnomkooikbhgmaaGreatDoor
