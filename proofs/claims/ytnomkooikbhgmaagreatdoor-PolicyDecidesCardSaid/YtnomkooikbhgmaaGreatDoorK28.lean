/- Lemmas. -/
import Derived.Test.YtnomkooikbhgmaaGreatDoorK27
set_option linter.unusedVariables false
set_option linter.unusedSimpArgs false
set_option maxRecDepth 100000
set_option maxHeartbeats 4000000
namespace Go.Proofs.YtnomkooikbhgmaaGreatDoor
open Go Go.Vm
theorem aEF(d:Array Int)(a b p:Nat)(hap:a<=p)(hpb:p<b)(hb:b<=d.size)(hsz:d.size<1000000000000){K:KT}(hK:K (.tup [.v (.int .i64 (Sort.partition Sort.ltInt d a b p).1),.sb (Sort.partition Sort.ltInt d a b p).2.1]) [iJ (Sort.partition Sort.ltInt d a b p).2.2]):
  AC 278 [.os 0 1 0 d.size,.v (.int .i64 a),.v (.int .i64 b),.v (.int .i64 p)] [iJ d] K:=by
 refine gQ (aCT rfl rfl ?_);have na:a<d.size:=by omega
 have np:p<d.size:=by omega
 have hb1:(b:Int)-1=((b-1:Nat):Int):=by omega
 have ha1:(a:Int)+1=((a+1:Nat):Int):=by omega
 obtain⟨e,he⟩:∃e,e=Sort.swp d a p:=⟨_,rfl⟩
 have hes:e.size=d.size:=by rw[he,swp_size]
 have na':a<e.size:=by omega
 unfold Sort.partition at hK;rw[<-he]at hK;simp only at hK;(repeat' ((conv=>whnf);first|(with_reducible first|refine iA na ?_|refine iA np ?_|refine jK na ?_|refine jK np ?_)|(refine rH np fun z=>?_)|(rw[pU,<-he])|refine zG ?_|apply zA|intro h|exact zT));all_goals conv=>whnf
 obtain⟨i1,hi1⟩:∃i1,i1=Sort.scanUp (fun x=>Sort.ltInt x e[a]!) e (b-1) (a+1):=⟨_,rfl⟩
 have s1:=Sort.scanUp_spec (fun x=>Sort.ltInt x e[a]!) e (b-1) _ (a+1) rfl;rw[<-hi1]at s1;obtain⟨s1a,s1b0,_,s1d⟩:=s1;have s1b:=s1b0 zo;obtain⟨j1,hj1⟩:∃j1,j1=Sort.scanDown (fun x=> !Sort.ltInt x e[a]!) e i1 (b-1):=⟨_,rfl⟩
 have s2:=Sort.scanDown_spec (fun x=> !Sort.ltInt x e[a]!) e i1 (b-1);rw[<-hj1]at s2;obtain⟨s2a,s2b0,_,s2d⟩:=s2;have s2b:=s2b0 zo;refine Jn.at ⟨1,[(0,iJ e)],[(0,.os 0 1 0 d.size),(1,.v (.int .i64 a)),(10,.v (.int .i64 ((i1:Nat):Int))),(11,.v (.int .i64 (((b-1):Nat):Int)))]⟩ ?_ ?_
 ·rw[hi1];refine gM Nat (fun k=>⟨1,[(0,iJ e)],[(0,.os 0 1 0 d.size),(1,.v (.int .i64 a)),(10,.v (.int .i64 k)),(11,.v (.int .i64 (((b-1):Nat):Int)))]⟩) (fun k=>(a+1)<=k/\k<=(b-1)+1/\Sort.scanUp (fun x=>Sort.ltInt x e[a]!) e (b-1) k=Sort.scanUp (fun x=>Sort.ltInt x e[a]!) e (b-1) (a+1)) (fun k=>(b-1)+1-k) (a+1) ⟨aK _,by omega,rfl⟩ ?_ ?_
  ·rw[ha1,hb1];(exact leA)
  intro k ⟨hk1,hk2,hk3⟩;rw[Sort.scanUp]at hk3;rcases aC (b-1) k with hjk|hjk
  ·rw[aF (by simp;omega)]at hk3;(repeat' ((conv=>whnf);first|refine zG ?_|apply zA|intro h|exact zT));all_goals conv=>whnf
   refine⟨(),trivial,?_⟩;rw[<-hk3];exact leA
  ·have n1:k<d.size:=by omega
   have n1':k<e.size:=by omega
   (repeat' ((conv=>whnf);first|(with_reducible first|refine mH _ _ ?_|refine iA n1 ?_|refine iA na ?_|refine jK n1' ?_|refine jK na' ?_)|refine zG ?_|apply zA|intro h|exact zT));all_goals conv=>whnf
   all_goals first
    |(rw[aH (by simp[h];omega)]at hk3
      refine⟨k+1,⟨by omega,by omega,hk3⟩,by omega,?_⟩;rw[aN,aL];(exact leA))
    |(rw[aF (by simp[h])]at hk3
      refine⟨(),trivial,?_⟩;rw[<-hk3];(exact leA))
 refine Jn.at ⟨1,[(0,iJ e)],[(0,.os 0 1 0 d.size),(1,.v (.int .i64 a)),(10,.v (.int .i64 ((i1:Nat):Int))),(11,.v (.int .i64 ((j1:Nat):Int)))]⟩ ?_ ?_
 ·rw[hj1];refine gM Nat (fun k=>⟨1,[(0,iJ e)],[(0,.os 0 1 0 d.size),(1,.v (.int .i64 a)),(10,.v (.int .i64 ((i1:Nat):Int))),(11,.v (.int .i64 k))]⟩) (fun k=>i1<=k+1/\k<=(b-1)/\Sort.scanDown (fun x=> !Sort.ltInt x e[a]!) e i1 k=Sort.scanDown (fun x=> !Sort.ltInt x e[a]!) e i1 (b-1)) (fun k=>k) (b-1) ⟨by omega,aK _,rfl⟩ ?_ ?_
  ·exact leA
  intro k ⟨hk1,hk2,hk3⟩;rcases aC k i1 with hjk|hjk
  ·have hk4:Sort.scanDown (fun x=> !Sort.ltInt x e[a]!) e i1 k=k:=by
    cases k with
    |zero=>rfl
    |succ k=>rw[Sort.scanDown,aF (by simp;omega)]
   rw[hk4]at hk3;(repeat' ((conv=>whnf);first|refine zG ?_|apply zA|intro h|exact zT));all_goals conv=>whnf
   refine⟨(),trivial,?_⟩;rw[<-hk3];exact leA
  ·obtain⟨m,rfl⟩:∃m,k=m+1:=⟨k-1,by omega⟩
   have n1:m+1<d.size:=by omega
   have n1':m+1<e.size:=by omega
   have hm:((m+1:Nat):Int)-1=(m:Nat):=by omega
   rw[Sort.scanDown]at hk3;(repeat' ((conv=>whnf);first|(with_reducible first|refine mH _ _ ?_|refine iA n1 ?_|refine iA na ?_|refine jK n1' ?_|refine jK na' ?_)|refine zG ?_|apply zA|intro h|exact zT));all_goals conv=>whnf
   all_goals first
    |(rw[aH (by simp[h];omega)]at hk3
      refine⟨m,⟨by omega,by omega,hk3⟩,by omega,?_⟩;rw[hm];(exact leA))
    |(rw[aF (by simp[h])]at hk3
      refine⟨(),trivial,?_⟩;rw[<-hk3];(exact leA))
 rw[<-hi1,<-hj1]at hK;have ni:j1<d.size:=by omega
 have ni':j1<e.size:=by omega
 rcases aC j1 i1 with hij|hij
 ·rw[aH hij]at hK;(repeat' ((conv=>whnf);first|(with_reducible first|refine iA na ?_|refine iA ni ?_|refine jK na' ?_|refine jK ni' ?_)|(refine rH na' fun z=>?_)|(rw[pU])|refine zG ?_|apply zA|intro h|exact zT));all_goals conv=>whnf
  exact⟨_,gR gO Weak.bool,hK⟩
 ·have hlt:i1<j1:=by
   rcases aC i1 j1 with h9|h9
   ·exact h9
   ·have h8:j1=i1:=by omega
    rw[h8]at s2d;have u:=s1d zo;have v:=s2d (aK _) zo
    revert u v
    cases Sort.ltInt e[i1]! e[a]! <;>simp
  have nj:i1<d.size:=by omega
  have nj':i1<e.size:=by omega
  rw[aF zo]at hK;simp only at hK;have hi11:(i1:Int)+1=((i1+1:Nat):Int):=by omega
  have hj11:(j1:Int)-1=((j1-1:Nat):Int):=by omega
  (repeat' ((conv=>whnf);first|(with_reducible first|refine iA nj ?_|refine iA ni ?_|refine jK nj' ?_|refine jK ni' ?_)|(refine rH ni' fun z=>?_)|(rw[pU])|refine zG ?_|apply zA|intro h|exact zT));all_goals conv=>whnf
  refine gM (Nat×Nat×Array Int) (fun g=>⟨1,[(0,iJ g.2.2)],[(0,.os 0 1 0 d.size),(1,.v (.int .i64 a)),(10,.v (.int .i64 g.1)),(11,.v (.int .i64 g.2.1))]⟩) (fun g=>g.2.2.size=d.size/\a<g.1/\g.1<=g.2.1+1/\g.2.1<d.size/\Sort.partLoop Sort.ltInt a g.1 g.2.1 g.2.2=Sort.partLoop Sort.ltInt a (i1+1) (j1-1) (Sort.swp e i1 j1)) (fun g=>g.2.1+1-g.1) (i1+1,j1-1,Sort.swp e i1 j1) ⟨by rw[swp_size,hes],by dsimp only;omega,by dsimp only;omega,by dsimp only;omega,rfl⟩ ?_ ?_
  ·dsimp only;rw[<-hi11,<-hj11];exact leA
  generalize Sort.partLoop Sort.ltInt a (i1+1) (j1-1) (Sort.swp e i1 j1)=T at*
  rintro⟨i,j,e⟩ ⟨hes,hai,hij,hjn,ht⟩
  simp only at hes hai hij hjn ht⊢;rw[Sort.partLoop_eq]at ht;have na':a<e.size:=by omega
  obtain⟨i1,hi1⟩:∃i1,i1=Sort.scanUp (fun x=>Sort.ltInt x e[a]!) e j i:=⟨_,rfl⟩
  have s1:=Sort.scanUp_spec (fun x=>Sort.ltInt x e[a]!) e j _ i rfl;rw[<-hi1]at s1;obtain⟨s1a,s1b0,_,s1d⟩:=s1;have s1b:=s1b0 zo;obtain⟨j1,hj1⟩:∃j1,j1=Sort.scanDown (fun x=> !Sort.ltInt x e[a]!) e i1 j:=⟨_,rfl⟩
  have s2:=Sort.scanDown_spec (fun x=> !Sort.ltInt x e[a]!) e i1 j;rw[<-hj1]at s2;obtain⟨s2a,s2b0,_,s2d⟩:=s2;have s2b:=s2b0 zo;refine Jn.at ⟨1,[(0,iJ e)],[(0,.os 0 1 0 d.size),(1,.v (.int .i64 a)),(10,.v (.int .i64 ((i1:Nat):Int))),(11,.v (.int .i64 ((j:Nat):Int)))]⟩ ?_ ?_
  ·rw[hi1];refine gM Nat (fun k=>⟨1,[(0,iJ e)],[(0,.os 0 1 0 d.size),(1,.v (.int .i64 a)),(10,.v (.int .i64 k)),(11,.v (.int .i64 ((j:Nat):Int)))]⟩) (fun k=>i<=k/\k<=j+1/\Sort.scanUp (fun x=>Sort.ltInt x e[a]!) e j k=Sort.scanUp (fun x=>Sort.ltInt x e[a]!) e j i) (fun k=>j+1-k) i ⟨aK _,by omega,rfl⟩ ?_ ?_
   ·exact leA
   intro k ⟨hk1,hk2,hk3⟩;rw[Sort.scanUp]at hk3;rcases aC j k with hjk|hjk
   ·rw[aF (by simp;omega)]at hk3;(repeat' ((conv=>whnf);first|refine zG ?_|apply zA|intro h|exact zT));all_goals conv=>whnf
    refine⟨(),trivial,?_⟩;rw[<-hk3];exact leA
   ·have n1:k<d.size:=by omega
    have n1':k<e.size:=by omega
    (repeat' ((conv=>whnf);first|(with_reducible first|refine mH _ _ ?_|refine iA n1 ?_|refine iA na ?_|refine jK n1' ?_|refine jK na' ?_)|refine zG ?_|apply zA|intro h|exact zT));all_goals conv=>whnf
    all_goals first
     |(rw[aH (by simp[h];omega)]at hk3
       refine⟨k+1,⟨by omega,by omega,hk3⟩,by omega,?_⟩;rw[aN,aL];(exact leA))
     |(rw[aF (by simp[h])]at hk3
       refine⟨(),trivial,?_⟩;rw[<-hk3];(exact leA))
  refine Jn.at ⟨1,[(0,iJ e)],[(0,.os 0 1 0 d.size),(1,.v (.int .i64 a)),(10,.v (.int .i64 ((i1:Nat):Int))),(11,.v (.int .i64 ((j1:Nat):Int)))]⟩ ?_ ?_
  ·rw[hj1];refine gM Nat (fun k=>⟨1,[(0,iJ e)],[(0,.os 0 1 0 d.size),(1,.v (.int .i64 a)),(10,.v (.int .i64 ((i1:Nat):Int))),(11,.v (.int .i64 k))]⟩) (fun k=>i1<=k+1/\k<=j/\Sort.scanDown (fun x=> !Sort.ltInt x e[a]!) e i1 k=Sort.scanDown (fun x=> !Sort.ltInt x e[a]!) e i1 j) (fun k=>k) j ⟨by omega,aK _,rfl⟩ ?_ ?_
   ·exact leA
   intro k ⟨hk1,hk2,hk3⟩;rcases aC k i1 with hjk|hjk
   ·have hk4:Sort.scanDown (fun x=> !Sort.ltInt x e[a]!) e i1 k=k:=by
     cases k with
     |zero=>rfl
     |succ k=>rw[Sort.scanDown,aF (by simp;omega)]
    rw[hk4]at hk3;(repeat' ((conv=>whnf);first|refine zG ?_|apply zA|intro h|exact zT));all_goals conv=>whnf
    refine⟨(),trivial,?_⟩;rw[<-hk3];exact leA
   ·obtain⟨m,rfl⟩:∃m,k=m+1:=⟨k-1,by omega⟩
    have n1:m+1<d.size:=by omega
    have n1':m+1<e.size:=by omega
    have hm:((m+1:Nat):Int)-1=(m:Nat):=by omega
    rw[Sort.scanDown]at hk3;(repeat' ((conv=>whnf);first|(with_reducible first|refine mH _ _ ?_|refine iA n1 ?_|refine iA na ?_|refine jK n1' ?_|refine jK na' ?_)|refine zG ?_|apply zA|intro h|exact zT));all_goals conv=>whnf
    all_goals first
     |(rw[aH (by simp[h];omega)]at hk3
       refine⟨m,⟨by omega,by omega,hk3⟩,by omega,?_⟩;rw[hm];(exact leA))
     |(rw[aF (by simp[h])]at hk3
       refine⟨(),trivial,?_⟩;rw[<-hk3];(exact leA))
  rw[<-hi1,<-hj1]at ht;have ni:j1<d.size:=by omega
  have ni':j1<e.size:=by omega
  rcases aC j1 i1 with hx|hx
  ·rw[aH hx]at ht;subst ht;(repeat' ((conv=>whnf);first|(with_reducible first|refine iA na ?_|refine iA ni ?_|refine jK na' ?_|refine jK ni' ?_)|(refine rH na' fun z=>?_)|(rw[pU])|refine zG ?_|apply zA|intro h|exact zT));all_goals conv=>whnf
   exact⟨_,gR gO Weak.bool,hK⟩
  ·have hlt:i1<j1:=by
    rcases aC i1 j1 with h9|h9
    ·exact h9
    ·have h8:j1=i1:=by omega
     rw[h8]at s2d;have u:=s1d zo;have v:=s2d (aK _) zo
     revert u v
     cases Sort.ltInt e[i1]! e[a]! <;>simp
   have nj:i1<d.size:=by omega
   have nj':i1<e.size:=by omega
   rw[aF zo]at ht;have hi11:(i1:Int)+1=((i1+1:Nat):Int):=by omega
   have hj11:(j1:Int)-1=((j1-1:Nat):Int):=by omega
   (repeat' ((conv=>whnf);first|(with_reducible first|refine iA nj ?_|refine iA ni ?_|refine jK nj' ?_|refine jK ni' ?_)|(refine rH ni' fun z=>?_)|(rw[pU])|refine zG ?_|apply zA|intro h|exact zT));all_goals conv=>whnf
   refine⟨(i1+1,j1-1,Sort.swp e i1 j1),⟨by rw[swp_size,hes],by dsimp only;omega,by dsimp only;omega,by dsimp only;omega,ht⟩,by dsimp only;omega,?_⟩;dsimp only;rw[<-hi11,<-hj11];exact leA
theorem aKR(d:Array Int)(a b p:Nat)(hap:a<=p)(hpb:p<b)(hb:b<=d.size)(hsz:d.size<1000000000000){K:KT}(hK:K (.v (.int .i64 (Sort.partitionEqual Sort.ltInt d a b p).1)) [iJ (Sort.partitionEqual Sort.ltInt d a b p).2]):
  AC 277 [.os 0 1 0 d.size,.v (.int .i64 a),.v (.int .i64 b),.v (.int .i64 p)] [iJ d] K:=by
 refine aHU rfl rfl ?_;have na:a<d.size:=by omega
 have np:p<d.size:=by omega
 have hb1:(b:Int)-1=((b-1:Nat):Int):=by omega
 have ha1:(a:Int)+1=((a+1:Nat):Int):=by omega
 unfold Sort.partitionEqual at hK;(repeat' ((conv=>whnf);first|(with_reducible first|refine iA na ?_|refine iA np ?_|refine jK na ?_|refine jK np ?_)|(refine rH np fun z=>?_)|(rw[pU])|refine zG ?_|apply zA|intro h|exact zT));all_goals conv=>whnf
 refine gM (Nat×Nat×Array Int) (fun g=>⟨1,[(0,iJ g.2.2)],[(0,.os 0 1 0 d.size),(1,.v (.int .i64 a)),(9,.v (.int .i64 g.1)),(10,.v (.int .i64 g.2.1))]⟩) (fun g=>g.2.2.size=d.size/\a<g.1/\g.1<=g.2.1+1/\g.2.1<d.size/\Sort.partEqLoop Sort.ltInt a g.1 g.2.1 g.2.2=Sort.partEqLoop Sort.ltInt a (a+1) (b-1) (Sort.swp d a p)) (fun g=>g.2.1+1-g.1) (a+1,b-1,Sort.swp d a p) ⟨by rw[swp_size],by dsimp only;omega,by dsimp only;omega,by dsimp only;omega,rfl⟩ ?_ ?_
 ·dsimp only;rw[<-ha1,<-hb1];exact leA
 generalize Sort.partEqLoop Sort.ltInt a (a+1) (b-1) (Sort.swp d a p)=T at*
 rintro⟨i,j,e⟩ ⟨hes,hai,hij,hjn,ht⟩
 simp only at hes hai hij hjn ht⊢;rw[Sort.partEqLoop_eq]at ht;have na':a<e.size:=by omega
 obtain⟨i1,hi1⟩:∃i1,i1=Sort.scanUp (fun x=> !Sort.ltInt e[a]! x) e j i:=⟨_,rfl⟩
 have s1:=Sort.scanUp_spec (fun x=> !Sort.ltInt e[a]! x) e j _ i rfl;rw[<-hi1]at s1;obtain⟨s1a,s1b0,_,s1d⟩:=s1;have s1b:=s1b0 zo;obtain⟨j1,hj1⟩:∃j1,j1=Sort.scanDown (fun x=>Sort.ltInt e[a]! x) e i1 j:=⟨_,rfl⟩
 have s2:=Sort.scanDown_spec (fun x=>Sort.ltInt e[a]! x) e i1 j;rw[<-hj1]at s2;obtain⟨s2a,s2b0,_,s2d⟩:=s2;have s2b:=s2b0 zo;refine Jn.at ⟨1,[(0,iJ e)],[(0,.os 0 1 0 d.size),(1,.v (.int .i64 a)),(9,.v (.int .i64 ((i1:Nat):Int))),(10,.v (.int .i64 ((j:Nat):Int)))]⟩ ?_ ?_
 ·rw[hi1];refine gM Nat (fun k=>⟨1,[(0,iJ e)],[(0,.os 0 1 0 d.size),(1,.v (.int .i64 a)),(9,.v (.int .i64 k)),(10,.v (.int .i64 ((j:Nat):Int)))]⟩) (fun k=>i<=k/\k<=j+1/\Sort.scanUp (fun x=> !Sort.ltInt e[a]! x) e j k=Sort.scanUp (fun x=> !Sort.ltInt e[a]! x) e j i) (fun k=>j+1-k) i ⟨aK _,by omega,rfl⟩ ?_ ?_
  ·exact leA
  intro k ⟨hk1,hk2,hk3⟩;rw[Sort.scanUp]at hk3;rcases aC j k with hjk|hjk
  ·rw[aF (by simp;omega)]at hk3;(repeat' ((conv=>whnf);first|refine zG ?_|apply zA|intro h|exact zT));all_goals conv=>whnf
   refine⟨(),trivial,?_⟩;rw[<-hk3];exact leA
  ·have n1:k<d.size:=by omega
   have n1':k<e.size:=by omega
   (repeat' ((conv=>whnf);first|(with_reducible first|refine mH _ _ ?_|refine iA n1 ?_|refine iA na ?_|refine jK n1' ?_|refine jK na' ?_)|refine zG ?_|apply zA|intro h|exact zT));all_goals conv=>whnf
   all_goals first
    |(rw[aH (by simp[h];omega)]at hk3
      refine⟨k+1,⟨by omega,by omega,hk3⟩,by omega,?_⟩;rw[aN,aL];(exact leA))
    |(rw[aF (by simp[h])]at hk3
      refine⟨(),trivial,?_⟩;rw[<-hk3];(exact leA))
 refine Jn.at ⟨1,[(0,iJ e)],[(0,.os 0 1 0 d.size),(1,.v (.int .i64 a)),(9,.v (.int .i64 ((i1:Nat):Int))),(10,.v (.int .i64 ((j1:Nat):Int)))]⟩ ?_ ?_
 ·rw[hj1];refine gM Nat (fun k=>⟨1,[(0,iJ e)],[(0,.os 0 1 0 d.size),(1,.v (.int .i64 a)),(9,.v (.int .i64 ((i1:Nat):Int))),(10,.v (.int .i64 k))]⟩) (fun k=>i1<=k+1/\k<=j/\Sort.scanDown (fun x=>Sort.ltInt e[a]! x) e i1 k=Sort.scanDown (fun x=>Sort.ltInt e[a]! x) e i1 j) (fun k=>k) j ⟨by omega,aK _,rfl⟩ ?_ ?_
  ·exact leA
  intro k ⟨hk1,hk2,hk3⟩;rcases aC k i1 with hjk|hjk
  ·have hk4:Sort.scanDown (fun x=>Sort.ltInt e[a]! x) e i1 k=k:=by
    cases k with
    |zero=>rfl
    |succ k=>rw[Sort.scanDown,aF (by simp;omega)]
   rw[hk4]at hk3;(repeat' ((conv=>whnf);first|refine zG ?_|apply zA|intro h|exact zT));all_goals conv=>whnf
   refine⟨(),trivial,?_⟩;rw[<-hk3];exact leA
  ·obtain⟨m,rfl⟩:∃m,k=m+1:=⟨k-1,by omega⟩
   have n1:m+1<d.size:=by omega
   have n1':m+1<e.size:=by omega
   have hm:((m+1:Nat):Int)-1=(m:Nat):=by omega
   rw[Sort.scanDown]at hk3;(repeat' ((conv=>whnf);first|(with_reducible first|refine mH _ _ ?_|refine iA n1 ?_|refine iA na ?_|refine jK n1' ?_|refine jK na' ?_)|refine zG ?_|apply zA|intro h|exact zT));all_goals conv=>whnf
   all_goals first
    |(rw[aH (by simp[h];omega)]at hk3
      refine⟨m,⟨by omega,by omega,hk3⟩,by omega,?_⟩;rw[hm];(exact leA))
    |(rw[aF (by simp[h])]at hk3
      refine⟨(),trivial,?_⟩;rw[<-hk3];(exact leA))
 rw[<-hi1,<-hj1]at ht;have ni:j1<d.size:=by omega
 have ni':j1<e.size:=by omega
 rcases aC j1 i1 with hx|hx
 ·rw[aH hx]at ht;subst ht;(repeat' ((conv=>whnf);first|refine zG ?_|apply zA|intro h|exact zT));all_goals conv=>whnf
  exact hK
 ·have hlt:i1<j1:=by
   rcases aC i1 j1 with h9|h9
   ·exact h9
   ·have h8:j1=i1:=by omega
    rw[h8]at s2d;have u:=s1d zo;have v:=s2d (aK _) zo
    revert u v
    cases Sort.ltInt e[a]! e[i1]! <;>simp
  have nj:i1<d.size:=by omega
  have nj':i1<e.size:=by omega
  rw[aF zo]at ht;have hi11:(i1:Int)+1=((i1+1:Nat):Int):=by omega
  have hj11:(j1:Int)-1=((j1-1:Nat):Int):=by omega
  (repeat' ((conv=>whnf);first|(with_reducible first|refine iA nj ?_|refine iA ni ?_|refine jK nj' ?_|refine jK ni' ?_)|(refine rH ni' fun z=>?_)|(rw[pU])|refine zG ?_|apply zA|intro h|exact zT));all_goals conv=>whnf
  refine⟨(i1+1,j1-1,Sort.swp e i1 j1),⟨by rw[swp_size,hes],by dsimp only;omega,by dsimp only;omega,by dsimp only;omega,ht⟩,by dsimp only;omega,?_⟩;dsimp only;rw[<-hi11,<-hj11];exact leA
theorem aEG(d:Array Int)(a b:Nat)(hab:a<b)(hb:b<=d.size)(hsz:d.size<1000000000000){K:KT}(hK:K (.sb (Sort.partialInsertionSort Sort.ltInt d a b).2) [iJ (Sort.partialInsertionSort Sort.ltInt d a b).1]):
  AC 275 [.os 0 1 0 d.size,.v (.int .i64 a),.v (.int .i64 b)] [iJ d] K:=by
 refine gQ (aCU rfl rfl ?_);have ha1:(a:Int)+1=((a+1:Nat):Int):=by omega
 unfold Sort.partialInsertionSort at hK;(repeat' ((conv=>whnf);first|refine zG ?_|apply zA|intro h|exact zT));all_goals conv=>whnf
 refine gM (Nat×Nat×Array Int) (fun g=>⟨1,[(0,iJ g.2.2)],[(0,.os 0 1 0 d.size),(1,.v (.int .i64 a)),(2,.v (.int .i64 b)),(7,.v (.int .i64 g.2.1)),(8,.v (.int .i64 g.1))]⟩)
  (fun g=>g.1<=5/\g.2.2.size=d.size/\a<g.2.1/\g.2.1<=b/\Sort.partialIns Sort.ltInt a b (5-g.1) g.2.1 g.2.2=Sort.partialIns Sort.ltInt a b 5 (a+1) d) (fun g=>5-g.1) (0,a+1,d) ⟨by dsimp only;omega,rfl,by dsimp only;omega,by dsimp only;omega,rfl⟩ ?_ ?_
 ·dsimp only;rw[<-ha1];exact leA
 generalize Sort.partialIns Sort.ltInt a b 5 (a+1) d=T at*
 rintro⟨k,i0,e⟩ ⟨hk5,hes,hai0,hib0,ht⟩
 simp only at hk5 hes hai0 hib0 ht⊢;rcases aC k 5 with hk|hk
 ·obtain⟨s,hs⟩:∃s,5-k=s+1:=⟨4-k,by omega⟩
  rw[hs,Sort.partialIns]at ht;obtain⟨i,hi⟩:∃i,i=Sort.scanSorted Sort.ltInt e b i0:=⟨_,rfl⟩
  have hsp:=uO Sort.ltInt e b _ i0 (aK _);rw[<-hi]at hsp ht;obtain⟨hi1,hi2⟩:=hsp;have hi2:=hi2 zo;simp only at ht;(repeat' ((conv=>whnf);first|refine zG ?_|apply zA|intro h|exact zT));all_goals conv=>whnf
  refine Jn.at ⟨1,[(0,iJ e)],[(0,.os 0 1 0 d.size),(1,.v (.int .i64 a)),(2,.v (.int .i64 b)),(7,.v (.int .i64 i)),(8,.v (.int .i64 k))]⟩ ?_ ?_
  ·rw[hi];refine gM Nat (fun m=>⟨1,[(0,iJ e)],[(0,.os 0 1 0 d.size),(1,.v (.int .i64 a)),(2,.v (.int .i64 b)),(7,.v (.int .i64 m)),(8,.v (.int .i64 k))]⟩) (fun m=>i0<=m/\m<=b/\Sort.scanSorted Sort.ltInt e b m=Sort.scanSorted Sort.ltInt e b i0) (fun m=>b-m) i0 ⟨aK _,hib0,rfl⟩ ?_ ?_
   ·exact leA
   intro m ⟨hm1,hm2,hm3⟩;rw[Sort.scanSorted]at hm3;rcases aC m b with hmb|hmb
   ·have n1:m<d.size:=by omega
    have n1':m<e.size:=by omega
    have n2':m-1<e.size:=by omega
    (repeat' ((conv=>whnf);first|(with_reducible first|refine mH _ _ ?_|refine iA n1 ?_)|(refine gU (m-1) zo zo ?_)|(with_reducible first|refine jK n1' ?_|refine jK n2' ?_)|refine zG ?_|apply zA|intro h|exact zT));all_goals conv=>whnf
    all_goals first
     |(rw[aH (by simp[h];omega)]at hm3
       refine⟨m+1,⟨by omega,by omega,hm3⟩,by omega,?_⟩;rw[aN,aL];(exact leA))
     |(rw[aF (by simp[h])]at hm3
       refine⟨(),trivial,?_⟩;rw[<-hm3];(exact leA))
   ·rw[aF (by simp;omega)]at hm3;(repeat' ((conv=>whnf);first|refine zG ?_|apply zA|intro h|exact zT));all_goals conv=>whnf
    refine⟨(),trivial,?_⟩;rw[<-hm3];exact leA
  rcases aC i b with hilt|hilt
  ·rw[aF zo]at ht;rcases aC (b-a) 50 with h50|h50
   ·rw[aH h50]at ht;subst ht;(repeat' ((conv=>whnf);first|refine zG ?_|apply zA|intro h|exact zT));all_goals conv=>whnf
    exact⟨_,Weak.bool,hK⟩
   ·rw[aF zo]at ht;have n1:i<d.size:=by omega
    have n1':i<e.size:=by omega
    have n2':i-1<e.size:=by omega
    (repeat' ((conv=>whnf);first|(with_reducible refine iA n1 ?_)|(refine gU (i-1) zo zo ?_)|(with_reducible first|refine jK n1' ?_|refine jK n2' ?_)|(refine rH n2' fun z=>?_)|(rw[pU])|refine zG ?_|apply zA|intro h|exact zT));all_goals conv=>whnf
    obtain⟨e1,he1⟩:∃e1,e1=Sort.swp e i (i-1):=⟨_,rfl⟩
    have he1s:e1.size=d.size:=by rw[he1,swp_size,hes]
    rw[<-he1]at ht⊢;obtain⟨e2,he2⟩:∃e2,e2=if i-a≥2 then Sort.shiftDown Sort.ltInt (i-1) e1 else e1:=⟨_,rfl⟩
    have he2s:e2.size=d.size:=by
     rw[he2];split
     ·rw[sR,he1s]
     ·exact he1s
    rw[<-he2]at ht;have fin:∀e3,(e3=if b-i≥2 then Sort.shiftUp Sort.ltInt b (i+1) e2 else e2)->∃g':Nat×Nat×Array Int,(g'.1<=5/\g'.2.2.size=d.size/\a<g'.2.1/\g'.2.1<=b/\Sort.partialIns Sort.ltInt a b (5-g'.1) g'.2.1 g'.2.2=T)/\5-g'.1<5-k/\g'=(k+1,i,e3):=fun e3 h3=>by
     refine⟨(k+1,i,e3),⟨by dsimp only;omega,?_,by dsimp only;omega,by dsimp only;omega,?_⟩,by dsimp only;omega,rfl⟩
     ·dsimp only;rw[h3];split
      ·rw[Es _ _ _ _ _ (aK _),he2s]
      ·exact he2s
     ·rw[h3,<-ht]
      congr 1
      omega
    refine Jn.at ⟨1,[(0,iJ e2)],[(0,.os 0 1 0 d.size),(1,.v (.int .i64 a)),(2,.v (.int .i64 b)),(7,.v (.int .i64 i)),(8,.v (.int .i64 k))]⟩ ?_ ?_
    ·have hd1:decide (2<=(i:Int)-a)=decide (i-a≥2):=by rw[decide_eq_decide];omega
     rcases aC (i-a) 2 with h2|h2
     ·rw[aF zo]at he2;(repeat' ((conv=>whnf);first|refine zG ?_|apply zA|intro h|exact zT));all_goals conv=>whnf
      refine⟨(),trivial,?_⟩;rw[he2];exact leA
     ·rw[aH h2]at he2;(repeat' ((conv=>whnf);first|refine zG ?_|apply zA|intro h|exact zT));all_goals conv=>whnf
      refine gM (Nat×Array Int) (fun g=>⟨1,[(0,iJ g.2)],[(0,.os 0 1 0 d.size),(1,.v (.int .i64 a)),(2,.v (.int .i64 b)),(7,.v (.int .i64 i)),(8,.v (.int .i64 k)),(9,.v (.int .i64 g.1))]⟩) (fun g=>g.1<=i/\g.2.size=d.size/\Sort.shiftDown Sort.ltInt g.1 g.2=e2) (fun g=>g.1) (i-1,e1) ⟨by dsimp only;omega,he1s,he2.symm⟩ ?_ ?_
      ·dsimp only;rw[gD zo,aL];exact leA
      rintro⟨m,f⟩ ⟨hm1,hm2,hm3⟩
      simp only at hm1 hm2 hm3⊢;rcases m with _|m
      ·rw[Sort.shiftDown]at hm3;subst hm3;(repeat' ((conv=>whnf);first|refine zG ?_|apply zA|intro h|exact zT));all_goals conv=>whnf
       refine⟨(),trivial,?_⟩;exact leA
      ·rw[Sort.shiftDown]at hm3;have m1:m+1<d.size:=by omega
       have m1':m+1<f.size:=by omega
       have m2:m<d.size:=by omega
       have m2':m<f.size:=by omega
       have hmm:((m+1:Nat):Int)-1=(m:Nat):=by omega
       (repeat' ((conv=>whnf);first|(with_reducible first|refine mH _ _ ?_|refine iA m1 ?_|refine gU m hmm m2 ?_|refine jK m1' ?_|refine jK m2' ?_|refine Fp (Nat.succ_ne_self m) m2' ?_)|refine zG ?_|apply zA|intro h|exact zT));all_goals conv=>whnf
       all_goals first
        |(rw[aH (by simp[h])]at hm3
          subst hm3;refine⟨(),trivial,?_⟩;(exact leA))
        |(rw[aF (by simp[h])]at hm3
          refine⟨(m,Sort.swp f (m+1) m),⟨by dsimp only;omega,by rw[swp_size,hm2],hm3⟩,by dsimp only;omega,?_⟩;dsimp only;rw[hmm,pU];(exact leA))
    rcases aC (b-i) 2 with h2|h2
    ·obtain⟨g',h1,h2,rfl⟩:=fin e2 (by rw[aF zo]);(repeat' ((conv=>whnf);first|refine zG ?_|apply zA|intro h|exact zT));all_goals conv=>whnf
     refine⟨_,h1,h2,?_⟩;dsimp only;rw[aN,aL];exact leA
    ·(repeat' ((conv=>whnf);first|refine zG ?_|apply zA|intro h|exact zT));all_goals conv=>whnf
     refine gM (Nat×Array Int) (fun g=>⟨1,[(0,iJ g.2)],[(0,.os 0 1 0 d.size),(1,.v (.int .i64 a)),(2,.v (.int .i64 b)),(7,.v (.int .i64 i)),(8,.v (.int .i64 k)),(10,.v (.int .i64 g.1))]⟩) (fun g=>i+1<=g.1/\g.1<=b/\g.2.size=d.size/\Sort.shiftUp Sort.ltInt b g.1 g.2=Sort.shiftUp Sort.ltInt b (i+1) e2) (fun g=>b-g.1) (i+1,e2) ⟨by dsimp only;omega,by dsimp only;omega,he2s,rfl⟩ ?_ ?_
     ·dsimp only;rw[aN,aL];exact leA
     rintro⟨m,f⟩ ⟨hm0,hm1,hm2,hm3⟩
     simp only at hm0 hm1 hm2 hm3⊢;rw[Sort.shiftUp]at hm3;rcases aC m b with hmb|hmb
     ·rw[aH hmb]at hm3;have m1:m<d.size:=by omega
      have m1':m<f.size:=by omega
      have m2':m-1<f.size:=by omega
      (repeat' ((conv=>whnf);first|(with_reducible first|refine mH _ _ ?_|refine iA m1 ?_)|(refine gU (m-1) zo zo ?_)|(with_reducible first|refine jK m1' ?_|refine jK m2' ?_)|(refine rH m2' fun z=>?_)|refine zG ?_|apply zA|intro h|exact zT));all_goals conv=>whnf
      all_goals first
       |(rw[aH (by simp[h])]at hm3
         obtain⟨g',h1,h2,rfl⟩:=fin f (by rw[aH zo,hm3]);refine⟨_,h1,h2,?_⟩;dsimp only;rw[aN,aL];(exact leA))
       |(rw[aF (by simp[h])]at hm3
         refine⟨(m+1,Sort.swp f m (m-1)),⟨by dsimp only;omega,by dsimp only;omega,by rw[swp_size,hm2],hm3⟩,by dsimp only;omega,?_⟩;dsimp only;rw[aN,aL,pU];(exact leA))
     ·rw[aF zo]at hm3;obtain⟨g',h1,h2,rfl⟩:=fin f (by rw[aH zo,hm3]);(repeat' ((conv=>whnf);first|refine zG ?_|apply zA|intro h|exact zT));all_goals conv=>whnf
      refine⟨_,h1,h2,?_⟩;dsimp only;rw[aN,aL];exact leA
  ·rw[aH zo]at ht;subst ht;(repeat' ((conv=>whnf);first|refine zG ?_|apply zA|intro h|exact zT));all_goals conv=>whnf
   exact⟨_,Weak.bool,hK⟩
 ·have:k=5:=by omega
  subst this;simp only[dT,Sort.partialIns]at ht;subst ht;(repeat' ((conv=>whnf);first|refine zG ?_|apply zA|intro h|exact zT));all_goals conv=>whnf
  exact⟨_,Weak.bool,hK⟩
theorem Nr(d:Array Int)(a b:Nat)(s:Int)(ha:a<d.size)(hb:b<d.size)(hs0:0<=s)(hs:s<=1000){K:KT}
  (hK:∀(x y:Nat) (s':Int),(x=a/\y=b\/x=b/\y=a)->s<=s'->s'<=s+1->K (.tup [.v (.int .i64 x),.v (.int .i64 y)]) [iJ d,Ha s']):
  AC 320 [.os 0 1 0 d.size,.v (.int .i64 a),.v (.int .i64 b),.op 1 0] [iJ d,Ha s] K:=by
 refine aCS rfl rfl ?_;(repeat' ((conv=>whnf);first|(with_reducible first|refine mH _ _ ?_|refine iA ha ?_|refine iA hb ?_|refine jK ha ?_|refine jK hb ?_)|refine zG ?_|apply zA|intro h|exact zT));all_goals conv=>whnf
 ·exact hK b a (s+1) (.inr ⟨rfl,rfl⟩) zo (cC _)
 ·exact hK a b s (.inl ⟨rfl,rfl⟩) (cC _) zo
theorem Tg(d:Array Int)(a b c:Nat)(s:Int)(ha:a<d.size)(hb:b<d.size)(hc:c<d.size)(hs0:0<=s)(hs:s<=900){K:KT}
  (hK:∀(m:Nat) (s':Int),(m=a\/m=b\/m=c)->s<=s'->s'<=s+3->K (.v (.int .i64 m)) [iJ d,Ha s']):
  AC 305 [.os 0 1 0 d.size,.v (.int .i64 a),.v (.int .i64 b),.v (.int .i64 c),.op 1 0] [iJ d,Ha s] K:=by
 refine aHR rfl rfl ?_;(repeat' ((conv=>whnf);first|refine zG ?_|apply zA|intro h|exact zT));all_goals conv=>whnf
 refine Nr d a b s ha hb hs0 zo fun x1 y1 s1 h1 l1 u1=>?_;have hx1:x1<d.size:=by omega
 have hy1:y1<d.size:=by omega
 (repeat' ((conv=>whnf);first|refine zG ?_|apply zA|intro h|exact zT));all_goals conv=>whnf
 refine Nr d y1 c s1 hy1 hc zo zo fun x2 y2 s2 h2 l2 u2=>?_;have hx2:x2<d.size:=by omega
 (repeat' ((conv=>whnf);first|refine zG ?_|apply zA|intro h|exact zT));all_goals conv=>whnf
 refine Nr d x1 x2 s2 hx1 hx2 zo zo fun x3 y3 s3 h3 l3 u3=>?_;(repeat' ((conv=>whnf);first|refine zG ?_|apply zA|intro h|exact zT));all_goals conv=>whnf
 exact hK y3 s3 zo zo zo
theorem Nq(d:Array Int)(a:Nat)(s:Int)(ha0:1<=a)(ha:a+1<d.size)(hsz:d.size<1000000000000)(hs0:0<=s)(hs:s<=900){K:KT}
  (hK:∀(m:Nat) (s':Int),a<=m+1->m<=a+1->s<=s'->s'<=s+3->K (.v (.int .i64 m)) [iJ d,Ha s']):
  AC 304 [.os 0 1 0 d.size,.v (.int .i64 a),.op 1 0] [iJ d,Ha s] K:=by
 refine aCR rfl rfl ?_;have e1:(a:Int)-1=((a-1:Nat):Int):=by omega
 have e2:(a:Int)+1=((a+1:Nat):Int):=by omega
 (repeat' ((conv=>whnf);first|refine zG ?_|apply zA|intro h|exact zT));all_goals conv=>whnf
 rw[e1,e2];refine Tg d (a-1) a (a+1) s zo zo zo hs0 hs fun m s' h l u=>?_;(repeat' ((conv=>whnf);first|refine zG ?_|apply zA|intro h|exact zT));all_goals conv=>whnf
 exact hK m s' zo zo l u
theorem aKT(d:Array Int)(a b:Nat)(hab:a<b)(hb:b<=d.size)(hsz:d.size<1000000000000){K:KT}
  (hK:∀(p:Nat) (h:Int),a<=p->p<b->K (.tup [.v (.int .i64 p),.v (.int .i64 h)]) [iJ d]):
  AC 273 [.os 0 1 0 d.size,.v (.int .i64 a),.v (.int .i64 b)] [iJ d] K:=by
 refine aHV rfl rfl ?_;have q0:((b:Int)-a).tdiv 4=(((b-a)/4:Nat):Int):=by rw[bX zo];omega
 have hw:∀{K:Int->Prop},K (((b-a)/4:Nat):Int)->Wr .i64 (((b:Int)-a).tdiv 4) K:=fun h=>jB q0 zo zo h;(repeat' ((conv=>whnf);first|(with_reducible refine hw ?_)|refine zG ?_|apply zA|intro h|exact zT));all_goals conv=>whnf
 all_goals
  have hq1:4*((b-a)/4)<=b-a:=by omega
  have hq2:b-a<4*((b-a)/4)+4:=by omega
  clear hw q0;generalize (b-a)/4=q at*;have e1:(a:Int)+(q:Int)*1=((a+q:Nat):Int):=by omega
  have e2:(a:Int)+(q:Int)*2=((a+2*q:Nat):Int):=by omega
  have e3:(a:Int)+(q:Int)*3=((a+3*q:Nat):Int):=by omega
  rw[e2]
 ·rw[e1];refine Nq d (a+q) 0 zo zo hsz zo zo fun i s1 hi1 hi2 l1 u1=>?_;(repeat' ((conv=>whnf);first|refine zG ?_|apply zA|intro h|exact zT));all_goals conv=>whnf
  refine Nq d (a+2*q) s1 zo zo hsz zo zo fun j s2 hj1 hj2 l2 u2=>?_;(repeat' ((conv=>whnf);first|refine zG ?_|apply zA|intro h|exact zT));all_goals conv=>whnf
  rw[e3];refine Nq d (a+3*q) s2 zo zo hsz zo zo fun k s3 hk1 hk2 l3 u3=>?_;(repeat' ((conv=>whnf);first|refine zG ?_|apply zA|intro h|exact zT));all_goals conv=>whnf
  refine Tg d i j k s3 zo zo zo zo zo fun m s4 hm l4 u4=>?_;(repeat' ((conv=>whnf);first|refine zG ?_|apply zA|intro h|exact zT));all_goals conv=>whnf
  all_goals exact hK m _ zo zo
 ·rw[e1,e3];refine Tg d (a+q) (a+2*q) (a+3*q) 0 zo zo zo zo zo fun m s4 hm l4 u4=>?_;(repeat' ((conv=>whnf);first|refine zG ?_|apply zA|intro h|exact zT));all_goals conv=>whnf
  all_goals exact hK m _ zo zo
 ·exact hK _ _ zo zo
theorem aKJ(d:Array Int)(a b:Nat)(hab:a<b)(hb:b<=d.size)(hsz:d.size<1000000000000){K:KT}(hK:∀e,Sort.PermIn a b d e->K (.tup []) [iJ e]):
  AC 272 [.os 0 1 0 d.size,.v (.int .i64 a),.v (.int .i64 b)] [iJ d] K:=by
 refine aHP rfl rfl ?_;have q0:((b:Int)-a).tdiv 4=(((b-a)/4:Nat):Int):=by rw[bX zo];omega
 have hw:∀{K:Int->Prop},K (((b-a)/4:Nat):Int)->Wr .i64 (((b:Int)-a).tdiv 4) K:=fun h=>jB q0 zo zo h;have hba:(b:Int)-a=((b-a:Nat):Int):=by omega
 have hpow:∀{K:KT},(∀n:Nat,vO (b-a) n->K (.v (.int .u64 ((2^n:Nat):Int))) [])->AC 234 [.v (.int .i64 ((b:Int)-a))] [] K:=fun h=>by rw[hba];exact aAC (b-a) zo h
 (repeat' ((conv=>whnf);first|(with_reducible first|refine hw ?_|refine hpow fun n hn=>?_)|refine zG ?_|apply zA|intro h|exact zT));all_goals conv=>whnf
 ·have h8:=h;have hp2:2^n<=2*(b-a):=by
   rcases hn.2 with h1|h1
   ·subst h1;omega
   ·rcases n with _|n
    ·omega
    ·rw[Nat.add_sub_cancel]at h1;rw[Nat.pow_succ];omega
  have hp1:=hn.1;have hp0:=fE n;have hq1:4*((b-a)/4)<=b-a:=by omega
  have hq2:b-a<4*((b-a)/4)+4:=by omega
  clear hpow q0;generalize (b-a)/4=q at*;generalize 2^n=M at*;refine gM (Nat×Int×Array Int) (fun g=>⟨2,[(0,iJ g.2.2),(1,.box [.v (.int .u64 g.2.1)])],[(0,.os 0 1 0 d.size),(1,.v (.int .i64 a)),(6,.v (.int .i64 ((b:Int)-a))),(7,.op 1 0),(8,.v (.int .u64 ((M:Nat):Int))),(9,.v (.int .i64 g.1))]⟩)
   (fun g=>a+2*q<=g.1+1/\g.1<=a+2*q+2/\0<=g.2.1/\g.2.1<=18446744073709551615/\Sort.PermIn a b d g.2.2) (fun g=>a+2*q+2-g.1) (a+2*q-1,(b:Int)-a,d) ⟨by dsimp only;omega,by dsimp only;omega,by dsimp only;omega,by dsimp only;omega,Sort.permIn_refl d a b⟩ ?_ ?_
  ·dsimp only;rw[show((a+2*q-1:Nat):Int)=(a:Int)+(q:Int)*2-1 by omega];exact leA
  rintro⟨i,r,e⟩ ⟨hi1,hi2,hr1,hr2,hpe⟩
  simp only at hi1 hi2 hr1 hr2 hpe⊢;have hes:e.size=d.size:=hpe.1;rcases aC (a+2*q+1) i with h1|h1
  ·(repeat' ((conv=>whnf);first|(with_reducible refine hw ?_)|refine zG ?_|apply zA|intro h|exact zT));all_goals conv=>whnf
   exact hK e hpe
  ·(repeat' ((conv=>whnf);first|(with_reducible first|refine hw ?_|refine aAB r hr1 hr2 fun r' h0 h1=>?_)|refine zG ?_|apply zA|intro h|exact zT));all_goals conv=>whnf
   obtain⟨r',rfl⟩:=dS h0;have hM1:(M:Int)-1=((M-1:Nat):Int):=by omega
   obtain⟨o,ho,hom⟩:=Ky (r:=r') (m:=M-1) zo;rw[hM1,ho];have n1:i<d.size:=by omega
   have n1':i<e.size:=by omega
   have step:∀o':Nat,o'<b-a->∃g':Nat×Int×Array Int,(a+2*q<=g'.1+1/\g'.1<=a+2*q+2/\0<=g'.2.1/\g'.2.1<=18446744073709551615/\Sort.PermIn a b d g'.2.2)/\a+2*q+2-g'.1<a+2*q+2-i/\g'=(i+1,(r':Int),Sort.swp e i (a+o')):=fun o' ho'=>
    ⟨(i+1,(r':Int),Sort.swp e i (a+o')),⟨by dsimp only;omega,by dsimp only;omega,h0,h1,Sort.permIn_trans _ _ _ _ _ hpe (Sort.swp_permIn _ _ _ _ _ zo zo zo zo zo)⟩,by dsimp only;omega,rfl⟩
   rcases aC o (b-a)with hoL|hoL
   ·have n2':a+o<e.size:=by omega
    obtain⟨g',k1,k2,rfl⟩:=step o hoL;(repeat' ((conv=>whnf);first|(with_reducible refine iA n1 ?_)|(refine gU (a+o) zo zo ?_)|(with_reducible first|refine jK n1' ?_|refine jK n2' ?_)|(refine rH n2' fun z=>?_)|(rw[pU])|refine zG ?_|apply zA|intro h|exact zT));all_goals conv=>whnf
    refine⟨_,k1,k2,?_⟩;dsimp only;rw[aN,aL];exact leA
   ·have n2':a+(o-(b-a))<e.size:=by omega
    obtain⟨g',k1,k2,rfl⟩:=step (o-(b-a)) zo;(repeat' ((conv=>whnf);first|(with_reducible refine iA n1 ?_)|(refine gU (a+(o-(b-a))) zo zo ?_)|(with_reducible first|refine jK n1' ?_|refine jK n2' ?_)|(refine rH n2' fun z=>?_)|(rw[pU])|refine zG ?_|apply zA|intro h|exact zT));all_goals conv=>whnf
    refine⟨_,k1,k2,?_⟩;dsimp only;rw[aN i,aL];exact leA
 ·exact hK d (Sort.permIn_refl d a b)
end Go.Proofs.YtnomkooikbhgmaaGreatDoor
