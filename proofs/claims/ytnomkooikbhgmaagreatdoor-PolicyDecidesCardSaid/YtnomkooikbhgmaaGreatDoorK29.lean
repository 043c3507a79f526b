/- Lemmas. -/
import Derived.Test.YtnomkooikbhgmaaGreatDoorProg
import Derived.Shelf.SlLaysF0
import Derived.Test.YtnomkooikbhgmaaGreatDoorK28
set_option linter.unusedVariables false
set_option linter.unusedSimpArgs false
set_option maxRecDepth 100000
set_option maxHeartbeats 4000000
noncomputable section
namespace Go.Proofs.YtnomkooikbhgmaaGreatDoor
open Go Go.Vm
section
variable {n:Nat} {d:Array Int} (hn:d.size=n) (a b:Nat) (hsz:n<1000000000000) {K:KT}
include hn hsz
theorem aED(hab:a<=b)(hb:b<=n)(hK:∀e,Sort.PermIn a b d e->Sort.SortedIn Sort.ltInt a b e->K (.tup []) [iJ e]):
  AC 270 [.os 0 1 0 n,.v (.int .i64 a),.v (.int .i64 b)] [iJ d] K:=by
 subst hn;have h:=Sort.insertionSort_holds Sort.swo_ltInt d a b hab hb;exact aKN d a b hab hb hsz (hK _ h.1 h.2)
theorem aAz(hab:a<b)(hb:b<=n)(hK:∀e,Sort.PermIn a b d e->Sort.SortedIn Sort.ltInt a b e->K (.tup []) [iJ e]):
  AC 271 [.os 0 1 0 n,.v (.int .i64 a),.v (.int .i64 b)] [iJ d] K:=by
 subst hn;have h:=Sort.heapSort_holds Sort.swo_ltInt d a b zo hb;exact aEC d a b hab hb hsz (hK _ h.1 h.2)
theorem Hj(hab:a<b)(hb:b<=n)(hK:∀e,Sort.PermIn a b d e->K (.tup []) [iJ e]):
  AC 272 [.os 0 1 0 n,.v (.int .i64 a),.v (.int .i64 b)] [iJ d] K:=by
 subst hn;exact aKJ d a b hab hb hsz hK
theorem Ho(hab:a<b)(hb:b<=n)(hK:∀e,Sort.PermIn a b d e->K (.tup []) [iJ e]):
  AC 274 [.os 0 1 0 n,.v (.int .i64 a),.v (.int .i64 b)] [iJ d] K:=by
 subst hn;exact aKU d a b hab hb hsz (hK _ (Sort.reverseRange_holds d a b zo hb))
theorem Hm(hab:a<b)(hb:b<=n)(hK:∀(p:Nat) (h:Int),a<=p->p<b->K (.tup [.v (.int .i64 p),.v (.int .i64 h)]) [iJ d]):
  AC 273 [.os 0 1 0 n,.v (.int .i64 a),.v (.int .i64 b)] [iJ d] K:=by
 subst hn;exact aKT d a b hab hb hsz hK
theorem Dp(hab:a<b)(hb:b<=n)(hB:Sort.Below Sort.ltInt a b d)(hK:∀e (r:Bool),Sort.PermIn a b d e->(r=true->Sort.SortedIn Sort.ltInt a b e)->K (.sb r) [iJ e]):
  AC 275 [.os 0 1 0 n,.v (.int .i64 a),.v (.int .i64 b)] [iJ d] K:=by
 subst hn;have h:=Sort.partialInsertionSort_holds Sort.swo_ltInt d a b hab hb hB;exact aEG d a b hab hb hsz (hK _ _ h.1 h.2)
theorem Hk(p:Nat)(hap:a<=p)(hpb:p<b)(hb:b<=n)(ha0:0<a)(hB:Sort.Below Sort.ltInt a b d)(hnl:Sort.ltInt d[a-1]! d[p]! =false)
  (hK:∀e (mid:Nat),a<mid->mid<=b->e.size=n->Sort.Below Sort.ltInt mid b e->(∀R,Sort.PermIn mid b e R->Sort.SortedIn Sort.ltInt mid b R->Sort.PermIn a b d R/\Sort.SortedIn Sort.ltInt a b R)->K (.v (.int .i64 mid)) [iJ e]):
  AC 277 [.os 0 1 0 n,.v (.int .i64 a),.v (.int .i64 b),.v (.int .i64 p)] [iJ d] K:=by
 subst hn;obtain⟨h1,h2,h3,h4,h5⟩:=Sort.round_eq Sort.swo_ltInt (Sort.partitionEqual_holds Sort.ltInt) ha0 hap hpb hb hB hnl rfl;exact aKR d a b p hap hpb hb hsz (hK _ _ h1 h2 h3 h4 h5)
theorem qU(p:Nat)(hap:a<=p)(hpb:p<b)(hb:b<=n)(hB:Sort.Below Sort.ltInt a b d)
  (hK:∀e (mid:Nat) (r:Bool),a<=mid->mid<b->e.size=n->Sort.Below Sort.ltInt a mid e->Sort.Below Sort.ltInt (mid+1) b e->
   (∀L,Sort.PermIn a mid e L->Sort.SortedIn Sort.ltInt a mid L->Sort.Below Sort.ltInt (mid+1) b L/\∀R,Sort.PermIn (mid+1) b L R->Sort.SortedIn Sort.ltInt (mid+1) b R->Sort.PermIn a b d R/\Sort.SortedIn Sort.ltInt a b R)->
   (∀L,Sort.PermIn (mid+1) b e L->Sort.SortedIn Sort.ltInt (mid+1) b L->Sort.Below Sort.ltInt a mid L/\∀R,Sort.PermIn a mid L R->Sort.SortedIn Sort.ltInt a mid R->Sort.PermIn a b d R/\Sort.SortedIn Sort.ltInt a b R)->
   K (.tup [.v (.int .i64 mid),.sb r]) [iJ e]):
  AC 278 [.os 0 1 0 n,.v (.int .i64 a),.v (.int .i64 b),.v (.int .i64 p)] [iJ d] K:=by
 subst hn;obtain⟨h1,h2,h3,h4,h5,h6,h7⟩:=Sort.round_part Sort.swo_ltInt (Sort.partition_holds Sort.ltInt) hap hpb hb hB rfl;exact aEF d a b p hap hpb hb hsz (hK _ _ _ h1 h2 h3 h4 h5 h6 h7)
end
theorem aKQ:∀(N n:Nat) (d:Array Int) (a b limit:Nat) {K:KT},b-a<N->d.size=n->a<=b->b<=n->n<1000000000000->limit<1000->Sort.Below Sort.ltInt a b d->(∀e,Sort.PermIn a b d e->Sort.SortedIn Sort.ltInt a b e->K (.tup []) [iJ e])->
  AC 208 [.os 0 1 0 n,.v (.int .i64 a),.v (.int .i64 b),.v (.int .i64 limit)] [iJ d] K:=by
 intro N
 induction N with
 |zero=>intro n d a b limit K h;omega
 |succ N ih=>
  intro n d a b limit K hN hn hab hb hsz hlim hBel hK;refine aHT rfl rfl ?_;(repeat' ((conv=>whnf);first|refine zG ?_|apply zA|intro h|exact zT));all_goals conv=>whnf
  refine gM (Nat×Nat×Nat×AV×AV×Array Int) (fun g=>⟨1,[(0,iJ g.2.2.2.2.2)],[(0,.os 0 1 0 n),(1,.v (.int .i64 g.1)),(2,.v (.int .i64 g.2.1)),(3,.v (.int .i64 g.2.2.1)),(8,g.2.2.2.1),(9,g.2.2.2.2.1)]⟩)
   (fun g=>a<=g.1/\g.1<=g.2.1/\g.2.1<=b/\g.2.2.1<=limit/\(g.2.2.2.1=.v (.bool true)\/∃c,g.2.2.2.1=.sb c)/\(g.2.2.2.2.1=.v (.bool true)\/∃c,g.2.2.2.2.1=.sb c)/\g.2.2.2.2.2.size=n/\Sort.Below Sort.ltInt g.1 g.2.1 g.2.2.2.2.2/\
    ∀R,Sort.PermIn g.1 g.2.1 g.2.2.2.2.2 R->Sort.SortedIn Sort.ltInt g.1 g.2.1 R->Sort.PermIn a b d R/\Sort.SortedIn Sort.ltInt a b R)
   (fun g=>g.2.1-g.1) (a,b,limit,.v (.bool true),.v (.bool true),d) ⟨aK _,hab,aK _,aK _,.inl rfl,.inl rfl,hn,hBel,fun R h1 h2=>⟨h1,h2⟩⟩ ?_ ?_
  ·exact leA
  rintro⟨a1,b1,l1,vb,vp,e⟩ ⟨ha1,hab1,hb1,hl1,hvb,hvp,hes,hB,hfin⟩
  simp only at ha1 hab1 hb1 hl1 hvb hvp hes hB hfin⊢;have hd1:((b1:Int)-a1<=12)=(b1-a1<=12):=by apply propext;omega
  rcases aC 12 (b1-a1)with h12|h12
  ·rcases cK l1 with h0|h0
   ·subst h0;(repeat' ((conv=>whnf);first|(with_reducible refine aAz hes a1 b1 hsz zo zo fun r h1 h2=>?_)|refine zG ?_|apply zA|intro h|exact zT));all_goals conv=>whnf
    exact hK r (hfin r h1 h2).1 (hfin r h1 h2).2
   ·rcases hvb with rfl|⟨c,rfl⟩<;>rcases hvp with rfl|⟨c',rfl⟩
    ·have hl1:(l1:Int)-1=((l1-1:Nat):Int):=by omega
     (repeat' ((conv=>whnf);first|refine zG ?_|apply zA|intro h|exact zT));all_goals conv=>whnf
     refine gY (Nat×Array Int) (fun g=>⟨1,[(0,iJ g.2)],[(0,.os 0 1 0 n),(1,.v (.int .i64 a1)),(2,.v (.int .i64 b1)),(3,.v (.int .i64 g.1)),(8,.v (.bool true)),(9,.v (.bool true)),(10,.v (.int .i64 ((b1:Int)-a1)))]⟩) (fun g=>g.1<=limit/\Sort.PermIn a1 b1 e g.2) ?_ ?_
     ·(repeat' ((conv=>whnf);first|(with_reducible refine Hj hes a1 b1 hsz zo zo fun e1 he1=>?_)|refine zG ?_|apply zA|intro h|exact zT));all_goals conv=>whnf
      all_goals first
       |(refine⟨(l1-1,e1),⟨by dsimp only;omega,he1⟩,?_⟩
         dsimp only;rw[<-hl1];(exact leA))
       |(refine⟨(l1,e),⟨by assumption,Sort.permIn_refl _ _ _⟩,?_⟩
         (exact leA))
     rintro⟨l2,e1⟩ ⟨hl2,he1⟩
     simp only at hl2 he1⊢;have he1s:e1.size=n:=he1.1.trans hes;(repeat' ((conv=>whnf);first|(with_reducible refine Hm he1s a1 b1 hsz zo zo fun p hh hp1 hp2=>?_)|refine zG ?_|apply zA|intro h|exact zT));all_goals conv=>whnf
     refine gY (Nat×Int×Array Int) (fun g=>⟨1,[(0,iJ g.2.2)],[(0,.os 0 1 0 n),(1,.v (.int .i64 a1)),(2,.v (.int .i64 b1)),(3,.v (.int .i64 l2)),(8,.v (.bool true)),(9,.v (.bool true)),(10,.v (.int .i64 ((b1:Int)-a1))),(11,.v (.int .i64 g.1)),(12,.v (.int .i64 g.2.1))]⟩) (fun g=>a1<=g.1/\g.1<b1/\Sort.PermIn a1 b1 e g.2.2) ?_ ?_
     ·(repeat' ((conv=>whnf);first|(with_reducible refine Ho he1s a1 b1 hsz zo zo fun e2 he2=>?_)|refine zG ?_|apply zA|intro h|exact zT));all_goals conv=>whnf
      all_goals first
       |(refine⟨((b1-1)-(p-a1),1,e2),⟨by dsimp only;omega,by dsimp only;omega,Sort.permIn_trans _ _ _ _ _ he1 he2⟩,?_⟩
         dsimp only;rw[show(((b1-1)-(p-a1):Nat):Int)=(b1:Int)-1-((p:Int)-a1) by omega];(exact leA))
       |(refine⟨(p,hh,e1),⟨hp1,hp2,he1⟩,?_⟩
         (exact leA))
     rintro⟨p2,h2,e2⟩ ⟨hp21,hp22,he2⟩
     simp only at hp21 hp22 he2⊢;clear he1s he1 e1 hp1 hp2 p hh;have he2s:e2.size=n:=he2.1.trans hes;have hB2:=hB.perm zo he2;refine gY (Array Int) (fun g=>⟨1,[(0,iJ g)],[(0,.os 0 1 0 n),(1,.v (.int .i64 a1)),(2,.v (.int .i64 b1)),(3,.v (.int .i64 l2)),(8,.v (.bool true)),(9,.v (.bool true)),(10,.v (.int .i64 ((b1:Int)-a1))),(11,.v (.int .i64 p2))]⟩) (fun g=>Sort.PermIn a1 b1 e g) ?_ ?_
     ·have stay:∃g:Array Int,Sort.PermIn a1 b1 e g/\g=e2:=⟨e2,he2,rfl⟩
      have pins:∀{K:KT},(∀e (r:Bool),Sort.PermIn a1 b1 e2 e->(r=true->Sort.SortedIn Sort.ltInt a1 b1 e)->K (.sb r) [iJ e])->AC 275 [.os 0 1 0 n,.v (.int .i64 a1),.v (.int .i64 b1)] [iJ e2] K:=fun h=>Dp he2s a1 b1 hsz zo zo hB2 h;(repeat' ((conv=>whnf);first|(with_reducible refine pins fun e3 r he3 hr=>?_)|refine zG ?_|apply zA|intro h|exact zT));all_goals conv=>whnf
      all_goals first
       |exact hK e3 (hfin e3 (Sort.permIn_trans _ _ _ _ _ he2 he3) (hr zp)).1 (hfin e3 (Sort.permIn_trans _ _ _ _ _ he2 he3) (hr zp)).2
       |(refine⟨e3,Sort.permIn_trans _ _ _ _ _ he2 he3,?_⟩
         (exact leA))
       |(refine⟨e2,he2,?_⟩
         (exact leA))
     intro e3 he3;have he3s:e3.size=n:=he3.1.trans hes;have hB3:=hB.perm zo he3;have hw8:∀{K:Int->Prop},K (((b1-a1)/8:Nat):Int)->Wr .i64 (((b1:Int)-a1).tdiv 8) K:=fun h=>jB (by rw[bX zo];omega) zo zo h;have n2:p2<n:=by omega
     have n2':p2<e3.size:=by omega
     have part:∀{Q:Prop},Q->Q:=fun h=>h;rcases cK a1 with ha0|ha0
     ·(repeat' ((conv=>whnf);first|refine zG ?_|apply zA|intro h|exact zT));all_goals conv=>whnf
      refine qU he3s a1 b1 hsz p2 hp21 hp22 zo hB3 fun e4 mid r k1 k2 k3 k4 k5 k6 k7=>?_;have hr1:∀{K:KT},(∀L,Sort.PermIn a1 mid e4 L->Sort.SortedIn Sort.ltInt a1 mid L->K (.tup []) [iJ L])->AC 208 [.os 0 1 0 n,.v (.int .i64 a1),.v (.int .i64 mid),.v (.int .i64 l2)] [iJ e4] K:=fun h=>ih n e4 a1 mid l2 zo k3 k1 zo hsz zo k4 h;have hr2:∀{K:KT},(∀L,Sort.PermIn (mid+1) b1 e4 L->Sort.SortedIn Sort.ltInt (mid+1) b1 L->K (.tup []) [iJ L])->AC 208 [.os 0 1 0 n,.v (.int .i64 ((mid:Int)+1)),.v (.int .i64 b1),.v (.int .i64 l2)] [iJ e4] K:=fun h=>by
       rw[show(mid:Int)+1=((mid+1:Nat):Int) by omega];exact ih n e4 (mid+1) b1 l2 zo k3 zo zo hsz zo k5 h
      (repeat' ((conv=>whnf);first|(with_reducible first|refine hw8 ?_|refine hr1 fun L hL hs=>?_|refine hr2 fun L hL hs=>?_)|refine zG ?_|apply zA|intro h|exact zT));all_goals conv=>whnf
      ·obtain⟨m1,m2⟩:=k6 L hL hs;refine⟨(mid+1,b1,l2,.sb (decide ((((b1-a1)/8:Nat):Int)<=(mid:Int)-a1)),.sb r,L),⟨by dsimp only;omega,by dsimp only;omega,by dsimp only;omega,by dsimp only;assumption,.inr ⟨_,rfl⟩,.inr ⟨_,rfl⟩,hL.1.trans k3,m1,fun R q1 q2=>?_⟩,by dsimp only;omega,?_⟩
       ·obtain⟨q3,q4⟩:=m2 R q1 q2;exact hfin R (Sort.permIn_trans _ _ _ _ _ he3 q3) q4
       ·dsimp only;rw[show((mid+1:Nat):Int)=(mid:Int)+1 by omega];exact leA
      ·obtain⟨m1,m2⟩:=k7 L hL hs;refine⟨(a1,mid,l2,.sb (decide ((((b1-a1)/8:Nat):Int)<=(b1:Int)-mid)),.sb r,L),⟨by dsimp only;omega,by dsimp only;omega,by dsimp only;omega,by dsimp only;assumption,.inr ⟨_,rfl⟩,.inr ⟨_,rfl⟩,hL.1.trans k3,m1,fun R q1 q2=>?_⟩,by dsimp only;omega,?_⟩
       ·obtain⟨q3,q4⟩:=m2 R q1 q2;exact hfin R (Sort.permIn_trans _ _ _ _ _ he3 q3) q4
       ·exact leA
     ·have n1':a1-1<e3.size:=by omega
      (repeat' ((conv=>whnf);first|(with_reducible refine mH _ _ ?_)|(refine gU (a1-1) zo zo ?_)|(with_reducible first|refine iA n2 ?_|refine jK n1' ?_|refine jK n2' ?_)|refine zG ?_|apply zA|intro h|exact zT));all_goals conv=>whnf
      ·refine qU he3s a1 b1 hsz p2 hp21 hp22 zo hB3 fun e4 mid r k1 k2 k3 k4 k5 k6 k7=>?_;have hr1:∀{K:KT},(∀L,Sort.PermIn a1 mid e4 L->Sort.SortedIn Sort.ltInt a1 mid L->K (.tup []) [iJ L])->AC 208 [.os 0 1 0 n,.v (.int .i64 a1),.v (.int .i64 mid),.v (.int .i64 l2)] [iJ e4] K:=fun h=>ih n e4 a1 mid l2 zo k3 k1 zo hsz zo k4 h;have hr2:∀{K:KT},(∀L,Sort.PermIn (mid+1) b1 e4 L->Sort.SortedIn Sort.ltInt (mid+1) b1 L->K (.tup []) [iJ L])->AC 208 [.os 0 1 0 n,.v (.int .i64 ((mid:Int)+1)),.v (.int .i64 b1),.v (.int .i64 l2)] [iJ e4] K:=fun h=>by
        rw[show(mid:Int)+1=((mid+1:Nat):Int) by omega];exact ih n e4 (mid+1) b1 l2 zo k3 zo zo hsz zo k5 h
       (repeat' ((conv=>whnf);first|(with_reducible first|refine hw8 ?_|refine hr1 fun L hL hs=>?_|refine hr2 fun L hL hs=>?_)|refine zG ?_|apply zA|intro h|exact zT));all_goals conv=>whnf
       ·obtain⟨m1,m2⟩:=k6 L hL hs;refine⟨(mid+1,b1,l2,.sb (decide ((((b1-a1)/8:Nat):Int)<=(mid:Int)-a1)),.sb r,L),⟨by dsimp only;omega,by dsimp only;omega,by dsimp only;omega,by dsimp only;assumption,.inr ⟨_,rfl⟩,.inr ⟨_,rfl⟩,hL.1.trans k3,m1,fun R q1 q2=>?_⟩,by dsimp only;omega,?_⟩
        ·obtain⟨q3,q4⟩:=m2 R q1 q2;exact hfin R (Sort.permIn_trans _ _ _ _ _ he3 q3) q4
        ·dsimp only;rw[show((mid+1:Nat):Int)=(mid:Int)+1 by omega];exact leA
       ·obtain⟨m1,m2⟩:=k7 L hL hs;refine⟨(a1,mid,l2,.sb (decide ((((b1-a1)/8:Nat):Int)<=(b1:Int)-mid)),.sb r,L),⟨by dsimp only;omega,by dsimp only;omega,by dsimp only;omega,by dsimp only;assumption,.inr ⟨_,rfl⟩,.inr ⟨_,rfl⟩,hL.1.trans k3,m1,fun R q1 q2=>?_⟩,by dsimp only;omega,?_⟩
        ·obtain⟨q3,q4⟩:=m2 R q1 q2;exact hfin R (Sort.permIn_trans _ _ _ _ _ he3 q3) q4
        ·exact leA
      ·refine Hk he3s a1 b1 hsz p2 hp21 hp22 zo ha0 hB3 zp fun e4 mid k1 k2 k3 k4 k5=>?_;(repeat' ((conv=>whnf);first|refine zG ?_|apply zA|intro h|exact zT));all_goals conv=>whnf
       refine⟨(mid,b1,l2,.v (.bool true),.v (.bool true),e4),⟨by dsimp only;omega,by dsimp only;omega,by dsimp only;omega,by dsimp only;assumption,.inl rfl,.inl rfl,k3,k4,fun R q1 q2=>?_⟩,by dsimp only;omega,?_⟩
       ·obtain⟨q3,q4⟩:=k5 R q1 q2;exact hfin R (Sort.permIn_trans _ _ _ _ _ he3 q3) q4
       ·exact leA
    ·have hl1:(l1:Int)-1=((l1-1:Nat):Int):=by omega
     (repeat' ((conv=>whnf);first|refine zG ?_|apply zA|intro h|exact zT));all_goals conv=>whnf
     refine gY (Nat×Array Int) (fun g=>⟨1,[(0,iJ g.2)],[(0,.os 0 1 0 n),(1,.v (.int .i64 a1)),(2,.v (.int .i64 b1)),(3,.v (.int .i64 g.1)),(8,.v (.bool true)),(9,.sb c'),(10,.v (.int .i64 ((b1:Int)-a1)))]⟩) (fun g=>g.1<=limit/\Sort.PermIn a1 b1 e g.2) ?_ ?_
     ·(repeat' ((conv=>whnf);first|(with_reducible refine Hj hes a1 b1 hsz zo zo fun e1 he1=>?_)|refine zG ?_|apply zA|intro h|exact zT));all_goals conv=>whnf
      all_goals first
       |(refine⟨(l1-1,e1),⟨by dsimp only;omega,he1⟩,?_⟩
         dsimp only;rw[<-hl1];(exact leA))
       |(refine⟨(l1,e),⟨by assumption,Sort.permIn_refl _ _ _⟩,?_⟩
         (exact leA))
     rintro⟨l2,e1⟩ ⟨hl2,he1⟩
     simp only at hl2 he1⊢;have he1s:e1.size=n:=he1.1.trans hes;(repeat' ((conv=>whnf);first|(with_reducible refine Hm he1s a1 b1 hsz zo zo fun p hh hp1 hp2=>?_)|refine zG ?_|apply zA|intro h|exact zT));all_goals conv=>whnf
     refine gY (Nat×Int×Array Int) (fun g=>⟨1,[(0,iJ g.2.2)],[(0,.os 0 1 0 n),(1,.v (.int .i64 a1)),(2,.v (.int .i64 b1)),(3,.v (.int .i64 l2)),(8,.v (.bool true)),(9,.sb c'),(10,.v (.int .i64 ((b1:Int)-a1))),(11,.v (.int .i64 g.1)),(12,.v (.int .i64 g.2.1))]⟩) (fun g=>a1<=g.1/\g.1<b1/\Sort.PermIn a1 b1 e g.2.2) ?_ ?_
     ·(repeat' ((conv=>whnf);first|(with_reducible refine Ho he1s a1 b1 hsz zo zo fun e2 he2=>?_)|refine zG ?_|apply zA|intro h|exact zT));all_goals conv=>whnf
      all_goals first
       |(refine⟨((b1-1)-(p-a1),1,e2),⟨by dsimp only;omega,by dsimp only;omega,Sort.permIn_trans _ _ _ _ _ he1 he2⟩,?_⟩
         dsimp only;rw[show(((b1-1)-(p-a1):Nat):Int)=(b1:Int)-1-((p:Int)-a1) by omega];(exact leA))
       |(refine⟨(p,hh,e1),⟨hp1,hp2,he1⟩,?_⟩
         (exact leA))
     rintro⟨p2,h2,e2⟩ ⟨hp21,hp22,he2⟩
     simp only at hp21 hp22 he2⊢;clear he1s he1 e1 hp1 hp2 p hh;have he2s:e2.size=n:=he2.1.trans hes;have hB2:=hB.perm zo he2;refine gY (Array Int) (fun g=>⟨1,[(0,iJ g)],[(0,.os 0 1 0 n),(1,.v (.int .i64 a1)),(2,.v (.int .i64 b1)),(3,.v (.int .i64 l2)),(8,.v (.bool true)),(9,.sb c'),(10,.v (.int .i64 ((b1:Int)-a1))),(11,.v (.int .i64 p2))]⟩) (fun g=>Sort.PermIn a1 b1 e g) ?_ ?_
     ·have stay:∃g:Array Int,Sort.PermIn a1 b1 e g/\g=e2:=⟨e2,he2,rfl⟩
      have pins:∀{K:KT},(∀e (r:Bool),Sort.PermIn a1 b1 e2 e->(r=true->Sort.SortedIn Sort.ltInt a1 b1 e)->K (.sb r) [iJ e])->AC 275 [.os 0 1 0 n,.v (.int .i64 a1),.v (.int .i64 b1)] [iJ e2] K:=fun h=>Dp he2s a1 b1 hsz zo zo hB2 h;(repeat' ((conv=>whnf);first|(with_reducible refine pins fun e3 r he3 hr=>?_)|refine zG ?_|apply zA|intro h|exact zT));all_goals conv=>whnf
      all_goals first
       |exact hK e3 (hfin e3 (Sort.permIn_trans _ _ _ _ _ he2 he3) (hr zp)).1 (hfin e3 (Sort.permIn_trans _ _ _ _ _ he2 he3) (hr zp)).2
       |(refine⟨e3,Sort.permIn_trans _ _ _ _ _ he2 he3,?_⟩
         (exact leA))
       |(refine⟨e2,he2,?_⟩
         (exact leA))
     intro e3 he3;have he3s:e3.size=n:=he3.1.trans hes;have hB3:=hB.perm zo he3;have hw8:∀{K:Int->Prop},K (((b1-a1)/8:Nat):Int)->Wr .i64 (((b1:Int)-a1).tdiv 8) K:=fun h=>jB (by rw[bX zo];omega) zo zo h;have n2:p2<n:=by omega
     have n2':p2<e3.size:=by omega
     have part:∀{Q:Prop},Q->Q:=fun h=>h;rcases cK a1 with ha0|ha0
     ·(repeat' ((conv=>whnf);first|refine zG ?_|apply zA|intro h|exact zT));all_goals conv=>whnf
      refine qU he3s a1 b1 hsz p2 hp21 hp22 zo hB3 fun e4 mid r k1 k2 k3 k4 k5 k6 k7=>?_;have hr1:∀{K:KT},(∀L,Sort.PermIn a1 mid e4 L->Sort.SortedIn Sort.ltInt a1 mid L->K (.tup []) [iJ L])->AC 208 [.os 0 1 0 n,.v (.int .i64 a1),.v (.int .i64 mid),.v (.int .i64 l2)] [iJ e4] K:=fun h=>ih n e4 a1 mid l2 zo k3 k1 zo hsz zo k4 h;have hr2:∀{K:KT},(∀L,Sort.PermIn (mid+1) b1 e4 L->Sort.SortedIn Sort.ltInt (mid+1) b1 L->K (.tup []) [iJ L])->AC 208 [.os 0 1 0 n,.v (.int .i64 ((mid:Int)+1)),.v (.int .i64 b1),.v (.int .i64 l2)] [iJ e4] K:=fun h=>by
       rw[show(mid:Int)+1=((mid+1:Nat):Int) by omega];exact ih n e4 (mid+1) b1 l2 zo k3 zo zo hsz zo k5 h
      (repeat' ((conv=>whnf);first|(with_reducible first|refine hw8 ?_|refine hr1 fun L hL hs=>?_|refine hr2 fun L hL hs=>?_)|refine zG ?_|apply zA|intro h|exact zT));all_goals conv=>whnf
      ·obtain⟨m1,m2⟩:=k6 L hL hs;refine⟨(mid+1,b1,l2,.sb (decide ((((b1-a1)/8:Nat):Int)<=(mid:Int)-a1)),.sb r,L),⟨by dsimp only;omega,by dsimp only;omega,by dsimp only;omega,by dsimp only;assumption,.inr ⟨_,rfl⟩,.inr ⟨_,rfl⟩,hL.1.trans k3,m1,fun R q1 q2=>?_⟩,by dsimp only;omega,?_⟩
       ·obtain⟨q3,q4⟩:=m2 R q1 q2;exact hfin R (Sort.permIn_trans _ _ _ _ _ he3 q3) q4
       ·dsimp only;rw[show((mid+1:Nat):Int)=(mid:Int)+1 by omega];exact leA
      ·obtain⟨m1,m2⟩:=k7 L hL hs;refine⟨(a1,mid,l2,.sb (decide ((((b1-a1)/8:Nat):Int)<=(b1:Int)-mid)),.sb r,L),⟨by dsimp only;omega,by dsimp only;omega,by dsimp only;omega,by dsimp only;assumption,.inr ⟨_,rfl⟩,.inr ⟨_,rfl⟩,hL.1.trans k3,m1,fun R q1 q2=>?_⟩,by dsimp only;omega,?_⟩
       ·obtain⟨q3,q4⟩:=m2 R q1 q2;exact hfin R (Sort.permIn_trans _ _ _ _ _ he3 q3) q4
       ·exact leA
     ·have n1':a1-1<e3.size:=by omega
      (repeat' ((conv=>whnf);first|(with_reducible refine mH _ _ ?_)|(refine gU (a1-1) zo zo ?_)|(with_reducible first|refine iA n2 ?_|refine jK n1' ?_|refine jK n2' ?_)|refine zG ?_|apply zA|intro h|exact zT));all_goals conv=>whnf
      ·refine qU he3s a1 b1 hsz p2 hp21 hp22 zo hB3 fun e4 mid r k1 k2 k3 k4 k5 k6 k7=>?_;have hr1:∀{K:KT},(∀L,Sort.PermIn a1 mid e4 L->Sort.SortedIn Sort.ltInt a1 mid L->K (.tup []) [iJ L])->AC 208 [.os 0 1 0 n,.v (.int .i64 a1),.v (.int .i64 mid),.v (.int .i64 l2)] [iJ e4] K:=fun h=>ih n e4 a1 mid l2 zo k3 k1 zo hsz zo k4 h;have hr2:∀{K:KT},(∀L,Sort.PermIn (mid+1) b1 e4 L->Sort.SortedIn Sort.ltInt (mid+1) b1 L->K (.tup []) [iJ L])->AC 208 [.os 0 1 0 n,.v (.int .i64 ((mid:Int)+1)),.v (.int .i64 b1),.v (.int .i64 l2)] [iJ e4] K:=fun h=>by
        rw[show(mid:Int)+1=((mid+1:Nat):Int) by omega];exact ih n e4 (mid+1) b1 l2 zo k3 zo zo hsz zo k5 h
       (repeat' ((conv=>whnf);first|(with_reducible first|refine hw8 ?_|refine hr1 fun L hL hs=>?_|refine hr2 fun L hL hs=>?_)|refine zG ?_|apply zA|intro h|exact zT));all_goals conv=>whnf
       ·obtain⟨m1,m2⟩:=k6 L hL hs;refine⟨(mid+1,b1,l2,.sb (decide ((((b1-a1)/8:Nat):Int)<=(mid:Int)-a1)),.sb r,L),⟨by dsimp only;omega,by dsimp only;omega,by dsimp only;omega,by dsimp only;assumption,.inr ⟨_,rfl⟩,.inr ⟨_,rfl⟩,hL.1.trans k3,m1,fun R q1 q2=>?_⟩,by dsimp only;omega,?_⟩
        ·obtain⟨q3,q4⟩:=m2 R q1 q2;exact hfin R (Sort.permIn_trans _ _ _ _ _ he3 q3) q4
        ·dsimp only;rw[show((mid+1:Nat):Int)=(mid:Int)+1 by omega];exact leA
       ·obtain⟨m1,m2⟩:=k7 L hL hs;refine⟨(a1,mid,l2,.sb (decide ((((b1-a1)/8:Nat):Int)<=(b1:Int)-mid)),.sb r,L),⟨by dsimp only;omega,by dsimp only;omega,by dsimp only;omega,by dsimp only;assumption,.inr ⟨_,rfl⟩,.inr ⟨_,rfl⟩,hL.1.trans k3,m1,fun R q1 q2=>?_⟩,by dsimp only;omega,?_⟩
        ·obtain⟨q3,q4⟩:=m2 R q1 q2;exact hfin R (Sort.permIn_trans _ _ _ _ _ he3 q3) q4
        ·exact leA
      ·refine Hk he3s a1 b1 hsz p2 hp21 hp22 zo ha0 hB3 zp fun e4 mid k1 k2 k3 k4 k5=>?_;(repeat' ((conv=>whnf);first|refine zG ?_|apply zA|intro h|exact zT));all_goals conv=>whnf
       refine⟨(mid,b1,l2,.v (.bool true),.sb c',e4),⟨by dsimp only;omega,by dsimp only;omega,by dsimp only;omega,by dsimp only;assumption,.inl rfl,.inr ⟨_,rfl⟩,k3,k4,fun R q1 q2=>?_⟩,by dsimp only;omega,?_⟩
       ·obtain⟨q3,q4⟩:=k5 R q1 q2;exact hfin R (Sort.permIn_trans _ _ _ _ _ he3 q3) q4
       ·exact leA
    ·have hl1:(l1:Int)-1=((l1-1:Nat):Int):=by omega
     (repeat' ((conv=>whnf);first|refine zG ?_|apply zA|intro h|exact zT));all_goals conv=>whnf
     refine gY (Nat×Array Int) (fun g=>⟨1,[(0,iJ g.2)],[(0,.os 0 1 0 n),(1,.v (.int .i64 a1)),(2,.v (.int .i64 b1)),(3,.v (.int .i64 g.1)),(8,.sb c),(9,.v (.bool true)),(10,.v (.int .i64 ((b1:Int)-a1)))]⟩) (fun g=>g.1<=limit/\Sort.PermIn a1 b1 e g.2) ?_ ?_
     ·(repeat' ((conv=>whnf);first|(with_reducible refine Hj hes a1 b1 hsz zo zo fun e1 he1=>?_)|refine zG ?_|apply zA|intro h|exact zT));all_goals conv=>whnf
      all_goals first
       |(refine⟨(l1-1,e1),⟨by dsimp only;omega,he1⟩,?_⟩
         dsimp only;rw[<-hl1];(exact leA))
       |(refine⟨(l1,e),⟨by assumption,Sort.permIn_refl _ _ _⟩,?_⟩
         (exact leA))
     rintro⟨l2,e1⟩ ⟨hl2,he1⟩
     simp only at hl2 he1⊢;have he1s:e1.size=n:=he1.1.trans hes;(repeat' ((conv=>whnf);first|(with_reducible refine Hm he1s a1 b1 hsz zo zo fun p hh hp1 hp2=>?_)|refine zG ?_|apply zA|intro h|exact zT));all_goals conv=>whnf
     refine gY (Nat×Int×Array Int) (fun g=>⟨1,[(0,iJ g.2.2)],[(0,.os 0 1 0 n),(1,.v (.int .i64 a1)),(2,.v (.int .i64 b1)),(3,.v (.int .i64 l2)),(8,.sb c),(9,.v (.bool true)),(10,.v (.int .i64 ((b1:Int)-a1))),(11,.v (.int .i64 g.1)),(12,.v (.int .i64 g.2.1))]⟩) (fun g=>a1<=g.1/\g.1<b1/\Sort.PermIn a1 b1 e g.2.2) ?_ ?_
     ·(repeat' ((conv=>whnf);first|(with_reducible refine Ho he1s a1 b1 hsz zo zo fun e2 he2=>?_)|refine zG ?_|apply zA|intro h|exact zT));all_goals conv=>whnf
      all_goals first
       |(refine⟨((b1-1)-(p-a1),1,e2),⟨by dsimp only;omega,by dsimp only;omega,Sort.permIn_trans _ _ _ _ _ he1 he2⟩,?_⟩
         dsimp only;rw[show(((b1-1)-(p-a1):Nat):Int)=(b1:Int)-1-((p:Int)-a1) by omega];(exact leA))
       |(refine⟨(p,hh,e1),⟨hp1,hp2,he1⟩,?_⟩
         (exact leA))
     rintro⟨p2,h2,e2⟩ ⟨hp21,hp22,he2⟩
     simp only at hp21 hp22 he2⊢;clear he1s he1 e1 hp1 hp2 p hh;have he2s:e2.size=n:=he2.1.trans hes;have hB2:=hB.perm zo he2;refine gY (Array Int) (fun g=>⟨1,[(0,iJ g)],[(0,.os 0 1 0 n),(1,.v (.int .i64 a1)),(2,.v (.int .i64 b1)),(3,.v (.int .i64 l2)),(8,.sb c),(9,.v (.bool true)),(10,.v (.int .i64 ((b1:Int)-a1))),(11,.v (.int .i64 p2))]⟩) (fun g=>Sort.PermIn a1 b1 e g) ?_ ?_
     ·have stay:∃g:Array Int,Sort.PermIn a1 b1 e g/\g=e2:=⟨e2,he2,rfl⟩
      have pins:∀{K:KT},(∀e (r:Bool),Sort.PermIn a1 b1 e2 e->(r=true->Sort.SortedIn Sort.ltInt a1 b1 e)->K (.sb r) [iJ e])->AC 275 [.os 0 1 0 n,.v (.int .i64 a1),.v (.int .i64 b1)] [iJ e2] K:=fun h=>Dp he2s a1 b1 hsz zo zo hB2 h;(repeat' ((conv=>whnf);first|(with_reducible refine pins fun e3 r he3 hr=>?_)|refine zG ?_|apply zA|intro h|exact zT));all_goals conv=>whnf
      all_goals first
       |exact hK e3 (hfin e3 (Sort.permIn_trans _ _ _ _ _ he2 he3) (hr zp)).1 (hfin e3 (Sort.permIn_trans _ _ _ _ _ he2 he3) (hr zp)).2
       |(refine⟨e3,Sort.permIn_trans _ _ _ _ _ he2 he3,?_⟩
         (exact leA))
       |(refine⟨e2,he2,?_⟩
         (exact leA))
     intro e3 he3;have he3s:e3.size=n:=he3.1.trans hes;have hB3:=hB.perm zo he3;have hw8:∀{K:Int->Prop},K (((b1-a1)/8:Nat):Int)->Wr .i64 (((b1:Int)-a1).tdiv 8) K:=fun h=>jB (by rw[bX zo];omega) zo zo h;have n2:p2<n:=by omega
     have n2':p2<e3.size:=by omega
     have part:∀{Q:Prop},Q->Q:=fun h=>h;rcases cK a1 with ha0|ha0
     ·(repeat' ((conv=>whnf);first|refine zG ?_|apply zA|intro h|exact zT));all_goals conv=>whnf
      refine qU he3s a1 b1 hsz p2 hp21 hp22 zo hB3 fun e4 mid r k1 k2 k3 k4 k5 k6 k7=>?_;have hr1:∀{K:KT},(∀L,Sort.PermIn a1 mid e4 L->Sort.SortedIn Sort.ltInt a1 mid L->K (.tup []) [iJ L])->AC 208 [.os 0 1 0 n,.v (.int .i64 a1),.v (.int .i64 mid),.v (.int .i64 l2)] [iJ e4] K:=fun h=>ih n e4 a1 mid l2 zo k3 k1 zo hsz zo k4 h;have hr2:∀{K:KT},(∀L,Sort.PermIn (mid+1) b1 e4 L->Sort.SortedIn Sort.ltInt (mid+1) b1 L->K (.tup []) [iJ L])->AC 208 [.os 0 1 0 n,.v (.int .i64 ((mid:Int)+1)),.v (.int .i64 b1),.v (.int .i64 l2)] [iJ e4] K:=fun h=>by
       rw[show(mid:Int)+1=((mid+1:Nat):Int) by omega];exact ih n e4 (mid+1) b1 l2 zo k3 zo zo hsz zo k5 h
      (repeat' ((conv=>whnf);first|(with_reducible first|refine hw8 ?_|refine hr1 fun L hL hs=>?_|refine hr2 fun L hL hs=>?_)|refine zG ?_|apply zA|intro h|exact zT));all_goals conv=>whnf
      ·obtain⟨m1,m2⟩:=k6 L hL hs;refine⟨(mid+1,b1,l2,.sb (decide ((((b1-a1)/8:Nat):Int)<=(mid:Int)-a1)),.sb r,L),⟨by dsimp only;omega,by dsimp only;omega,by dsimp only;omega,by dsimp only;assumption,.inr ⟨_,rfl⟩,.inr ⟨_,rfl⟩,hL.1.trans k3,m1,fun R q1 q2=>?_⟩,by dsimp only;omega,?_⟩
       ·obtain⟨q3,q4⟩:=m2 R q1 q2;exact hfin R (Sort.permIn_trans _ _ _ _ _ he3 q3) q4
       ·dsimp only;rw[show((mid+1:Nat):Int)=(mid:Int)+1 by omega];exact leA
      ·obtain⟨m1,m2⟩:=k7 L hL hs;refine⟨(a1,mid,l2,.sb (decide ((((b1-a1)/8:Nat):Int)<=(b1:Int)-mid)),.sb r,L),⟨by dsimp only;omega,by dsimp only;omega,by dsimp only;omega,by dsimp only;assumption,.inr ⟨_,rfl⟩,.inr ⟨_,rfl⟩,hL.1.trans k3,m1,fun R q1 q2=>?_⟩,by dsimp only;omega,?_⟩
       ·obtain⟨q3,q4⟩:=m2 R q1 q2;exact hfin R (Sort.permIn_trans _ _ _ _ _ he3 q3) q4
       ·exact leA
     ·have n1':a1-1<e3.size:=by omega
      (repeat' ((conv=>whnf);first|(with_reducible refine mH _ _ ?_)|(refine gU (a1-1) zo zo ?_)|(with_reducible first|refine iA n2 ?_|refine jK n1' ?_|refine jK n2' ?_)|refine zG ?_|apply zA|intro h|exact zT));all_goals conv=>whnf
      ·refine qU he3s a1 b1 hsz p2 hp21 hp22 zo hB3 fun e4 mid r k1 k2 k3 k4 k5 k6 k7=>?_;have hr1:∀{K:KT},(∀L,Sort.PermIn a1 mid e4 L->Sort.SortedIn Sort.ltInt a1 mid L->K (.tup []) [iJ L])->AC 208 [.os 0 1 0 n,.v (.int .i64 a1),.v (.int .i64 mid),.v (.int .i64 l2)] [iJ e4] K:=fun h=>ih n e4 a1 mid l2 zo k3 k1 zo hsz zo k4 h;have hr2:∀{K:KT},(∀L,Sort.PermIn (mid+1) b1 e4 L->Sort.SortedIn Sort.ltInt (mid+1) b1 L->K (.tup []) [iJ L])->AC 208 [.os 0 1 0 n,.v (.int .i64 ((mid:Int)+1)),.v (.int .i64 b1),.v (.int .i64 l2)] [iJ e4] K:=fun h=>by
        rw[show(mid:Int)+1=((mid+1:Nat):Int) by omega];exact ih n e4 (mid+1) b1 l2 zo k3 zo zo hsz zo k5 h
       (repeat' ((conv=>whnf);first|(with_reducible first|refine hw8 ?_|refine hr1 fun L hL hs=>?_|refine hr2 fun L hL hs=>?_)|refine zG ?_|apply zA|intro h|exact zT));all_goals conv=>whnf
       ·obtain⟨m1,m2⟩:=k6 L hL hs;refine⟨(mid+1,b1,l2,.sb (decide ((((b1-a1)/8:Nat):Int)<=(mid:Int)-a1)),.sb r,L),⟨by dsimp only;omega,by dsimp only;omega,by dsimp only;omega,by dsimp only;assumption,.inr ⟨_,rfl⟩,.inr ⟨_,rfl⟩,hL.1.trans k3,m1,fun R q1 q2=>?_⟩,by dsimp only;omega,?_⟩
        ·obtain⟨q3,q4⟩:=m2 R q1 q2;exact hfin R (Sort.permIn_trans _ _ _ _ _ he3 q3) q4
        ·dsimp only;rw[show((mid+1:Nat):Int)=(mid:Int)+1 by omega];exact leA
       ·obtain⟨m1,m2⟩:=k7 L hL hs;refine⟨(a1,mid,l2,.sb (decide ((((b1-a1)/8:Nat):Int)<=(b1:Int)-mid)),.sb r,L),⟨by dsimp only;omega,by dsimp only;omega,by dsimp only;omega,by dsimp only;assumption,.inr ⟨_,rfl⟩,.inr ⟨_,rfl⟩,hL.1.trans k3,m1,fun R q1 q2=>?_⟩,by dsimp only;omega,?_⟩
        ·obtain⟨q3,q4⟩:=m2 R q1 q2;exact hfin R (Sort.permIn_trans _ _ _ _ _ he3 q3) q4
        ·exact leA
      ·refine Hk he3s a1 b1 hsz p2 hp21 hp22 zo ha0 hB3 zp fun e4 mid k1 k2 k3 k4 k5=>?_;(repeat' ((conv=>whnf);first|refine zG ?_|apply zA|intro h|exact zT));all_goals conv=>whnf
       refine⟨(mid,b1,l2,.sb c,.v (.bool true),e4),⟨by dsimp only;omega,by dsimp only;omega,by dsimp only;omega,by dsimp only;assumption,.inr ⟨_,rfl⟩,.inl rfl,k3,k4,fun R q1 q2=>?_⟩,by dsimp only;omega,?_⟩
       ·obtain⟨q3,q4⟩:=k5 R q1 q2;exact hfin R (Sort.permIn_trans _ _ _ _ _ he3 q3) q4
       ·exact leA
    ·have hl1:(l1:Int)-1=((l1-1:Nat):Int):=by omega
     (repeat' ((conv=>whnf);first|refine zG ?_|apply zA|intro h|exact zT));all_goals conv=>whnf
     refine gY (Nat×Array Int) (fun g=>⟨1,[(0,iJ g.2)],[(0,.os 0 1 0 n),(1,.v (.int .i64 a1)),(2,.v (.int .i64 b1)),(3,.v (.int .i64 g.1)),(8,.sb c),(9,.sb c'),(10,.v (.int .i64 ((b1:Int)-a1)))]⟩) (fun g=>g.1<=limit/\Sort.PermIn a1 b1 e g.2) ?_ ?_
     ·(repeat' ((conv=>whnf);first|(with_reducible refine Hj hes a1 b1 hsz zo zo fun e1 he1=>?_)|refine zG ?_|apply zA|intro h|exact zT));all_goals conv=>whnf
      all_goals first
       |(refine⟨(l1-1,e1),⟨by dsimp only;omega,he1⟩,?_⟩
         dsimp only;rw[<-hl1];(exact leA))
       |(refine⟨(l1,e),⟨by assumption,Sort.permIn_refl _ _ _⟩,?_⟩
         (exact leA))
     rintro⟨l2,e1⟩ ⟨hl2,he1⟩
     simp only at hl2 he1⊢;have he1s:e1.size=n:=he1.1.trans hes;(repeat' ((conv=>whnf);first|(with_reducible refine Hm he1s a1 b1 hsz zo zo fun p hh hp1 hp2=>?_)|refine zG ?_|apply zA|intro h|exact zT));all_goals conv=>whnf
     refine gY (Nat×Int×Array Int) (fun g=>⟨1,[(0,iJ g.2.2)],[(0,.os 0 1 0 n),(1,.v (.int .i64 a1)),(2,.v (.int .i64 b1)),(3,.v (.int .i64 l2)),(8,.sb c),(9,.sb c'),(10,.v (.int .i64 ((b1:Int)-a1))),(11,.v (.int .i64 g.1)),(12,.v (.int .i64 g.2.1))]⟩) (fun g=>a1<=g.1/\g.1<b1/\Sort.PermIn a1 b1 e g.2.2) ?_ ?_
     ·(repeat' ((conv=>whnf);first|(with_reducible refine Ho he1s a1 b1 hsz zo zo fun e2 he2=>?_)|refine zG ?_|apply zA|intro h|exact zT));all_goals conv=>whnf
      all_goals first
       |(refine⟨((b1-1)-(p-a1),1,e2),⟨by dsimp only;omega,by dsimp only;omega,Sort.permIn_trans _ _ _ _ _ he1 he2⟩,?_⟩
         dsimp only;rw[show(((b1-1)-(p-a1):Nat):Int)=(b1:Int)-1-((p:Int)-a1) by omega];(exact leA))
       |(refine⟨(p,hh,e1),⟨hp1,hp2,he1⟩,?_⟩
         (exact leA))
     rintro⟨p2,h2,e2⟩ ⟨hp21,hp22,he2⟩
     simp only at hp21 hp22 he2⊢;clear he1s he1 e1 hp1 hp2 p hh;have he2s:e2.size=n:=he2.1.trans hes;have hB2:=hB.perm zo he2;refine gY (Array Int) (fun g=>⟨1,[(0,iJ g)],[(0,.os 0 1 0 n),(1,.v (.int .i64 a1)),(2,.v (.int .i64 b1)),(3,.v (.int .i64 l2)),(8,.sb c),(9,.sb c'),(10,.v (.int .i64 ((b1:Int)-a1))),(11,.v (.int .i64 p2))]⟩) (fun g=>Sort.PermIn a1 b1 e g) ?_ ?_
     ·have stay:∃g:Array Int,Sort.PermIn a1 b1 e g/\g=e2:=⟨e2,he2,rfl⟩
      have pins:∀{K:KT},(∀e (r:Bool),Sort.PermIn a1 b1 e2 e->(r=true->Sort.SortedIn Sort.ltInt a1 b1 e)->K (.sb r) [iJ e])->AC 275 [.os 0 1 0 n,.v (.int .i64 a1),.v (.int .i64 b1)] [iJ e2] K:=fun h=>Dp he2s a1 b1 hsz zo zo hB2 h;(repeat' ((conv=>whnf);first|(with_reducible refine pins fun e3 r he3 hr=>?_)|refine zG ?_|apply zA|intro h|exact zT));all_goals conv=>whnf
      all_goals first
       |exact hK e3 (hfin e3 (Sort.permIn_trans _ _ _ _ _ he2 he3) (hr zp)).1 (hfin e3 (Sort.permIn_trans _ _ _ _ _ he2 he3) (hr zp)).2
       |(refine⟨e3,Sort.permIn_trans _ _ _ _ _ he2 he3,?_⟩
         (exact leA))
       |(refine⟨e2,he2,?_⟩
         (exact leA))
     intro e3 he3;have he3s:e3.size=n:=he3.1.trans hes;have hB3:=hB.perm zo he3;have hw8:∀{K:Int->Prop},K (((b1-a1)/8:Nat):Int)->Wr .i64 (((b1:Int)-a1).tdiv 8) K:=fun h=>jB (by rw[bX zo];omega) zo zo h;have n2:p2<n:=by omega
     have n2':p2<e3.size:=by omega
     have part:∀{Q:Prop},Q->Q:=fun h=>h;rcases cK a1 with ha0|ha0
     ·(repeat' ((conv=>whnf);first|refine zG ?_|apply zA|intro h|exact zT));all_goals conv=>whnf
      refine qU he3s a1 b1 hsz p2 hp21 hp22 zo hB3 fun e4 mid r k1 k2 k3 k4 k5 k6 k7=>?_;have hr1:∀{K:KT},(∀L,Sort.PermIn a1 mid e4 L->Sort.SortedIn Sort.ltInt a1 mid L->K (.tup []) [iJ L])->AC 208 [.os 0 1 0 n,.v (.int .i64 a1),.v (.int .i64 mid),.v (.int .i64 l2)] [iJ e4] K:=fun h=>ih n e4 a1 mid l2 zo k3 k1 zo hsz zo k4 h;have hr2:∀{K:KT},(∀L,Sort.PermIn (mid+1) b1 e4 L->Sort.SortedIn Sort.ltInt (mid+1) b1 L->K (.tup []) [iJ L])->AC 208 [.os 0 1 0 n,.v (.int .i64 ((mid:Int)+1)),.v (.int .i64 b1),.v (.int .i64 l2)] [iJ e4] K:=fun h=>by
       rw[show(mid:Int)+1=((mid+1:Nat):Int) by omega];exact ih n e4 (mid+1) b1 l2 zo k3 zo zo hsz zo k5 h
      (repeat' ((conv=>whnf);first|(with_reducible first|refine hw8 ?_|refine hr1 fun L hL hs=>?_|refine hr2 fun L hL hs=>?_)|refine zG ?_|apply zA|intro h|exact zT));all_goals conv=>whnf
      ·obtain⟨m1,m2⟩:=k6 L hL hs;refine⟨(mid+1,b1,l2,.sb (decide ((((b1-a1)/8:Nat):Int)<=(mid:Int)-a1)),.sb r,L),⟨by dsimp only;omega,by dsimp only;omega,by dsimp only;omega,by dsimp only;assumption,.inr ⟨_,rfl⟩,.inr ⟨_,rfl⟩,hL.1.trans k3,m1,fun R q1 q2=>?_⟩,by dsimp only;omega,?_⟩
       ·obtain⟨q3,q4⟩:=m2 R q1 q2;exact hfin R (Sort.permIn_trans _ _ _ _ _ he3 q3) q4
       ·dsimp only;rw[show((mid+1:Nat):Int)=(mid:Int)+1 by omega];exact leA
      ·obtain⟨m1,m2⟩:=k7 L hL hs;refine⟨(a1,mid,l2,.sb (decide ((((b1-a1)/8:Nat):Int)<=(b1:Int)-mid)),.sb r,L),⟨by dsimp only;omega,by dsimp only;omega,by dsimp only;omega,by dsimp only;assumption,.inr ⟨_,rfl⟩,.inr ⟨_,rfl⟩,hL.1.trans k3,m1,fun R q1 q2=>?_⟩,by dsimp only;omega,?_⟩
       ·obtain⟨q3,q4⟩:=m2 R q1 q2;exact hfin R (Sort.permIn_trans _ _ _ _ _ he3 q3) q4
       ·exact leA
     ·have n1':a1-1<e3.size:=by omega
      (repeat' ((conv=>whnf);first|(with_reducible refine mH _ _ ?_)|(refine gU (a1-1) zo zo ?_)|(with_reducible first|refine iA n2 ?_|refine jK n1' ?_|refine jK n2' ?_)|refine zG ?_|apply zA|intro h|exact zT));all_goals conv=>whnf
      ·refine qU he3s a1 b1 hsz p2 hp21 hp22 zo hB3 fun e4 mid r k1 k2 k3 k4 k5 k6 k7=>?_;have hr1:∀{K:KT},(∀L,Sort.PermIn a1 mid e4 L->Sort.SortedIn Sort.ltInt a1 mid L->K (.tup []) [iJ L])->AC 208 [.os 0 1 0 n,.v (.int .i64 a1),.v (.int .i64 mid),.v (.int .i64 l2)] [iJ e4] K:=fun h=>ih n e4 a1 mid l2 zo k3 k1 zo hsz zo k4 h;have hr2:∀{K:KT},(∀L,Sort.PermIn (mid+1) b1 e4 L->Sort.SortedIn Sort.ltInt (mid+1) b1 L->K (.tup []) [iJ L])->AC 208 [.os 0 1 0 n,.v (.int .i64 ((mid:Int)+1)),.v (.int .i64 b1),.v (.int .i64 l2)] [iJ e4] K:=fun h=>by
        rw[show(mid:Int)+1=((mid+1:Nat):Int) by omega];exact ih n e4 (mid+1) b1 l2 zo k3 zo zo hsz zo k5 h
       (repeat' ((conv=>whnf);first|(with_reducible first|refine hw8 ?_|refine hr1 fun L hL hs=>?_|refine hr2 fun L hL hs=>?_)|refine zG ?_|apply zA|intro h|exact zT));all_goals conv=>whnf
       ·obtain⟨m1,m2⟩:=k6 L hL hs;refine⟨(mid+1,b1,l2,.sb (decide ((((b1-a1)/8:Nat):Int)<=(mid:Int)-a1)),.sb r,L),⟨by dsimp only;omega,by dsimp only;omega,by dsimp only;omega,by dsimp only;assumption,.inr ⟨_,rfl⟩,.inr ⟨_,rfl⟩,hL.1.trans k3,m1,fun R q1 q2=>?_⟩,by dsimp only;omega,?_⟩
        ·obtain⟨q3,q4⟩:=m2 R q1 q2;exact hfin R (Sort.permIn_trans _ _ _ _ _ he3 q3) q4
        ·dsimp only;rw[show((mid+1:Nat):Int)=(mid:Int)+1 by omega];exact leA
       ·obtain⟨m1,m2⟩:=k7 L hL hs;refine⟨(a1,mid,l2,.sb (decide ((((b1-a1)/8:Nat):Int)<=(b1:Int)-mid)),.sb r,L),⟨by dsimp only;omega,by dsimp only;omega,by dsimp only;omega,by dsimp only;assumption,.inr ⟨_,rfl⟩,.inr ⟨_,rfl⟩,hL.1.trans k3,m1,fun R q1 q2=>?_⟩,by dsimp only;omega,?_⟩
        ·obtain⟨q3,q4⟩:=m2 R q1 q2;exact hfin R (Sort.permIn_trans _ _ _ _ _ he3 q3) q4
        ·exact leA
      ·refine Hk he3s a1 b1 hsz p2 hp21 hp22 zo ha0 hB3 zp fun e4 mid k1 k2 k3 k4 k5=>?_;(repeat' ((conv=>whnf);first|refine zG ?_|apply zA|intro h|exact zT));all_goals conv=>whnf
       refine⟨(mid,b1,l2,.sb c,.sb c',e4),⟨by dsimp only;omega,by dsimp only;omega,by dsimp only;omega,by dsimp only;assumption,.inr ⟨_,rfl⟩,.inr ⟨_,rfl⟩,k3,k4,fun R q1 q2=>?_⟩,by dsimp only;omega,?_⟩
       ·obtain⟨q3,q4⟩:=k5 R q1 q2;exact hfin R (Sort.permIn_trans _ _ _ _ _ he3 q3) q4
       ·exact leA
  ·(repeat' ((conv=>whnf);first|(with_reducible refine aED hes a1 b1 hsz zo zo fun r h1 h2=>?_)|refine zG ?_|apply zA|intro h|exact zT));all_goals conv=>whnf
   exact hK r (hfin r h1 h2).1 (hfin r h1 h2).2
theorem aEI(l:List Int)(hl:l.length<1000000000000){K:KT}(hK:∀l':List Int,l'.Perm l->l'.Pairwise (· <= ·)->K (.tup []) [.arr 1 (l'.map lJ)]):
  AC 136 [.os 0 1 0 l.length] [.arr 1 (l.map lJ)] K:=by
 refine aCW rfl rfl ?_;have hp:∀{K:KT} (m:Nat),m<1000->(∀e:Array Int,Sort.PermIn 0 l.length l.toArray e->Sort.SortedIn Sort.ltInt 0 l.length e->K (.tup []) [iJ e])->AC 208 [.os 0 1 0 l.length,.v (.int .i64 0),.v (.int .i64 l.length),.v (.int .i64 m)] [.arr 1 (l.map lJ)] K:=fun m hm h=>
  aKQ (l.length+1) l.length l.toArray 0 l.length m zo zx (aO _) (aK _) hl hm (.inl rfl) h
 (repeat' ((conv=>whnf);first|(with_reducible refine Vu l.length hl fun m hm=>?_)|refine zG ?_|apply zA|intro h|exact zT));all_goals conv=>whnf
 have hm40:=Ud hl hm;(repeat' ((conv=>whnf);first|(with_reducible refine hp m zo fun e h1 h2=>?_)|refine zG ?_|apply zA|intro h|exact zT));all_goals conv=>whnf
 have hs:e.size=l.length:=by simpa using h1.1
 refine hK e.toList ?_ ?_
 ·have:=Gx (d:=l.toArray) (e:=e) (by simpa using h1);simpa using this
 ·exact tI (by rw[hs];exact h2)
theorem aEA(l:List Int)(hl:l.length<1000000000000){K:KT}(hK:∀zs,K (.os 0 1 0 (comp l).length) [.arr 1 ((comp l).map lJ++zs)]):
  AC 137 [.os 0 1 0 l.length] [.arr 1 (l.map lJ)] K:=by
 refine aCO rfl rfl ?_;rcases aC l.length 2 with h2|h2
 ·have e:comp l=l:=by
   rcases l with _|⟨x,_|⟨y,l⟩⟩
   ·rfl
   ·rfl
   ·simp only[aB]at h2;omega
  have:=hK [];rw[e,bI]at this;(repeat' ((conv=>whnf);first|refine zG ?_|apply zA|intro h|exact zT));all_goals conv=>whnf
  exact this
 ·(repeat' ((conv=>whnf);first|refine zG ?_|apply zA|intro h|exact zT));all_goals conv=>whnf
  refine gM Nat (fun k=>⟨1,[(0,.arr 1 (l.map lJ))],[(0,.os 0 1 0 l.length),(3,.v (.int .i64 k))]⟩) (fun k=>1<=k/\k<=l.length/\comp (l.take k)=l.take k) (fun k=>l.length-k) 1 ⟨aK _,by omega,?_⟩ ?_ ?_
  ·rcases l with _|⟨x,l⟩
   ·exact absurd h2 zx
   ·rfl
  ·exact leA
  intro k ⟨hk1,hk2,hk3⟩;rcases aC k l.length with hkl|hkl
  ·obtain⟨m,rfl⟩:∃m,k=m+1:=⟨k-1,by omega⟩
   obtain⟨x,hx⟩:∃x,l[m]? =some x:=⟨_,aE zo⟩
   obtain⟨y,hy⟩:∃y,l[m+1]? =some y:=⟨_,aE hkl⟩
   have hx0:l[0+m]? =some x:=by rw[bD];exact hx
   have hy0:l[0+(m+1)]? =some y:=by rw[bD];exact hy
   have hn:=xV hx hy;(repeat' ((conv=>whnf);first|(with_reducible refine iA hkl ?_)|(refine gU m zo zo ?_)|(with_reducible first|refine hU hx0 ?_|refine hU hy0 ?_)|(refine gZ (m+1) l.length rfl rfl zo (aK _) ?_)|refine zG ?_|apply zA|intro h|exact zT));all_goals conv=>whnf
   ·have hxy:x=y:=h.symm;rw[aH hxy,hk3]at hn;refine gM Nat (fun q=>⟨1,[(0,.arr 1 ((comp (l.take (m+2+q))++l.drop (comp (l.take (m+2+q))).length).map lJ))],[(0,.os 0 1 0 l.length),(3,.v (.int .i64 (comp (l.take (m+2+q))).length)),(4,.os 0 1 (0+(m+1)) (l.length-(m+1))),(5,.v (.int .i64 ((q+1:Nat):Int)))]⟩) (fun q=>m+2+q<=l.length/\(comp (l.take (m+2+q))).length<m+2+q) (fun q=>l.length-q) 0 ⟨by omega,by rw[dV,hn,aZ];omega⟩ ?_ ?_
    ·have e1:(l.take (m+1)).length=m+1:=by rw[aZ];omega
     rw[dV,hn,e1,cN];exact leA
    intro q ⟨hq1,hq2⟩;obtain⟨C,hC⟩:∃C,C=comp (l.take (m+2+q)):=⟨_,rfl⟩
    rw[<-hC]at hq2⊢;rcases aC (m+2+q) l.length with hql|hql
    ·obtain⟨u,hu⟩:∃u,l[m+1+q]? =some u:=⟨_,aE zo⟩
     obtain⟨v,hv⟩:∃v,l[m+1+q+1]? =some v:=⟨_,aE zo⟩
     have hnx:=xV hu hv;rw[show m+1+q+2=m+2+(q+1) by omega,show m+1+q+1=m+2+q by omega,<-hC]at hnx;have hget:∀i,C.length<=i->(C++l.drop C.length)[i]? =l[i]? :=fun i hi=>by
      rw[bH hi,cD]
      congr 1;omega
     have hu0:(C++l.drop C.length)[0+(m+1)+q]? =some u:=by rw[bD,hget _ zo];exact hu
     have hv0:(C++l.drop C.length)[0+(m+1)+(q+1)]? =some v:=by rw[bD,hget _ zo];exact hv
     obtain⟨z,hz⟩:∃z,l[C.length]? =some z:=⟨_,aE zo⟩
     have hz0:(C++l.drop C.length)[0+C.length]? =some z:=by rw[bD,hget _ (aK _)];exact hz
     have hCn:C.length<l.length:=by omega
     have hdr:l.drop C.length=z::l.drop (C.length+1):=by
      rw[aE hCn]at hz;rw[<-bG hz,<-bB hCn]
     have hset:((C++l.drop C.length).map lJ).set (0+C.length) (lJ v)=((C++[v])++l.drop (C++[v]).length).map lJ:=by
      rw[bD,<-eW,dZ _ _ (aK _),dT,hdr];simp
     (repeat' ((conv=>whnf);first|(refine gU q zo zo ?_)|(refine gU (q+1) zo zo ?_)|(with_reducible first|refine iA hCn ?_|refine hU hu0 ?_|refine hU hv0 ?_|refine hU hz0 ?_)|refine zG ?_|apply zA|intro h|exact zT));all_goals conv=>whnf
     all_goals first
      |(rw[aF (fun e=>h e.symm)]at hnx
        refine⟨q+1,⟨by omega,by rw[hnx,aD];simp;omega⟩,by omega,?_⟩;rw[hnx,hset,show((C++[v]).length:Int)=(C.length:Int)+1 by simp,show((q+1+1:Nat):Int)=((q+1:Nat):Int)+1 by omega];exact leA)
      |(rw[aH (by first|exact h.symm|exact(Decidable.not_not.1 h).symm)]at hnx
        refine⟨q+1,⟨by omega,by rw[hnx];omega⟩,by omega,?_⟩;rw[hnx,show((q+1+1:Nat):Int)=((q+1:Nat):Int)+1 by omega];(exact leA))
    ·have hCl:C=comp l:=by rw[hC,aU hql]
     have hCn:C.length<=l.length:=by omega
     (repeat' ((conv=>whnf);first|(refine gZ C.length l.length rfl rfl hCn (aK _) ?_)|(refine gZ 0 C.length rfl rfl (aO _) hCn ?_)|refine zG ?_|apply zA|intro h|exact zT));all_goals conv=>whnf
     have e1:(List.map lJ (C++l.drop C.length)).take (0+C.length)=C.map lJ:=by
      rw[bD,aQ,fF zx]
     rw[e1,dV,eN,hCl];exact hK _
   ·refine⟨m+2,⟨by omega,by omega,?_⟩,by omega,?_⟩
    ·rw[hn,aF (fun e=>h e.symm),hk3,bF (i:=m+1),hy];rfl
    ·rw[show((m+2:Nat):Int)=((m+1:Nat):Int)+1 by omega];exact leA
  ·have e:comp l=l:=by rw[aU hkl]at hk3;exact hk3
   have:=hK [];rw[e,bI]at this;(repeat' ((conv=>whnf);first|refine zG ?_|apply zA|intro h|exact zT));all_goals conv=>whnf
   exact this
def Bi:Sched:=lz [1,3,5,7,9,15,17,19,21,23] (.wch 5 (ln [12,24,27,28,30,33]))
def aRQ:Ctx:={N:=28,plan:=p1 5 Bi pn,out:=true}
abbrev Ju:=ofD aRQ Tryz.func103
def gnCpI:Ctx:={N:=55,own:=oz [103],plan:=p1 1 (lz [1,3,7] (.wch 4 (.alt 2 (.alt 5 (ln [13,14,16]) (.alt 7 (ln [10,13,16]) Aa)) (.alt 7 (ln [4,10,13,16]) Aa)))) (p1 5 (lz [1,5,9,19,21,23,25,27,29] (.wch 3 (lz [11,13] (.wch 7 (.alt 1 (ln [16,30,33,34,36,39,40]) (.alt 8 (.alt 1 (ln [30,33,34,36,39,40]) (.alt 15 (ln [3,33,34,36,39,40]) Aa)) Aa)))))) pn),hints:=h1 2 [.freeze 1] (h1 6 [.flatB 3 2,.virtB 3 1 2,.virtB 3 2 2] hn),out:=true}
def aRR:Ctx:={N:=28,plan:=p1 5 Bi pn,hints:=h1 6 [.flatS 3,.virt 3 2] hn,out:=true}
abbrev aOc:=ofD aRR Tryz.func103
def aRP:Ctx:={N:=55,own:=oz [103],plan:=gnCpI.plan,hints:=h1 2 [.freeze 1] (h1 6 [.flatB 3 2,.virtB 3 2 2] hn),out:=true}
abbrev aOb:=ofD aRP Tryz.func44
def aRS:Ctx:={N:=55,own:=oz [103],plan:=gnCpI.plan,hints:=h1 2 [.freeze 1] (h1 6 [.flatB 3 2,.virtB 3 2 2] hn),out:=true}
abbrev aOd:=ofD aRS Tryz.func44
def aRW:Ctx:={N:=272,np:=1,own:=oz [44,11,47,48,45,46],plan:=gnSpo.plan}
abbrev rI:=ofD aRW Tryz.func10
def aLW:Ctx:={N:=272,np:=1,own:=oz [44,11,47,48,45,46],plan:=gnSpo.plan,hints:=h1 37 [.flatB 5 0] hn}
abbrev aGN:=ofD aLW Tryz.func10
def gnSpW:Ctx:={N:=272,np:=1,own:=oz [44,11,47,48,45,46],plan:=gnSpo.plan,cut:=oz [37]}
def aPU:Code:=bdy Tryz.f10
abbrev aOh:=ofD gnSpW Tryz.func10
end Go.Proofs.YtnomkooikbhgmaaGreatDoor
namespace Go.Vm
abbrev wD:=Option Nat×Sched×Array Bool
def Hc(own:FuncId->Bool)(ops:Array Oper)(q:wD):Bool:=
 match q.1,q.2.1,q.2.2 with
 |none,.done,L=>(Region.ready .any ops L).isEmpty
 |none,.one i true rest,L=>(Region.ready .any ops L).contains i&&(Region.free .any ops L i&&(((ops[i]?).map fun o=>kJ o.op).getD false&&
   (((ops[i]?).map fun o=>D3 o.op).getD false||(List.range ops.size).all fun j=>L.getD j true||(((ops[j]?).map fun o=>kJ o.op||oF own o.op).getD true||nV ops ops.size j i))))
 |none,.one i false rest,L=>decide (Region.ready .any ops L=[i])
 |none,.alt i a more,L=>decide (Region.ready .any ops L=i::more.heads)
 |some d,.alt i a more,L=>a.depth==d
 |some _,.stop,_=>true
 |none,.wch i rest,L=>(Region.ready .any ops L).contains i&&Region.free .any ops L i
 |_,_,_=>false
def Gn(q:wD):List wD:=
 match q.1,q.2.1,q.2.2 with
 |none,.one i _ rest,L=>[(none,rest,L.setIfInBounds i true)]
 |none,.alt i a more,L=>[(none,a,L.setIfInBounds i true),(some a.depth,more,L)]
 |some d,.alt i a more,L=>[(none,a,L.setIfInBounds i true),(some d,more,L)]
 |none,.wch i rest,L=>[(none,rest,L.setIfInBounds i true)]
 |_,_,_=>[]
def okP(own:FuncId->Bool)(ops:Array Oper)(q:wD):Bool:=kS own ops q.1 q.2.1 q.2.2
theorem aDo{own:FuncId->Bool}{ops:Array Oper}{q:wD}(h1:Hc own ops q=true)(h2:(Gn q).all (okP own ops)=true):okP own ops q=true:=by
 obtain⟨c,s,L⟩:=q;unfold okP;cases c with
 |none=>
  cases s with
  |done=>simpa[kS,Hc]using h1
  |one i b rest=>
   cases b with
   |true=>
    simp only[Hc,Gn,eX,gG,eY,okP,aJ]at h1 h2;simp only[kS,aJ];exact⟨h1.1,h1.2.1,h1.2.2.1,h1.2.2.2,h2⟩
   |false=>
    simp only[Hc,Gn,eX,gG,eY,okP]at h1 h2;simp only[kS,aJ];exact⟨h1,h2⟩
  |alt i a more=>
   simp only[Hc,Gn,eX,gG,eY,okP,aJ]at h1 h2;simp only[kS,aJ];exact⟨h1,h2.1,h2.2⟩
  |stop=>simp[Hc]at h1
  |wch i rest=>
   simp only[Hc,Gn,eX,gG,eY,okP,aJ]at h1 h2;simp only[kS,aJ];exact⟨h1.1,h1.2,h2⟩
 |some d=>
  cases s with
  |alt i a more=>
   simp only[Hc,Gn,eX,gG,eY,okP,aJ]at h1 h2;simp only[kS,aJ];exact⟨h1,h2.1,h2.2⟩
  |stop=>rfl
  |done=>simp[Hc]at h1
  |one _ _ _=>simp[Hc]at h1
  |wch _ _=>simp[Hc]at h1
def Oa:Nat->List wD->List wD
 |0,l=>l
 |n+1,l=>Oa n (l.flatMap Gn)
def Q9(own:FuncId->Bool)(ops:Array Oper):Nat->List wD->Bool
 |0,_=>true
 |n+1,l=>l.all (Hc own ops)&&Q9 own ops n (l.flatMap Gn)
theorem Q2{own:FuncId->Bool}{ops:Array Oper}:∀(n:Nat) {l:List wD},Q9 own ops n l=true->(Oa n l).all (okP own ops)=true->l.all (okP own ops)=true
 |0,_,_,h=>h
 |n+1,l,h1,h2=>by
  simp only[Q9,aJ,bP]at h1;have h3:=Q2 n h1.2 h2;rw[bP]at h3⊢;intro q hq;refine aDo (h1.1 q hq) (bP.2 fun k hk=>h3 k (dP.2 ⟨q,hq,hk⟩))
def Sg(ops:Array Oper)(s:Sched):List wD:=[(none,s,Array.replicate ops.size false)]
theorem M6{α:Type}{p:α->Bool}{l:List α}(k:Nat)(h1:(l.take k).all p=true)(h2:(l.drop k).all p=true):l.all p=true:=by
 rw[<-cN k l,List.all_append,h1,h2];rfl
theorem Y3{own:FuncId->Bool}{ops:Array Oper}{s:Sched}(n:Nat)(h0:(Region.noSelect ops&&s.depth==ops.size)=true)(h1:Q9 own ops n (Sg ops s)=true)(h2:(Oa n (Sg ops s)).all (okP own ops)=true):Ft own ops s=true:=by
 have h:=Q2 n h1 h2;simp only[Sg,eX,gG,eY,okP]at h;simp only[aJ]at h0;simp only[Ft,aJ];exact⟨h0.1,h0.2,h⟩
def Gy(i:Nat):Code->Option (Array Oper)
 |.region id ops _=>match Nat.beq id i with
  |true=>some ops
  |false=>none
 |.seq a b=>match Gy i a with
  |some x=>some x
  |none=>Gy i b
 |.cond _ a b=>match Gy i a with
  |some x=>some x
  |none=>Gy i b
 |.block _ b=>Gy i b
 |.loop b=>Gy i b
 |.scope b=>Gy i b
 |_=>none
def aVb(i:Nat)(c:Code):Array Oper:=match Gy i c with
 |some x=>x
 |none=>#[]
def aVa(Γ:Ctx)(i:Nat):Sched:=match Γ.plan i with
 |some s=>s
 |none=>.stop
end Go.Vm
namespace Go.Proofs
open Go.Shelf
def Tryz.sortR_ren:Go.Shelf.Ren:=⟨fun|6=>266|15=>82|14=>301|28=>165|29=>166|20=>312|21=>313|22=>314|23=>315|24=>316|25=>317|26=>318|27=>319|46=>322|47=>234|48=>235|49=>323|50=>324|57=>334|n=>n,fun|22=>102|24=>96|25=>284|3=>3|39=>145|0=>0|53=>55|55=>188|4=>4|46=>203|45=>202|50=>207|5=>5|9=>9|66=>252|70=>256|76=>304|77=>237|n=>n,fun|n=>n⟩
theorem Tryz.sortR:Go.Proofs.SlLaysF0.n6 Tryz.prog Tryz.sortR_ren:={
 mixed:=by kernel_rfl
 f6:=⟨Tryz.f266.name,by decide,Tryz.func266.trans (congrArg some (by kernel_rfl))⟩
 f14:=⟨Tryz.f301.name,by decide,Tryz.func301.trans (congrArg some (by kernel_rfl))⟩
 f15:=Tryz.func82.trans (congrArg some (by kernel_rfl))
 f20:=⟨Tryz.f312.name,by decide,Tryz.func312.trans (congrArg some (by kernel_rfl))⟩
 f21:=⟨Tryz.f313.name,by decide,Tryz.func313.trans (congrArg some (by kernel_rfl))⟩
 f22:=⟨Tryz.f314.name,by decide,Tryz.func314.trans (congrArg some (by kernel_rfl))⟩
 f23:=⟨Tryz.f315.name,by decide,Tryz.func315.trans (congrArg some (by kernel_rfl))⟩
 f24:=⟨Tryz.f316.name,by decide,Tryz.func316.trans (congrArg some (by kernel_rfl))⟩
 f25:=⟨Tryz.f317.name,by decide,Tryz.func317.trans (congrArg some (by kernel_rfl))⟩
 f26:=⟨Tryz.f318.name,by decide,Tryz.func318.trans (congrArg some (by kernel_rfl))⟩
 f27:=⟨Tryz.f319.name,by decide,Tryz.func319.trans (congrArg some (by kernel_rfl))⟩
 f28:=Tryz.func165.trans (congrArg some (by kernel_rfl))
 f29:=Tryz.func166.trans (congrArg some (by kernel_rfl))
 f46:=⟨Tryz.f322.name,by decide,Tryz.func322.trans (congrArg some (by kernel_rfl))⟩
 f47:=Tryz.func234.trans (congrArg some (by kernel_rfl))
 f48:=Tryz.func235.trans (congrArg some (by kernel_rfl))
 f49:=⟨Tryz.f323.name,by decide,Tryz.func323.trans (congrArg some (by kernel_rfl))⟩
 f50:=⟨Tryz.f324.name,by decide,Tryz.func324.trans (congrArg some (by kernel_rfl))⟩
 f57:=⟨Tryz.f334.name,by decide,Tryz.func334.trans (congrArg some (by kernel_rfl))⟩
 t0:=Tryz.underlying0
 a0:=Tryz.isAgg0
 z0:=Tryz.sizeOf0
 v0:=Tryz.zeroValue0
 t3:=Tryz.underlying3
 a3:=Tryz.isAgg3
 z3:=Tryz.sizeOf3
 v3:=Tryz.zeroValue3
 t4:=Tryz.underlying4
 a4:=Tryz.isAgg4
 z4:=Tryz.sizeOf4
 v4:=Tryz.zeroValue4
 t5:=Tryz.underlying5
 a5:=Tryz.isAgg5
 z5:=Tryz.sizeOf5
 v5:=Tryz.zeroValue5
 t9:=Tryz.underlying9
 a9:=Tryz.isAgg9
 z9:=Tryz.sizeOf9
 v9:=Tryz.zeroValue9
 t22:=Tryz.underlying102
 a22:=Tryz.isAgg102
 z22:=Tryz.sizeOf102
 v22:=Tryz.zeroValue102
 t25:=Tryz.underlying284
 a25:=Tryz.isAgg284
 z25:=Tryz.sizeOf284
 v25:=Tryz.zeroValue284
 t39:=Tryz.underlying145
 a39:=Tryz.isAgg145
 z39:=Tryz.sizeOf145
 v39:=Tryz.zeroValue145
 t45:=Tryz.underlying202
 a45:=Tryz.isAgg202
 z45:=Tryz.sizeOf202
 v45:=Tryz.zeroValue202
 t46:=Tryz.underlying203
 a46:=Tryz.isAgg203
 z46:=Tryz.sizeOf203
 v46:=Tryz.zeroValue203
 t50:=Tryz.underlying207
 a50:=Tryz.isAgg207
 z50:=Tryz.sizeOf207
 v50:=Tryz.zeroValue207
 t53:=Tryz.underlying55
 a53:=Tryz.isAgg55
 z53:=Tryz.sizeOf55
 v53:=Tryz.zeroValue55
 t55:=Tryz.underlying188
 a55:=Tryz.isAgg188
 z55:=Tryz.sizeOf188
 v55:=Tryz.zeroValue188
 t66:=Tryz.underlying252
 a66:=Tryz.isAgg252
 z66:=Tryz.sizeOf252
 v66:=Tryz.zeroValue252
 t70:=Tryz.underlying256
 a70:=Tryz.isAgg256
 z70:=Tryz.sizeOf256
 v70:=Tryz.zeroValue256
 t76:=Tryz.underlying304
 a76:=Tryz.isAgg304
 z76:=Tryz.sizeOf304
 v76:=Tryz.zeroValue304
 t77:=Tryz.underlying237
 a77:=Tryz.isAgg237
 z77:=Tryz.sizeOf237
 v77:=Tryz.zeroValue237}
end Go.Proofs
