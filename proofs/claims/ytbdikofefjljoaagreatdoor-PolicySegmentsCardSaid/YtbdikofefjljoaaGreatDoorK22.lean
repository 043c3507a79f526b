/- slices.Sort of uint64. -/
import Derived.Test.YtbdikofefjljoaaGreatDoorK21
set_option linter.unusedVariables false
set_option linter.unusedSimpArgs false
set_option maxRecDepth 100000
set_option maxHeartbeats 4000000
namespace Go.Proofs.YtbdikofefjljoaaGreatDoor
open Go Go.Vm
section
variable {n:Nat} {d:Array Int} (hn:d.size=n) (a b:Nat) (hsz:n<1000000000000) {K:KT}
include hn hsz
theorem csIns'(hab:a<=b)(hb:b<=n)(hK:∀e,Sort.PermIn a b d e->Sort.SortedIn Sort.ltInt a b e->K (.tup []) [rowZ e]):
  ACall Tryz.prog 347 [.os 0 1 0 n,.v (.int .i64 a),.v (.int .i64 b)] [rowZ d] K:=by
 subst hn
 have h:=Sort.insertionSort_holds Sort.swo_ltInt d a b hab hb
 exact csIns d a b hab hb hsz (hK _ h.1 h.2)
theorem csHeap'(hab:a<b)(hb:b<=n)(hK:∀e,Sort.PermIn a b d e->Sort.SortedIn Sort.ltInt a b e->K (.tup []) [rowZ e]):
  ACall Tryz.prog 348 [.os 0 1 0 n,.v (.int .i64 a),.v (.int .i64 b)] [rowZ d] K:=by
 subst hn
 have h:=Sort.heapSort_holds Sort.swo_ltInt d a b zo hb
 exact csHeap d a b hab hb hsz (hK _ h.1 h.2)
theorem csBrk'(hab:a<b)(hb:b<=n)(hK:∀e,Sort.PermIn a b d e->K (.tup []) [rowZ e]):
  ACall Tryz.prog 349 [.os 0 1 0 n,.v (.int .i64 a),.v (.int .i64 b)] [rowZ d] K:=by
 subst hn
 exact csBrk d a b hab hb hsz hK
theorem csRev'(hab:a<b)(hb:b<=n)(hK:∀e,Sort.PermIn a b d e->K (.tup []) [rowZ e]):
  ACall Tryz.prog 351 [.os 0 1 0 n,.v (.int .i64 a),.v (.int .i64 b)] [rowZ d] K:=by
 subst hn
 exact csRev d a b hab hb hsz (hK _ (Sort.reverseRange_holds d a b zo hb))
theorem csPiv'(hab:a<b)(hb:b<=n)(hK:∀(p:Nat) (h:Int),a<=p->p<b->K (.tup [.v (.int .i64 p),.v (.int .i64 h)]) [rowZ d]):
  ACall Tryz.prog 350 [.os 0 1 0 n,.v (.int .i64 a),.v (.int .i64 b)] [rowZ d] K:=by
 subst hn
 exact csPiv d a b hab hb hsz hK
theorem csPins'(hab:a<b)(hb:b<=n)(hB:Sort.Below Sort.ltInt a b d)(hK:∀e (r:Bool),Sort.PermIn a b d e->(r=true->Sort.SortedIn Sort.ltInt a b e)->K (.sb r) [rowZ e]):
  ACall Tryz.prog 352 [.os 0 1 0 n,.v (.int .i64 a),.v (.int .i64 b)] [rowZ d] K:=by
 subst hn
 have h:=Sort.partialInsertionSort_holds Sort.swo_ltInt d a b hab hb hB
 exact csPins d a b hab hb hsz (hK _ _ h.1 h.2)
theorem csPeq'(p:Nat)(hap:a<=p)(hpb:p<b)(hb:b<=n)(ha0:0<a)(hB:Sort.Below Sort.ltInt a b d)(hnl:Sort.ltInt d[a-1]! d[p]! =false)
  (hK:∀e (mid:Nat),a<mid->mid<=b->e.size=n->Sort.Below Sort.ltInt mid b e->(∀R,Sort.PermIn mid b e R->Sort.SortedIn Sort.ltInt mid b R->Sort.PermIn a b d R/\Sort.SortedIn Sort.ltInt a b R)->K (.v (.int .i64 mid)) [rowZ e]):
  ACall Tryz.prog 354 [.os 0 1 0 n,.v (.int .i64 a),.v (.int .i64 b),.v (.int .i64 p)] [rowZ d] K:=by
 subst hn
 obtain⟨h1,h2,h3,h4,h5⟩:=Sort.round_eq Sort.swo_ltInt (Sort.partitionEqual_holds Sort.ltInt) ha0 hap hpb hb hB hnl rfl
 exact csPeq d a b p hap hpb hb hsz (hK _ _ h1 h2 h3 h4 h5)
theorem csPart'(p:Nat)(hap:a<=p)(hpb:p<b)(hb:b<=n)(hB:Sort.Below Sort.ltInt a b d)
  (hK:∀e (mid:Nat) (r:Bool),a<=mid->mid<b->e.size=n->Sort.Below Sort.ltInt a mid e->Sort.Below Sort.ltInt (mid+1) b e->
   (∀L,Sort.PermIn a mid e L->Sort.SortedIn Sort.ltInt a mid L->Sort.Below Sort.ltInt (mid+1) b L/\∀R,Sort.PermIn (mid+1) b L R->Sort.SortedIn Sort.ltInt (mid+1) b R->Sort.PermIn a b d R/\Sort.SortedIn Sort.ltInt a b R)->
   (∀L,Sort.PermIn (mid+1) b e L->Sort.SortedIn Sort.ltInt (mid+1) b L->Sort.Below Sort.ltInt a mid L/\∀R,Sort.PermIn a mid L R->Sort.SortedIn Sort.ltInt a mid R->Sort.PermIn a b d R/\Sort.SortedIn Sort.ltInt a b R)->
   K (.tup [.v (.int .i64 mid),.sb r]) [rowZ e]):
  ACall Tryz.prog 355 [.os 0 1 0 n,.v (.int .i64 a),.v (.int .i64 b),.v (.int .i64 p)] [rowZ d] K:=by
 subst hn
 obtain⟨h1,h2,h3,h4,h5,h6,h7⟩:=Sort.round_part Sort.swo_ltInt (Sort.partition_holds Sort.ltInt) hap hpb hb hB rfl
 exact csPart d a b p hap hpb hb hsz (hK _ _ _ h1 h2 h3 h4 h5 h6 h7)
end
theorem csPdq:∀(N n:Nat) (d:Array Int) (a b limit:Nat) {K:KT},b-a<N->d.size=n->a<=b->b<=n->n<1000000000000->limit<1000->Sort.Below Sort.ltInt a b d->(∀e,Sort.PermIn a b d e->Sort.SortedIn Sort.ltInt a b e->K (.tup []) [rowZ e])->
  ACall Tryz.prog 337 [.os 0 1 0 n,.v (.int .i64 a),.v (.int .i64 b),.v (.int .i64 limit)] [rowZ d] K:=by
 intro N
 induction N with
 |zero=>intro n d a b limit K h;omega
 |succ N ih=>
  intro n d a b limit K hN hn hab hb hsz hlim hBel hK
  refine ofsPdq rfl rfl ?_
  (repeat' ((conv=>whnf);first|refine zG ?_|apply zA|(apply zI;intro h)|exact zT));(all_goals conv=>whnf)
  refine Lp.intro (Nat×Nat×Nat×AV×AV×Array Int) (fun g=>⟨1,[(0,rowZ g.2.2.2.2.2)],[(0,.os 0 1 0 n),(1,.v (.int .i64 g.1)),(2,.v (.int .i64 g.2.1)),(3,.v (.int .i64 g.2.2.1)),(8,g.2.2.2.1),(9,g.2.2.2.2.1)]⟩)
   (fun g=>a<=g.1/\g.1<=g.2.1/\g.2.1<=b/\g.2.2.1<=limit/\(g.2.2.2.1=.v (.bool true)\/∃c,g.2.2.2.1=.sb c)/\(g.2.2.2.2.1=.v (.bool true)\/∃c,g.2.2.2.2.1=.sb c)/\g.2.2.2.2.2.size=n/\Sort.Below Sort.ltInt g.1 g.2.1 g.2.2.2.2.2/\
    ∀R,Sort.PermIn g.1 g.2.1 g.2.2.2.2.2 R->Sort.SortedIn Sort.ltInt g.1 g.2.1 R->Sort.PermIn a b d R/\Sort.SortedIn Sort.ltInt a b R)
   (fun g=>g.2.1-g.1) (a,b,limit,.v (.bool true),.v (.bool true),d) ⟨Nat.le_refl _,hab,Nat.le_refl _,Nat.le_refl _,.inl rfl,.inl rfl,hn,hBel,fun R h1 h2=>⟨h1,h2⟩⟩ ?_ ?_
  ·(exact leA)
  rintro⟨a1,b1,l1,vb,vp,e⟩ ⟨ha1,hab1,hb1,hl1,hvb,hvp,hes,hB,hfin⟩
  simp only at ha1 hab1 hb1 hl1 hvb hvp hes hB hfin⊢
  have hd1:((b1:Int)-a1<=12)=(b1-a1<=12):=by apply propext;omega
  rcases Nat.lt_or_ge 12 (b1-a1)with h12|h12
  ·rcases Nat.eq_zero_or_pos l1 with h0|h0
   ·subst h0
    (repeat' ((conv=>whnf);first|(with_reducible refine csHeap' hes a1 b1 hsz zo zo fun r h1 h2=>?_)|refine zG ?_|apply zA|(apply zI;intro h)|exact zT));(all_goals conv=>whnf)
    exact hK r (hfin r h1 h2).1 (hfin r h1 h2).2
   ·rcases hvb with rfl|⟨c,rfl⟩<;>rcases hvp with rfl|⟨c',rfl⟩
    ·have hl1:(l1:Int)-1=((l1-1:Nat):Int):=by omega
     (repeat' ((conv=>whnf);first|refine zG ?_|apply zA|(apply zI;intro h)|exact zT));(all_goals conv=>whnf)
     refine Jn.intro (Nat×Array Int) (fun g=>⟨1,[(0,rowZ g.2)],[(0,.os 0 1 0 n),(1,.v (.int .i64 a1)),(2,.v (.int .i64 b1)),(3,.v (.int .i64 g.1)),(8,.v (.bool true)),(9,.v (.bool true)),(10,.v (.int .i64 ((b1:Int)-a1)))]⟩) (fun g=>g.1<=limit/\Sort.PermIn a1 b1 e g.2) ?_ ?_
     ·(repeat' ((conv=>whnf);first|(with_reducible refine csBrk' hes a1 b1 hsz zo zo fun e1 he1=>?_)|refine zG ?_|apply zA|(apply zI;intro h)|exact zT));(all_goals conv=>whnf)
      all_goals first
       |(refine⟨(l1-1,e1),⟨by dsimp only;omega,he1⟩,?_⟩
         dsimp only
         rw[<-hl1]
         (exact leA))
       |(refine⟨(l1,e),⟨by assumption,Sort.permIn_refl _ _ _⟩,?_⟩
         (exact leA))
     rintro⟨l2,e1⟩ ⟨hl2,he1⟩
     simp only at hl2 he1⊢
     have he1s:e1.size=n:=he1.1.trans hes
     (repeat' ((conv=>whnf);first|(with_reducible refine csPiv' he1s a1 b1 hsz zo zo fun p hh hp1 hp2=>?_)|refine zG ?_|apply zA|(apply zI;intro h)|exact zT));(all_goals conv=>whnf)
     refine Jn.intro (Nat×Int×Array Int) (fun g=>⟨1,[(0,rowZ g.2.2)],[(0,.os 0 1 0 n),(1,.v (.int .i64 a1)),(2,.v (.int .i64 b1)),(3,.v (.int .i64 l2)),(8,.v (.bool true)),(9,.v (.bool true)),(10,.v (.int .i64 ((b1:Int)-a1))),(11,.v (.int .i64 g.1)),(12,.v (.int .i64 g.2.1))]⟩) (fun g=>a1<=g.1/\g.1<b1/\Sort.PermIn a1 b1 e g.2.2) ?_ ?_
     ·(repeat' ((conv=>whnf);first|(with_reducible refine csRev' he1s a1 b1 hsz zo zo fun e2 he2=>?_)|refine zG ?_|apply zA|(apply zI;intro h)|exact zT));(all_goals conv=>whnf)
      all_goals first
       |(refine⟨((b1-1)-(p-a1),1,e2),⟨by dsimp only;omega,by dsimp only;omega,Sort.permIn_trans _ _ _ _ _ he1 he2⟩,?_⟩
         dsimp only
         rw[show(((b1-1)-(p-a1):Nat):Int)=(b1:Int)-1-((p:Int)-a1) by omega]
         (exact leA))
       |(refine⟨(p,hh,e1),⟨hp1,hp2,he1⟩,?_⟩
         (exact leA))
     rintro⟨p2,h2,e2⟩ ⟨hp21,hp22,he2⟩
     simp only at hp21 hp22 he2⊢
     clear he1s he1 e1 hp1 hp2 p hh
     have he2s:e2.size=n:=he2.1.trans hes
     have hB2:=hB.perm zo he2
     refine Jn.intro (Array Int) (fun g=>⟨1,[(0,rowZ g)],[(0,.os 0 1 0 n),(1,.v (.int .i64 a1)),(2,.v (.int .i64 b1)),(3,.v (.int .i64 l2)),(8,.v (.bool true)),(9,.v (.bool true)),(10,.v (.int .i64 ((b1:Int)-a1))),(11,.v (.int .i64 p2))]⟩) (fun g=>Sort.PermIn a1 b1 e g) ?_ ?_
     ·have stay:∃g:Array Int,Sort.PermIn a1 b1 e g/\g=e2:=⟨e2,he2,rfl⟩
      have pins:∀{K:KT},(∀e (r:Bool),Sort.PermIn a1 b1 e2 e->(r=true->Sort.SortedIn Sort.ltInt a1 b1 e)->K (.sb r) [rowZ e])->ACall Tryz.prog 352 [.os 0 1 0 n,.v (.int .i64 a1),.v (.int .i64 b1)] [rowZ e2] K:=fun h=>csPins' he2s a1 b1 hsz zo zo hB2 h
      (repeat' ((conv=>whnf);first|(with_reducible refine pins fun e3 r he3 hr=>?_)|refine zG ?_|apply zA|(apply zI;intro h)|exact zT));(all_goals conv=>whnf)
      all_goals first
       |exact hK e3 (hfin e3 (Sort.permIn_trans _ _ _ _ _ he2 he3) (hr zp)).1 (hfin e3 (Sort.permIn_trans _ _ _ _ _ he2 he3) (hr zp)).2
       |(refine⟨e3,Sort.permIn_trans _ _ _ _ _ he2 he3,?_⟩
         (exact leA))
       |(refine⟨e2,he2,?_⟩
         (exact leA))
     intro e3 he3
     have he3s:e3.size=n:=he3.1.trans hes
     have hB3:=hB.perm zo he3
     have hw8:∀{K:Int->Prop},K (((b1-a1)/8:Nat):Int)->Wr .i64 (((b1:Int)-a1).tdiv 8) K:=fun h=>wr_i64 (by rw[Int.tdiv_eq_ediv_of_nonneg zo];omega) zo zo h
     have n2:p2<n:=by omega
     have n2':p2<e3.size:=by omega
     have part:∀{Q:Prop},Q->Q:=fun h=>h
     rcases Nat.eq_zero_or_pos a1 with ha0|ha0
     ·(repeat' ((conv=>whnf);first|refine zG ?_|apply zA|(apply zI;intro h)|exact zT));(all_goals conv=>whnf)
      refine csPart' he3s a1 b1 hsz p2 hp21 hp22 zo hB3 fun e4 mid r k1 k2 k3 k4 k5 k6 k7=>?_
      have hr1:∀{K:KT},(∀L,Sort.PermIn a1 mid e4 L->Sort.SortedIn Sort.ltInt a1 mid L->K (.tup []) [rowZ L])->ACall Tryz.prog 337 [.os 0 1 0 n,.v (.int .i64 a1),.v (.int .i64 mid),.v (.int .i64 l2)] [rowZ e4] K:=fun h=>ih n e4 a1 mid l2 zo k3 k1 zo hsz zo k4 h
      have hr2:∀{K:KT},(∀L,Sort.PermIn (mid+1) b1 e4 L->Sort.SortedIn Sort.ltInt (mid+1) b1 L->K (.tup []) [rowZ L])->ACall Tryz.prog 337 [.os 0 1 0 n,.v (.int .i64 ((mid:Int)+1)),.v (.int .i64 b1),.v (.int .i64 l2)] [rowZ e4] K:=fun h=>by
       rw[show(mid:Int)+1=((mid+1:Nat):Int) by omega]
       exact ih n e4 (mid+1) b1 l2 zo k3 zo zo hsz zo k5 h
      (repeat' ((conv=>whnf);first|(with_reducible first|refine hw8 ?_|refine hr1 fun L hL hs=>?_|refine hr2 fun L hL hs=>?_)|refine zG ?_|apply zA|(apply zI;intro h)|exact zT));(all_goals conv=>whnf)
      ·obtain⟨m1,m2⟩:=k6 L hL hs
       refine⟨(mid+1,b1,l2,.sb (decide ((((b1-a1)/8:Nat):Int)<=(mid:Int)-a1)),.sb r,L),⟨by dsimp only;omega,by dsimp only;omega,by dsimp only;omega,by dsimp only;assumption,.inr ⟨_,rfl⟩,.inr ⟨_,rfl⟩,hL.1.trans k3,m1,fun R q1 q2=>?_⟩,by dsimp only;omega,?_⟩
       ·obtain⟨q3,q4⟩:=m2 R q1 q2
        exact hfin R (Sort.permIn_trans _ _ _ _ _ he3 q3) q4
       ·dsimp only
        rw[show((mid+1:Nat):Int)=(mid:Int)+1 by omega]
        (exact leA)
      ·obtain⟨m1,m2⟩:=k7 L hL hs
       refine⟨(a1,mid,l2,.sb (decide ((((b1-a1)/8:Nat):Int)<=(b1:Int)-mid)),.sb r,L),⟨by dsimp only;omega,by dsimp only;omega,by dsimp only;omega,by dsimp only;assumption,.inr ⟨_,rfl⟩,.inr ⟨_,rfl⟩,hL.1.trans k3,m1,fun R q1 q2=>?_⟩,by dsimp only;omega,?_⟩
       ·obtain⟨q3,q4⟩:=m2 R q1 q2
        exact hfin R (Sort.permIn_trans _ _ _ _ _ he3 q3) q4
       ·(exact leA)
     ·have n1':a1-1<e3.size:=by omega
      (repeat' ((conv=>whnf);first|(with_reducible refine csLess _ _ ?_)|(refine In.intro (a1-1) zo zo ?_)|(with_reducible first|refine in_nat n2 ?_|refine ix_z n1' ?_|refine ix_z n2' ?_)|refine zG ?_|apply zA|(apply zI;intro h)|exact zT));(all_goals conv=>whnf)
      ·refine csPart' he3s a1 b1 hsz p2 hp21 hp22 zo hB3 fun e4 mid r k1 k2 k3 k4 k5 k6 k7=>?_
       have hr1:∀{K:KT},(∀L,Sort.PermIn a1 mid e4 L->Sort.SortedIn Sort.ltInt a1 mid L->K (.tup []) [rowZ L])->ACall Tryz.prog 337 [.os 0 1 0 n,.v (.int .i64 a1),.v (.int .i64 mid),.v (.int .i64 l2)] [rowZ e4] K:=fun h=>ih n e4 a1 mid l2 zo k3 k1 zo hsz zo k4 h
       have hr2:∀{K:KT},(∀L,Sort.PermIn (mid+1) b1 e4 L->Sort.SortedIn Sort.ltInt (mid+1) b1 L->K (.tup []) [rowZ L])->ACall Tryz.prog 337 [.os 0 1 0 n,.v (.int .i64 ((mid:Int)+1)),.v (.int .i64 b1),.v (.int .i64 l2)] [rowZ e4] K:=fun h=>by
        rw[show(mid:Int)+1=((mid+1:Nat):Int) by omega]
        exact ih n e4 (mid+1) b1 l2 zo k3 zo zo hsz zo k5 h
       (repeat' ((conv=>whnf);first|(with_reducible first|refine hw8 ?_|refine hr1 fun L hL hs=>?_|refine hr2 fun L hL hs=>?_)|refine zG ?_|apply zA|(apply zI;intro h)|exact zT));(all_goals conv=>whnf)
       ·obtain⟨m1,m2⟩:=k6 L hL hs
        refine⟨(mid+1,b1,l2,.sb (decide ((((b1-a1)/8:Nat):Int)<=(mid:Int)-a1)),.sb r,L),⟨by dsimp only;omega,by dsimp only;omega,by dsimp only;omega,by dsimp only;assumption,.inr ⟨_,rfl⟩,.inr ⟨_,rfl⟩,hL.1.trans k3,m1,fun R q1 q2=>?_⟩,by dsimp only;omega,?_⟩
        ·obtain⟨q3,q4⟩:=m2 R q1 q2
         exact hfin R (Sort.permIn_trans _ _ _ _ _ he3 q3) q4
        ·dsimp only
         rw[show((mid+1:Nat):Int)=(mid:Int)+1 by omega]
         (exact leA)
       ·obtain⟨m1,m2⟩:=k7 L hL hs
        refine⟨(a1,mid,l2,.sb (decide ((((b1-a1)/8:Nat):Int)<=(b1:Int)-mid)),.sb r,L),⟨by dsimp only;omega,by dsimp only;omega,by dsimp only;omega,by dsimp only;assumption,.inr ⟨_,rfl⟩,.inr ⟨_,rfl⟩,hL.1.trans k3,m1,fun R q1 q2=>?_⟩,by dsimp only;omega,?_⟩
        ·obtain⟨q3,q4⟩:=m2 R q1 q2
         exact hfin R (Sort.permIn_trans _ _ _ _ _ he3 q3) q4
        ·(exact leA)
      ·refine csPeq' he3s a1 b1 hsz p2 hp21 hp22 zo ha0 hB3 zp fun e4 mid k1 k2 k3 k4 k5=>?_
       (repeat' ((conv=>whnf);first|refine zG ?_|apply zA|(apply zI;intro h)|exact zT));(all_goals conv=>whnf)
       refine⟨(mid,b1,l2,.v (.bool true),.v (.bool true),e4),⟨by dsimp only;omega,by dsimp only;omega,by dsimp only;omega,by dsimp only;assumption,.inl rfl,.inl rfl,k3,k4,fun R q1 q2=>?_⟩,by dsimp only;omega,?_⟩
       ·obtain⟨q3,q4⟩:=k5 R q1 q2
        exact hfin R (Sort.permIn_trans _ _ _ _ _ he3 q3) q4
       ·(exact leA)
    ·have hl1:(l1:Int)-1=((l1-1:Nat):Int):=by omega
     (repeat' ((conv=>whnf);first|refine zG ?_|apply zA|(apply zI;intro h)|exact zT));(all_goals conv=>whnf)
     refine Jn.intro (Nat×Array Int) (fun g=>⟨1,[(0,rowZ g.2)],[(0,.os 0 1 0 n),(1,.v (.int .i64 a1)),(2,.v (.int .i64 b1)),(3,.v (.int .i64 g.1)),(8,.v (.bool true)),(9,.sb c'),(10,.v (.int .i64 ((b1:Int)-a1)))]⟩) (fun g=>g.1<=limit/\Sort.PermIn a1 b1 e g.2) ?_ ?_
     ·(repeat' ((conv=>whnf);first|(with_reducible refine csBrk' hes a1 b1 hsz zo zo fun e1 he1=>?_)|refine zG ?_|apply zA|(apply zI;intro h)|exact zT));(all_goals conv=>whnf)
      all_goals first
       |(refine⟨(l1-1,e1),⟨by dsimp only;omega,he1⟩,?_⟩
         dsimp only
         rw[<-hl1]
         (exact leA))
       |(refine⟨(l1,e),⟨by assumption,Sort.permIn_refl _ _ _⟩,?_⟩
         (exact leA))
     rintro⟨l2,e1⟩ ⟨hl2,he1⟩
     simp only at hl2 he1⊢
     have he1s:e1.size=n:=he1.1.trans hes
     (repeat' ((conv=>whnf);first|(with_reducible refine csPiv' he1s a1 b1 hsz zo zo fun p hh hp1 hp2=>?_)|refine zG ?_|apply zA|(apply zI;intro h)|exact zT));(all_goals conv=>whnf)
     refine Jn.intro (Nat×Int×Array Int) (fun g=>⟨1,[(0,rowZ g.2.2)],[(0,.os 0 1 0 n),(1,.v (.int .i64 a1)),(2,.v (.int .i64 b1)),(3,.v (.int .i64 l2)),(8,.v (.bool true)),(9,.sb c'),(10,.v (.int .i64 ((b1:Int)-a1))),(11,.v (.int .i64 g.1)),(12,.v (.int .i64 g.2.1))]⟩) (fun g=>a1<=g.1/\g.1<b1/\Sort.PermIn a1 b1 e g.2.2) ?_ ?_
     ·(repeat' ((conv=>whnf);first|(with_reducible refine csRev' he1s a1 b1 hsz zo zo fun e2 he2=>?_)|refine zG ?_|apply zA|(apply zI;intro h)|exact zT));(all_goals conv=>whnf)
      all_goals first
       |(refine⟨((b1-1)-(p-a1),1,e2),⟨by dsimp only;omega,by dsimp only;omega,Sort.permIn_trans _ _ _ _ _ he1 he2⟩,?_⟩
         dsimp only
         rw[show(((b1-1)-(p-a1):Nat):Int)=(b1:Int)-1-((p:Int)-a1) by omega]
         (exact leA))
       |(refine⟨(p,hh,e1),⟨hp1,hp2,he1⟩,?_⟩
         (exact leA))
     rintro⟨p2,h2,e2⟩ ⟨hp21,hp22,he2⟩
     simp only at hp21 hp22 he2⊢
     clear he1s he1 e1 hp1 hp2 p hh
     have he2s:e2.size=n:=he2.1.trans hes
     have hB2:=hB.perm zo he2
     refine Jn.intro (Array Int) (fun g=>⟨1,[(0,rowZ g)],[(0,.os 0 1 0 n),(1,.v (.int .i64 a1)),(2,.v (.int .i64 b1)),(3,.v (.int .i64 l2)),(8,.v (.bool true)),(9,.sb c'),(10,.v (.int .i64 ((b1:Int)-a1))),(11,.v (.int .i64 p2))]⟩) (fun g=>Sort.PermIn a1 b1 e g) ?_ ?_
     ·have stay:∃g:Array Int,Sort.PermIn a1 b1 e g/\g=e2:=⟨e2,he2,rfl⟩
      have pins:∀{K:KT},(∀e (r:Bool),Sort.PermIn a1 b1 e2 e->(r=true->Sort.SortedIn Sort.ltInt a1 b1 e)->K (.sb r) [rowZ e])->ACall Tryz.prog 352 [.os 0 1 0 n,.v (.int .i64 a1),.v (.int .i64 b1)] [rowZ e2] K:=fun h=>csPins' he2s a1 b1 hsz zo zo hB2 h
      (repeat' ((conv=>whnf);first|(with_reducible refine pins fun e3 r he3 hr=>?_)|refine zG ?_|apply zA|(apply zI;intro h)|exact zT));(all_goals conv=>whnf)
      all_goals first
       |exact hK e3 (hfin e3 (Sort.permIn_trans _ _ _ _ _ he2 he3) (hr zp)).1 (hfin e3 (Sort.permIn_trans _ _ _ _ _ he2 he3) (hr zp)).2
       |(refine⟨e3,Sort.permIn_trans _ _ _ _ _ he2 he3,?_⟩
         (exact leA))
       |(refine⟨e2,he2,?_⟩
         (exact leA))
     intro e3 he3
     have he3s:e3.size=n:=he3.1.trans hes
     have hB3:=hB.perm zo he3
     have hw8:∀{K:Int->Prop},K (((b1-a1)/8:Nat):Int)->Wr .i64 (((b1:Int)-a1).tdiv 8) K:=fun h=>wr_i64 (by rw[Int.tdiv_eq_ediv_of_nonneg zo];omega) zo zo h
     have n2:p2<n:=by omega
     have n2':p2<e3.size:=by omega
     have part:∀{Q:Prop},Q->Q:=fun h=>h
     rcases Nat.eq_zero_or_pos a1 with ha0|ha0
     ·(repeat' ((conv=>whnf);first|refine zG ?_|apply zA|(apply zI;intro h)|exact zT));(all_goals conv=>whnf)
      refine csPart' he3s a1 b1 hsz p2 hp21 hp22 zo hB3 fun e4 mid r k1 k2 k3 k4 k5 k6 k7=>?_
      have hr1:∀{K:KT},(∀L,Sort.PermIn a1 mid e4 L->Sort.SortedIn Sort.ltInt a1 mid L->K (.tup []) [rowZ L])->ACall Tryz.prog 337 [.os 0 1 0 n,.v (.int .i64 a1),.v (.int .i64 mid),.v (.int .i64 l2)] [rowZ e4] K:=fun h=>ih n e4 a1 mid l2 zo k3 k1 zo hsz zo k4 h
      have hr2:∀{K:KT},(∀L,Sort.PermIn (mid+1) b1 e4 L->Sort.SortedIn Sort.ltInt (mid+1) b1 L->K (.tup []) [rowZ L])->ACall Tryz.prog 337 [.os 0 1 0 n,.v (.int .i64 ((mid:Int)+1)),.v (.int .i64 b1),.v (.int .i64 l2)] [rowZ e4] K:=fun h=>by
       rw[show(mid:Int)+1=((mid+1:Nat):Int) by omega]
       exact ih n e4 (mid+1) b1 l2 zo k3 zo zo hsz zo k5 h
      (repeat' ((conv=>whnf);first|(with_reducible first|refine hw8 ?_|refine hr1 fun L hL hs=>?_|refine hr2 fun L hL hs=>?_)|refine zG ?_|apply zA|(apply zI;intro h)|exact zT));(all_goals conv=>whnf)
      ·obtain⟨m1,m2⟩:=k6 L hL hs
       refine⟨(mid+1,b1,l2,.sb (decide ((((b1-a1)/8:Nat):Int)<=(mid:Int)-a1)),.sb r,L),⟨by dsimp only;omega,by dsimp only;omega,by dsimp only;omega,by dsimp only;assumption,.inr ⟨_,rfl⟩,.inr ⟨_,rfl⟩,hL.1.trans k3,m1,fun R q1 q2=>?_⟩,by dsimp only;omega,?_⟩
       ·obtain⟨q3,q4⟩:=m2 R q1 q2
        exact hfin R (Sort.permIn_trans _ _ _ _ _ he3 q3) q4
       ·dsimp only
        rw[show((mid+1:Nat):Int)=(mid:Int)+1 by omega]
        (exact leA)
      ·obtain⟨m1,m2⟩:=k7 L hL hs
       refine⟨(a1,mid,l2,.sb (decide ((((b1-a1)/8:Nat):Int)<=(b1:Int)-mid)),.sb r,L),⟨by dsimp only;omega,by dsimp only;omega,by dsimp only;omega,by dsimp only;assumption,.inr ⟨_,rfl⟩,.inr ⟨_,rfl⟩,hL.1.trans k3,m1,fun R q1 q2=>?_⟩,by dsimp only;omega,?_⟩
       ·obtain⟨q3,q4⟩:=m2 R q1 q2
        exact hfin R (Sort.permIn_trans _ _ _ _ _ he3 q3) q4
       ·(exact leA)
     ·have n1':a1-1<e3.size:=by omega
      (repeat' ((conv=>whnf);first|(with_reducible refine csLess _ _ ?_)|(refine In.intro (a1-1) zo zo ?_)|(with_reducible first|refine in_nat n2 ?_|refine ix_z n1' ?_|refine ix_z n2' ?_)|refine zG ?_|apply zA|(apply zI;intro h)|exact zT));(all_goals conv=>whnf)
      ·refine csPart' he3s a1 b1 hsz p2 hp21 hp22 zo hB3 fun e4 mid r k1 k2 k3 k4 k5 k6 k7=>?_
       have hr1:∀{K:KT},(∀L,Sort.PermIn a1 mid e4 L->Sort.SortedIn Sort.ltInt a1 mid L->K (.tup []) [rowZ L])->ACall Tryz.prog 337 [.os 0 1 0 n,.v (.int .i64 a1),.v (.int .i64 mid),.v (.int .i64 l2)] [rowZ e4] K:=fun h=>ih n e4 a1 mid l2 zo k3 k1 zo hsz zo k4 h
       have hr2:∀{K:KT},(∀L,Sort.PermIn (mid+1) b1 e4 L->Sort.SortedIn Sort.ltInt (mid+1) b1 L->K (.tup []) [rowZ L])->ACall Tryz.prog 337 [.os 0 1 0 n,.v (.int .i64 ((mid:Int)+1)),.v (.int .i64 b1),.v (.int .i64 l2)] [rowZ e4] K:=fun h=>by
        rw[show(mid:Int)+1=((mid+1:Nat):Int) by omega]
        exact ih n e4 (mid+1) b1 l2 zo k3 zo zo hsz zo k5 h
       (repeat' ((conv=>whnf);first|(with_reducible first|refine hw8 ?_|refine hr1 fun L hL hs=>?_|refine hr2 fun L hL hs=>?_)|refine zG ?_|apply zA|(apply zI;intro h)|exact zT));(all_goals conv=>whnf)
       ·obtain⟨m1,m2⟩:=k6 L hL hs
        refine⟨(mid+1,b1,l2,.sb (decide ((((b1-a1)/8:Nat):Int)<=(mid:Int)-a1)),.sb r,L),⟨by dsimp only;omega,by dsimp only;omega,by dsimp only;omega,by dsimp only;assumption,.inr ⟨_,rfl⟩,.inr ⟨_,rfl⟩,hL.1.trans k3,m1,fun R q1 q2=>?_⟩,by dsimp only;omega,?_⟩
        ·obtain⟨q3,q4⟩:=m2 R q1 q2
         exact hfin R (Sort.permIn_trans _ _ _ _ _ he3 q3) q4
        ·dsimp only
         rw[show((mid+1:Nat):Int)=(mid:Int)+1 by omega]
         (exact leA)
       ·obtain⟨m1,m2⟩:=k7 L hL hs
        refine⟨(a1,mid,l2,.sb (decide ((((b1-a1)/8:Nat):Int)<=(b1:Int)-mid)),.sb r,L),⟨by dsimp only;omega,by dsimp only;omega,by dsimp only;omega,by dsimp only;assumption,.inr ⟨_,rfl⟩,.inr ⟨_,rfl⟩,hL.1.trans k3,m1,fun R q1 q2=>?_⟩,by dsimp only;omega,?_⟩
        ·obtain⟨q3,q4⟩:=m2 R q1 q2
         exact hfin R (Sort.permIn_trans _ _ _ _ _ he3 q3) q4
        ·(exact leA)
      ·refine csPeq' he3s a1 b1 hsz p2 hp21 hp22 zo ha0 hB3 zp fun e4 mid k1 k2 k3 k4 k5=>?_
       (repeat' ((conv=>whnf);first|refine zG ?_|apply zA|(apply zI;intro h)|exact zT));(all_goals conv=>whnf)
       refine⟨(mid,b1,l2,.v (.bool true),.sb c',e4),⟨by dsimp only;omega,by dsimp only;omega,by dsimp only;omega,by dsimp only;assumption,.inl rfl,.inr ⟨_,rfl⟩,k3,k4,fun R q1 q2=>?_⟩,by dsimp only;omega,?_⟩
       ·obtain⟨q3,q4⟩:=k5 R q1 q2
        exact hfin R (Sort.permIn_trans _ _ _ _ _ he3 q3) q4
       ·(exact leA)
    ·have hl1:(l1:Int)-1=((l1-1:Nat):Int):=by omega
     (repeat' ((conv=>whnf);first|refine zG ?_|apply zA|(apply zI;intro h)|exact zT));(all_goals conv=>whnf)
     refine Jn.intro (Nat×Array Int) (fun g=>⟨1,[(0,rowZ g.2)],[(0,.os 0 1 0 n),(1,.v (.int .i64 a1)),(2,.v (.int .i64 b1)),(3,.v (.int .i64 g.1)),(8,.sb c),(9,.v (.bool true)),(10,.v (.int .i64 ((b1:Int)-a1)))]⟩) (fun g=>g.1<=limit/\Sort.PermIn a1 b1 e g.2) ?_ ?_
     ·(repeat' ((conv=>whnf);first|(with_reducible refine csBrk' hes a1 b1 hsz zo zo fun e1 he1=>?_)|refine zG ?_|apply zA|(apply zI;intro h)|exact zT));(all_goals conv=>whnf)
      all_goals first
       |(refine⟨(l1-1,e1),⟨by dsimp only;omega,he1⟩,?_⟩
         dsimp only
         rw[<-hl1]
         (exact leA))
       |(refine⟨(l1,e),⟨by assumption,Sort.permIn_refl _ _ _⟩,?_⟩
         (exact leA))
     rintro⟨l2,e1⟩ ⟨hl2,he1⟩
     simp only at hl2 he1⊢
     have he1s:e1.size=n:=he1.1.trans hes
     (repeat' ((conv=>whnf);first|(with_reducible refine csPiv' he1s a1 b1 hsz zo zo fun p hh hp1 hp2=>?_)|refine zG ?_|apply zA|(apply zI;intro h)|exact zT));(all_goals conv=>whnf)
     refine Jn.intro (Nat×Int×Array Int) (fun g=>⟨1,[(0,rowZ g.2.2)],[(0,.os 0 1 0 n),(1,.v (.int .i64 a1)),(2,.v (.int .i64 b1)),(3,.v (.int .i64 l2)),(8,.sb c),(9,.v (.bool true)),(10,.v (.int .i64 ((b1:Int)-a1))),(11,.v (.int .i64 g.1)),(12,.v (.int .i64 g.2.1))]⟩) (fun g=>a1<=g.1/\g.1<b1/\Sort.PermIn a1 b1 e g.2.2) ?_ ?_
     ·(repeat' ((conv=>whnf);first|(with_reducible refine csRev' he1s a1 b1 hsz zo zo fun e2 he2=>?_)|refine zG ?_|apply zA|(apply zI;intro h)|exact zT));(all_goals conv=>whnf)
      all_goals first
       |(refine⟨((b1-1)-(p-a1),1,e2),⟨by dsimp only;omega,by dsimp only;omega,Sort.permIn_trans _ _ _ _ _ he1 he2⟩,?_⟩
         dsimp only
         rw[show(((b1-1)-(p-a1):Nat):Int)=(b1:Int)-1-((p:Int)-a1) by omega]
         (exact leA))
       |(refine⟨(p,hh,e1),⟨hp1,hp2,he1⟩,?_⟩
         (exact leA))
     rintro⟨p2,h2,e2⟩ ⟨hp21,hp22,he2⟩
     simp only at hp21 hp22 he2⊢
     clear he1s he1 e1 hp1 hp2 p hh
     have he2s:e2.size=n:=he2.1.trans hes
     have hB2:=hB.perm zo he2
     refine Jn.intro (Array Int) (fun g=>⟨1,[(0,rowZ g)],[(0,.os 0 1 0 n),(1,.v (.int .i64 a1)),(2,.v (.int .i64 b1)),(3,.v (.int .i64 l2)),(8,.sb c),(9,.v (.bool true)),(10,.v (.int .i64 ((b1:Int)-a1))),(11,.v (.int .i64 p2))]⟩) (fun g=>Sort.PermIn a1 b1 e g) ?_ ?_
     ·have stay:∃g:Array Int,Sort.PermIn a1 b1 e g/\g=e2:=⟨e2,he2,rfl⟩
      have pins:∀{K:KT},(∀e (r:Bool),Sort.PermIn a1 b1 e2 e->(r=true->Sort.SortedIn Sort.ltInt a1 b1 e)->K (.sb r) [rowZ e])->ACall Tryz.prog 352 [.os 0 1 0 n,.v (.int .i64 a1),.v (.int .i64 b1)] [rowZ e2] K:=fun h=>csPins' he2s a1 b1 hsz zo zo hB2 h
      (repeat' ((conv=>whnf);first|(with_reducible refine pins fun e3 r he3 hr=>?_)|refine zG ?_|apply zA|(apply zI;intro h)|exact zT));(all_goals conv=>whnf)
      all_goals first
       |exact hK e3 (hfin e3 (Sort.permIn_trans _ _ _ _ _ he2 he3) (hr zp)).1 (hfin e3 (Sort.permIn_trans _ _ _ _ _ he2 he3) (hr zp)).2
       |(refine⟨e3,Sort.permIn_trans _ _ _ _ _ he2 he3,?_⟩
         (exact leA))
       |(refine⟨e2,he2,?_⟩
         (exact leA))
     intro e3 he3
     have he3s:e3.size=n:=he3.1.trans hes
     have hB3:=hB.perm zo he3
     have hw8:∀{K:Int->Prop},K (((b1-a1)/8:Nat):Int)->Wr .i64 (((b1:Int)-a1).tdiv 8) K:=fun h=>wr_i64 (by rw[Int.tdiv_eq_ediv_of_nonneg zo];omega) zo zo h
     have n2:p2<n:=by omega
     have n2':p2<e3.size:=by omega
     have part:∀{Q:Prop},Q->Q:=fun h=>h
     rcases Nat.eq_zero_or_pos a1 with ha0|ha0
     ·(repeat' ((conv=>whnf);first|refine zG ?_|apply zA|(apply zI;intro h)|exact zT));(all_goals conv=>whnf)
      refine csPart' he3s a1 b1 hsz p2 hp21 hp22 zo hB3 fun e4 mid r k1 k2 k3 k4 k5 k6 k7=>?_
      have hr1:∀{K:KT},(∀L,Sort.PermIn a1 mid e4 L->Sort.SortedIn Sort.ltInt a1 mid L->K (.tup []) [rowZ L])->ACall Tryz.prog 337 [.os 0 1 0 n,.v (.int .i64 a1),.v (.int .i64 mid),.v (.int .i64 l2)] [rowZ e4] K:=fun h=>ih n e4 a1 mid l2 zo k3 k1 zo hsz zo k4 h
      have hr2:∀{K:KT},(∀L,Sort.PermIn (mid+1) b1 e4 L->Sort.SortedIn Sort.ltInt (mid+1) b1 L->K (.tup []) [rowZ L])->ACall Tryz.prog 337 [.os 0 1 0 n,.v (.int .i64 ((mid:Int)+1)),.v (.int .i64 b1),.v (.int .i64 l2)] [rowZ e4] K:=fun h=>by
       rw[show(mid:Int)+1=((mid+1:Nat):Int) by omega]
       exact ih n e4 (mid+1) b1 l2 zo k3 zo zo hsz zo k5 h
      (repeat' ((conv=>whnf);first|(with_reducible first|refine hw8 ?_|refine hr1 fun L hL hs=>?_|refine hr2 fun L hL hs=>?_)|refine zG ?_|apply zA|(apply zI;intro h)|exact zT));(all_goals conv=>whnf)
      ·obtain⟨m1,m2⟩:=k6 L hL hs
       refine⟨(mid+1,b1,l2,.sb (decide ((((b1-a1)/8:Nat):Int)<=(mid:Int)-a1)),.sb r,L),⟨by dsimp only;omega,by dsimp only;omega,by dsimp only;omega,by dsimp only;assumption,.inr ⟨_,rfl⟩,.inr ⟨_,rfl⟩,hL.1.trans k3,m1,fun R q1 q2=>?_⟩,by dsimp only;omega,?_⟩
       ·obtain⟨q3,q4⟩:=m2 R q1 q2
        exact hfin R (Sort.permIn_trans _ _ _ _ _ he3 q3) q4
       ·dsimp only
        rw[show((mid+1:Nat):Int)=(mid:Int)+1 by omega]
        (exact leA)
      ·obtain⟨m1,m2⟩:=k7 L hL hs
       refine⟨(a1,mid,l2,.sb (decide ((((b1-a1)/8:Nat):Int)<=(b1:Int)-mid)),.sb r,L),⟨by dsimp only;omega,by dsimp only;omega,by dsimp only;omega,by dsimp only;assumption,.inr ⟨_,rfl⟩,.inr ⟨_,rfl⟩,hL.1.trans k3,m1,fun R q1 q2=>?_⟩,by dsimp only;omega,?_⟩
       ·obtain⟨q3,q4⟩:=m2 R q1 q2
        exact hfin R (Sort.permIn_trans _ _ _ _ _ he3 q3) q4
       ·(exact leA)
     ·have n1':a1-1<e3.size:=by omega
      (repeat' ((conv=>whnf);first|(with_reducible refine csLess _ _ ?_)|(refine In.intro (a1-1) zo zo ?_)|(with_reducible first|refine in_nat n2 ?_|refine ix_z n1' ?_|refine ix_z n2' ?_)|refine zG ?_|apply zA|(apply zI;intro h)|exact zT));(all_goals conv=>whnf)
      ·refine csPart' he3s a1 b1 hsz p2 hp21 hp22 zo hB3 fun e4 mid r k1 k2 k3 k4 k5 k6 k7=>?_
       have hr1:∀{K:KT},(∀L,Sort.PermIn a1 mid e4 L->Sort.SortedIn Sort.ltInt a1 mid L->K (.tup []) [rowZ L])->ACall Tryz.prog 337 [.os 0 1 0 n,.v (.int .i64 a1),.v (.int .i64 mid),.v (.int .i64 l2)] [rowZ e4] K:=fun h=>ih n e4 a1 mid l2 zo k3 k1 zo hsz zo k4 h
       have hr2:∀{K:KT},(∀L,Sort.PermIn (mid+1) b1 e4 L->Sort.SortedIn Sort.ltInt (mid+1) b1 L->K (.tup []) [rowZ L])->ACall Tryz.prog 337 [.os 0 1 0 n,.v (.int .i64 ((mid:Int)+1)),.v (.int .i64 b1),.v (.int .i64 l2)] [rowZ e4] K:=fun h=>by
        rw[show(mid:Int)+1=((mid+1:Nat):Int) by omega]
        exact ih n e4 (mid+1) b1 l2 zo k3 zo zo hsz zo k5 h
       (repeat' ((conv=>whnf);first|(with_reducible first|refine hw8 ?_|refine hr1 fun L hL hs=>?_|refine hr2 fun L hL hs=>?_)|refine zG ?_|apply zA|(apply zI;intro h)|exact zT));(all_goals conv=>whnf)
       ·obtain⟨m1,m2⟩:=k6 L hL hs
        refine⟨(mid+1,b1,l2,.sb (decide ((((b1-a1)/8:Nat):Int)<=(mid:Int)-a1)),.sb r,L),⟨by dsimp only;omega,by dsimp only;omega,by dsimp only;omega,by dsimp only;assumption,.inr ⟨_,rfl⟩,.inr ⟨_,rfl⟩,hL.1.trans k3,m1,fun R q1 q2=>?_⟩,by dsimp only;omega,?_⟩
        ·obtain⟨q3,q4⟩:=m2 R q1 q2
         exact hfin R (Sort.permIn_trans _ _ _ _ _ he3 q3) q4
        ·dsimp only
         rw[show((mid+1:Nat):Int)=(mid:Int)+1 by omega]
         (exact leA)
       ·obtain⟨m1,m2⟩:=k7 L hL hs
        refine⟨(a1,mid,l2,.sb (decide ((((b1-a1)/8:Nat):Int)<=(b1:Int)-mid)),.sb r,L),⟨by dsimp only;omega,by dsimp only;omega,by dsimp only;omega,by dsimp only;assumption,.inr ⟨_,rfl⟩,.inr ⟨_,rfl⟩,hL.1.trans k3,m1,fun R q1 q2=>?_⟩,by dsimp only;omega,?_⟩
        ·obtain⟨q3,q4⟩:=m2 R q1 q2
         exact hfin R (Sort.permIn_trans _ _ _ _ _ he3 q3) q4
        ·(exact leA)
      ·refine csPeq' he3s a1 b1 hsz p2 hp21 hp22 zo ha0 hB3 zp fun e4 mid k1 k2 k3 k4 k5=>?_
       (repeat' ((conv=>whnf);first|refine zG ?_|apply zA|(apply zI;intro h)|exact zT));(all_goals conv=>whnf)
       refine⟨(mid,b1,l2,.sb c,.v (.bool true),e4),⟨by dsimp only;omega,by dsimp only;omega,by dsimp only;omega,by dsimp only;assumption,.inr ⟨_,rfl⟩,.inl rfl,k3,k4,fun R q1 q2=>?_⟩,by dsimp only;omega,?_⟩
       ·obtain⟨q3,q4⟩:=k5 R q1 q2
        exact hfin R (Sort.permIn_trans _ _ _ _ _ he3 q3) q4
       ·(exact leA)
    ·have hl1:(l1:Int)-1=((l1-1:Nat):Int):=by omega
     (repeat' ((conv=>whnf);first|refine zG ?_|apply zA|(apply zI;intro h)|exact zT));(all_goals conv=>whnf)
     refine Jn.intro (Nat×Array Int) (fun g=>⟨1,[(0,rowZ g.2)],[(0,.os 0 1 0 n),(1,.v (.int .i64 a1)),(2,.v (.int .i64 b1)),(3,.v (.int .i64 g.1)),(8,.sb c),(9,.sb c'),(10,.v (.int .i64 ((b1:Int)-a1)))]⟩) (fun g=>g.1<=limit/\Sort.PermIn a1 b1 e g.2) ?_ ?_
     ·(repeat' ((conv=>whnf);first|(with_reducible refine csBrk' hes a1 b1 hsz zo zo fun e1 he1=>?_)|refine zG ?_|apply zA|(apply zI;intro h)|exact zT));(all_goals conv=>whnf)
      all_goals first
       |(refine⟨(l1-1,e1),⟨by dsimp only;omega,he1⟩,?_⟩
         dsimp only
         rw[<-hl1]
         (exact leA))
       |(refine⟨(l1,e),⟨by assumption,Sort.permIn_refl _ _ _⟩,?_⟩
         (exact leA))
     rintro⟨l2,e1⟩ ⟨hl2,he1⟩
     simp only at hl2 he1⊢
     have he1s:e1.size=n:=he1.1.trans hes
     (repeat' ((conv=>whnf);first|(with_reducible refine csPiv' he1s a1 b1 hsz zo zo fun p hh hp1 hp2=>?_)|refine zG ?_|apply zA|(apply zI;intro h)|exact zT));(all_goals conv=>whnf)
     refine Jn.intro (Nat×Int×Array Int) (fun g=>⟨1,[(0,rowZ g.2.2)],[(0,.os 0 1 0 n),(1,.v (.int .i64 a1)),(2,.v (.int .i64 b1)),(3,.v (.int .i64 l2)),(8,.sb c),(9,.sb c'),(10,.v (.int .i64 ((b1:Int)-a1))),(11,.v (.int .i64 g.1)),(12,.v (.int .i64 g.2.1))]⟩) (fun g=>a1<=g.1/\g.1<b1/\Sort.PermIn a1 b1 e g.2.2) ?_ ?_
     ·(repeat' ((conv=>whnf);first|(with_reducible refine csRev' he1s a1 b1 hsz zo zo fun e2 he2=>?_)|refine zG ?_|apply zA|(apply zI;intro h)|exact zT));(all_goals conv=>whnf)
      all_goals first
       |(refine⟨((b1-1)-(p-a1),1,e2),⟨by dsimp only;omega,by dsimp only;omega,Sort.permIn_trans _ _ _ _ _ he1 he2⟩,?_⟩
         dsimp only
         rw[show(((b1-1)-(p-a1):Nat):Int)=(b1:Int)-1-((p:Int)-a1) by omega]
         (exact leA))
       |(refine⟨(p,hh,e1),⟨hp1,hp2,he1⟩,?_⟩
         (exact leA))
     rintro⟨p2,h2,e2⟩ ⟨hp21,hp22,he2⟩
     simp only at hp21 hp22 he2⊢
     clear he1s he1 e1 hp1 hp2 p hh
     have he2s:e2.size=n:=he2.1.trans hes
     have hB2:=hB.perm zo he2
     refine Jn.intro (Array Int) (fun g=>⟨1,[(0,rowZ g)],[(0,.os 0 1 0 n),(1,.v (.int .i64 a1)),(2,.v (.int .i64 b1)),(3,.v (.int .i64 l2)),(8,.sb c),(9,.sb c'),(10,.v (.int .i64 ((b1:Int)-a1))),(11,.v (.int .i64 p2))]⟩) (fun g=>Sort.PermIn a1 b1 e g) ?_ ?_
     ·have stay:∃g:Array Int,Sort.PermIn a1 b1 e g/\g=e2:=⟨e2,he2,rfl⟩
      have pins:∀{K:KT},(∀e (r:Bool),Sort.PermIn a1 b1 e2 e->(r=true->Sort.SortedIn Sort.ltInt a1 b1 e)->K (.sb r) [rowZ e])->ACall Tryz.prog 352 [.os 0 1 0 n,.v (.int .i64 a1),.v (.int .i64 b1)] [rowZ e2] K:=fun h=>csPins' he2s a1 b1 hsz zo zo hB2 h
      (repeat' ((conv=>whnf);first|(with_reducible refine pins fun e3 r he3 hr=>?_)|refine zG ?_|apply zA|(apply zI;intro h)|exact zT));(all_goals conv=>whnf)
      all_goals first
       |exact hK e3 (hfin e3 (Sort.permIn_trans _ _ _ _ _ he2 he3) (hr zp)).1 (hfin e3 (Sort.permIn_trans _ _ _ _ _ he2 he3) (hr zp)).2
       |(refine⟨e3,Sort.permIn_trans _ _ _ _ _ he2 he3,?_⟩
         (exact leA))
       |(refine⟨e2,he2,?_⟩
         (exact leA))
     intro e3 he3
     have he3s:e3.size=n:=he3.1.trans hes
     have hB3:=hB.perm zo he3
     have hw8:∀{K:Int->Prop},K (((b1-a1)/8:Nat):Int)->Wr .i64 (((b1:Int)-a1).tdiv 8) K:=fun h=>wr_i64 (by rw[Int.tdiv_eq_ediv_of_nonneg zo];omega) zo zo h
     have n2:p2<n:=by omega
     have n2':p2<e3.size:=by omega
     have part:∀{Q:Prop},Q->Q:=fun h=>h
     rcases Nat.eq_zero_or_pos a1 with ha0|ha0
     ·(repeat' ((conv=>whnf);first|refine zG ?_|apply zA|(apply zI;intro h)|exact zT));(all_goals conv=>whnf)
      refine csPart' he3s a1 b1 hsz p2 hp21 hp22 zo hB3 fun e4 mid r k1 k2 k3 k4 k5 k6 k7=>?_
      have hr1:∀{K:KT},(∀L,Sort.PermIn a1 mid e4 L->Sort.SortedIn Sort.ltInt a1 mid L->K (.tup []) [rowZ L])->ACall Tryz.prog 337 [.os 0 1 0 n,.v (.int .i64 a1),.v (.int .i64 mid),.v (.int .i64 l2)] [rowZ e4] K:=fun h=>ih n e4 a1 mid l2 zo k3 k1 zo hsz zo k4 h
      have hr2:∀{K:KT},(∀L,Sort.PermIn (mid+1) b1 e4 L->Sort.SortedIn Sort.ltInt (mid+1) b1 L->K (.tup []) [rowZ L])->ACall Tryz.prog 337 [.os 0 1 0 n,.v (.int .i64 ((mid:Int)+1)),.v (.int .i64 b1),.v (.int .i64 l2)] [rowZ e4] K:=fun h=>by
       rw[show(mid:Int)+1=((mid+1:Nat):Int) by omega]
       exact ih n e4 (mid+1) b1 l2 zo k3 zo zo hsz zo k5 h
      (repeat' ((conv=>whnf);first|(with_reducible first|refine hw8 ?_|refine hr1 fun L hL hs=>?_|refine hr2 fun L hL hs=>?_)|refine zG ?_|apply zA|(apply zI;intro h)|exact zT));(all_goals conv=>whnf)
      ·obtain⟨m1,m2⟩:=k6 L hL hs
       refine⟨(mid+1,b1,l2,.sb (decide ((((b1-a1)/8:Nat):Int)<=(mid:Int)-a1)),.sb r,L),⟨by dsimp only;omega,by dsimp only;omega,by dsimp only;omega,by dsimp only;assumption,.inr ⟨_,rfl⟩,.inr ⟨_,rfl⟩,hL.1.trans k3,m1,fun R q1 q2=>?_⟩,by dsimp only;omega,?_⟩
       ·obtain⟨q3,q4⟩:=m2 R q1 q2
        exact hfin R (Sort.permIn_trans _ _ _ _ _ he3 q3) q4
       ·dsimp only
        rw[show((mid+1:Nat):Int)=(mid:Int)+1 by omega]
        (exact leA)
      ·obtain⟨m1,m2⟩:=k7 L hL hs
       refine⟨(a1,mid,l2,.sb (decide ((((b1-a1)/8:Nat):Int)<=(b1:Int)-mid)),.sb r,L),⟨by dsimp only;omega,by dsimp only;omega,by dsimp only;omega,by dsimp only;assumption,.inr ⟨_,rfl⟩,.inr ⟨_,rfl⟩,hL.1.trans k3,m1,fun R q1 q2=>?_⟩,by dsimp only;omega,?_⟩
       ·obtain⟨q3,q4⟩:=m2 R q1 q2
        exact hfin R (Sort.permIn_trans _ _ _ _ _ he3 q3) q4
       ·(exact leA)
     ·have n1':a1-1<e3.size:=by omega
      (repeat' ((conv=>whnf);first|(with_reducible refine csLess _ _ ?_)|(refine In.intro (a1-1) zo zo ?_)|(with_reducible first|refine in_nat n2 ?_|refine ix_z n1' ?_|refine ix_z n2' ?_)|refine zG ?_|apply zA|(apply zI;intro h)|exact zT));(all_goals conv=>whnf)
      ·refine csPart' he3s a1 b1 hsz p2 hp21 hp22 zo hB3 fun e4 mid r k1 k2 k3 k4 k5 k6 k7=>?_
       have hr1:∀{K:KT},(∀L,Sort.PermIn a1 mid e4 L->Sort.SortedIn Sort.ltInt a1 mid L->K (.tup []) [rowZ L])->ACall Tryz.prog 337 [.os 0 1 0 n,.v (.int .i64 a1),.v (.int .i64 mid),.v (.int .i64 l2)] [rowZ e4] K:=fun h=>ih n e4 a1 mid l2 zo k3 k1 zo hsz zo k4 h
       have hr2:∀{K:KT},(∀L,Sort.PermIn (mid+1) b1 e4 L->Sort.SortedIn Sort.ltInt (mid+1) b1 L->K (.tup []) [rowZ L])->ACall Tryz.prog 337 [.os 0 1 0 n,.v (.int .i64 ((mid:Int)+1)),.v (.int .i64 b1),.v (.int .i64 l2)] [rowZ e4] K:=fun h=>by
        rw[show(mid:Int)+1=((mid+1:Nat):Int) by omega]
        exact ih n e4 (mid+1) b1 l2 zo k3 zo zo hsz zo k5 h
       (repeat' ((conv=>whnf);first|(with_reducible first|refine hw8 ?_|refine hr1 fun L hL hs=>?_|refine hr2 fun L hL hs=>?_)|refine zG ?_|apply zA|(apply zI;intro h)|exact zT));(all_goals conv=>whnf)
       ·obtain⟨m1,m2⟩:=k6 L hL hs
        refine⟨(mid+1,b1,l2,.sb (decide ((((b1-a1)/8:Nat):Int)<=(mid:Int)-a1)),.sb r,L),⟨by dsimp only;omega,by dsimp only;omega,by dsimp only;omega,by dsimp only;assumption,.inr ⟨_,rfl⟩,.inr ⟨_,rfl⟩,hL.1.trans k3,m1,fun R q1 q2=>?_⟩,by dsimp only;omega,?_⟩
        ·obtain⟨q3,q4⟩:=m2 R q1 q2
         exact hfin R (Sort.permIn_trans _ _ _ _ _ he3 q3) q4
        ·dsimp only
         rw[show((mid+1:Nat):Int)=(mid:Int)+1 by omega]
         (exact leA)
       ·obtain⟨m1,m2⟩:=k7 L hL hs
        refine⟨(a1,mid,l2,.sb (decide ((((b1-a1)/8:Nat):Int)<=(b1:Int)-mid)),.sb r,L),⟨by dsimp only;omega,by dsimp only;omega,by dsimp only;omega,by dsimp only;assumption,.inr ⟨_,rfl⟩,.inr ⟨_,rfl⟩,hL.1.trans k3,m1,fun R q1 q2=>?_⟩,by dsimp only;omega,?_⟩
        ·obtain⟨q3,q4⟩:=m2 R q1 q2
         exact hfin R (Sort.permIn_trans _ _ _ _ _ he3 q3) q4
        ·(exact leA)
      ·refine csPeq' he3s a1 b1 hsz p2 hp21 hp22 zo ha0 hB3 zp fun e4 mid k1 k2 k3 k4 k5=>?_
       (repeat' ((conv=>whnf);first|refine zG ?_|apply zA|(apply zI;intro h)|exact zT));(all_goals conv=>whnf)
       refine⟨(mid,b1,l2,.sb c,.sb c',e4),⟨by dsimp only;omega,by dsimp only;omega,by dsimp only;omega,by dsimp only;assumption,.inr ⟨_,rfl⟩,.inr ⟨_,rfl⟩,k3,k4,fun R q1 q2=>?_⟩,by dsimp only;omega,?_⟩
       ·obtain⟨q3,q4⟩:=k5 R q1 q2
        exact hfin R (Sort.permIn_trans _ _ _ _ _ he3 q3) q4
       ·(exact leA)
  ·(repeat' ((conv=>whnf);first|(with_reducible refine csIns' hes a1 b1 hsz zo zo fun r h1 h2=>?_)|refine zG ?_|apply zA|(apply zI;intro h)|exact zT));(all_goals conv=>whnf)
   exact hK r (hfin r h1 h2).1 (hfin r h1 h2).2
theorem sortedIn_pairwise{d:Array Int}(h:Sort.SortedIn Sort.ltInt 0 d.size d):d.toList.Pairwise (· <= ·):=by
 rw[List.pairwise_iff_getElem]
 intro i j hi hj hij
 have:=h i j (Nat.zero_le _) hij (by simpa using hj)
 simp only[Array.length_toList]at hi hj
 rw[getElem!_pos d i zo,getElem!_pos d j zo]at this
 simp only[Sort.ltInt,decide_eq_false_iff_not]at this
 simp only[Array.getElem_toList]
 omega
theorem permIn_perm{d e:Array Int}(h:Sort.PermIn 0 d.size d e):e.toList.Perm d.toList:=by
 obtain⟨h1,_,h2⟩:=h
 have e1:(e.extract 0 d.size)=e:=by rw[<-h1];simp
 have e2:(d.extract 0 d.size)=d:=by simp
 rw[e1,e2]at h2
 exact h2
theorem csSort(l:List Int)(hl:l.length<1000000000000){K:KT}(hK:∀l':List Int,l'.Perm l->l'.Pairwise (· <= ·)->K (.tup []) [.arr 1 (l'.map encZ)]):
  ACall Tryz.prog 324 [.os 0 1 0 l.length] [.arr 1 (l.map encZ)] K:=by
 refine ofsSort rfl rfl ?_
 have hp:∀{K:KT} (m:Nat),m<1000->(∀e:Array Int,Sort.PermIn 0 l.length l.toArray e->Sort.SortedIn Sort.ltInt 0 l.length e->K (.tup []) [rowZ e])->ACall Tryz.prog 337 [.os 0 1 0 l.length,.v (.int .i64 0),.v (.int .i64 l.length),.v (.int .i64 m)] [.arr 1 (l.map encZ)] K:=fun m hm h=>
  csPdq (l.length+1) l.length l.toArray 0 l.length m zo zx (Nat.zero_le _) (Nat.le_refl _) hl hm (.inl rfl) h
 (repeat' ((conv=>whnf);first|(with_reducible refine csLen l.length hl fun m hm=>?_)|refine zG ?_|apply zA|(apply zI;intro h)|exact zT));(all_goals conv=>whnf)
 have hm40:=len_le hl hm
 (repeat' ((conv=>whnf);first|(with_reducible refine hp m zo fun e h1 h2=>?_)|refine zG ?_|apply zA|(apply zI;intro h)|exact zT));(all_goals conv=>whnf)
 have hs:e.size=l.length:=by simpa using h1.1
 refine hK e.toList ?_ ?_
 ·have:=permIn_perm (d:=l.toArray) (e:=e) (by simpa using h1)
  simpa using this
 ·exact sortedIn_pairwise (by rw[hs];exact h2)
def compS(acc:List Int)(x:Int):List Int:=if acc.getLast?=some x then acc else acc++[x]
def comp(l:List Int):List Int:=l.foldl compS []
theorem comp_succ{l:List Int}{r:Nat}{x:Int}(h:l[r]? =some x):comp (l.take (r+1))=compS (comp (l.take r)) x:=by
 simp[comp,List.take_add_one,h]
theorem comp_last:∀(l:List Int) {r:Nat} {x:Int},l[r]? =some x->(comp (l.take (r+1))).getLast?=some x:=by
 intro l r x h
 rw[comp_succ h,compS]
 split
 ·assumption
 ·simp
theorem comp_next{l:List Int}{r:Nat}{x y:Int}(h:l[r]? =some x)(h1:l[r+1]? =some y):comp (l.take (r+2))=if x=y then comp (l.take (r+1))else comp (l.take (r+1))++[y]:=by
 rw[comp_succ h1,compS,comp_last l h]
 simp only[Option.some.injEq]
theorem comp_len_le(l:List Int):∀r,(comp (l.take r)).length<=r:=by
 intro r
 induction r with
 |zero=>simp[comp]
 |succ r ih=>
  rcases Nat.lt_or_ge r l.length with h|h
  ·obtain⟨x,hx⟩:=gex h
   rw[comp_succ hx,compS]
   split
   ·omega
   ·simp;omega
  ·rw[List.take_of_length_le zo,<-List.take_of_length_le h]
   omega
theorem csComp(l:List Int)(hl:l.length<1000000000000){K:KT}(hK:∀zs,K (.os 0 1 0 (comp l).length) [.arr 1 ((comp l).map encZ++zs)]):
  ACall Tryz.prog 325 [.os 0 1 0 l.length] [.arr 1 (l.map encZ)] K:=by
 refine ofsComp rfl rfl ?_
 rcases Nat.lt_or_ge l.length 2 with h2|h2
 ·have e:comp l=l:=by
   rcases l with _|⟨x,_|⟨y,l⟩⟩
   ·rfl
   ·rfl
   ·simp only[List.length_cons]at h2;omega
  have:=hK []
  rw[e,List.append_nil]at this
  (repeat' ((conv=>whnf);first|refine zG ?_|apply zA|(apply zI;intro h)|exact zT));(all_goals conv=>whnf)
  exact this
 ·(repeat' ((conv=>whnf);first|refine zG ?_|apply zA|(apply zI;intro h)|exact zT));(all_goals conv=>whnf)
  refine Lp.intro Nat (fun k=>⟨1,[(0,.arr 1 (l.map encZ))],[(0,.os 0 1 0 l.length),(3,.v (.int .i64 k))]⟩) (fun k=>1<=k/\k<=l.length/\comp (l.take k)=l.take k) (fun k=>l.length-k) 1 ⟨Nat.le_refl _,by omega,?_⟩ ?_ ?_
  ·rcases l with _|⟨x,l⟩
   ·exact absurd h2 zx
   ·rfl
  ·(exact leA)
  intro k ⟨hk1,hk2,hk3⟩
  rcases Nat.lt_or_ge k l.length with hkl|hkl
  ·obtain⟨m,rfl⟩:∃m,k=m+1:=⟨k-1,by omega⟩
   obtain⟨x,hx⟩:∃x,l[m]? =some x:=⟨_,List.getElem?_eq_getElem zo⟩
   obtain⟨y,hy⟩:∃y,l[m+1]? =some y:=⟨_,List.getElem?_eq_getElem hkl⟩
   have hx0:l[0+m]? =some x:=by rw[Nat.zero_add];exact hx
   have hy0:l[0+(m+1)]? =some y:=by rw[Nat.zero_add];exact hy
   have hn:=comp_next hx hy
   (repeat' ((conv=>whnf);first|(with_reducible refine in_nat hkl ?_)|(refine In.intro m zo zo ?_)|(with_reducible first|refine ix_map hx0 ?_|refine ix_map hy0 ?_)|(refine Sb.intro (m+1) l.length rfl rfl zo (Nat.le_refl _) ?_)|refine zG ?_|apply zA|(apply zI;intro h)|exact zT));(all_goals conv=>whnf)
   ·have hxy:x=y:=h.symm
    rw[if_pos hxy,hk3]at hn
    refine Lp.intro Nat (fun q=>⟨1,[(0,.arr 1 ((comp (l.take (m+2+q))++l.drop (comp (l.take (m+2+q))).length).map encZ))],[(0,.os 0 1 0 l.length),(3,.v (.int .i64 (comp (l.take (m+2+q))).length)),(4,.os 0 1 (0+(m+1)) (l.length-(m+1))),(5,.v (.int .i64 ((q+1:Nat):Int)))]⟩) (fun q=>m+2+q<=l.length/\(comp (l.take (m+2+q))).length<m+2+q) (fun q=>l.length-q) 0 ⟨by omega,by rw[Nat.add_zero,hn,List.length_take];omega⟩ ?_ ?_
    ·have e1:(l.take (m+1)).length=m+1:=by rw[List.length_take];omega
     rw[Nat.add_zero,hn,e1,List.take_append_drop]
     (exact leA)
    intro q ⟨hq1,hq2⟩
    obtain⟨C,hC⟩:∃C,C=comp (l.take (m+2+q)):=⟨_,rfl⟩
    rw[<-hC]at hq2⊢
    rcases Nat.lt_or_ge (m+2+q) l.length with hql|hql
    ·obtain⟨u,hu⟩:∃u,l[m+1+q]? =some u:=⟨_,List.getElem?_eq_getElem zo⟩
     obtain⟨v,hv⟩:∃v,l[m+1+q+1]? =some v:=⟨_,List.getElem?_eq_getElem zo⟩
     have hnx:=comp_next hu hv
     rw[show m+1+q+2=m+2+(q+1) by omega,show m+1+q+1=m+2+q by omega,<-hC]at hnx
     have hget:∀i,C.length<=i->(C++l.drop C.length)[i]? =l[i]? :=fun i hi=>by
      rw[List.getElem?_append_right hi,List.getElem?_drop]
      congr 1;omega
     have hu0:(C++l.drop C.length)[0+(m+1)+q]? =some u:=by rw[Nat.zero_add,hget _ zo];exact hu
     have hv0:(C++l.drop C.length)[0+(m+1)+(q+1)]? =some v:=by rw[Nat.zero_add,hget _ zo];exact hv
     obtain⟨z,hz⟩:∃z,l[C.length]? =some z:=⟨_,List.getElem?_eq_getElem zo⟩
     have hz0:(C++l.drop C.length)[0+C.length]? =some z:=by rw[Nat.zero_add,hget _ (Nat.le_refl _)];exact hz
     have hCn:C.length<l.length:=by omega
     have hdr:l.drop C.length=z::l.drop (C.length+1):=by
      rw[List.getElem?_eq_getElem hCn]at hz
      rw[<-Option.some.inj hz,<-List.drop_eq_getElem_cons hCn]
     have hset:((C++l.drop C.length).map encZ).set (0+C.length) (encZ v)=((C++[v])++l.drop (C++[v]).length).map encZ:=by
      rw[Nat.zero_add,<-List.map_set,List.set_append_right _ _ (Nat.le_refl _),Nat.sub_self,hdr]
      simp
     (repeat' ((conv=>whnf);first|(refine In.intro q zo zo ?_)|(refine In.intro (q+1) zo zo ?_)|(with_reducible first|refine in_nat hCn ?_|refine ix_map hu0 ?_|refine ix_map hv0 ?_|refine ix_map hz0 ?_)|refine zG ?_|apply zA|(apply zI;intro h)|exact zT));(all_goals conv=>whnf)
     all_goals first
      |(rw[if_neg (fun e=>h e.symm)]at hnx
        refine⟨q+1,⟨by omega,by rw[hnx,List.length_append];simp;omega⟩,by omega,?_⟩
        rw[hnx,hset,show((C++[v]).length:Int)=(C.length:Int)+1 by simp,show((q+1+1:Nat):Int)=((q+1:Nat):Int)+1 by omega]
        (exact leA)
        done)
      |(rw[if_pos (by first|exact h.symm|exact(Decidable.not_not.1 h).symm)]at hnx
        refine⟨q+1,⟨by omega,by rw[hnx];omega⟩,by omega,?_⟩
        rw[hnx,show((q+1+1:Nat):Int)=((q+1:Nat):Int)+1 by omega]
        (exact leA))
    ·have hCl:C=comp l:=by rw[hC,List.take_of_length_le hql]
     have hCn:C.length<=l.length:=by omega
     (repeat' ((conv=>whnf);first|(refine Sb.intro C.length l.length rfl rfl hCn (Nat.le_refl _) ?_)|(refine Sb.intro 0 C.length rfl rfl (Nat.zero_le _) hCn ?_)|refine zG ?_|apply zA|(apply zI;intro h)|exact zT));(all_goals conv=>whnf)
     have e1:(List.map encZ (C++l.drop C.length)).take (0+C.length)=C.map encZ:=by
      rw[Nat.zero_add,List.map_append,List.take_left' zx]
     rw[e1,Nat.add_zero,Nat.sub_zero,hCl]
     exact hK _
   ·refine⟨m+2,⟨by omega,by omega,?_⟩,by omega,?_⟩
    ·rw[hn,if_neg (fun e=>h e.symm),hk3,List.take_add_one (i:=m+1),hy]
     rfl
    ·rw[show((m+2:Nat):Int)=((m+1:Nat):Int)+1 by omega]
     (exact leA)
  ·have e:comp l=l:=by rw[List.take_of_length_le hkl]at hk3;exact hk3
   have:=hK []
   rw[e,List.append_nil]at this
   (repeat' ((conv=>whnf);first|refine zG ?_|apply zA|(apply zI;intro h)|exact zT));(all_goals conv=>whnf)
   exact this
theorem comp_take_mem(l:List Int):∀r,r<=l.length->∀z,z∈comp (l.take r)↔z∈l.take r:=by
 intro r
 induction r with
 |zero=>intro _ z;simp[comp]
 |succ r ih=>
  intro hr z
  obtain⟨x,hx⟩:∃x,l[r]? =some x:=⟨_,List.getElem?_eq_getElem zo⟩
  rw[comp_succ hx,compS,List.take_add_one,hx]
  have h:=ih zo z
  split
  ·rename_i hl
   have:x∈comp (l.take r):=List.mem_of_getLast? hl
   simp only[Option.toList_some,List.mem_append,List.mem_singleton,h]
   constructor
   ·intro h;exact .inl h
   ·rintro(h|rfl)
    ·exact h
    ·exact(ih zo z).1 this
  ·simp[h]
theorem comp_mem{l:List Int}{z:Int}:z∈comp l↔z∈l:=by
 have:=comp_take_mem l l.length (Nat.le_refl _) z
 rwa[List.take_length]at this
theorem comp_take_lt{l:List Int}(h:l.Pairwise (· <= ·)):∀r,r<=l.length->(comp (l.take r)).Pairwise (· < ·):=by
 intro r
 induction r with
 |zero=>intro _;simp[comp]
 |succ r ih=>
  intro hr
  obtain⟨x,hx⟩:∃x,l[r]? =some x:=⟨_,List.getElem?_eq_getElem zo⟩
  rw[comp_succ hx,compS]
  have h0:=ih zo
  split
  ·exact h0
  ·rename_i hl
   rw[List.pairwise_append]
   refine⟨h0,by simp,fun a ha b hb=>?_⟩
   rw[List.mem_singleton]at hb
   subst hb
   have ha':=(comp_take_mem l r zo a).1 ha
   have hle:∀c,c∈l.take r->c<=b:=fun c hc=>by
    have h1:(l.take (r+1)).Pairwise (· <= ·):=h.sublist (List.take_sublist _ _)
    rw[List.take_add_one,hx]at h1
    exact(List.pairwise_append.1 h1).2.2 c hc b zx
   have hne:a≠b:=by
    rintro rfl
    obtain⟨i,g,hg⟩:∃i g,comp (l.take r)=i++[g]:=by
     rcases List.eq_nil_or_concat (comp (l.take r))with h|⟨i,g,h⟩
     ·rw[h]at ha;simp at ha
     ·exact⟨i,g,by rw[h,List.concat_eq_append]⟩
    rw[hg]at hl ha h0
    simp only[List.getLast?_append,List.getLast?_singleton,Option.some_or,Option.some.injEq]at hl
    have hgl:g<=a:=hle g ((comp_take_mem l r zo g).1 (by rw[hg];simp))
    rcases List.mem_append.1 ha with ha|ha
    ·have:=(List.pairwise_append.1 h0).2.2 a ha g zx
     omega
    ·rw[List.mem_singleton]at ha
     exact hl ha.symm
   have:=hle a ha'
   omega
theorem comp_lt{l:List Int}(h:l.Pairwise (· <= ·)):(comp l).Pairwise (· < ·):=by
 have:=comp_take_lt h l.length (Nat.le_refl _)
 rwa[List.take_length]at this
theorem endsB_succ{f:Nat}{l:List Bx}{k:Nat}{x:Bx}(h:l[k]? =some x):endsB f (l.take (k+1))=endsB f (l.take k)++[(x.get f).lo,(x.get f).hi+1]:=by
 simp[endsB,List.take_add_one,h]
theorem endsB_len(f:Nat)(l:List Bx):(endsB f l).length=2*l.length:=by
 induction l with
 |nil=>rfl
 |cons x l ih=>rw[endsB,List.flatMap_cons,List.length_append];rw[endsB]at ih;rw[ih,List.length_cons];simp;omega
theorem cxCuts(a b:List Bx)(f:Nat)(hf:f<=4)(ha:a.length<1000000000)(hb:b.length<1000000000){K:KT}
  (hK:∀st:List Int,st.Pairwise (· < ·)->(∀z,z∈st↔z=0\/z=topF f+1\/z∈endsB f a\/z∈endsB f b)->K (.lst (st.map encZ)) []):
  ACall Tryz.prog 288 [.v (.int .i64 f),.lst [encXs a,encXs b]] [] K:=by
 refine ofxCuts rfl rfl ?_
 have hTop:∀{K:KT},K (.v (.int .u32 (topF f))) []->ACall Tryz.prog 143 [.v (.int .i64 f)] [] K:=fun h=>cxTop _ (by rw[topI_nat hf];exact h)
 have ht:=topF_pos f
 (repeat' ((conv=>whnf);first|(with_reducible refine hTop ?_)|refine zG ?_|apply zA|(apply zI;intro h)|exact zT));(all_goals conv=>whnf)
 refine Lp.times 3 ?_
 (repeat' ((conv=>whnf);first|(refine in_c rfl ?_)|(refine Ix.intro rfl ?_)|refine zG ?_|apply zA|(apply zI;intro h)|exact zT));(all_goals conv=>whnf)
 refine Lp.intro Nat (fun k=>⟨1,[(0,.arr 1 (([0,topF f+1]++endsB f (a.take k)).map encZ))],[(0,.v (.int .i64 f)),(5,.os 0 1 0 ([0,topF f+1]++endsB f (a.take k)).length),(15,.lst [encXs a,encXs b]),(16,.v (.int .i64 (([encXs a,encXs b].length:Nat):Int))),(17,.v (.int .i64 (0))),(21,encXs a),(22,.v (.int .i64 ((a.map encX).length:Nat))),(23,.v (.int .i64 k))]⟩) (fun k=>k<=a.length) (fun k=>a.length-k) 0 (Nat.zero_le _) ?_ ?_
 ·rw[List.take_zero,show endsB f []=[]from rfl,List.append_nil]
  (exact leA)
 intro k hk
 rcases Nat.lt_or_ge k a.length with hkl|hkl
 ·obtain⟨x,hx⟩:=gex hkl
  have hs:=endsB_succ (f:=f) hx
  have hlen:([0,topF f+1]++endsB f (a.take k)).length<=4000000010:=by
   have h1:=endsB_len f (a.take k)
   have h2:=endsB_len f a
   rw[List.length_take]at h1
   simp only[List.length_append,List.length_cons,List.length_nil]
   omega
  have hr:((x.get f).hi<=4294967295/\0<=(x.get f).hi)/\(x.get f).lo<=4294967295/\0<=(x.get f).lo:=⟨⟨(x.get f).h1,(x.get f).h0⟩,(x.get f).l1,(x.get f).l0⟩
  obtain⟨⟨hr1,hr2⟩,hr3,hr4⟩:=hr
  have happ:(([0,topF f+1]++endsB f (a.take (k+1))).map encZ)=(([0,topF f+1]++endsB f (a.take k)).map encZ)++[encZ (x.get f).lo,encZ ((x.get f).hi+1)]:=by
   rw[hs,<-List.append_assoc,List.map_append];rfl
  have hll:([0,topF f+1]++endsB f (a.take (k+1))).length=([0,topF f+1]++endsB f (a.take k)).length+2:=by
   rw[hs,<-List.append_assoc,List.length_append];rfl
  generalize hA:([0,topF f+1]++endsB f (a.take k))=A at*
  generalize hB:([0,topF f+1]++endsB f (a.take (k+1)))=B at*
  rcases f with _|_|_|_|_|f
  case succ.succ.succ.succ.succ=>omega
  all_goals
   simp only[Bx.get]at happ hr1 hr2 hr3 hr4
   (repeat' ((conv=>whnf);first|(with_reducible first|refine in_map hkl ?_|refine ix_map hx ?_)|(refine in_c zd ?_)|refine zG ?_|apply zA|(apply zI;intro h)|exact zT));(all_goals conv=>whnf)
   refine⟨k+1,by omega,by omega,?_⟩
   rw[hB,happ,hll]
   (exact leA)
 ·rw[List.take_of_length_le hkl]
  (repeat' ((conv=>whnf);first|(refine in_c rfl ?_)|(refine Ix.intro rfl ?_)|refine zG ?_|apply zA|(apply zI;intro h)|exact zT));(all_goals conv=>whnf)
  refine Lp.intro Nat (fun k=>⟨1,[(0,.arr 1 ((([0,topF f+1]++endsB f a)++endsB f (b.take k)).map encZ))],[(0,.v (.int .i64 f)),(5,.os 0 1 0 (([0,topF f+1]++endsB f a)++endsB f (b.take k)).length),(15,.lst [encXs a,encXs b]),(16,.v (.int .i64 (([encXs a,encXs b].length:Nat):Int))),(17,.v (.int .i64 (0+1))),(21,encXs b),(22,.v (.int .i64 ((b.map encX).length:Nat))),(23,.v (.int .i64 k))]⟩) (fun k=>k<=b.length) (fun k=>b.length-k) 0 (Nat.zero_le _) ?_ ?_
  ·rw[List.take_zero,show endsB f []=[]from rfl,List.append_nil]
   (exact leA)
  intro k hk
  rcases Nat.lt_or_ge k b.length with hkl|hkl
  ·obtain⟨x,hx⟩:=gex hkl
   have hs:=endsB_succ (f:=f) hx
   have hlen:(([0,topF f+1]++endsB f a)++endsB f (b.take k)).length<=4000000010:=by
    have h1:=endsB_len f (b.take k)
    have h2:=endsB_len f a
    rw[List.length_take]at h1
    simp only[List.length_append,List.length_cons,List.length_nil]
    omega
   have hr:((x.get f).hi<=4294967295/\0<=(x.get f).hi)/\(x.get f).lo<=4294967295/\0<=(x.get f).lo:=⟨⟨(x.get f).h1,(x.get f).h0⟩,(x.get f).l1,(x.get f).l0⟩
   obtain⟨⟨hr1,hr2⟩,hr3,hr4⟩:=hr
   have happ:((([0,topF f+1]++endsB f a)++endsB f (b.take (k+1))).map encZ)=((([0,topF f+1]++endsB f a)++endsB f (b.take k)).map encZ)++[encZ (x.get f).lo,encZ ((x.get f).hi+1)]:=by
    rw[hs,<-List.append_assoc,List.map_append];rfl
   have hll:(([0,topF f+1]++endsB f a)++endsB f (b.take (k+1))).length=(([0,topF f+1]++endsB f a)++endsB f (b.take k)).length+2:=by
    rw[hs,<-List.append_assoc,List.length_append];rfl
   generalize hA:(([0,topF f+1]++endsB f a)++endsB f (b.take k))=A at*
   generalize hB:(([0,topF f+1]++endsB f a)++endsB f (b.take (k+1)))=B at*
   rcases f with _|_|_|_|_|f
   case succ.succ.succ.succ.succ=>omega
   all_goals
    simp only[Bx.get]at happ hr1 hr2 hr3 hr4
    (repeat' ((conv=>whnf);first|(with_reducible first|refine in_map hkl ?_|refine ix_map hx ?_)|(refine in_c zd ?_)|refine zG ?_|apply zA|(apply zI;intro h)|exact zT));(all_goals conv=>whnf)
    refine⟨k+1,by omega,by omega,?_⟩
    rw[hB,happ,hll]
    (exact leA)
  ·rw[List.take_of_length_le hkl]
   have hl:([0,topF f+1]++endsB f a++endsB f b).length<1000000000000:=by
    have h1:=endsB_len f a
    have h2:=endsB_len f b
    simp only[List.length_append,List.length_cons,List.length_nil]
    omega
   (repeat' ((conv=>whnf);first|(with_reducible refine csSort _ hl fun l' hp hs=>?_)|refine zG ?_|apply zA|(apply zI;intro h)|exact zT));(all_goals conv=>whnf)
   have hll:([0,topF f+1]++endsB f a++endsB f b).length=l'.length:=hp.length_eq.symm
   rw[hll]at hl⊢
   (repeat' ((conv=>whnf);first|(with_reducible refine csComp l' hl fun zs=>?_)|refine zG ?_|apply zA|(apply zI;intro h)|exact zT));(all_goals conv=>whnf)
   refine Sl.intro (ys:=(comp l').map encZ) zx (by rw[List.drop_zero,List.take_left' zx]) ?_
   refine hK (comp l') (comp_lt hs) fun z=>?_
   rw[comp_mem,hp.mem_iff]
   simp only[List.mem_append,List.mem_cons,List.not_mem_nil,or_false,or_assoc]
end Go.Proofs.YtbdikofefjljoaaGreatDoor
