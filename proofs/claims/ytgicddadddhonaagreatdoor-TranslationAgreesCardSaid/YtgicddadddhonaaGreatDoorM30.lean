/- Lemmas. -/
import Derived.Test.YtgicddadddhonaaGreatDoorM29
set_option linter.unusedVariables false
set_option linter.unusedSimpArgs false
set_option maxRecDepth 100000
set_option maxHeartbeats 4000000
noncomputable section
namespace Go.Proofs.YtgicddadddhonaaGreatDoor
open Go Go.Vm
def gN:List ByteArray:=[⟨#[103,49]⟩,⟨#[103,50]⟩,⟨#[103,51]⟩]
def sN:List ByteArray:=[⟨#[119,101,98]⟩,⟨#[115,115,104]⟩,⟨#[100,110,115]⟩]
theorem W4{xs:List AV}{i:Nat}{K:AV->Prop}(L:List ByteArray)(n:Nat)(h:xs=L.map fun c=>.v (.string c))(hn:L.length=n)(hi:i<n)(hk:∀c,L[i]? =some c->K (.v (.string c))):Ix xs i K:=by
 subst h;subst hn;exact iH (aE hi) (hk _ (aE hi))
theorem qC{s:ByteArray}(h:uJ s.data.toList=true):nameB s=true:=by
 exact oX (mN h)
theorem aKK:∀s,s∈gN->nameB s=true:=fun s hs=>qC ((show ∀s,s∈gN->uJ s.data.toList=true by decide+kernel) s hs)
theorem aKX:∀s,s∈sN->nameB s=true:=fun s hs=>qC ((show ∀s,s∈sN->uJ s.data.toList=true by decide+kernel) s hs)
theorem aTc:∀(j i:Nat) (x y:ByteArray),j<i->gN[j]? =some x->gN[i]? =some y->sEq x y=false:=by
 have h:∀j i:Fin 3,j.val<i.val->Ph (gN.getD j.val default) (gN.getD i.val default)=false:=by decide+kernel
 intro j i x y hji hx hy;have h1:=(aP.1 hx).1;have h2:=(aP.1 hy).1;have:=h ⟨j,h1⟩ ⟨i,h2⟩ hji;simp only[List.getD,hx,hy,cY]at this;rw[nJ];exact this
theorem aVT:∀(j i:Nat) (x y:ByteArray),j<i->sN[j]? =some x->sN[i]? =some y->sEq x y=false:=by
 have h:∀j i:Fin 3,j.val<i.val->Ph (sN.getD j.val default) (sN.getD i.val default)=false:=by decide+kernel
 intro j i x y hji hx hy;have h1:=(aP.1 hx).1;have h2:=(aP.1 hy).1;have:=h ⟨j,h1⟩ ⟨i,h2⟩ hji;simp only[List.getD,hx,hy,cY]at this;rw[nJ];exact this
structure GDs (N:List ByteArray) (l:List Df) (g:Bool):Prop where
 nm:∀(i:Nat) d,l[i]? =some d->N[i]? =some d.name
 it:∀d,d∈l->1<=d.items.length/\d.items.length<=2
 ok:∀d,d∈l->∀y,y∈d.items->itB y g=true
theorem Wm{N:List ByteArray}{g:Bool}:GDs N [] g:=⟨fun i d h=>by simp at h,fun d h=>by simp at h,fun d h=>by simp at h⟩
theorem Q5{N:List ByteArray}{l:List Df}{g:Bool}(h:GDs N l g){c:ByteArray}{its:List It}(hc:N[l.length]? =some c)(h1:1<=its.length/\its.length<=2)(h2:∀y,y∈its->itB y g=true):GDs N (l++[⟨c,its⟩]) g where
 nm:=fun i d hd=>by
  rcases aD i l.length with hlt|hge
  ·rw[bJ hlt]at hd;exact h.nm i d hd
  ·rw[bF hge]at hd;have:=(aP.1 hd).1;simp only[aB,aI]at this;have e:i=l.length:=by omega
   subst e;simp only[dH,eI,bN]at hd;subst hd;exact hc
 it:=fun d hd=>by
  rcases aX.1 hd with hd|hd
  ·exact h.it d hd
  ·rw[aU.1 hd];exact h1
 ok:=fun d hd=>by
  rcases aX.1 hd with hd|hd
  ·exact h.ok d hd
  ·rw[aU.1 hd];exact h2
theorem Fk{N:List ByteArray}{l:List Df}{g:Bool}(h:GDs N l g)(hN:∀s,s∈N->nameB s=true):∀d,d∈l->nameB d.name=true:=fun d hd=>by
 obtain⟨i,hi⟩:=bH.1 hd;exact hN _ (aG (h.nm i d hi))
theorem aBH{N:List ByteArray}{l:List Df}{g:Bool}(h:GDs N l g)(hN:∀s,s∈N->nameB s=true)(hne:∀(j i:Nat) (x y:ByteArray),j<i->N[j]? =some x->N[i]? =some y->sEq x y=false)(hl:l.length<=32):DfsOk l g:=by
 refine⟨hl,fun i d hd=>⟨Fk h hN d (aG hd),?_,(h.it d (aG hd)).1,bC (h.it d (aG hd)).2 zd,h.ok d (aG hd)⟩⟩;unfold Fc;exact jN (p:=fun x=>sEq x.name d.name) hd (wV _) fun j y hj hy=>hne j i _ _ hj (h.nm j y hy) (h.nm i d hd)
theorem aCz{z:ByteArray}(h:nameB z=true):itB ⟨1,z,uK,0,zR⟩ true=true:=by simp[itB,h,itN,uK,zR]
theorem aHs{q:Pf}(h:q.okP):itB ⟨2,⟨#[]⟩,q,0,zR⟩ true=true:=by
 have:=J1;simp[itB,h,itP,zR,this]
theorem itB_name{z:ByteArray}{g:Bool}(h:nameB z=true):itB ⟨3,z,uK,0,zR⟩ g=true:=by simp[itB,h,itN,uK,zR]
theorem Oq{v:Int}{r:Rg}(h:prB v r=true):itB ⟨4,⟨#[]⟩,uK,v,r⟩ false=true:=by
 have:=J1;simp[itB,h,itS,uK,this]
def PbA(p:Pb):Prop:=(0<=p.addr/\p.addr<=4294967295)/\(0<=p.real/\p.real<=4294967295)
def HnA(h:Hn):Prop:=0<=h.addr/\h.addr<=4294967295
theorem aQX{raw:List Int}{L:Nat×List Pb->Prop}(a b c:Int)(d:ByteArray)(e f:Int)(q:Nat)(hL:L (q,[⟨a,b,c,d,e,f⟩]))(hR:q<=raw.length)(hB:pbB ⟨a,b,c,d,e,f⟩=true/\PbA ⟨a,b,c,d,e,f⟩):∃g:Nat×List Pb,(g.1<=raw.length/\g.2.length<=1/\∀x,x∈g.2->pbB x=true/\PbA x)/\L g:=⟨_,⟨hR,by simp,fun x hx=>by rw[aU.1 hx];exact hB⟩,hL⟩
structure TpN (t:Tp):Prop where
 cls:∀d,d∈t.devs->pT d.cls=true
 zone:∀e,e∈t.edges->nameB e.zone=true
 edge:∀e,e∈t.edges->nameB e.name=true
structure ENt (i:Nt):Prop where
 gen:GNt i
 ok:NtOk i
 g:GDs gN i.grps true
 s:GDs sN i.svcs false
 g1:1<=i.grps.length
 w1:i.wins.length<=1
 t3:i.sts.length<=4
 p1:i.pubs.length<=1
 h1:i.hids.length<=1
 pa:∀p,p∈i.pubs->PbA p
 ha:∀h,h∈i.hids->HnA h
theorem aSK(raw:List Int)(pos:Nat)(t:Tp)(hte:t.edges.length<=5)(htd:t.devs.length<=100)(htn:TpN t)(ns:Nat)(hns:ns<=4)(hp:pos<=raw.length)(hr:raw.length<=9223372036854775807){K:KT}
  (hK:∀(i:Nt) (pos':Nat),ENt i->pos'<=raw.length->K (jC i) [iO raw pos']):
  AC 43 [.op 0 0,jT t,.v (.int .i64 ns)] [iO raw pos] K:=by
 refine aPM rfl rfl ?_;(repeat' ((conv=>whnf);first|(with_reducible refine jI raw _ _ zo zp hr fun m1 p1 hm1 hp1=>?_)|refine zG ?_|apply zA|intro h|exact zT));all_goals conv=>whnf
 refine gV (Nat×Nat×List Df) (fun g=>⟨7,[(0,iO raw g.1),(1,kM t),(2,vG),(3,.box [.os 4 2 0 g.2.2.length,.os 5 2 0 0,.os 6 2 0 0,.nils,.nils,.nils]),(4,.arr 2 (g.2.2.map iQ)),(5,.arr 2 []),(6,.arr 2 [])],[(0,.op 0 0),(2,.v (.int .i64 ns)),(4,.op 1 0),(6,.op 2 0),(7,.op 3 0),(8,.v (.int .i64 g.2.1))]⟩)
  (fun g=>g.1<=raw.length/\(g.2.1+g.2.2.length<=3/\1<=g.2.1+g.2.2.length)/\GDs gN g.2.2 true) (fun g=>g.2.1) (p1,m1+1,[]) ⟨hp1,by simp only[aI];omega,Wm⟩ ?_ ?_
 ·rw[show(((p1,m1+1,[]):Nat×Nat×List Df).2.1:Int)=1+(m1:Int)from by simp only;omega];exact leA
 rintro⟨p,k,gs⟩ ⟨h1,⟨h2,h2b⟩,h3⟩
 simp only at h1 h2 h2b h3⊢;have hgnm:=Fk h3 aKK;rcases aD 0 k with hk|hk
 ·obtain⟨k',rfl⟩:∃k',k=k'+1:=⟨k-1,by omega⟩
  have hk1:((k'+1:Nat):Int)-1=(k':Int):=by omega
  (repeat' ((conv=>whnf);first|(with_reducible first|refine jI raw _ _ zo zp hr fun m1 p1 hm1 hp1=>?_|refine jO hk1 zo zo ?_|refine iJ zo ?_|refine W4 gN 3 rfl rfl zo fun c hc=>?_)|refine zG ?_|apply zA|intro h|exact zT));all_goals conv=>whnf
  refine gV (Nat×Nat×List It) (fun g=>⟨9,[(0,iO raw g.1),(1,kM t),(2,vG),(3,.box [.os 4 2 0 gs.length,.os 5 2 0 0,.os 6 2 0 0,.nils,.nils,.nils]),(4,.arr 2 (gs.map iQ)),(5,.arr 2 []),(6,.arr 2 []),(7,.box [.v (.string c),.os 8 7 0 g.2.2.length]),(8,.arr 7 (g.2.2.map lA))],[(0,.op 0 0),(2,.v (.int .i64 ns)),(4,.op 1 0),(6,.op 2 0),(7,.op 3 0),(8,.v (.int .i64 ((k'+1:Nat):Int))),(9,.op 7 0),(10,.v (.int .i64 g.2.1))]⟩)
   (fun g=>g.1<=raw.length/\(g.2.1+g.2.2.length<=2/\1<=g.2.1+g.2.2.length)/\∀y,y∈g.2.2->itB y true=true) (fun g=>g.2.1) (p1,m1+1,[]) ⟨by with_reducible assumption,by simp only[aI];omega,fun y h=>by simp at h⟩ ?_ ?_
  ·rw[show(((p1,m1+1,[]):Nat×Nat×List It).2.1:Int)=1+(m1:Int)from by simp only;omega];exact leA
  clear h1 p hm1 hp1 m1 p1
  rintro⟨p,m,its⟩ ⟨h1,⟨h4,h4b⟩,h9⟩
  simp only at h1 h4 h4b h9⊢;rcases aD 0 m with hm|hm
  ·obtain⟨m',rfl⟩:∃m',m=m'+1:=⟨m-1,by omega⟩
   have hm1:((m'+1:Nat):Int)-1=(m':Int):=by omega
   (repeat' ((conv=>whnf);first|(with_reducible refine aMm raw _ zw hr fun q p2 hqo hp2=>?_)|refine zG ?_|apply zA|intro h|exact zT));all_goals conv=>whnf
   all_goals
    refine iD (It×Nat) (fun g=>⟨10,[(0,iO raw g.2),(1,kM t),(2,vG),(3,.box [.os 4 2 0 gs.length,.os 5 2 0 0,.os 6 2 0 0,.nils,.nils,.nils]),(4,.arr 2 (gs.map iQ)),(5,.arr 2 []),(6,.arr 2 []),(7,.box [.v (.string c),.os 8 7 0 its.length]),(8,.arr 7 (its.map lA)),(9,W3 g.1)],[(0,.op 0 0),(2,.v (.int .i64 ns)),(4,.op 1 0),(6,.op 2 0),(7,.op 3 0),(8,.v (.int .i64 ((k'+1:Nat):Int))),(9,.op 7 0),(10,.v (.int .i64 ((m'+1:Nat):Int))),(11,.op 9 0)]⟩) (fun g=>g.2<=raw.length/\itB g.1 true=true) ?_ ?_
    ·(repeat' ((conv=>whnf);first|(with_reducible first|refine jI raw _ _ (by(try simp only[aA]);omega) zw hr fun m1 p1 hm1 hp1=>?_|refine iI (by(try simp only[aA]at*);omega) ?_|refine iK (f:=lY) (by(try simp only[aA]at*);omega) fun e he=>?_)|refine zG ?_|apply zA|intro h|exact zT));all_goals conv=>whnf
     all_goals first
      |(refine⟨(⟨1,e.zone,uK,0,zR⟩,p1),⟨zw,aCz (htn.zone e zw)⟩,?_⟩
        exact leA)
      |(refine⟨(⟨2,⟨#[]⟩,q,0,zR⟩,p1),⟨zw,aHs hqo⟩,?_⟩
        exact leA)
    rintro⟨y0,p4⟩ ⟨hp4,hy0⟩
    simp only at hp4 hy0⊢;(repeat' ((conv=>whnf);first|refine zG ?_|apply zA|intro h|exact zT));all_goals conv=>whnf
    all_goals
     refine iD (It×Nat) (fun g=>⟨10,[(0,iO raw g.2),(1,kM t),(2,vG),(3,.box [.os 4 2 0 gs.length,.os 5 2 0 0,.os 6 2 0 0,.nils,.nils,.nils]),(4,.arr 2 (gs.map iQ)),(5,.arr 2 []),(6,.arr 2 []),(7,.box [.v (.string c),.os 8 7 0 its.length]),(8,.arr 7 (its.map lA)),(9,W3 g.1)],[(0,.op 0 0),(2,.v (.int .i64 ns)),(4,.op 1 0),(6,.op 2 0),(7,.op 3 0),(8,.v (.int .i64 ((k'+1:Nat):Int))),(9,.op 7 0),(10,.v (.int .i64 ((m'+1:Nat):Int))),(11,.op 9 0)]⟩) (fun g=>g.2<=raw.length/\itB g.1 true=true) ?_ ?_
     ·(repeat' ((conv=>whnf);first|(with_reducible first|refine jI raw _ _ (by(try simp only[aA]);omega) zw hr fun m1 p1 hm1 hp1=>?_|refine iB 0 rfl (by(try simp only[aA]at*);omega) ?_|refine iK (f:=iQ) (by(try simp only[aA]at*);omega) fun d hd=>?_)|refine zG ?_|apply zA|intro h|exact zT));all_goals conv=>whnf
      all_goals first
       |(refine⟨(⟨3,d.name,uK,0,zR⟩,p1),⟨zw,itB_name (hgnm d zw)⟩,?_⟩
         exact leA)
       |(refine⟨(y0,p1),⟨zw,hy0⟩,?_⟩
         exact leA)
       |(refine⟨(y0,p4),⟨zw,hy0⟩,?_⟩
         exact leA)
     rintro⟨y,p3⟩ ⟨hp3,hyv⟩
     simp only at hp3 hyv⊢;(repeat' ((conv=>whnf);first|(with_reducible refine jO hm1 zo zo ?_)|refine zG ?_|apply zA|intro h|exact zT));all_goals conv=>whnf
     refine⟨(p3,m',its++[y]),⟨hp3,by simp only[aC,aB,aI];omega,fun z hz=>by
      rcases aX.1 hz with hz|hz
      ·exact h9 z hz
      ·rw[aU.1 hz];exact hyv⟩,by simp only;omega,?_⟩
     simp only[aQ,aC,aR,bI,aB,aI];exact leA
  ·obtain rfl:m=0:=by omega
   (repeat' ((conv=>whnf);first|(with_reducible refine jO hk1 zo zo ?_)|refine zG ?_|apply zA|intro h|exact zT));all_goals conv=>whnf
   refine⟨(p,k',gs++[⟨c,its⟩]),⟨h1,by simp only[aC,aB,aI];omega,Q5 h3 (by rw[<-hc,bM]) zo h9⟩,by simp only;omega,?_⟩;simp only[aQ,aC,aR,bI,aB,aI];exact leA
 obtain rfl:k=0:=by omega
 clear hk;(repeat' ((conv=>whnf);first|(with_reducible refine jI raw _ _ zo zw hr fun m1 p1 hm1 hp1=>?_)|refine zG ?_|apply zA|intro h|exact zT));all_goals conv=>whnf
 refine gV (Nat×Nat×List Df) (fun g=>⟨7,[(0,iO raw g.1),(1,kM t),(2,vG),(3,.box [.os 4 2 0 gs.length,.os 5 2 0 g.2.2.length,.os 6 2 0 0,.nils,.nils,.nils]),(4,.arr 2 (gs.map iQ)),(5,.arr 2 (g.2.2.map iQ)),(6,.arr 2 [])],[(0,.op 0 0),(2,.v (.int .i64 ns)),(4,.op 1 0),(6,.op 2 0),(7,.op 3 0),(13,.v (.int .i64 g.2.1))]⟩)
  (fun g=>g.1<=raw.length/\g.2.1+g.2.2.length<=2/\GDs sN g.2.2 false/\∀d,d∈g.2.2->∀y,y∈d.items->Pz y) (fun g=>g.2.1) (p1,m1,[]) ⟨by with_reducible assumption,by simp only[aI];omega,Wm,fun d h=>by simp at h⟩ ?_ ?_
 ·exact leA
 clear h1 p hm1 hp1 m1 p1
 rintro⟨p,k,ss⟩ ⟨h1,h4,h5,h6⟩
 simp only at h1 h4 h5 h6⊢;have hsnm:=Fk h5 aKX;rcases aD 0 k with hk|hk
 ·obtain⟨k',rfl⟩:∃k',k=k'+1:=⟨k-1,by omega⟩
  have hk1:((k'+1:Nat):Int)-1=(k':Int):=by omega
  (repeat' ((conv=>whnf);first|(with_reducible first|refine jI raw _ _ (by(try simp only[aA]);omega) zw hr fun m1 p1 hm1 hp1=>?_|refine jO hk1 zo zo ?_|refine iJ zo ?_|refine W4 sN 3 rfl rfl zo fun c hc=>?_)|refine zG ?_|apply zA|intro h|exact zT));all_goals conv=>whnf
  refine gV (Nat×Nat×List It) (fun g=>⟨9,[(0,iO raw g.1),(1,kM t),(2,vG),(3,.box [.os 4 2 0 gs.length,.os 5 2 0 ss.length,.os 6 2 0 0,.nils,.nils,.nils]),(4,.arr 2 (gs.map iQ)),(5,.arr 2 (ss.map iQ)),(6,.arr 2 []),(7,.box [.v (.string c),.os 8 7 0 g.2.2.length]),(8,.arr 7 (g.2.2.map lA))],[(0,.op 0 0),(2,.v (.int .i64 ns)),(4,.op 1 0),(6,.op 2 0),(7,.op 3 0),(13,.v (.int .i64 ((k'+1:Nat):Int))),(14,.op 7 0),(15,.v (.int .i64 g.2.1))]⟩)
   (fun g=>g.1<=raw.length/\(g.2.1+g.2.2.length<=2/\1<=g.2.1+g.2.2.length)/\∀y,y∈g.2.2->Pz y/\itB y false=true) (fun g=>g.2.1) (p1,m1+1,[]) ⟨by with_reducible assumption,by simp only[aI];omega,fun y h=>by simp at h⟩ ?_ ?_
  ·rw[show(((p1,m1+1,[]):Nat×Nat×List It).2.1:Int)=1+(m1:Int)from by simp only;omega];exact leA
  clear h1 p hm1 hp1 m1 p1
  rintro⟨p,m,its⟩ ⟨h1,⟨h7,h7b⟩,h8⟩
  simp only at h1 h7 h7b h8⊢;rcases aD 0 m with hm|hm
  ·obtain⟨m',rfl⟩:∃m',m=m'+1:=⟨m-1,by omega⟩
   have hmm:((m'+1:Nat):Int)-1=(m':Int):=by omega
   (repeat' ((conv=>whnf);first|(with_reducible first|refine jI raw _ _ (by(try simp only[aA]);omega) zw hr fun m1 p1 hm1 hp1=>?_|refine iJ zo ?_|refine oK [6,17,6,1,50] 5 rfl rfl zo fun v hv=>?_)|refine zG ?_|apply zA|intro h|exact zT));all_goals conv=>whnf
   simp only[aZ,eB,or_false]at hv;refine iD (It×Nat) (fun g=>⟨10,[(0,iO raw g.2),(1,kM t),(2,vG),(3,.box [.os 4 2 0 gs.length,.os 5 2 0 ss.length,.os 6 2 0 0,.nils,.nils,.nils]),(4,.arr 2 (gs.map iQ)),(5,.arr 2 (ss.map iQ)),(6,.arr 2 []),(7,.box [.v (.string c),.os 8 7 0 its.length]),(8,.arr 7 (its.map lA)),(9,W3 g.1)],[(0,.op 0 0),(2,.v (.int .i64 ns)),(4,.op 1 0),(6,.op 2 0),(7,.op 3 0),(13,.v (.int .i64 ((k'+1:Nat):Int))),(14,.op 7 0),(15,.v (.int .i64 ((m'+1:Nat):Int))),(16,.op 9 0)]⟩) (fun g=>g.2<=raw.length/\Pz g.1/\itB g.1 false=true) ?_ ?_
   ·(repeat' ((conv=>whnf);first|(with_reducible refine aFH raw _ 65535 zd zd zw hr fun r p2 hlo hhi hp2=>?_)|refine zG ?_|apply zA|intro h|exact zT));all_goals conv=>whnf
    all_goals first
     |(refine⟨(⟨4,⟨#[]⟩,uK,v,⟨8,8,by decide,by decide,by decide,by decide⟩⟩,p1),⟨by with_reducible assumption,.inr (.inr (.inl ⟨by simp only;omega,rfl,rfl⟩)),Oq (by rw[show v=1 by omega];rfl)⟩,?_⟩
       exact leA)
     |(refine⟨(⟨4,⟨#[]⟩,uK,v,r⟩,p2),⟨by with_reducible assumption,.inr (.inl zs),Oq (by rw[prB,aH zo];exact decide_eq_true ⟨hlo,hhi⟩)⟩,?_⟩
       exact leA)
     |(refine⟨(⟨4,⟨#[]⟩,uK,v,zR⟩,p1),⟨by with_reducible assumption,.inr (.inr (.inr ⟨by simp only;omega,rfl,rfl⟩)),Oq (by rw[show v=50 by omega];rfl)⟩,?_⟩
       exact leA)
   rintro⟨y0,p4⟩ ⟨hp4,hy0⟩
   simp only at hp4 hy0⊢;(repeat' ((conv=>whnf);first|refine zG ?_|apply zA|intro h|exact zT));all_goals conv=>whnf
   refine iD (It×Nat) (fun g=>⟨10,[(0,iO raw g.2),(1,kM t),(2,vG),(3,.box [.os 4 2 0 gs.length,.os 5 2 0 ss.length,.os 6 2 0 0,.nils,.nils,.nils]),(4,.arr 2 (gs.map iQ)),(5,.arr 2 (ss.map iQ)),(6,.arr 2 []),(7,.box [.v (.string c),.os 8 7 0 its.length]),(8,.arr 7 (its.map lA)),(9,W3 g.1)],[(0,.op 0 0),(2,.v (.int .i64 ns)),(4,.op 1 0),(6,.op 2 0),(7,.op 3 0),(13,.v (.int .i64 ((k'+1:Nat):Int))),(14,.op 7 0),(15,.v (.int .i64 ((m'+1:Nat):Int))),(16,.op 9 0)]⟩) (fun g=>g.2<=raw.length/\Pz g.1/\itB g.1 false=true) ?_ ?_
   ·(repeat' ((conv=>whnf);first|(with_reducible first|refine jI raw _ _ (by(try simp only[aA]);omega) zw hr fun m1 p1 hm1 hp1=>?_|refine iB 0 rfl (by(try simp only[aA]at*);omega) ?_|refine iK (f:=iQ) (by(try simp only[aA]at*);omega) fun d hd=>?_)|refine zG ?_|apply zA|intro h|exact zT));all_goals conv=>whnf
    all_goals first
     |(refine⟨(⟨3,d.name,uK,0,zR⟩,p1),⟨by with_reducible assumption,.inl ⟨rfl,rfl,rfl,rfl⟩,itB_name (hsnm d zw)⟩,?_⟩
       exact leA)
     |(refine⟨(y0,p1),⟨by with_reducible assumption,hy0⟩,?_⟩
       exact leA)
     |(refine⟨(y0,p4),⟨by with_reducible assumption,hy0⟩,?_⟩
       exact leA)
   rintro⟨y,p3⟩ ⟨hp3,hyv⟩
   simp only at hp3 hyv⊢;(repeat' ((conv=>whnf);first|(with_reducible refine jO hmm zo zo ?_)|refine zG ?_|apply zA|intro h|exact zT));all_goals conv=>whnf
   refine⟨(p3,m',its++[y]),⟨hp3,by simp only[aC,aB,aI];omega,fun z hz=>by
    rcases aX.1 hz with hz|hz
    ·exact h8 z hz
    ·rw[aU.1 hz];exact hyv⟩,by simp only;omega,?_⟩
   simp only[aQ,aC,aR,bI,aB,aI];exact leA
  ·obtain rfl:m=0:=by omega
   (repeat' ((conv=>whnf);first|(with_reducible refine jO hk1 zo zo ?_)|refine zG ?_|apply zA|intro h|exact zT));all_goals conv=>whnf
   refine⟨(p,k',ss++[⟨c,its⟩]),⟨h1,by simp only[aC,aB,aI];omega,Q5 h5 (by rw[<-hc,bM]) zo (fun y hy=>(h8 y hy).2),fun d hd=>by
    rcases aX.1 hd with hd|hd
    ·exact h6 d hd
    ·rw[aU.1 hd];exact fun y hy=>(h8 y hy).1⟩,by simp only;omega,?_⟩
   simp only[aQ,aC,aR,bI,aB,aI];exact leA
 obtain rfl:k=0:=by omega
 clear hk;(repeat' ((conv=>whnf);first|refine zG ?_|apply zA|intro h|exact zT));all_goals conv=>whnf
 refine iD (Nat×List Wn) (fun g=>⟨7,[(0,iO raw g.1),(1,kM t),(2,vG),(3,.box [.os 4 2 0 gs.length,.os 5 2 0 ss.length,.os 6 2 0 g.2.length,.nils,.nils,.nils]),(4,.arr 2 (gs.map iQ)),(5,.arr 2 (ss.map iQ)),(6,.arr 2 (g.2.map jZ))],[(0,.op 0 0),(2,.v (.int .i64 ns)),(4,.op 1 0),(6,.op 2 0),(7,.op 3 0)]⟩)
  (fun g=>g.1<=raw.length/\g.2.length<=1/\∀w,w∈g.2->w.name=⟨#[119,111,114,107]⟩/\WinOk w.act/\w.act.length<=16) ?_ ?_
 ·(repeat' ((conv=>whnf);first|(with_reducible first|refine jI raw _ _ (by(try simp only[aA]);omega) zw hr fun m1 p1 hm1 hp1=>?_|refine aSM raw _ zw hr fun rs p2 hrs hrl hp2=>?_)|refine zG ?_|apply zA|intro h|exact zT));all_goals conv=>whnf
  all_goals first
   |(refine⟨(p2,[⟨⟨#[119,111,114,107]⟩,rs⟩]),⟨by with_reducible assumption,by simp,fun w hw=>by rw[aU.1 hw];exact⟨rfl,hrs,hrl⟩⟩,?_⟩
     exact leA)
   |(refine⟨(p1,[]),⟨by with_reducible assumption,by simp,fun w hw=>by simp at hw⟩,?_⟩
     exact leA)
 rintro⟨p5,ws⟩ ⟨hp5,hw1,hw2⟩
 simp only at hp5 hw1 hw2⊢;have hwnm:∀w,w∈ws->nameB w.name=true:=fun w hw=>by rw[(hw2 w hw).1];exact qC (by decide+kernel)
 (repeat' ((conv=>whnf);first|(with_reducible first|refine iT (aA ..) ?_|refine jI raw _ _ (by(try simp only[aA]);omega) zw hr fun m1 p1 hm1 hp1=>?_)|refine zG ?_|apply zA|intro h|exact zT));all_goals conv=>whnf
 refine gV (Nat×Nat×List Sm) (fun g=>⟨5,[(0,iO raw g.1),(1,kM t),(2,vG),(3,.box [.lst (gs.map iQ),.lst (ss.map iQ),.lst (ws.map jZ),.os 4 10 0 g.2.2.length,.nils,.nils]),(4,.arr 10 (g.2.2.map kC))],[(0,.op 0 0),(4,.op 1 0),(6,.op 2 0),(7,.op 3 0),(17,.v (.int .i64 g.2.1))]⟩)
  (fun g=>g.1<=raw.length/\g.2.1+g.2.2.length<=4/\∀x,x∈g.2.2->smB x=true) (fun g=>g.2.1) (p1,m1,[]) ⟨by with_reducible assumption,by simp only[aI];omega,fun x h=>by simp at h⟩ ?_ ?_
 ·exact leA
 clear h1 p hm1 hp1 m1 p1
 rintro⟨p,k,sts⟩ ⟨h1,h7,hst⟩
 simp only at h1 h7 hst⊢;rcases aD 0 k with hk|hk
 ·obtain⟨k',rfl⟩:∃k',k=k'+1:=⟨k-1,by omega⟩
  have hkk:((k'+1:Nat):Int)-1=(k':Int):=by omega
  (repeat' ((conv=>whnf);first|(with_reducible first|refine jO hkk zo zo ?_|refine aSL raw _ t htd gs ss ws sts zo zo zo zw hr htn.cls hgnm hsnm hwnm fun x p2 hxo hp2=>?_)|refine zG ?_|apply zA|intro h|exact zT));all_goals conv=>whnf
  all_goals
   refine⟨(p2,k',sts++[x]),⟨by with_reducible assumption,by simp only[aC,aB,aI];omega,fun z hz=>by
    rcases aX.1 hz with hz|hz
    ·exact hst z hz
    ·rw[aU.1 hz];exact hxo⟩,by simp only;omega,?_⟩
   simp only[aQ,aC,aR,bI,aB,aI];exact leA
 obtain rfl:k=0:=by omega
 clear hk;(repeat' ((conv=>whnf);first|refine zG ?_|apply zA|intro h|exact zT));all_goals conv=>whnf
 refine iD (Nat×List Pb) (fun g=>⟨7,[(0,iO raw g.1),(1,kM t),(2,vG),(3,.box [.lst (gs.map iQ),.lst (ss.map iQ),.lst (ws.map jZ),.os 4 10 0 sts.length,.os 5 6 0 g.2.length,.os 6 5 0 0]),(4,.arr 10 (sts.map kC)),(5,.arr 6 (g.2.map jU)),(6,.arr 5 [])],[(0,.op 0 0),(4,.op 1 0),(6,.op 2 0),(7,.op 3 0)]⟩) (fun g=>g.1<=raw.length/\g.2.length<=1/\∀x,x∈g.2->pbB x=true/\PbA x) ?_ ?_
 ·(repeat' ((conv=>whnf);first|(with_reducible first|refine jI raw _ _ (by(try simp only[aA]);omega) zw hr fun m1 p1 hm1 hp1=>?_|refine iB 1 rfl (by(try simp only[aA]at*);omega) ?_|refine iB 0 rfl (by(try simp only[aA]at*);omega) ?_|refine iK (f:=lY) (by(try simp only[aA]at*);omega) fun e he=>?_|refine Qn _ ?_|refine iJ zo ?_|refine oK [6,17] 2 rfl rfl zo fun v hv=>?_|refine sI raw _ 65535 zd zd zw hr fun a p2 a0 a1 hp2=>?_)|refine zG ?_|apply zA|intro h|exact zT));all_goals conv=>whnf
  all_goals first
   |(refine⟨(p1,[]),⟨by with_reducible assumption,by simp,fun x h=>by simp at h⟩,?_⟩
     exact leA)
   |(refine⟨(p,[]),⟨by with_reducible assumption,by simp,fun x h=>by simp at h⟩,?_⟩
     exact leA)
   |(apply aQX
     ·exact leA
     ·with_reducible assumption
     ·have hnm:=htn.edge _ zw;simp only[aZ,eB,or_false]at hv;refine⟨?_,⟨by simp only;omega,by simp only;omega⟩,Rg.l0 _,Rg.l1 _⟩;simp only[pbB,ptB,hnm,eK,aJ,bV,aL];omega)
 rintro⟨p6,pbs⟩ ⟨hp6,hb1,hb2⟩
 simp only at hp6 hb1 hb2⊢;(repeat' ((conv=>whnf);first|refine zG ?_|apply zA|intro h|exact zT));all_goals conv=>whnf
 refine iD (Nat×List Hn) (fun g=>⟨7,[(0,iO raw g.1),(1,kM t),(2,vG),(3,.box [.lst (gs.map iQ),.lst (ss.map iQ),.lst (ws.map jZ),.os 4 10 0 sts.length,.os 5 6 0 pbs.length,.os 6 5 0 g.2.length]),(4,.arr 10 (sts.map kC)),(5,.arr 6 (pbs.map jU)),(6,.arr 5 (g.2.map jY))],[(0,.op 0 0),(4,.op 1 0),(6,.op 2 0),(7,.op 3 0)]⟩) (fun g=>g.1<=raw.length/\g.2.length<=1/\∀x,x∈g.2->hnB x=true/\(0<=x.addr/\x.addr<=4294967295)) ?_ ?_
 ·(repeat' ((conv=>whnf);first|(with_reducible first|refine jI raw _ _ (by(try simp only[aA]);omega) zw hr fun m1 p1 hm1 hp1=>?_|refine iI (by(try simp only[aA]at*);omega) ?_|refine iK (f:=lY) (by(try simp only[aA]at*);omega) fun e he=>?_)|refine zG ?_|apply zA|intro h|exact zT));all_goals conv=>whnf
  all_goals first
   |(refine⟨(p1,[⟨⟨#[103,49]⟩,e.name,3325256705,⟨1024,1024+(m1:Int),by decide,by decide,by omega,by omega⟩⟩]),⟨by with_reducible assumption,by simp,fun x h=>by
      rw[aU.1 h];have hnm:=htn.edge e zw;have hg1:nameB ⟨#[103,49]⟩=true:=qC (by decide+kernel);refine⟨?_,by simp only;omega,by simp only;omega⟩;simp only[hnB,hnm,hg1,dQ,aL];omega⟩,?_⟩
     exact leA)
   |(refine⟨(p1,[]),⟨by with_reducible assumption,by simp,fun x h=>by simp at h⟩,?_⟩
     exact leA)
   |(refine⟨(p6,[]),⟨by with_reducible assumption,by simp,fun x h=>by simp at h⟩,?_⟩
     exact leA)
 rintro⟨p7,hds⟩ ⟨hp7,hh1,hh2⟩
 simp only at hp7 hh1 hh2⊢;(repeat' ((conv=>whnf);first|(with_reducible refine iT (aA ..) ?_)|refine zG ?_|apply zA|intro h|exact zT));all_goals conv=>whnf
 refine hK ⟨gs,ss,ws,sts,pbs,hds⟩ p7 ⟨⟨⟨⟨by simp only;omega,by simp only;omega,by simp only;omega,by simp only;omega,by simp only;omega,by simp only;omega,fun d hd=>bC (h3.it d hd).2 zd,fun d hd=>bC (h5.it d hd).2 zd,fun w hw=>?_⟩,by simp only;omega,by simp only;omega,fun d hd=>(h3.it d hd).2,fun d hd=>(h5.it d hd).2⟩,by simp only;omega,h6⟩,
  ⟨aBH h3 aKK aTc zs,aBH h5 aKX aVT zs,by simp only;omega,by simp only;omega,by simp only;omega,by simp only;omega,fun i x hx=>?_,hst,fun x hx=>(hb2 x hx).1,fun x hx=>(hh2 x hx).1⟩,h3,h5,by simp only;omega,by simp only;omega,by simp only;omega,by simp only;omega,by simp only;omega,fun x hx=>(hb2 x hx).2,fun x hx=>(hh2 x hx).2⟩ hp7
 ·exact bC (hw2 w hw).2.2 zd
 ·have hi:=(aP.1 hx).1;obtain rfl:i=0:=by simp only at hi;omega
  refine⟨hwnm x (aG hx),?_,(hw2 x (aG hx)).2.1⟩;unfold Vf;exact jN (p:=fun y=>sEq y.name x.name) hx (wV _) fun j y hj _=>absurd hj (bD _)
theorem aJZ{t:Tp}(h:GTop t):TpN t where
 cls:=fun d hd=>by
  obtain⟨i,hi⟩:=bH.1 hd;have hc:=(h.dv i d hi).cls;have hl:∀s,s∈clL->Ph s ⟨#[]⟩=true\/uJ s.data.toList=true:=by decide+kernel
  unfold pT;rw[bV];rcases hl _ hc with h1|h1
  ·exact .inl (by rw[nJ];exact h1)
  ·exact .inr (qC h1)
 zone:=fun e he=>by
  obtain⟨i,hi⟩:=bH.1 he;have hz:=(h.ed i e hi).zone;exact qC ((show ∀s,s∈zoL->uJ s.data.toList=true by decide+kernel) _ hz)
 edge:=fun e he=>by
  obtain⟨i,hi⟩:=bH.1 he;have hl:=(aP.1 hi).1;have h5:=h.e5;rw[(h.ed i e hi).name];exact qC ((show ∀j:Fin 5,uJ (enL.getD j.val default).data.toList=true by decide+kernel) ⟨i,by omega⟩)
theorem H5(l:List Df)(h:∀d,d∈l->d.items.length<=2):Hh l<=2*l.length:=by
 unfold Hh
 induction l with
 |nil=>simp
 |cons d l ih=>
  have:=ih fun x hx=>h x (aS _ hx);have:=h d zx;simp only[aR,cX,aB];omega
theorem Vr{i:Nt}(h:ENt i):Bnd i:=by
 have f:=h.gen.few;have o:=h.ok;have g3:=f.g3;have s3:=f.s3;have a:=H5 _ f.gi;have b:=H5 _ f.si;have c1:=o.wl;have c2:=o.tl;have c3:=o.pl;have c4:=o.hl;exact⟨by omega,by omega,by omega,by omega,by omega,by omega,fun x hx=>bC (f.gi x hx) zd,fun x hx=>bC (f.si x hx) zd,f.sml.wi,by omega,by omega⟩
theorem qN{s:List Bx}(h:jW s=true):s.length<1000000000:=by have:=(kU h).len;omega
theorem yP{t:Tp}(hc:mE t=true):t.edges.length<=12:=(compB_iff.1 hc).1.e1
theorem aAY(t:Tp)(hc:mE t=true)(i:Nt)(hb:Bnd i)(nm:ByteArray){K:KT}(hK:K (.tup [iR (kJ t i nm).1,.v (.int .i64 (kJ t i nm).2)]) []):AC 111 [jT t,jC i,.v (.string nm)] [] K:=by
 have h12:=yP hc;have hits:=hb.its;refine aSs t zo i hb.g hb.gi nm (fun h=>?_) (fun h=>?_) fun h c hc hh hl=>?_
 ·have:=Q7 (l:=i.grps) h12 h;omega
 ·rw[kJ,aF h]at hK;exact hK
 ·rw[kJ,aH h,Dd hc hh]at hK;exact hK
theorem uD{t:Tp}(hc:mE t=true){i:Nt}(hb:Bnd i)(nm:ByteArray):(kJ t i nm).1.length<=860:=by
 have h12:=yP hc;have hits:=hb.its;unfold kJ;split
 ·rename_i h;have:=Q7 (l:=i.grps) h12 h;have:=Qg (qA t i.grps nm).2;simp only;omega
 ·exact aK _
theorem aSu(l:List Df)(hl:l.length<=999)(hit:∀d,d∈l->d.items.length<=999)(nm:ByteArray){K:KT}
  (hK:K (.v (.int .i64 (xA l nm).1)) [itO 2 (xA l nm).2.length,.box [],arI (xA l nm).2]):
  AC 187 [.lst (l.map iQ),.v (.string nm),.fn (.func 191) [] [.op 0 0]] [itO 1 0,.arr 7 []] K:=by
 refine aQG rfl rfl ?_;unfold xA at hK;have hc:∀{K:KT},K (.v (.int .i64 (fol oS l (l.length+1) [] nm [] []).1)) [fsO l,.map (mW l []),.map (mW l (fol oS l (l.length+1) [] nm [] []).2.1),itO 5 (fol oS l (l.length+1) [] nm [] []).2.2.length,.box [],arI (fol oS l (l.length+1) [] nm [] []).2.2]->
   AC 259 [.op 0 0,.v (.string nm)] [fsO l,.map (fun _=>none),.map (fun _=>none),itO 4 0,.arr 7 []] K:=fun {K} h=>by
  rw[Md l];exact aKy l hl hit (l.length+1) [] nm [] [] (I4 l) zx zx h
 (repeat' ((conv=>whnf);first|(with_reducible refine hc ?_)|refine zG ?_|apply zA|intro h|exact zT));all_goals conv=>whnf
 exact hK
theorem Ss{l:List Df}{nm:ByteArray}(h:(xA l nm).1=0):(xA l nm).2.length<=Hh l:=by
 unfold xA at h⊢;have:=Og oS List.length 1 (fun x s _=>by simp[oS]) l nm [] h;simp only[aI]at this;simp only;omega
theorem zW{x:It}{r:List It}{s:List Bx}:Ev (x::r) s=if(iP anB initS [oW x]).2≠0 then([],(iP anB initS [oW x]).2)else if(iP orB s (iP anB initS [oW x]).1).2≠0 then([],(iP orB s (iP anB initS [oW x]).1).2)else Ev r (iP orB s (iP anB initS [oW x]).1).1:=rfl
theorem aKt(i:Nt)(hb:Bnd i)(nm:ByteArray){K:KT}(hK:K (.tup [iN (rF i nm).1,.v (.int .i64 (rF i nm).2)]) []):AC 112 [jC i,.v (.string nm)] [] K:=by
 refine hJ (aQH rfl rfl ?_);unfold rF at hK;by_cases hnm:sEq nm ⟨#[]⟩=true
 ·rw[aH hnm]at hK;have hnm2:(nm.toList==(⟨#[]⟩:ByteArray).toList)=true:=hnm;(repeat' ((conv=>whnf);first|(with_reducible refine aBh ?_)|refine zG ?_|apply zA|intro h|exact zT));all_goals conv=>whnf
  exact⟨_,gY,hK⟩
 ·rw[aF hnm]at hK;have hnm2:(nm.toList==(⟨#[]⟩:ByteArray).toList)=false:=by simpa[sEq]using hnm
  have hc:=fun {K} h=>@aSu i.svcs hb.s hb.si nm K h;have hlen:=Ss (l:=i.svcs) (nm:=nm);have hsn:=hb.sits;generalize xA i.svcs nm=q at*;obtain⟨qe,its⟩:=q;simp only at hK hc hlen;(repeat' ((conv=>whnf);first|(with_reducible refine hc ?_)|refine zG ?_|apply zA|intro h|exact zT));all_goals conv=>whnf
  ·rw[aF zo]at hK;have hlen:=hlen h;refine gV (Nat×List Bx) (fun g=>⟨4,[],[(8,iN g.2),(25,.lst (its.map lA)),(26,.v (.int .i64 (its.map lA).length)),(27,.v (.int .i64 g.1))]⟩) (fun g=>g.1<=its.length/\jW g.2=true/\Ev its []=Ev (its.drop g.1) g.2) (fun g=>its.length-g.1) (0,[]) ⟨aK _,jP,by rw[bP]⟩ ?_ ?_
   ·exact leA
   rintro⟨k,s⟩ ⟨hk,hs,heq⟩
   simp only at hk hs heq⊢;have hsl:=qN hs;rcases aD k its.length with hkl|hkl
   ·obtain⟨x,hx⟩:=gex hkl;have hd:its.drop k=x::its.drop (k+1):=by
     rw[aE hkl]at hx;rw[<-bB hx,<-bA hkl]
    rw[hd,zW]at heq;have hq:∀{K:KT},K (.tup [iN (iP anB initS [oW x]).1,.v (.int .i64 (iP anB initS [oW x]).2)]) []->AC 192 [iN initS,.lst [.agg [.v (.int .u32 fullB.r0.lo),.v (.int .u32 fullB.r0.hi),.v (.int .u32 fullB.r1.lo),.v (.int .u32 fullB.r1.hi),.v (.int .u32 (wu x.proto)),.v (.int .u32 (wu x.proto)),.v (.int .u32 fullB.r3.lo),.v (.int .u32 fullB.r3.hi),.v (.int .u32 x.ports.lo),.v (.int .u32 x.ports.hi)]]] [] K:=fun {K} h=>@V5 initS [oW x] zd zx K h;have hsA:=jV anB initS [oW x];have hsB:=jV orB s (iP anB initS [oW x]).1;have hu:=fun {K} h=>@aSy s (iP anB initS [oW x]).1 zo (by have:=qN hsA;omega) K h;generalize iP orB s (iP anB initS [oW x]).1=B at*;generalize iP anB initS [oW x]=A at*;obtain⟨As,Ae⟩:=A;obtain⟨Bs,Be⟩:=B;simp only at heq hsA hsB hu hq;(repeat' ((conv=>whnf);first|(with_reducible first|refine iI hkl ?_|refine iH hx ?_|refine Fa ?_)|(refine kH zd ?_)|(with_reducible first|refine Nb ?_|refine aBh ?_)|(refine iT (by rfl) ?_)|(with_reducible first|refine hq ?_|refine hu ?_)|refine zG ?_|apply zA|intro h|exact zT));all_goals conv=>whnf
    all_goals first
     |(rw[aF (fun hn=>hn zw),aF (fun hn=>hn zw)]at heq
       refine⟨(k+1,Bs),⟨hkl,hsB,heq⟩,by simp only;omega,?_⟩;simp only[aN,aM];exact leA)
     |(rw[aH h]at heq
       rw[heq]at hK;exact⟨_,hU hZ gY,hK⟩)
     |(rw[aF (fun hn=>hn zw),aH h]at heq
       rw[heq]at hK;exact⟨_,hU hZ gY,hK⟩)
   ·rw[bO hkl]at heq;rw[heq]at hK;(repeat' ((conv=>whnf);first|refine zG ?_|apply zA|intro h|exact zT));all_goals conv=>whnf
    exact⟨_,gY,hK⟩
  ·rw[aH zp]at hK;exact⟨_,hU hZ gY,hK⟩
theorem M7:∀(its:List It) (s:List Bx),jW s=true->jW (Ev its s).1=true
 |[],s,h=>h
 |x::r,s,h=>by
  rw[zW];split
  ·exact jP
  ·split
   ·exact jP
   ·exact M7 r _ (jV ..)
theorem Su(i:Nt)(nm:ByteArray):jW (rF i nm).1=true:=by
 unfold rF;split
 ·exact D0
 ·split
  ·exact jP
  ·exact M7 _ _ jP
theorem aAz(a:List Rg)(r:Rg)(b:List Rg):lJ (a++[r]) b=lJ a b++b.map fun s=>rJ r s:=by simp[lJ]
theorem Np(b:List Rg):∀a:List Rg,(lJ a b).length=a.length*b.length
 |[]=>by simp[lJ]
 |r::a=>by
  have:=Np b a;simp only[lJ,cS,aC,aA,aB,Nat.succ_mul]at*;omega
theorem aKs(a b:List Rg)(ha:a.length<=860)(hb:b.length<=860){K:KT}(hK:K (.tup [iN (kX (lJ a b)).1,.v (.int .i64 (kX (lJ a b)).2)]) []):AC 194 [iR a,iR b] [] K:=by
 refine aQh rfl rfl ?_;(repeat' ((conv=>whnf);first|refine zG ?_|apply zA|intro h|exact zT));all_goals conv=>whnf
 refine gV Nat (fun i=>⟨1,[(0,.arr 10 ((lJ (a.take i) b).map iV))],[(1,iR b),(6,.os 0 10 0 (lJ (a.take i) b).length),(12,iR a),(13,.v (.int .i64 (a.map encR).length)),(14,.v (.int .i64 i))]⟩) (fun i=>i<=a.length) (fun i=>a.length-i) 0 (aK _) ?_ ?_
 ·rw[cA,show lJ [] b=[]from rfl];exact leA
 intro i hi;have hl:=Np b (a.take i);have hm:(a.take i).length*b.length<=860*860:=fP (by rw[aV];omega) hb;rcases aD i a.length with hil|hil
 ·obtain⟨r,hr⟩:=gex hil;have hs:lJ (a.take (i+1)) b=lJ (a.take i) b++b.map fun s=>rJ r s:=by rw[bE,hr];exact aAz ..
  generalize lJ (a.take i) b=A at*;(repeat' ((conv=>whnf);first|(with_reducible first|refine iI hil ?_|refine iH hr ?_)|refine zG ?_|apply zA|intro h|exact zT));all_goals conv=>whnf
  refine gV Nat (fun k=>⟨2,[(0,.arr 10 ((A++(b.take k).map fun s=>rJ r s).map iV)),(1,.box [.v (.int .u32 r.lo),.v (.int .u32 r.hi)])],[(1,iR b),(6,.os 0 10 0 (A++(b.take k).map fun s=>rJ r s).length),(8,.op 1 0),(12,iR a),(13,.v (.int .i64 (a.map encR).length)),(14,.v (.int .i64 i)),(18,iR b),(19,.v (.int .i64 (b.map encR).length)),(20,.v (.int .i64 k))]⟩) (fun k=>k<=b.length) (fun k=>b.length-k) 0 (aK _) ?_ ?_
  ·rw[cA,bI,bG];exact leA
  intro k hk;rcases aD k b.length with hkl|hkl
  ·obtain⟨s,hs2⟩:=gex hkl;have hap:(A++(b.take (k+1)).map fun s=>rJ r s)=(A++(b.take k).map fun s=>rJ r s)++[rJ r s]:=by rw[bE,hs2];simp
   have hlen:(A++(b.take k).map fun s=>rJ r s).length<=1000000:=by rw[aC,aA,aV];omega
   generalize hB:(A++(b.take (k+1)).map fun s=>rJ r s)=B at*;generalize (A++(b.take k).map fun s=>rJ r s)=C at*;(repeat' ((conv=>whnf);first|(with_reducible first|refine Fa ?_|refine iI hkl ?_|refine iH hs2 ?_)|(refine kH zd ?_)|(refine iT (by rfl) ?_)|refine zG ?_|apply zA|intro h|exact zT));all_goals conv=>whnf
   all_goals
    refine⟨k+1,hkl,by omega,?_⟩;rw[hB,hap,aQ,aC,aN k,aM];exact leA
  ·(repeat' ((conv=>whnf);first|refine zG ?_|apply zA|intro h|exact zT));all_goals conv=>whnf
   have hke:k=b.length:=by omega
   rw[hke,dF,<-hs];refine⟨i+1,hil,by omega,?_⟩;rw[aN i,aM];exact leA
 ·have hie:i=a.length:=by omega
  have hbl:(lJ a b).length<1000000000:=by
   have:=fP ha hb;rw[Np];omega
  rw[hie,dF];have hfull:((lJ a b).map iV).length=(lJ a b).length:=aA ..;(repeat' ((conv=>whnf);first|(with_reducible first|refine iT hfull ?_|refine Tg (lJ a b) hbl ?_)|refine zG ?_|apply zA|intro h|exact zT));all_goals conv=>whnf
  exact hK
section
variable {I:List (Int×Rg)} {X:List Bx}
end
section
variable {I:List (Int×Rg)}
end
theorem aHh{x:It}(h:itB x false=true)(hk:x.kind≠3):(oW x).ok:=by
 unfold itB at h;rw[aF hk]at h;by_cases h1:x.kind=1
 ·rw[aH h1]at h;simp at h
 by_cases h2:x.kind=2
 ·rw[aF h1,aH h2]at h;simp at h
 by_cases h4:x.kind=4
 rotate_left
 ·rw[aF h1,aF h2,aF h4]at h;simp at h
 rw[aF h1,aF h2,aH h4]at h;simp only[fB,dQ,aJ]at h;have hp:=h.1;have e0:fullB.r0.lo=0/\fullB.r0.hi=4294967295/\fullB.r1.lo=0/\fullB.r1.hi=4294967295/\fullB.r3.lo=0/\fullB.r3.hi=65535:=by decide
 have key:(0<=x.proto/\x.proto<=255)/\x.ports.lo<=x.ports.hi/\x.ports.hi<=65535:=by
  unfold prB at hp;split at hp
  ·have:=of_decide_eq_true hp;omega
  ·split at hp
   ·have:=of_decide_eq_true hp;omega
   ·have:=of_decide_eq_true hp;omega
 have hw:=aWh (p:=x.proto) zo zo;refine⟨⟨?_,?_⟩,⟨?_,?_⟩,⟨?_,?_⟩,⟨?_,?_⟩,key.2.1,key.2.2⟩
 ·show fullB.r0.lo<=fullB.r0.hi;omega
 ·show fullB.r0.hi<=4294967295;omega
 ·show fullB.r1.lo<=fullB.r1.hi;omega
 ·show fullB.r1.hi<=4294967295;omega
 ·exact cC _
 ·show wu x.proto<=255;omega
 ·show fullB.r3.lo<=fullB.r3.hi;omega
 ·show fullB.r3.hi<=65535;omega
theorem Y2{l:List Df}{nm:ByteArray}{y:It}(h:Lead l (fun x y=>y=x) nm y):∃d,d∈l/\y∈d.items/\y.kind≠3:=by
 induction h with
 |here h1 h2 h3 h4 h5=>subst h5;exact⟨_,aG h2,h3,h4⟩
 |there h1 h2 h3 h4 h5 ih=>exact ih
def hdQ(h:Hd):Nat->Int
 |0=>h.src
 |1=>h.dst
 |2=>h.pro
 |3=>h.sp
 |_=>h.dp
theorem aCj{h:Hd}(ho:h.Ok):InP (hdQ h):=fun f=>by
 obtain⟨s0,s1,d0,d1,p0,p1,a0,a1,b0,b1⟩:=ho;unfold hdQ iX;split<;>split<;>first|omega|(simp_all;done)|(constructor<;>assumption)
theorem aSf(t:Tp)(hc:mE t=true)(i:Nt)(hb:Bnd i)(s:Sm){K:KT}(hK:K (.tup [iN (qJ t i s).1,.v (.int .i64 (qJ t i s).2)]) []):AC 113 [jT t,jC i,kC s] [] K:=by
 refine hJ (aQk rfl rfl ?_);have hl:=fun nm=>uD hc hb nm;have hg:=fun(nm:ByteArray) {K:KT} h=>@aAY t hc i hb nm K h;unfold qJ at hK;have l1:=hl s.frm;have l2:=hl s.to;have l4:=hl s.exF;have l5:=hl s.exT;have g1:=fun {K} h=>@hg s.frm K h;have g2:=fun {K} h=>@hg s.to K h;have g4:=fun {K} h=>@hg s.exF K h;have g5:=fun {K} h=>@hg s.exT K h;have g3:=fun {K} h=>@aKt i hb s.svc K h;have s3:=Su i s.svc;generalize kJ t i s.frm=F at*;generalize kJ t i s.to=G at*;generalize kJ t i s.exF=O at*;generalize kJ t i s.exT=N at*;generalize rF i s.svc=V at*;obtain⟨Fs,Fe⟩:=F;obtain⟨Gs,Ge⟩:=G;obtain⟨Os,Oe⟩:=O;obtain⟨Ns,Ne⟩:=N;obtain⟨Vs,Ve⟩:=V;simp only at l1 l2 l4 l5 g1 g2 g3 g4 g5 s3 hK;(repeat' ((conv=>whnf);first|(with_reducible first|refine g1 ?_|refine g2 ?_|refine g3 ?_)|refine zG ?_|apply zA|intro h|exact zT));all_goals conv=>whnf
 rotate_left
 ·rw[kD (x:=(Fs,Fe)) zw,kD (x:=(Gs,Ge)) zw,lV (x:=(Vs,Ve)) h]at hK;exact⟨_,hU hZ gY,hK⟩
 ·rw[kD (x:=(Fs,Fe)) zw,lV (x:=(Gs,Ge)) h]at hK;exact⟨_,hU hZ gY,hK⟩
 ·rw[lV (x:=(Fs,Fe)) h]at hK;exact⟨_,hU hZ gY,hK⟩
 rw[kD (x:=(Fs,Fe)) zw,kD (x:=(Gs,Ge)) zw,kD (x:=(Vs,Ve)) h]at hK;simp only at hK;have hvl:=qN s3;have b1:=fun {K} h=>@aKs Fs Gs l1 l2 K h;have sB:=qI (lJ Fs Gs);have i1:=fun {K} h=>@V5 (kX (lJ Fs Gs)).1 Vs (qN sB) hvl K h;have sC:=jV anB (kX (lJ Fs Gs)).1 Vs;have b2:=fun {K} h=>@aKs Os Ns l4 l5 K h;have sD:=qI (lJ Os Ns);have i2:=fun {K} h=>@aBj (iP anB (kX (lJ Fs Gs)).1 Vs).1 (kX (lJ Os Ns)).1 (qN sC) (qN sD) K h;by_cases hex:s.exc=true
 ·simp only[hex,if_true]at hK;refine iD Unit (fun _=>⟨3,[(2,.box [.sb s.permit,.v (.string s.frm),.v (.string s.to),.v (.string s.svc),.sb s.exc,.v (.string s.exF),.v (.string s.exT),.v (.string s.cls),.v (.string s.dur),.v (.int .i64 s.pri)])],[(5,.op 2 0),(8,iR Fs),(10,iR Gs),(11,iN Vs),(12,iR Os),(13,iR Ns)]⟩) (fun _=>Oe=0/\Ne=0) ?_ ?_
  ·(repeat' ((conv=>whnf);first|(with_reducible first|refine g4 ?_|refine g5 ?_)|refine zG ?_|apply zA|intro h|exact zT));all_goals conv=>whnf
   all_goals first
    |(refine⟨(),⟨by with_reducible assumption,by with_reducible assumption⟩,?_⟩
      exact leA)
    |(rw[lV (x:=(Os,Oe)) h]at hK
      exact⟨_,hU hZ gY,hK⟩)
    |(rw[kD (x:=(Os,Oe)) zw,lV (x:=(Ns,Ne)) h]at hK
      exact⟨_,hU hZ gY,hK⟩)
  rintro⟨⟩ ⟨h1,h2⟩
  rw[kD (x:=(Os,Oe)) h1,kD (x:=(Ns,Ne)) h2]at hK;simp only at hK;generalize kX (lJ Fs Gs)=B at*;generalize kX (lJ Os Ns)=D at*;generalize hC:iP anB B.1 Vs=C at*;generalize hX:iP woB C.1 D.1=X at*;obtain⟨Bs,Be⟩:=B;obtain⟨Cs,Ce⟩:=C;obtain⟨Ds,De⟩:=D;obtain⟨Xs,Xe⟩:=X;simp only at b1 i1 b2 i2 hK hC hX;(repeat' ((conv=>whnf);first|(with_reducible first|refine b1 ?_|refine i1 ?_|refine b2 ?_|refine i2 ?_)|refine zG ?_|apply zA|intro h|exact zT));all_goals conv=>whnf
  ·rw[kD (x:=(Bs,Be)) zw]at hK;simp only[hC]at hK;rw[aF (fun hh=>hh.elim (fun hn=>hn zw) (fun hn=>by cases hn)),kD (x:=(Ds,De)) h]at hK;simp only[hX]at hK;exact⟨_,gY,hK⟩
  ·rw[kD (x:=(Bs,Be)) zw]at hK;simp only[hC]at hK;rw[aF (fun hh=>hh.elim (fun hn=>hn zw) (fun hn=>by cases hn)),lV (x:=(Ds,De)) h]at hK;exact⟨_,hU hZ gY,hK⟩
  ·rw[kD (x:=(Bs,Be)) zw]at hK;simp only[hC]at hK;rw[aH (.inl h)]at hK;exact⟨_,gY,hK⟩
  ·rw[lV (x:=(Bs,Be)) h]at hK;exact⟨_,hU hZ gY,hK⟩
 ·have hexf:s.exc=false:=by simpa using hex
  simp only[hexf,cK,if_false]at hK;rw[kD (x:=(([]:List Rg),(0:Int))) rfl,kD (x:=(([]:List Rg),(0:Int))) rfl]at hK;refine Jn.at ⟨3,[(2,.box [.sb s.permit,.v (.string s.frm),.v (.string s.to),.v (.string s.svc),.sb s.exc,.v (.string s.exF),.v (.string s.exT),.v (.string s.cls),.v (.string s.dur),.v (.int .i64 s.pri)])],[(5,.op 2 0),(8,iR Fs),(10,iR Gs),(11,iN Vs)]⟩ ?_ ?_
  ·(repeat' ((conv=>whnf);first|refine zG ?_|apply zA|intro h|exact zT));all_goals conv=>whnf
   refine⟨(),trivial,?_⟩;exact leA
  simp only at hK;generalize kX (lJ Fs Gs)=B at*;generalize hC:iP anB B.1 Vs=C at*;obtain⟨Bs,Be⟩:=B;obtain⟨Cs,Ce⟩:=C;simp only at b1 i1 hK hC;(repeat' ((conv=>whnf);first|(with_reducible first|refine b1 ?_|refine i1 ?_)|refine zG ?_|apply zA|intro h|exact zT));all_goals conv=>whnf
  all_goals first
   |(rw[lV (x:=(Bs,Be)) h]at hK
     exact⟨_,hU hZ gY,hK⟩)
   |(rw[kD (x:=(Bs,Be)) zw]at hK
     simp only[hC,or_true,if_true,ite_self]at hK;exact⟨_,gY,hK⟩)
def Dy(t:Tp)(i:Nt)(nm:ByteArray):List Rg×Int:=if mE t=true/\ntB i=true then kJ t i nm else([],1)
def aEP(i:Nt)(nm:ByteArray):List Bx×Int:=if ntB i=true then rF i nm else([],1)
def aJS(t:Tp)(i:Nt)(n:Int):List Bx×Int:=
 if mE t=true/\ntB i=true then(if n<0\/(i.sts.length:Int)<=n then([],2)else match i.sts[n.toNat]? with
  |some s=>qJ t i s
  |none=>([],2))else([],1)
theorem aFr(t:Tp)(ht:t.edges.length<1000000)(i:Nt)(hb:Bnd i)(nm:ByteArray){K:KT}(hK:K (.tup [iR (Dy t i nm).1,.v (.int .i64 (Dy t i nm).2)]) []):AC 122 [jT t,jC i,.v (.string nm)] [] K:=by
 refine hJ (aDY rfl rfl ?_);unfold Dy at hK;by_cases hc:mE t=true
 ·have hg:=fun {K} h=>@aAY t hc i hb nm K h;(repeat' ((conv=>whnf);first|(with_reducible first|refine Is t ht ?_|refine aLu i hb ?_|refine hg ?_)|refine zG ?_|apply zA|intro h|exact zT));all_goals conv=>whnf
  all_goals first
   |(rw[aH ⟨hc,h⟩]at hK
     exact⟨_,gY,hK⟩)
   |(rw[aF (fun hh=>by rw[hh.2]at h;cases h)]at hK
     exact⟨_,hU hZ gY,hK⟩)
 ·have hcf:mE t=false:=by simpa using hc
  rw[aF (fun hh=>hc hh.1)]at hK;(repeat' ((conv=>whnf);first|(with_reducible refine Is t ht ?_)|refine zG ?_|apply zA|intro h|exact zT));all_goals conv=>whnf
  exact⟨_,hU hZ gY,hK⟩
end Go.Proofs.YtgicddadddhonaaGreatDoor
