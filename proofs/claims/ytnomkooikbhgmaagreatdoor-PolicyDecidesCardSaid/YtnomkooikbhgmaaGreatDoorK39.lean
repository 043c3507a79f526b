/- Lemmas. -/
import Derived.Test.YtnomkooikbhgmaaGreatDoorK38
import Derived.Test.YtnomkooikbhgmaaGreatDoorK42
import Derived.Test.YtnomkooikbhgmaaGreatDoorK43
import Derived.Test.YtnomkooikbhgmaaGreatDoorK44
import Derived.Test.YtnomkooikbhgmaaGreatDoorK45
import Derived.Test.YtnomkooikbhgmaaGreatDoorK46
set_option linter.unusedVariables false
set_option linter.unusedSimpArgs false
set_option maxRecDepth 100000
set_option maxHeartbeats 40000000
noncomputable section
namespace Go.Proofs.YtnomkooikbhgmaaGreatDoor
open Go Go.Vm
theorem aRC(raw:List Int)(pos:Nat)(hp:pos<=raw.length)(hr:raw.length<=9223372036854775807)(i:Nt)(g s w x:Nat)(h:Spo g s w x i)(hg:g<=4)(hs:s<=4)(hw:w<=2)(hx:x<=900){K:KT}
  (hK:∀(j:Nt) (pos':Nat),Spo (g+1) (s+1) (w+1) (x+1) j->pos'<=raw.length->K (iS j) [iI raw pos']):
  AC 10 [.op 0 0,iS i] [iI raw pos] K:=by
 obtain⟨m,p1,hm,hp1,hn⟩:=aNN raw pos hp hr;by_cases hm1:m=1
 ·subst hm1;exact aRB raw pos hp hr i g s w x h hg hs hw hx p1 hp1 hn hK
 ·obtain rfl|rfl|rfl|rfl|rfl|rfl|rfl|rfl|rfl|rfl|rfl|rfl|rfl:m=0\/m=2\/m=3\/m=4\/m=5\/m=6\/m=7\/m=8\/m=9\/m=10\/m=11\/m=12\/m=13:=by omega
  ·exact aRs raw pos hp hr i g s w x h hg hs hw hx p1 hp1 hn hK
  ·exact aRt raw pos hp hr i g s w x h hg hs hw hx p1 hp1 hn hK
  ·exact aRu raw pos hp hr i g s w x h hg hs hw hx p1 hp1 hn hK
  ·exact aRv raw pos hp hr i g s w x h hg hs hw hx p1 hp1 hn hK
  ·exact aRw raw pos hp hr i g s w x h hg hs hw hx p1 hp1 hn hK
  ·exact aRx raw pos hp hr i g s w x h hg hs hw hx p1 hp1 hn hK
  ·exact aRy raw pos hp hr i g s w x h hg hs hw hx p1 hp1 hn hK
  ·exact aRz raw pos hp hr i g s w x h hg hs hw hx p1 hp1 hn hK
  ·exact aRA raw pos hp hr i g s w x h hg hs hw hx p1 hp1 hn hK
  ·exact aLx raw pos hp hr i g s w x h hg hs hw hx p1 hp1 hn hK
  ·exact aLy raw pos hp hr i g s w x h hg hs hw hx p1 hp1 hn hK
  ·exact aLz raw pos hp hr i g s w x h hg hs hw hx p1 hp1 hn hK
  ·exact aLA raw pos hp hr i g s w x h hg hs hw hx p1 hp1 hn hK
def Za(i:Nt):List Int:=if ntB i=true then yQ (i.wins.map Wn.act) 10079 else []
theorem Sh(i:Nt):(Za i).length<=10080:=by
 unfold Za;split
 ·exact R2 ..
 ·simp
theorem aDG{L:List (List Rg)}{n:Nat}{v:Int}:v∈yQ L n↔v=0\/(1<=v/\v<=n/\Kk L v=true):=by
 unfold yQ;rw[aV,bU];refine or_congr_right ⟨?_,?_⟩
 ·rintro⟨j,hj,rfl⟩
  obtain⟨h1,h2⟩:=cI.1 hj;have:=dJ.1 h1;exact⟨by omega,by omega,h2⟩
 ·rintro⟨h1,h2,h3⟩
  refine⟨(v-1).toNat,cI.2 ⟨dJ.2 zo,?_⟩,by omega⟩;rw[show(((v-1).toNat:Nat):Int)+1=v by omega];exact h3
theorem aDH(L:List (List Rg))(n:Nat):(yQ L n).Pairwise (· < ·):=by
 unfold yQ;rw[bW,gF];refine⟨fun v hv=>?_,?_⟩
 ·obtain⟨j,_,rfl⟩:=bU.1 hv;omega
 ·exact(List.pairwise_lt_range.filter _).imp fun h=>by omega
theorem Vd{w:List Rg}{v:Int}(h0:0<=v)(h1:v<=10079):uQ w v=has (uR (has w)) v:=by
 unfold uQ;rw[(Qa w).2,decide_eq_true h0,decide_eq_true (show v<=4294967295 by omega),dQ,dQ]
theorem aAc{w:List Rg}{v:Int}(h0:1<=v)(h1:v<=10079):(uQ w v != uQ w (v-1))=true↔∃r,r∈uR (has w)/\(v=r.lo\/v=r.hi+1):=by
 rw[Vd zo h1,Vd zo zo];exact Xt (Qa w).1 v
theorem aIL{i:Nt}{S:List Int}(h:SegL i S):S=yQ (i.wins.map Wn.act) 10079:=by
 refine aCd h.od (aDH ..) fun v=>?_;rw[h.mem,aDG];unfold aIK Kk;constructor
 ·rintro(h0|⟨w,hw,r,hr,h1,h2⟩)
  ·exact .inl h0
  ·rcases dW v 1 with hv|hv
   ·left;have:=r.l0;have:=r.h0;omega
   ·exact .inr ⟨hv,by omega,dE.2 ⟨w.act,bU.2 ⟨w,hw,rfl⟩,(aAc hv zo).2 ⟨r,hr,h1⟩⟩⟩
 ·rintro(h0|⟨h1,h2,h3⟩)
  ·exact .inl h0
  ·obtain⟨a,ha,h4⟩:=dE.1 h3;obtain⟨w,hw,rfl⟩:=bU.1 ha;obtain⟨r,hr,h5⟩:=(aAc h1 h2).1 h4;exact .inr ⟨w,hw,r,hr,h5,by omega⟩
theorem aAV(i:Nt)(hb:Bnd i){K:KT}(hK:K (.lst ((Za i).map sJ)) []):AC 22 [iS i] [] K:=by
 have bw:=hb.w;have bwi:=hb.wi;have hcs:∀{K:KT},K (.lst ((yQ (i.wins.map Wn.act) 10079).map sJ)) []->AC 66 [.lst (i.wins.map fun w=>iH w.act)] [] K:=fun {K} h=>by
  have:=aLp (i.wins.map Wn.act) (by rw[aA];omega) (fun w hw=>by
   obtain⟨x,hx,rfl⟩:=bU.1 hw;exact bwi x hx) (K:=K) h
  rw[fM]at this;exact this
 refine gQ (aHd rfl rfl ?_);unfold Za at hK;cases hnt:ntB i;all_goals rw[hnt]at hK
 all_goals simp only[bT,if_false,if_true]at hK
 ·(repeat' ((conv=>whnf);first|(with_reducible refine pY i hb ?_)|refine zG ?_|apply zA|intro h|exact zT));all_goals conv=>whnf
  all_goals first
   |exact⟨_,gS,hK⟩
   |(exfalso;simp_all;done)
 (repeat' ((conv=>whnf);first|(with_reducible refine pY i hb ?_)|refine zG ?_|apply zA|intro h|exact zT));all_goals conv=>whnf
 all_goals first
  |(exfalso;simp_all;done)
  |skip
 refine gM Nat (fun k=>⟨2,[(0,mD i),(1,.arr 1 ((i.wins.take k).map fun w=>iH w.act))],[(1,.op 0 0),(3,.os 1 1 0 (i.wins.take k).length),(4,.v (.int .i64 k))]⟩) (fun k=>k<=i.wins.length) (fun k=>i.wins.length-k) 0 (aO _) ?_ ?_
 ·exact leA
 intro k hk;rcases aC k i.wins.length with hkl|hkl
 ·obtain⟨x,hx⟩:=gex hkl;have ht:i.wins.take (k+1)=i.wins.take k++[x]:=by rw[bF,hx];rfl
  (repeat' ((conv=>whnf);first|(with_reducible first|refine hZ hkl ?_|refine hU hx ?_)|refine zG ?_|apply zA|intro h|exact zT));all_goals conv=>whnf
  refine⟨k+1,hkl,by omega,?_⟩;rw[ht,aQ,aD,aN k,aL];exact leA
 ·rw[aU hkl];(repeat' ((conv=>whnf);first|(with_reducible first|refine iP zx ?_|refine hcs ?_)|refine zG ?_|apply zA|intro h|exact zT));all_goals conv=>whnf
  exact⟨_,gO,hK⟩
theorem aAp(i:Nt)(hb:Bnd i){K:KT}(hK:K (.lst ((Za i).map sJ)) []):AC 21 [iS i] [] K:=by
 unfold Za at hK;cases hnt:ntB i;all_goals rw[hnt]at hK
 all_goals simp only[bT,if_false,if_true]at hK
 ·refine gQ (aCw rfl rfl ?_);(repeat' ((conv=>whnf);first|(with_reducible refine Nh i hb ?_)|refine zG ?_|apply zA|intro h|exact zT));all_goals conv=>whnf
  all_goals first
   |exact⟨_,gS,hK⟩
   |(exfalso;simp_all;done)
 ·exact aQs i hb hnt fun S hS _=>by rw[aIL hS];exact hK
theorem aLr(l:List Int)(hl:l.length<1000000){K:KT}(hK:K (.sb true) []):AC 57 [.lst (l.map sJ),.lst (l.map sJ)] [] K:=by
 refine gP (aHE rfl rfl ?_);(repeat' ((conv=>whnf);first|refine zG ?_|apply zA|intro h|exact zT));all_goals conv=>whnf
 refine gM Nat (fun k=>⟨0,[],[(0,.lst (l.map sJ)),(1,.lst (l.map sJ)),(5,.v (.int .i64 k))]⟩) (fun k=>k<=l.length) (fun k=>l.length-k) 0 (aO _) ?_ ?_
 ·exact leA
 intro k hk;rcases aC k l.length with hkl|hkl
 ·obtain⟨x,hx⟩:=gex hkl;(repeat' ((conv=>whnf);first|(with_reducible first|refine hZ hkl ?_|refine hU hx ?_)|refine zG ?_|apply zA|intro h|exact zT));all_goals conv=>whnf
  refine⟨k+1,hkl,by omega,?_⟩;rw[aN,aL];exact leA
 ·(repeat' ((conv=>whnf);first|refine zG ?_|apply zA|intro h|exact zT));all_goals conv=>whnf
  exact jU hK rfl
theorem aAY(l:List Int)(hl:l.length<1000000){K:KT}(hK:K (.sb true) []):AC 18 [.lst (l.map sJ),.lst (l.map sJ)] [] K:=by
 refine aOM rfl rfl ?_;(repeat' ((conv=>whnf);first|(with_reducible refine aLr l hl ?_)|refine zG ?_|apply zA|intro h|exact zT));all_goals conv=>whnf
 exact hK
theorem aAZ(l:List Nat)(hl:l.length<1000000){K:KT}(hK:K (.sb true) []):AC 18 [.lst (l.map vN),.lst (l.map vN)] [] K:=by
 have e:l.map vN=(l.map fun n:Nat=>(n:Int)).map sJ:=by rw[fM];rfl
 rw[e];exact aAY _ (by rw[aA];exact hl) hK
theorem Ru{i:Nt}{m:Int}(hs:i.sts.length<=12):(zY i m).length<1000000:=by
 unfold zY;split
 ·rename_i h;have:=Eb (i:=i) (m:=m) (Js h.1);omega
 ·simp
theorem aIO{i:Nt}(h:ENt i):Spo 3 3 1 4 i:=by
 have f:=h.gen.few;exact⟨h.g1,f.g3,f.s3,h.w1,h.t3,bA h.p1 zd,bA h.h1 zd,f.gi,f.si,f.sml.wi⟩
theorem aEk(raw:List Int)(i0:Nt)(m0:Int)(h0:Hd)(hr:raw.length<=9223372036854775807)(hl:LenNt 140737488351232 i0)(ho:h0.Ok):AC 4 [.lst (raw.map sJ),iS i0,.v (.int .i64 m0),mR h0] [] Yes:=by
 have h4:∀{pos:Nat} {K:KT} (hp:pos<=raw.length),(∀(t:Tp) (i:Nt) (m:Int) (pos':Nat),GTop t->t.devs.length<=3->ENt i->0<=m->m<10080->pos'<=raw.length->K (.tup [kB t,iS i,.v (.int .i64 m)]) [iI raw pos'])->
  AC 6 [.op 0 0,.v (.int .i64 3),.v (.int .i64 3)] [iI raw pos] K:=fun hp h=>aQr 3 zd raw _ hp hr h
 have hsp:∀(i:Nt) (pos:Nat),ENt i->pos<=raw.length->∀{K:KT},(∀(j:Nt) (pos':Nat),Spo 4 4 2 5 j->pos'<=raw.length->K (iS j) [iI raw pos'])->AC 10 [.op 0 0,iS i] [iI raw pos] K:=fun i pos hi hp K h=>
  aRC raw pos hp hr i 3 3 1 4 (aIO hi) zd zd zd zd h
 refine aHb rfl rfl ?_;(repeat' ((conv=>whnf);first|(with_reducible refine c9 raw ?_)|refine zG ?_|apply zA|intro h|exact zT));all_goals conv=>whnf
 refine gM (Nat×Nat) (fun g=>⟨3,[(0,mD i0),(1,.box (Ta h0)),(2,iI raw g.1)],[(2,.v (.int .i64 m0)),(5,.op 0 0),(7,.op 1 0),(9,.op 2 0),(10,.v (.int .i64 g.2))]⟩) (fun g=>g.1<=raw.length/\g.2<=3) (fun g=>3-g.2) (0,0) ⟨aO _,by decide⟩ ?_ ?_
 ·exact leA
 rintro⟨p,n⟩ ⟨hp,hn⟩
 simp only at hp hn⊢;rcases aC n 3 with hnl|hnl
 ·(repeat' ((conv=>whnf);first|(with_reducible refine h4 hp fun t i m p1 ht htd hi hm0 hm1 hp1=>?_)|refine zG ?_|apply zA|intro h|exact zT));all_goals conv=>whnf
  have he5:=ht.e5;clear h4;refine gY (Nt×Nat) (fun q=>⟨5,[(0,mD i0),(1,.box (Ta h0)),(2,iI raw q.2),(3,kU t),(4,mD q.1)],[(2,.v (.int .i64 m0)),(5,.op 0 0),(7,.op 1 0),(9,.op 2 0),(10,.v (.int .i64 n)),(11,.op 3 0),(12,.op 4 0),(13,.v (.int .i64 m))]⟩) (fun q=>q.2<=raw.length/\Bnd q.1/\q.1.sts.length<=12) ?_ ?_
  ·have hbi:=aEj hi;have hi4:=hi.t3;(repeat' ((conv=>whnf);first|(with_reducible first|refine jF raw _ _ zd zw hr fun k p2 hk hp2=>?_|refine hsp i _ hi zw fun j p3 hj hp3=>?_)|refine zG ?_|apply zA|intro h|exact zT));all_goals conv=>whnf
   all_goals first
    |(refine⟨(j,p3),⟨by with_reducible assumption,aIN hj zd zd zd zd,by have:=hj.t;simp only;omega⟩,?_⟩
      exact leA)
    |(refine⟨(i,p2),⟨by with_reducible assumption,hbi,by simp only;omega⟩,?_⟩
      exact leA)
  clear hsp hi i hp1 p1
  rintro⟨i,p1⟩ ⟨hp1,hb,hs⟩
  simp only at hp1 hb hs⊢;have hnear0:∀{pos:Nat} {K:KT} (hp:pos<=raw.length),(∀(g:Hd) (pos':Nat),g.Ok->pos'<=raw.length->K (mR g) [iI raw pos'])->
   AC 15 [.op 0 0,kB t,.nils] [iI raw pos] K:=fun hp h=>ACall.nil3 (aKw raw _ t [] zo zx hp hr h)
  (repeat' ((conv=>whnf);first|(with_reducible refine hnear0 zw fun g p2 hg hp2=>?_)|refine zG ?_|apply zA|intro h|exact zT));all_goals conv=>whnf
  have hd1:∀{K:KT},K (.tup [.sb (pH t i m g).1,.v (.int .i64 (pH t i m g).2)]) []->AC 16 [kB t,iS i,.v (.int .i64 m),mR g] [] K:=fun h=>aAk t zo zo i hb hs m g hg h;have hd2:∀{K:KT},K (.tup [.sb (pH t i m g).1,.v (.int .i64 (pH t i m g).2)]) []->AC 17 [kB t,iS i,.v (.int .i64 m),mR g] [] K:=fun h=>aAT t zo zo i hb m g hg h;generalize pH t i m g=d at*;obtain⟨a,s⟩:=d;simp only at hd1 hd2;(repeat' ((conv=>whnf);first|(with_reducible first|refine hd1 ?_|refine hd2 ?_|refine Qg i hb hs m ?_|refine aAU i hb m ?_|refine aAZ _ (Ru hs) ?_|refine aAp i hb ?_|refine aAV i hb ?_|refine aAY _ (Nat.lt_of_le_of_lt (Sh i) zd) ?_)|refine zG ?_|apply zA|intro h|exact zT));all_goals conv=>whnf
  all_goals first
   |(refine⟨(p2,n+1),⟨by with_reducible assumption,by simp only;omega⟩,by simp only;omega,?_⟩
     simp only[aN,aL];exact leA)
   |(exfalso;simp_all;done)
 ·have hne:n=3:=by omega
  subst hne;clear h4 hsp;cases hh:Ls i0;case true=>
   (repeat' ((conv=>whnf);first|(with_reducible first|refine aJg i0 hl ?_|refine aAo ?_)|refine zG ?_|apply zA|intro h|exact zT));all_goals conv=>whnf
   all_goals first
    |exact .inl rfl
    |exact .inr rfl
    |(exfalso;simp_all;done)
  have hb:=Zw hh;have hs:i0.sts.length<=12:=by
   unfold Ls at hh;simp only[gK,decide_eq_false_iff_not]at hh;omega
  have hd1:∀{K:KT},K (.tup [.sb (pH jT i0 m0 h0).1,.v (.int .i64 (pH jT i0 m0 h0).2)]) []->AC 16 [kB jT,iS i0,.v (.int .i64 m0),mR h0] [] K:=fun h=>aAk jT zd zd i0 hb hs m0 h0 ho h;have hd2:∀{K:KT},K (.tup [.sb (pH jT i0 m0 h0).1,.v (.int .i64 (pH jT i0 m0 h0).2)]) []->AC 17 [kB jT,iS i0,.v (.int .i64 m0),mR h0] [] K:=fun h=>aAT jT zd zd i0 hb m0 h0 ho h;generalize pH jT i0 m0 h0=d at*;obtain⟨a,s⟩:=d;simp only at hd1 hd2;(repeat' ((conv=>whnf);first|(with_reducible first|refine aJg i0 hl ?_|refine aAl ?_|refine hd1 ?_|refine hd2 ?_|refine Qg i0 hb hs m0 ?_|refine aAU i0 hb m0 ?_|refine aAZ _ (Ru hs) ?_|refine aAp i0 hb ?_|refine aAV i0 hb ?_|refine aAY _ (Nat.lt_of_le_of_lt (Sh i0) zd) ?_|refine aAo ?_)|refine zG ?_|apply zA|intro h|exact zT));all_goals conv=>whnf
  all_goals first
   |exact .inl rfl
   |exact .inr rfl
   |(exfalso;simp_all;done)
end Go.Proofs.YtnomkooikbhgmaaGreatDoor
