/- Lemmas. -/
import Derived.Test.YtgicddadddhonaaGreatDoorM44
import Derived.Test.YtgicddadddhonaaGreatDoorM43
import Derived.Test.YtgicddadddhonaaGreatDoorM62
set_option linter.unusedVariables false
set_option linter.unusedSimpArgs false
set_option maxRecDepth 100000
set_option maxHeartbeats 4000000
namespace Go.Proofs.YtgicddadddhonaaGreatDoor
open Go Go.Vm
theorem aSN{P Q:Hd×Hd×Nat->Prop}(a b c d e a' b' c' d' e':Int)(p:Nat)(hQ:Q (⟨a,b,c,d,e⟩,⟨a',b',c',d',e'⟩,p))(hP:P (⟨a,b,c,d,e⟩,⟨a',b',c',d',e'⟩,p)):∃g,P g/\Q g:=⟨_,hP,hQ⟩
def aRB(L:List Mv):Prop:=L.length<=16/\∀{g k:Hd},g.Ok->k.Ok->(nT L g).2=true->(nT L k).2=true->(nT L g).1=(nT L k).1->g=k
theorem aLl(raw:List Int)(g0 h0:Hd)(og:g0.Ok)(oh:h0.Ok)(hr:raw.length<=9223372036854775807):AC 3 [.lst (raw.map encI),lC g0,lC h0] [] Yes:=by
 have h4:∀{pos:Nat} {K:KT} (hp:pos<=raw.length),(∀(t:Tp) (i:Nt) (m:Int) (pos':Nat),GTop t->t.devs.length<=2->ENt i->pos'<=raw.length->K (.tup [jT t,jC i,.v (.int .i64 m)]) [iO raw pos'])->
  AC 10 [.op 0 0,.v (.int .i64 2),.v (.int .i64 0)] [iO raw pos] K:=fun hp h=>Ub 0 zd raw _ hp hr h
 have hsp:∀(i:Nt) (pos:Nat),ENt i->pos<=raw.length->∀{K:KT},(∀(j:Nt) (pos':Nat),Spo 4 4 2 5 j->pos'<=raw.length->K (jC j) [iO raw pos'])->AC 11 [.op 0 0,jC i] [iO raw pos] K:=fun i pos hi hp K h=>
  aBA raw pos hp hr i 3 3 1 4 (by
   have f:=hi.gen.few;exact⟨hi.g1,f.g3,f.s3,hi.w1,hi.t3,bC hi.p1 zd,bC hi.h1 zd,f.gi,f.si,f.sml.wi,hi.pa,hi.ha⟩) zd zd zd zd h
 refine aDp rfl rfl ?_;(repeat' ((conv=>whnf);first|(with_reducible first|refine c9 raw ?_|refine h4 (aK _) fun t i m p1 ht htd hi hp1=>?_|refine hsp i _ hi zw fun j p3 hj hp3=>?_|refine tB ?_)|refine zG ?_|apply zA|intro h|exact zT));all_goals conv=>whnf
 all_goals first
  |exact .inl rfl
  |exact .inr rfl
  |skip
 have hT:TrB t j:=by
  obtain⟨e1,e2,e3,_,_,_⟩:=Pr ht hi;exact⟨e1,e2,e3,Xz hj zd zd zd zd,hj.pa,hj.ha⟩
 have he5:=ht.e5;have hel:(t.edges.map lY).length=t.edges.length:=aA ..;have hz:∀r:Int,pG t j r≠0->((wQ t j r).map nR).length=0:=fun r h=>by rw[wQ,aF h];rfl
 have hgood:∀r:Nat,pG t j r=0->aRB (wQ t j r):=fun r hk0=>by
  obtain⟨⟨hc,hn⟩,n0,n1⟩:=yZ hk0;have hok:=ntB_iff.1 hn;have hrl:r<t.edges.length:=by omega
  obtain⟨e,he⟩:=gex hrl;have hmv:wQ t j r=qB j e:=by rw[wQ,aH hk0,dY,Y9,he]
  have ht0:trP t j=0:=by
   unfold pG at hk0;split at hk0
   ·rename_i h1;exact absurd hk0 h1
   ·rename_i h1;exact Decidable.byContradiction h1
  rw[hmv];refine⟨?_,fun og ok h1 h2 h3=>aHq ht0 (fun p hp=>J9 (hok.p p hp) (hT.pa p hp)) e og ok h1 h2 h3⟩;unfold qB;rw[aA];exact bC (dK ..) hok.pl
 clear h4 hsp;(repeat' ((conv=>whnf);first|(refine jI raw _ (t.edges.map lY).length zo zw hr fun r p4 hr4 hp4=>?_)|(refine Ou t j hT _ ?_)|(with_reducible refine tB ?_)|refine zG ?_|apply zA|intro h|exact zT));all_goals conv=>whnf
 all_goals first
  |exact .inl rfl
  |exact .inr rfl
  |(exfalso;have:=hz _ zw;omega)
  |skip
 have hg:=hgood r zw;have hl16:=hg.1;clear hgood hz;generalize wQ t j r=L at*;refine iD (Hd×Hd×Nat) (fun q=>⟨3,[(0,.box (E8 q.1)),(1,.box (E8 q.2.1)),(2,iO raw q.2.2)],[(4,.op 0 0),(5,.op 1 0),(7,.op 2 0),(11,lQ L)]⟩) (fun q=>q.1.Ok/\q.2.1.Ok/\q.2.2<=raw.length) ?_ ?_
 ·(repeat' ((conv=>whnf);first|(with_reducible first|refine jI raw _ _ zd zw hr fun m1 p5 hm1 hp5=>?_|refine aCD L zo ?_|refine N9 raw _ _ (bC (Fg L) zo) zw hr fun g p6 og6 hp6=>?_)|refine zG ?_|apply zA|intro h|exact zT));all_goals conv=>whnf
  all_goals
   apply aSN
   ·exact leA
   ·exact⟨by assumption,by assumption,by assumption⟩
 rintro⟨g,k,p⟩ ⟨og',oh',hp'⟩
 simp only at og' oh' hp'⊢;have hle:(L.map nR).length=L.length:=aA ..;refine iD (Hd×Hd) (fun q=>⟨2,[(0,.box (E8 q.1)),(1,.box (E8 q.2))],[(4,.op 0 0),(5,.op 1 0),(11,lQ L)]⟩) (fun q=>q.1.Ok/\q.2.Ok) ?_ ?_
 ·rcases cV L.length with hL0|hL0
  ·(repeat' ((conv=>whnf);first|refine zG ?_|apply zA|intro h|exact zT));all_goals conv=>whnf
   refine⟨(g,k),⟨og',oh'⟩,?_⟩;exact leA
  ·obtain⟨m0,hm0⟩:=gex hL0;(repeat' ((conv=>whnf);first|(with_reducible refine jI raw _ _ zd zw hr fun m1 p5 hm1 hp5=>?_)|(refine kH zd ?_)|(refine iB 0 rfl zo ?_)|(with_reducible first|refine iH hm0 ?_|refine zY fun q z0 z1=>?_)|refine zG ?_|apply zA|intro h|exact zT));all_goals conv=>whnf
   all_goals first
    |(refine⟨(g,k),⟨og',oh'⟩,?_⟩
      exact leA)
    |(refine⟨(g,⟨g.src,m0.to.r1.lo,g.pro,g.sp,q⟩),⟨og',⟨og'.s0,og'.s1,m0.to.r1.l0,m0.to.r1.l1,og'.p0,og'.p1,og'.a0,og'.a1,z0,z1⟩⟩,?_⟩
      exact leA)
 rintro⟨g,k⟩ ⟨og2,oh2⟩
 simp only at og2 oh2⊢;have ka:=fun {K}=>@Jw L g og2 zo K;have kb:=fun {K}=>@Jw L k oh2 zo K;have hlw:=@hg.2 g k og2 oh2;generalize nT L g=A at*;generalize nT L k=B at*;obtain⟨A,x⟩:=A;obtain⟨B,y⟩:=B;simp only at hlw ka kb;(repeat' ((conv=>whnf);first|(refine ka ?_)|(refine kb ?_)|(refine Tq (p:=A) (q:=B) fun b hb=>?_)|(refine Tq (p:=g) (q:=k) fun c hcc=>?_)|(with_reducible refine tB ?_)|refine zG ?_|apply zA|intro h|exact zT));all_goals conv=>whnf
 all_goals first
  |exact .inl rfl
  |exact .inr rfl
  |(exfalso;simp_all;done)
end Go.Proofs.YtgicddadddhonaaGreatDoor
