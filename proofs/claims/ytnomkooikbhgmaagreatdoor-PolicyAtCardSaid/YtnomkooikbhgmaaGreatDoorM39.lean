/- Lemmas. -/
import Derived.Test.YtnomkooikbhgmaaGreatDoorM38
import Derived.Test.YtnomkooikbhgmaaGreatDoorM42
import Derived.Test.YtnomkooikbhgmaaGreatDoorM43
import Derived.Test.YtnomkooikbhgmaaGreatDoorM44
import Derived.Test.YtnomkooikbhgmaaGreatDoorM45
import Derived.Test.YtnomkooikbhgmaaGreatDoorM46
set_option linter.unusedVariables false
set_option linter.unusedSimpArgs false
set_option maxRecDepth 100000
set_option maxHeartbeats 40000000
namespace Go.Proofs.YtnomkooikbhgmaaGreatDoor
open Go Go.Vm
theorem eySpo(raw:List Int)(pos:Nat)(hp:pos<=raw.length)(hr:raw.length<=9223372036854775807)(i:Nt)(g s w x:Nat)(h:Spo g s w x i)(hg:g<=4)(hs:s<=4)(hw:w<=2)(hx:x<=900){K:KT}
  (hK:∀(j:Nt) (pos':Nat),Spo (g+1) (s+1) (w+1) (x+1) j->pos'<=raw.length->K (encNt j) [tapeO raw pos']):
  AC 10 [.op 0 0,encNt i] [tapeO raw pos] K:=by
 obtain⟨m,p1,hm,hp1,hn⟩:=nNextD raw pos hp hr;by_cases hm1:m=1
 ·subst hm1;exact eySpB raw pos hp hr i g s w x h hg hs hw hx p1 hp1 hn hK
 ·obtain rfl|rfl|rfl|rfl|rfl|rfl|rfl|rfl|rfl|rfl|rfl|rfl|rfl:m=0\/m=2\/m=3\/m=4\/m=5\/m=6\/m=7\/m=8\/m=9\/m=10\/m=11\/m=12\/m=13:=by omega
  ·exact eySp0 raw pos hp hr i g s w x h hg hs hw hx p1 hp1 hn hK
  ·exact eySp2 raw pos hp hr i g s w x h hg hs hw hx p1 hp1 hn hK
  ·exact eySp3 raw pos hp hr i g s w x h hg hs hw hx p1 hp1 hn hK
  ·exact eySp4 raw pos hp hr i g s w x h hg hs hw hx p1 hp1 hn hK
  ·exact eySp5 raw pos hp hr i g s w x h hg hs hw hx p1 hp1 hn hK
  ·exact eySp6 raw pos hp hr i g s w x h hg hs hw hx p1 hp1 hn hK
  ·exact eySp7 raw pos hp hr i g s w x h hg hs hw hx p1 hp1 hn hK
  ·exact eySp8 raw pos hp hr i g s w x h hg hs hw hx p1 hp1 hn hK
  ·exact eySp9 raw pos hp hr i g s w x h hg hs hw hx p1 hp1 hn hK
  ·exact eySp10 raw pos hp hr i g s w x h hg hs hw hx p1 hp1 hn hK
  ·exact eySp11 raw pos hp hr i g s w x h hg hs hw hx p1 hp1 hn hK
  ·exact eySp12 raw pos hp hr i g s w x h hg hs hw hx p1 hp1 hn hK
  ·exact eySp13 raw pos hp hr i g s w x h hg hs hw hx p1 hp1 hn hK
theorem atV_sz(t:Tp)(i:Nt)(m:Int)(hs:i.sts.length<1000000):(atV t i m).1.allow.length<1000000000/\(atV t i m).1.insp.length<1000000000/\∀x,x∈(atV t i m).1.insp->x.set.length<1000000000:=by
 by_cases he:(atV t i m).2=0
 ·obtain⟨hpre,hav,hae⟩:=atV_ok he;obtain⟨⟨hc,hnt⟩,_,_⟩:=pre_ok hpre;have hpol:=atP_ok (m:=m) hc hnt hae;rw[hav];refine⟨by have:=(setB_pset hpol.set).len;omega,by have:=atP_few (t:=t) (m:=m) hnt;omega,fun x hx=>?_⟩;obtain⟨n,hn⟩:=bN.1 hx;exact setBlen (hpol.insp n x hn).set
 ·have h0:(atV t i m).1=zPol:=by
   unfold atV at he⊢;split
   ·rfl
   ·rename_i h;rw[aD h]at he;exact(err_at t i m).2 he
  rw[h0];exact⟨by decide,by decide,fun x hx=>by cases hx⟩
theorem spo_fewA{i:Nt}(h:ENt i):Spo (3+0) (3+0) (1+0) (4+0) i:=by
 have f:=h.gen.few;exact⟨h.g1,f.g3,f.s3,h.w1,aZ h.t3 zd,aZ h.p1 zd,aZ h.h1 zd,f.gi,f.si,f.sml.wi⟩
theorem cPolAt(raw:List Int)(x0:Tp)(i0:Nt)(m0:Int)(hr:raw.length<=9223372036854775807)(hl:LenNt 140737488351232 i0):AC 3 [.lst (raw.map encI),encT x0,encNt i0,.v (.int .i64 m0)] [] Yes:=by
 have h4:∀{pos:Nat} {K:KT} (hp:pos<=raw.length),(∀(t:Tp) (i:Nt) (m:Int) (pos':Nat),GTop t->t.devs.length<=3->ENt i->0<=m->m<10080->pos'<=raw.length->K (.tup [encT t,encNt i,.v (.int .i64 m)]) [tapeO raw pos'])->
  AC 6 [.op 0 0,.v (.int .i64 3),.v (.int .i64 3)] [tapeO raw pos] K:=fun hp h=>coNet 3 zd raw _ hp hr h
 have hsp:∀(i:Nt) (pos c:Nat),Spo (3+c) (3+c) (1+c) (4+c) i->c<2->pos<=raw.length->∀{K:KT},(∀(j:Nt) (pos':Nat),Spo (3+c+1) (3+c+1) (1+c+1) (4+c+1) j->pos'<=raw.length->K (encNt j) [tapeO raw pos'])->AC 10 [.op 0 0,encNt i] [tapeO raw pos] K:=fun i pos c hi hc hp K h=>
  eySpo raw pos hp hr i (3+c) (3+c) (1+c) (4+c) hi zo zo zo zo h
 refine ofoPAt rfl rfl ?_;(repeat' ((conv=>whnf);first|(with_reducible refine c9 raw ?_)|refine zG ?_|apply zA|intro h|exact zT));all_goals conv=>whnf
 refine gL (Nat×Nat) (fun g=>⟨3,[(0,boxT x0),(1,boxNt i0),(2,tapeO raw g.1)],[(3,.v (.int .i64 m0)),(5,.op 0 0),(6,.op 1 0),(9,.op 2 0),(10,.v (.int .i64 g.2))]⟩) (fun g=>g.1<=raw.length/\g.2<=2) (fun g=>2-g.2) (0,0) ⟨aK _,by decide⟩ ?_ ?_
 ·exact leA
 rintro⟨p,n⟩ ⟨hp,hn⟩
 simp only at hp hn⊢;rcases aF n 2 with hnl|hnl
 ·(repeat' ((conv=>whnf);first|(with_reducible refine h4 hp fun t i m p1 ht htd hi hm0 hm1 hp1=>?_)|refine zG ?_|apply zA|intro h|exact zT));all_goals conv=>whnf
  have he5:=ht.e5;clear h4;refine gL (Nt×Int×Nat×Nat) (fun q=>⟨5,[(0,boxT x0),(1,boxNt i0),(2,tapeO raw q.2.2.1),(3,boxT t),(4,boxNt q.1)],[(3,.v (.int .i64 m0)),(5,.op 0 0),(6,.op 1 0),(9,.op 2 0),(10,.v (.int .i64 n)),(11,.op 3 0),(12,.op 4 0),(13,.v (.int .i64 q.2.1)),(14,.v (.int .i64 q.2.2.2))]⟩)
   (fun q=>q.2.2.1<=raw.length/\q.2.2.2<=2/\Spo (3+q.2.2.2) (3+q.2.2.2) (1+q.2.2.2) (4+q.2.2.2) q.1) (fun q=>2-q.2.2.2) (i,m,p1,0) ⟨hp1,aK _,spo_fewA hi⟩ ?_ ?_
  ·exact leA
  clear hi hm0 hm1 hp1 hp p1 m i p
  rintro⟨i,m,p1,c⟩ ⟨hp1,hc2,hi⟩
  simp only at hp1 hc2 hi⊢;rcases aF c 2 with hcl|hcl
  ·have hb:=spo_bnd hi zo zo zo zo;have hs:i.sts.length<=12:=by have:=hi.t;omega
   have hd1:∀{K:KT},K (.tup [encPol (atV t i m).1,.v (.int .i64 (atV t i m).2)]) []->AC 7 [encT t,encNt i,.v (.int .i64 m)] [] K:=fun h=>coAt t zo zo i hb hs m h;have hd2:∀{K:KT},K (.tup [encPol (atV t i m).1,.v (.int .i64 (atV t i m).2)]) []->AC 8 [encT t,encNt i,.v (.int .i64 m)] [] K:=fun h=>doAtR t he5 zo i hb m h;obtain⟨z1,z2,z3⟩:=atV_sz t i m zo;have hd3:∀{K:KT},K (.sb true) []->AC 9 [encPol (atV t i m).1,encPol (atV t i m).1] [] K:=fun h=>coSameP _ z1 z2 z3 h;clear z1 z2 z3 hb hs;generalize atV t i m=d at*;obtain⟨a,e⟩:=d;simp only at hd1 hd2 hd3;(repeat' ((conv=>whnf);first|(with_reducible first|refine hd1 ?_|refine hd2 ?_|refine hd3 ?_|refine hsp i _ c hi hcl zw fun j p3 hj hp3=>?_|refine nNext raw _ _ zd zw hr fun k p2 hk hp2=>?_)|refine zG ?_|apply zA|intro h|exact zT));all_goals conv=>whnf
   all_goals first
    |(refine⟨(j,(k:Int)-1,p2,c+1),⟨hp2,hcl,hj⟩,by simp only;omega,?_⟩
      simp only[aO,aN];exact leA)
    |(exfalso;simp_all;done)
  ·(repeat' ((conv=>whnf);first|refine zG ?_|apply zA|intro h|exact zT));all_goals conv=>whnf
   refine⟨(p1,n+1),⟨hp1,hnl⟩,by simp only;omega,?_⟩;simp only[aO,aN];exact leA
 ·clear h4 hsp hp;cases hht:huge x0;case true=>
   (repeat' ((conv=>whnf);first|(with_reducible first|refine cnHuge x0 ?_|refine coSanZ ?_)|refine zG ?_|apply zA|intro h|exact zT));all_goals conv=>whnf
   all_goals first
    |exact .inl rfl
    |exact .inr rfl
    |(exfalso;simp_all;done)
  cases hh:hugeN i0;case true=>
   (repeat' ((conv=>whnf);first|(with_reducible first|refine cnHuge x0 ?_|refine cHugN i0 hl ?_|refine coSanZ ?_)|refine zG ?_|apply zA|intro h|exact zT));all_goals conv=>whnf
   all_goals first
    |exact .inl rfl
    |exact .inr rfl
    |(exfalso;simp_all;done)
  have hb:=bnd_huge hh;have hs:i0.sts.length<=12:=by
   unfold hugeN at hh;simp only[eN,decide_eq_false_iff_not]at hh;omega
  have h6:x0.edges.length<=5/\x0.devs.length<=100:=by
   unfold huge at hht;simp only[eN,decide_eq_false_iff_not]at hht;omega
  have hd1:∀{K:KT},K (.tup [encPol (atV x0 i0 m0).1,.v (.int .i64 (atV x0 i0 m0).2)]) []->AC 7 [encT x0,encNt i0,.v (.int .i64 m0)] [] K:=fun h=>coAt x0 zo zo i0 hb hs m0 h;have hd2:∀{K:KT},K (.tup [encPol (atV x0 i0 m0).1,.v (.int .i64 (atV x0 i0 m0).2)]) []->AC 8 [encT x0,encNt i0,.v (.int .i64 m0)] [] K:=fun h=>doAtR x0 h6.1 h6.2 i0 hb m0 h;obtain⟨z1,z2,z3⟩:=atV_sz x0 i0 m0 zo;have hd3:∀{K:KT},K (.sb true) []->AC 9 [encPol (atV x0 i0 m0).1,encPol (atV x0 i0 m0).1] [] K:=fun h=>coSameP _ z1 z2 z3 h;clear z1 z2 z3;generalize atV x0 i0 m0=d at*;obtain⟨a,e⟩:=d;simp only at hd1 hd2 hd3;(repeat' ((conv=>whnf);first|(with_reducible first|refine cnHuge x0 ?_|refine cHugN i0 hl ?_|refine hd1 ?_|refine hd2 ?_|refine hd3 ?_|refine coSanZ ?_)|refine zG ?_|apply zA|intro h|exact zT));all_goals conv=>whnf
  all_goals first
   |exact .inl rfl
   |exact .inr rfl
   |(exfalso;simp_all;done)
end Go.Proofs.YtnomkooikbhgmaaGreatDoor
