/- The generator: spoilt intents, way by way. Printed by mk_yx.py. -/
import Derived.Test.YtahhamfngafmcaaGreatDoorM32
import Derived.Test.YtahhamfngafmcaaGreatDoorM33
import Derived.Test.YtahhamfngafmcaaGreatDoorM34
import Derived.Test.YtahhamfngafmcaaGreatDoorM35
import Derived.Test.YtahhamfngafmcaaGreatDoorM36
import Derived.Test.YtahhamfngafmcaaGreatDoorM38
set_option linter.unusedVariables false
set_option linter.unusedSimpArgs false
set_option maxRecDepth 100000
set_option maxHeartbeats 40000000
namespace Go.Proofs.YtahhamfngafmcaaGreatDoor
open Go Go.Vm
theorem eySpo(raw:List Int)(pos:Nat)(hp:pos<=raw.length)(hr:raw.length<=9223372036854775807)(i:Nt)(g s w x:Nat)(h:Spo g s w x i)(hg:g<=4)(hs:s<=4)(hw:w<=2)(hx:x<=900){K:KT}
  (hK:∀(j:Nt) (pos':Nat),Spo (g+1) (s+1) (w+1) (x+1) j->pos'<=raw.length->K (encNt j) [tapeO raw pos']):
  ACall Tryz.prog 34 [.op 0 0,encNt i] [tapeO raw pos] K:=by
 obtain⟨m,p1,hm,hp1,hn⟩:=nNextD raw pos hp hr
 by_cases hm1:m=1
 ·subst hm1
  exact eySpB raw pos hp hr i g s w x h hg hs hw hx p1 hp1 hn hK
 ·obtain rfl|rfl|rfl|rfl|rfl|rfl|rfl|rfl|rfl|rfl|rfl|rfl|rfl:m=0\/m=2\/m=3\/m=4\/m=5\/m=6\/m=7\/m=8\/m=9\/m=10\/m=11\/m=12\/m=13:=by omega
  ·exact eySp0 raw pos hp hr i g s w x h hg hs hw hx p1 hp1 hn hK
  ·exact eySp2 raw pos hp hr i g s w x h hg hs hw hx p1 hp1 hn hK
  ·exact eySp3 raw pos hp hr i g s w x h hg hs hw hx p1 hp1 hn hK
  ·exact eySp4 raw pos hp hr i g s w x h hg hs hw hx p1 hp1 hn hK
  ·exact eySp5 raw pos hp hr i g s w x h hg hs hw hx p1 hp1 hn hK
  ·exact eySp6 raw pos hp hr i g s w x h hg hs hw hx p1 hp1 hn hK
  ·exact eySp7 raw pos hp hr i g s w x h hg hs hw hx p1 hp1 hn hK
  ·exact eySp8 raw pos hp hr i g s w x h hg hs hw hx p1 hp1 hn hK
  ·exact eySp9 raw pos hp hr i g s w x h hg hs hw hx p1 hp1 hn hK
  ·exact eySp10 raw pos hp hr i g s w x h hg hs hw hx p1 hp1 hn hK
  ·exact eySp11 raw pos hp hr i g s w x h hg hs hw hx p1 hp1 hn hK
  ·exact eySp12 raw pos hp hr i g s w x h hg hs hw hx p1 hp1 hn hK
  ·exact eySp13 raw pos hp hr i g s w x h hg hs hw hx p1 hp1 hn hK
theorem eySpT(raw:List Int)(pos:Nat)(t:Tp)(ht:t.devs.length<100/\t.links.length<100/\t.edges.length<100/\t.pools.length<100)(hp:pos<=raw.length)(hr:raw.length<=9223372036854775807){K:KT}
  (hK:∀(u:Tp) (pos':Nat),u.devs.length<=101/\u.edges.length<=101->pos'<=raw.length->K (encT u) [tapeO raw pos']):ACall Tryz.prog 58 [.op 0 0,encT t] [tapeO raw pos] K:=by
 obtain⟨l1,l2,l3,l4⟩:=ht
 have hE:∀(D L E P:List AV) (tol:Int) (p':Nat),(∀y,y∈D->∃a:Dv,y=encD a)->(∀y,y∈L->∃a:Lk,y=encL a)->(∀y,y∈E->∃a:Ed,y=encE a)->(∀y,y∈P->∃a:Pf,y=encP a)->D.length<=101->E.length<=101->p'<=raw.length->K (.agg [.lst D,.lst L,.lst E,.lst P,.v (.int .i64 tol)]) [tapeO raw p']:=fun D L E P tol p' h1 h2 h3 h4 h5 h6 hp'=>by
  obtain⟨D,rfl⟩:=list_enc encD h1
  obtain⟨L,rfl⟩:=list_enc encL h2
  obtain⟨E,rfl⟩:=list_enc encE h3
  obtain⟨P,rfl⟩:=list_enc encP h4
  simp only[List.length_map]at h5 h6
  exact hK ⟨D,L,E,P,tol⟩ p' ⟨h5,h6⟩ hp'
 refine ofnSpT rfl rfl ?_
 (repeat' ((conv=>whnf);first|(with_reducible first|refine cnCopy t zo ?_|refine nNext raw _ _ zo zp hr fun m1 p1 hm1 hp1=>?_|refine in_nat zo ?_|refine cnSpP raw _ r.pf zp hr fun q p2 hp2=>?_|refine cnPref raw _ zp hr fun q p2 hp2=>?_|refine ix_strs [⟨#[114,49]⟩,⟨#[97,110,121]⟩,⟨#[82]⟩,⟨#[122,122]⟩] 4 rfl rfl zo fun s hs=>?_|refine ix_strs [⟨#[97,110,121]⟩,⟨#[105,112,115]⟩,⟨#[90]⟩,⟨#[97,32,98]⟩] 4 rfl rfl zo fun s hs=>?_|refine ix_strs [⟨#[]⟩,⟨#[97,110,121]⟩,⟨#[100,109,122]⟩] 3 rfl rfl zo fun s hs=>?_|refine ix_ints [0,1001,-1,7] 4 rfl rfl zo fun c hc=>?_|refine ix_ints [3,-1,2] 3 rfl rfl zo fun c hc=>?_|refine ix_ints [4097,-1,7] 3 rfl rfl zo fun c hc=>?_|refine In.intro 0 rfl zo ?_|refine In.intro (t.edges.length-1) zo zo ?_|refine ix_any zo fun r hx=>?_|refine ix_set (by rw[List.length_map];omega) ?_|refine Sb.intro 1 t.devs.length rfl rfl zo zo ?_|refine Sb.intro 1 t.edges.length rfl rfl zo zo ?_|refine sl_map zo ?_)|refine zG ?_|apply zA|(apply zI;intro h)|exact zT));(all_goals conv=>whnf)
 all_goals
  refine hE _ _ _ _ _ _ ?_ ?_ ?_ ?_ ?_ ?_ zp<;>(repeat' first|exact all_map _|refine all_app ?_ ?_|refine all_set ?_ ?_|refine all_drop ?_|refine all_take ?_)<;>
   first|exact eD _ _ _ _ _|exact eL _ _ _|exact eE _ _ _ _ _|exact eP _|(simp only[List.length_append,List.length_map,List.length_cons,List.length_nil,List.length_set,List.length_drop,List.length_take];omega)
theorem grpV_len(t:Tp){i:Nt}(hb:Bnd i)(nm:ByteArray):(grpV t i nm).1.length<1000000:=by
 unfold grpV
 split
 ·rename_i h
  have:=grpP_len h.1 hb nm
  omega
 ·decide
theorem set_len{l:List Bx}(h:setB l=true):l.length<1000000000000:=by
 unfold setB at h
 simp only[Bool.and_eq_true,decide_eq_true_eq]at h
 omega
theorem svcV_len(i:Nt)(nm:ByteArray):(svcV i nm).1.length<1000000000000:=by
 unfold svcV
 split
 ·exact set_len (svcP_set _ _)
 ·decide
theorem stmV_len(t:Tp)(i:Nt)(n:Int):(stmV t i n).1.length<1000000000000:=by
 unfold stmV
 split
 ·split
  ·decide
  ·split
   ·exact set_len (stmP_set _ _ _)
   ·decide
 ·decide
theorem cRes(t:Tp)(ht:t.edges.length<1000000)(hd:t.devs.length<1000000)(i:Nt)(hb:Bnd i)(nm:ByteArray)(n:Int){K:KT}(hK:K (.sb true) []):
  ACall Tryz.prog 33 [encT t,encNt i,.v (.string nm),.v (.int .i64 n)] [] K:=by
 have g1:=fun {K} h=>@crGroup t ht i hb nm K h
 have g2:=fun {K} h=>@dkGrp t ht i hb nm K h
 have s1:=fun {K} h=>@crService i hb nm K h
 have s2:=fun {K} h=>@dkSvc i hb nm K h
 have t1:=fun {K} h=>@crStatement t ht i hb n K h
 have t2:=fun {K} h=>@dkStm t ht i hb n K h
 have c1:=fun {K} h=>@crCheck t ht hd i hb K h
 have c2:=fun {K} h=>@dkChk t ht hd i hb K h
 have lg:=grpV_len t hb nm
 have ls:=svcV_len i nm
 have lt:=stmV_len t i n
 refine ACall.bool (oflRes rfl rfl ?_)
 generalize grpV t i nm=G at*
 generalize svcV i nm=S at*
 generalize stmV t i n=T at*
 generalize chkV t i=C at*
 obtain⟨Gs,Ge⟩:=G
 obtain⟨Ss,Se⟩:=S
 obtain⟨Ts,Te⟩:=T
 simp only at g1 g2 s1 s2 t1 t2 lg ls lt
 have e1:∀{K:KT},K (.sb true) []->ACall Tryz.prog 62 [encRs Gs,encRs Gs] [] K:=fun h=>c22 Gs Gs lg lg (by rw[decide_eq_true rfl];exact h)
 have e2:∀{K:KT},K (.sb true) []->ACall Tryz.prog 63 [encXs Ss,encXs Ss] [] K:=fun h=>cr4Same Ss Ss ls ls (by rw[decide_eq_true rfl];exact h)
 have e3:∀{K:KT},K (.sb true) []->ACall Tryz.prog 63 [encXs Ts,encXs Ts] [] K:=fun h=>cr4Same Ts Ts lt lt (by rw[decide_eq_true rfl];exact h)
 (repeat' ((conv=>whnf);first|(with_reducible first|refine g1 ?_|refine g2 ?_|refine s1 ?_|refine s2 ?_|refine t1 ?_|refine t2 ?_|refine c1 ?_|refine c2 ?_|refine e1 ?_|refine e2 ?_|refine e3 ?_)|refine zG ?_|apply zA|(apply zI;intro h)|exact zT));(all_goals conv=>whnf)
 all_goals first
  |exact fin_t hK rfl
  |exact fin_s hK zx
  |(exfalso;simp_all;done)
  |trace_state
theorem top_100{t:Tp}(ht:GTop t):t.devs.length<100/\t.links.length<100/\t.edges.length<100/\t.pools.length<100:=by
 have h1:=ht.d6;have h2:=ht.l9;have h3:=ht.e5
 refine⟨by omega,by omega,by omega,?_⟩
 rcases ht.pools with h|h|h|h<;>rw[h]<;>decide
theorem cDraw17(raw:List Int)(pos:Nat)(hp:pos<=raw.length)(hr:raw.length<=9223372036854775807){K:KT}
  (hK:∀(t:Tp) (i:Nt) (pos':Nat),t.edges.length<=101->t.devs.length<=101->Spo 4 4 2 100 i->pos'<=raw.length->K (.tup [encT t,encNt i]) [tapeO raw pos']):
  ACall Tryz.prog 32 [.op 0 0] [tapeO raw pos] K:=by
 refine oflDraw rfl rfl ?_
 have hsp:∀(i:Nt) (pos:Nat),ENt i->pos<=raw.length->∀{K:KT},(∀(j:Nt) (pos':Nat),Spo 4 4 2 100 j->pos'<=raw.length->K (encNt j) [tapeO raw pos'])->ACall Tryz.prog 34 [.op 0 0,encNt i] [tapeO raw pos] K:=fun i pos hi hp K h=>
  eySpo raw pos hp hr i 3 3 1 99 (spo_ent hi) zd zd zd zd h
 (repeat' ((conv=>whnf);first|(refine enTop3f raw _ zw hr fun t p1 ht hd hp1=>?_)|(with_reducible first|refine enInt3 raw _ t ht zw hr fun i p2 hi hp2=>?_|refine nNext raw _ _ zx zw hr fun m p3 hm hp3=>?_|refine hsp i _ hi zw fun j p4 hj hp4=>?_|refine eySpT raw _ t (top_100 ht) zw hr fun u p5 hu hp5=>?_)|refine zG ?_|apply zA|(apply zI;intro h)|exact zT));(all_goals conv=>whnf)
 all_goals first
  |exact hK _ _ _ hu.2 hu.1 hj zw
  |exact hK _ _ _ hu.2 hu.1 (spo_up (spo_ent hi) zd zd zd zd) zw
  |exact hK _ _ _ (Nat.le_trans ht.e5 zd) (Nat.le_trans ht.d6 zd) hj zw
  |exact hK _ _ _ (Nat.le_trans ht.e5 zd) (Nat.le_trans ht.d6 zd) (spo_up (spo_ent hi) zd zd zd zd) zw
  |trace_state
theorem sumF_mem{α:Type}{f:α->Nat}:∀{l:List α} {d:α},d∈l->f d<=sumF f l
 |e::l,d,h=>by
  unfold sumF
  simp only[List.map_cons,List.sum_cons]
  rcases List.mem_cons.1 h with rfl|h
  ·omega
  ·have:=sumF_mem (f:=f) h
   unfold sumF at this
   omega
theorem bnd_huge{i:Nt}(h:hugeN i=false):Bnd i:=by
 unfold hugeN at h
 simp only[Bool.or_eq_false_iff,decide_eq_false_iff_not]at h
 obtain⟨⟨h1,h2⟩,h3⟩:=h
 have h0:sixN i=i.grps.length+i.svcs.length+i.wins.length+i.sts.length+i.pubs.length+i.hids.length:=rfl
 have a1:itsN i.grps=sumF (fun d=>d.items.length) i.grps:=rfl
 have a2:itsN i.svcs=sumF (fun d=>d.items.length) i.svcs:=rfl
 refine⟨by omega,by omega,by omega,by omega,by omega,by omega,fun d hd=>?_,fun d hd=>?_,fun d hd=>?_,by omega,by omega⟩
 ·have:=sumF_mem (f:=fun d:Df=>d.items.length) hd;(try simp only at this);omega
 ·have:=sumF_mem (f:=fun d:Df=>d.items.length) hd;(try simp only at this);omega
 ·have:=sumF_mem (f:=fun d:Wn=>d.act.length) hd;(try simp only at this);omega
theorem huge_le{t:Tp}(h:huge t=false):t.edges.length<=5/\t.devs.length<=6:=by
 unfold huge at h
 simp only[Bool.or_eq_false_iff,decide_eq_false_iff_not]at h
 omega
theorem cAgrees17(raw:List Int)(t:Tp)(i:Nt)(s:ByteArray)(n:Int)(hr:raw.length<=9223372036854775807)(hl:LenNt 140737488351232 i):ACall Tryz.prog 7 [.lst (raw.map encI),encT t,encNt i,.v (.string s),.v (.int .i64 n)] [] Yes:=by
 refine oflAgr17 rfl rfl ?_
 (repeat' ((conv=>whnf);first|(with_reducible refine c9 raw ?_)|refine zG ?_|apply zA|(apply zI;intro h)|exact zT));(all_goals conv=>whnf)
 refine Lp.intro (Nat×Nat) (fun g=>⟨3,[(0,boxT t),(1,boxNt i),(2,tapeO raw g.1)],[(3,.v (.string s)),(4,.v (.int .i64 n)),(6,.op 0 0),(7,.op 1 0),(11,.op 2 0),(12,.v (.int .i64 g.2))]⟩) (fun g=>g.1<=raw.length/\g.2<=4) (fun g=>4-g.2) (0,0) ⟨Nat.zero_le _,by decide⟩ ?_ ?_
 ·(exact leA)
 rintro⟨p,m⟩ ⟨hp,hm⟩
 simp only at hp hm⊢
 have hsp:∀(i:Nt) (pos:Nat),Spo 4 4 2 100 i->pos<=raw.length->∀{K:KT},(∀(j:Nt) (pos':Nat),Spo 5 5 3 101 j->pos'<=raw.length->K (encNt j) [tapeO raw pos'])->ACall Tryz.prog 34 [.op 0 0,encNt i] [tapeO raw pos] K:=fun i pos hi hp K h=>
  eySpo raw pos hp hr i 4 4 2 100 hi zd zd zd zd h
 rcases Nat.lt_or_ge m 4 with hm4|hm4
 ·(repeat' ((conv=>whnf);first|(with_reducible refine cDraw17 raw _ zw hr fun y j p1 hye hyd hj hp1=>?_)|refine zG ?_|apply zA|(apply zI;intro h)|exact zT));(all_goals conv=>whnf)
  all_goals
   have hbj:=spo_bnd hj zd zd zd zd
   have hjt:=hj.t
  all_goals(repeat' ((conv=>whnf);first|(with_reducible first|refine eyNms raw _ zw hr fun nm p2 hp2=>?_|refine nNext raw _ _ (by(try simp only[List.length_map]);omega) zw hr fun k p3 hk hp3=>?_|refine hsp j _ hj zw fun j' p4 hj' hp4=>?_|refine cRes y zo zo j hbj _ _ ?_)|(refine cRes y zo zo _ (spo_bnd zw zd zd zd zd) _ _ ?_)|(with_reducible refine wr_i64 rfl (by(try simp only[List.length_map]at*);omega) (by(try simp only[List.length_map]at*);omega) ?_)|refine zG ?_|apply zA|(apply zI;intro h)|exact zT));(all_goals conv=>whnf)
  all_goals first
   |(refine⟨(_,m+1),⟨by with_reducible assumption,by simp only;omega⟩,by simp only;omega,?_⟩
     simp only[Int.natCast_add,Int.natCast_one]
     (exact leA))
   |trace_state
 ·have hm5:m=4:=by omega
  subst hm5
  (repeat' ((conv=>whnf);first|(with_reducible first|refine cnHuge t ?_|refine cHugN i hl ?_)|(refine cRes t (by have:=huge_le zw;omega) (by have:=huge_le zw;omega) i (bnd_huge zw) s n ?_)|(with_reducible refine cwSane ?_)|refine zG ?_|apply zA|(apply zI;intro h)|exact zT));(all_goals conv=>whnf)
  all_goals first
   |exact .inl rfl
   |exact .inr rfl
   |trace_state
end Go.Proofs.YtahhamfngafmcaaGreatDoor
