/- The addresses of groups, the headers of services and statements, and the errors are those of the reference: the statement ResolveAgreesCardSaid holds, for every input, without a condition of ours (its card ties the package-level variables to the program's text). -/
import Derived.Test.YtahhamfngafmcaaGreatDoorM33
set_option linter.unusedVariables false
set_option linter.unusedSimpArgs false
set_option maxRecDepth 100000
set_option maxHeartbeats 40000000
namespace Go.Proofs.YtahhamfngafmcaaGreatDoor
open Go Go.Vm
theorem eyNms(raw:List Int)(pos:Nat)(hp:pos<=raw.length)(hr:raw.length<=9223372036854775807){K:KT}
  (hK:∀(s:ByteArray) (pos':Nat),pos'<=raw.length->K (.v (.string s)) [tapeO raw pos']):ACall Tryz.prog 26 [.op 0 0] [tapeO raw pos] K:=by
 refine ofl17Nms rfl rfl ?_
 (repeat' ((conv=>whnf);first|(refine nNext raw _ 10 zd zp hr fun m1 p1 hm1 hp1=>?_)|(with_reducible first|refine in_nat zo ?_|refine ix_strX [⟨#[]⟩,⟨#[103,49]⟩,⟨#[103,50]⟩,⟨#[103,51]⟩,⟨#[119,101,98]⟩,⟨#[115,115,104]⟩,⟨#[115]⟩,⟨#[104]⟩,⟨#[110,111,119,104,101,114,101]⟩,⟨#[97,110,121]⟩] 10 rfl rfl zo fun c hc=>?_)|refine zG ?_|apply zA|(apply zI;intro h)|exact zT));(all_goals conv=>whnf)
 all_goals exact hK _ _ zp
theorem ACall_fin{P:Program}{f:FuncId}{args:List AV}{hs:List Vm.Obj}{K:KT}(h:ACall P f args hs fun v hs'=>finQ hs.length (enumH 0 hs') v K):ACall P f args hs K:=by
 obtain⟨h1,h2⟩:=h.elim
 refine ACall.intro h1 fun ι E w vals r hv=>(h2 ι E w vals r hv).mono ?_
 rintro e w' ⟨v,rr,hs',ι',E',he,hq,hr,hrel,hx⟩
 obtain⟨y,hs2,ι2,E2,k1,k2,k3,k4⟩:=finQ_sound hr (ι0:=ι) (fun id hid=>r.fresh id hid) hx.ex hrel hq
 exact⟨v,y,hs2,ι2,E2,he,k1,k2,k3,k4⟩
/-! ### Unions of ranges out of a list -/
section
variable {I:List (Int×Rg)}
end
theorem enTop3f(raw:List Int)(pos:Nat)(hp:pos<=raw.length)(hr:raw.length<=9223372036854775807){K:KT}
  (hK:∀(t:Tp) (pos':Nat),GTop t->t.devs.length<=3->pos'<=raw.length->K (encT t) [tapeO raw pos']):
  ACall Tryz.prog 10 [.op 0 0,.v (.int .i64 3)] [tapeO raw pos] K:=by
 refine ACall_fin (cnTop raw pos 3 zd hp hr fun t p h1 h2 h3=>?_)
 (repeat' ((conv=>whnf);first|(with_reducible refine sl_full (List.length_map ..) ?_)|refine zG ?_|apply zA|(apply zI;intro h)|exact zT));(all_goals conv=>whnf)
 exact hK t p h1 zo h3
theorem enInt3(raw:List Int)(pos:Nat)(t:Tp)(hg:GTop t)(hp:pos<=raw.length)(hr:raw.length<=9223372036854775807){K:KT}
  (hK:∀(i:Nt) (pos':Nat),ENt i->pos'<=raw.length->K (encNt i) [tapeO raw pos']):
  ACall Tryz.prog 11 [.op 0 0,encT t,.v (.int .i64 3)] [tapeO raw pos] K:=enInt raw pos t hg.e5 (by have:=hg.d6;omega) (tpn_top hg) 3 zd hp hr hK
theorem bindE_set{α:Type}{x:α×Int}{k:α->List Bx×Int}(h:setB (k x.1).1=true):setB (bindE x k).1=true:=by
 unfold bindE
 split
 ·exact setB_nil
 ·exact h
theorem stmP_set(t:Tp)(i:Nt)(s:Sm):setB (stmP t i s).1=true:=by
 unfold stmP
 refine bindE_set (bindE_set (bindE_set (bindE_set (bindE_set (bindE_set ?_)))))
 split
 ·exact setB_combP ..
 ·exact bindE_set (setB_combP ..)
theorem eySpT(raw:List Int)(pos:Nat)(t:Tp)(ht:t.devs.length<100/\t.links.length<100/\t.edges.length<100/\t.pools.length<100)(hp:pos<=raw.length)(hr:raw.length<=9223372036854775807){K:KT}
  (hK:∀(u:Tp) (pos':Nat),u.devs.length<=101/\u.edges.length<=101->pos'<=raw.length->K (encT u) [tapeO raw pos']):ACall Tryz.prog 58 [.op 0 0,encT t] [tapeO raw pos] K:=by
 obtain⟨l1,l2,l3,l4⟩:=ht
 have hE:∀(D L E P:List AV) (tol:Int) (p':Nat),(∀y,y∈D->∃a:Dv,y=encD a)->(∀y,y∈L->∃a:Lk,y=encL a)->(∀y,y∈E->∃a:Ed,y=encE a)->(∀y,y∈P->∃a:Pf,y=encP a)->D.length<=101->E.length<=101->p'<=raw.length->K (.agg [.lst D,.lst L,.lst E,.lst P,.v (.int .i64 tol)]) [tapeO raw p']:=fun D L E P tol p' h1 h2 h3 h4 h5 h6 hp'=>by
  obtain⟨D,rfl⟩:=list_enc encD h1
  obtain⟨L,rfl⟩:=list_enc encL h2
  obtain⟨E,rfl⟩:=list_enc encE h3
  obtain⟨P,rfl⟩:=list_enc encP h4
  simp only[List.length_map]at h5 h6
  exact hK ⟨D,L,E,P,tol⟩ p' ⟨h5,h6⟩ hp'
 refine ofnSpT rfl rfl ?_
 (repeat' ((conv=>whnf);first|(with_reducible first|refine cnCopy t zo ?_|refine nNext raw _ _ zo zp hr fun m1 p1 hm1 hp1=>?_|refine in_nat zo ?_|refine cnSpP raw _ r.pf zp hr fun q p2 hp2=>?_|refine cnPref raw _ zp hr fun q p2 hp2=>?_|refine ix_strs [⟨#[114,49]⟩,⟨#[97,110,121]⟩,⟨#[82]⟩,⟨#[122,122]⟩] 4 rfl rfl zo fun s hs=>?_|refine ix_strs [⟨#[97,110,121]⟩,⟨#[105,112,115]⟩,⟨#[90]⟩,⟨#[97,32,98]⟩] 4 rfl rfl zo fun s hs=>?_|refine ix_strs [⟨#[]⟩,⟨#[97,110,121]⟩,⟨#[100,109,122]⟩] 3 rfl rfl zo fun s hs=>?_|refine ix_ints [0,1001,-1,7] 4 rfl rfl zo fun c hc=>?_|refine ix_ints [3,-1,2] 3 rfl rfl zo fun c hc=>?_|refine ix_ints [4097,-1,7] 3 rfl rfl zo fun c hc=>?_|refine In.intro 0 rfl zo ?_|refine In.intro (t.edges.length-1) zo zo ?_|refine ix_any zo fun r hx=>?_|refine ix_set (by rw[List.length_map];omega) ?_|refine Sb.intro 1 t.devs.length rfl rfl zo zo ?_|refine Sb.intro 1 t.edges.length rfl rfl zo zo ?_|refine sl_map zo ?_)|refine zG ?_|apply zA|(apply zI;intro h)|exact zT));(all_goals conv=>whnf)
 all_goals
  refine hE _ _ _ _ _ _ ?_ ?_ ?_ ?_ ?_ ?_ zp<;>(repeat' first|exact all_map _|refine all_app ?_ ?_|refine all_set ?_ ?_|refine all_drop ?_|refine all_take ?_)<;>
   first|exact eD _ _ _ _ _|exact eL _ _ _|exact eE _ _ _ _ _|exact eP _|(simp only[List.length_append,List.length_map,List.length_cons,List.length_nil,List.length_set,List.length_drop,List.length_take];omega)
theorem grpV_len(t:Tp){i:Nt}(hb:Bnd i)(nm:ByteArray):(grpV t i nm).1.length<1000000:=by
 unfold grpV
 split
 ·rename_i h
  have:=grpP_len h.1 hb nm
  omega
 ·decide
theorem set_len{l:List Bx}(h:setB l=true):l.length<1000000000000:=by
 unfold setB at h
 simp only[Bool.and_eq_true,decide_eq_true_eq]at h
 omega
theorem svcV_len(i:Nt)(nm:ByteArray):(svcV i nm).1.length<1000000000000:=by
 unfold svcV
 split
 ·exact set_len (svcP_set _ _)
 ·decide
theorem stmV_len(t:Tp)(i:Nt)(n:Int):(stmV t i n).1.length<1000000000000:=by
 unfold stmV
 split
 ·split
  ·decide
  ·split
   ·exact set_len (stmP_set _ _ _)
   ·decide
 ·decide
theorem cRes(t:Tp)(ht:t.edges.length<1000000)(hd:t.devs.length<1000000)(i:Nt)(hb:Bnd i)(nm:ByteArray)(n:Int){K:KT}(hK:K (.sb true) []):
  ACall Tryz.prog 33 [encT t,encNt i,.v (.string nm),.v (.int .i64 n)] [] K:=by
 have g1:=fun {K} h=>@crGroup t ht i hb nm K h
 have g2:=fun {K} h=>@dkGrp t ht i hb nm K h
 have s1:=fun {K} h=>@crService i hb nm K h
 have s2:=fun {K} h=>@dkSvc i hb nm K h
 have t1:=fun {K} h=>@crStatement t ht i hb n K h
 have t2:=fun {K} h=>@dkStm t ht i hb n K h
 have c1:=fun {K} h=>@crCheck t ht hd i hb K h
 have c2:=fun {K} h=>@dkChk t ht hd i hb K h
 have lg:=grpV_len t hb nm
 have ls:=svcV_len i nm
 have lt:=stmV_len t i n
 refine ACall.bool (oflRes rfl rfl ?_)
 generalize grpV t i nm=G at*
 generalize svcV i nm=S at*
 generalize stmV t i n=T at*
 generalize chkV t i=C at*
 obtain⟨Gs,Ge⟩:=G
 obtain⟨Ss,Se⟩:=S
 obtain⟨Ts,Te⟩:=T
 simp only at g1 g2 s1 s2 t1 t2 lg ls lt
 have e1:∀{K:KT},K (.sb true) []->ACall Tryz.prog 62 [encRs Gs,encRs Gs] [] K:=fun h=>c22 Gs Gs lg lg (by rw[decide_eq_true rfl];exact h)
 have e2:∀{K:KT},K (.sb true) []->ACall Tryz.prog 63 [encXs Ss,encXs Ss] [] K:=fun h=>cr4Same Ss Ss ls ls (by rw[decide_eq_true rfl];exact h)
 have e3:∀{K:KT},K (.sb true) []->ACall Tryz.prog 63 [encXs Ts,encXs Ts] [] K:=fun h=>cr4Same Ts Ts lt lt (by rw[decide_eq_true rfl];exact h)
 (repeat' ((conv=>whnf);first|(with_reducible first|refine g1 ?_|refine g2 ?_|refine s1 ?_|refine s2 ?_|refine t1 ?_|refine t2 ?_|refine c1 ?_|refine c2 ?_|refine e1 ?_|refine e2 ?_|refine e3 ?_)|refine zG ?_|apply zA|(apply zI;intro h)|exact zT));(all_goals conv=>whnf)
 all_goals first
  |exact fin_t hK rfl
  |exact fin_s hK zx
  |(exfalso;simp_all;done)
  |trace_state
theorem top_100{t:Tp}(ht:GTop t):t.devs.length<100/\t.links.length<100/\t.edges.length<100/\t.pools.length<100:=by
 have h1:=ht.d6;have h2:=ht.l9;have h3:=ht.e5
 refine⟨by omega,by omega,by omega,?_⟩
 rcases ht.pools with h|h|h|h<;>rw[h]<;>decide
theorem cDraw17(raw:List Int)(pos:Nat)(hp:pos<=raw.length)(hr:raw.length<=9223372036854775807){K:KT}
  (hK:∀(t:Tp) (i:Nt) (pos':Nat),t.edges.length<=101->t.devs.length<=101->Spo 4 4 2 100 i->pos'<=raw.length->K (.tup [encT t,encNt i]) [tapeO raw pos']):
  ACall Tryz.prog 32 [.op 0 0] [tapeO raw pos] K:=by
 refine oflDraw rfl rfl ?_
 have hsp:∀(i:Nt) (pos:Nat),ENt i->pos<=raw.length->∀{K:KT},(∀(j:Nt) (pos':Nat),Spo 4 4 2 100 j->pos'<=raw.length->K (encNt j) [tapeO raw pos'])->ACall Tryz.prog 34 [.op 0 0,encNt i] [tapeO raw pos] K:=fun i pos hi hp K h=>
  eySpo raw pos hp hr i 3 3 1 99 (spo_ent hi) zd zd zd zd h
 (repeat' ((conv=>whnf);first|(refine enTop3f raw _ zw hr fun t p1 ht hd hp1=>?_)|(with_reducible first|refine enInt3 raw _ t ht zw hr fun i p2 hi hp2=>?_|refine nNext raw _ _ zx zw hr fun m p3 hm hp3=>?_|refine hsp i _ hi zw fun j p4 hj hp4=>?_|refine eySpT raw _ t (top_100 ht) zw hr fun u p5 hu hp5=>?_)|refine zG ?_|apply zA|(apply zI;intro h)|exact zT));(all_goals conv=>whnf)
 all_goals first
  |exact hK _ _ _ hu.2 hu.1 hj zw
  |exact hK _ _ _ hu.2 hu.1 (spo_up (spo_ent hi) zd zd zd zd) zw
  |exact hK _ _ _ (Nat.le_trans ht.e5 zd) (Nat.le_trans ht.d6 zd) hj zw
  |exact hK _ _ _ (Nat.le_trans ht.e5 zd) (Nat.le_trans ht.d6 zd) (spo_up (spo_ent hi) zd zd zd zd) zw
  |trace_state
theorem sumF_mem{α:Type}{f:α->Nat}:∀{l:List α} {d:α},d∈l->f d<=sumF f l
 |e::l,d,h=>by
  unfold sumF
  simp only[List.map_cons,List.sum_cons]
  rcases List.mem_cons.1 h with rfl|h
  ·omega
  ·have:=sumF_mem (f:=f) h
   unfold sumF at this
   omega
theorem bnd_huge{i:Nt}(h:hugeN i=false):Bnd i:=by
 unfold hugeN at h
 simp only[Bool.or_eq_false_iff,decide_eq_false_iff_not]at h
 obtain⟨⟨h1,h2⟩,h3⟩:=h
 have h0:sixN i=i.grps.length+i.svcs.length+i.wins.length+i.sts.length+i.pubs.length+i.hids.length:=rfl
 have a1:itsN i.grps=sumF (fun d=>d.items.length) i.grps:=rfl
 have a2:itsN i.svcs=sumF (fun d=>d.items.length) i.svcs:=rfl
 refine⟨by omega,by omega,by omega,by omega,by omega,by omega,fun d hd=>?_,fun d hd=>?_,fun d hd=>?_,by omega,by omega⟩
 ·have:=sumF_mem (f:=fun d:Df=>d.items.length) hd;(try simp only at this);omega
 ·have:=sumF_mem (f:=fun d:Df=>d.items.length) hd;(try simp only at this);omega
 ·have:=sumF_mem (f:=fun d:Wn=>d.act.length) hd;(try simp only at this);omega
theorem huge_le{t:Tp}(h:huge t=false):t.edges.length<=5/\t.devs.length<=6:=by
 unfold huge at h
 simp only[Bool.or_eq_false_iff,decide_eq_false_iff_not]at h
 omega
theorem cAgrees17(raw:List Int)(t:Tp)(i:Nt)(s:ByteArray)(n:Int)(hr:raw.length<=9223372036854775807)(hl:LenNt 140737488351232 i):ACall Tryz.prog 7 [.lst (raw.map encI),encT t,encNt i,.v (.string s),.v (.int .i64 n)] [] Yes:=by
 refine oflAgr17 rfl rfl ?_
 (repeat' ((conv=>whnf);first|(with_reducible refine c9 raw ?_)|refine zG ?_|apply zA|(apply zI;intro h)|exact zT));(all_goals conv=>whnf)
 refine Lp.intro (Nat×Nat) (fun g=>⟨3,[(0,boxT t),(1,boxNt i),(2,tapeO raw g.1)],[(3,.v (.string s)),(4,.v (.int .i64 n)),(6,.op 0 0),(7,.op 1 0),(11,.op 2 0),(12,.v (.int .i64 g.2))]⟩) (fun g=>g.1<=raw.length/\g.2<=4) (fun g=>4-g.2) (0,0) ⟨Nat.zero_le _,by decide⟩ ?_ ?_
 ·(exact leA)
 rintro⟨p,m⟩ ⟨hp,hm⟩
 simp only at hp hm⊢
 have hsp:∀(i:Nt) (pos:Nat),Spo 4 4 2 100 i->pos<=raw.length->∀{K:KT},(∀(j:Nt) (pos':Nat),Spo 5 5 3 101 j->pos'<=raw.length->K (encNt j) [tapeO raw pos'])->ACall Tryz.prog 34 [.op 0 0,encNt i] [tapeO raw pos] K:=fun i pos hi hp K h=>
  eySpo raw pos hp hr i 4 4 2 100 hi zd zd zd zd h
 rcases Nat.lt_or_ge m 4 with hm4|hm4
 ·(repeat' ((conv=>whnf);first|(with_reducible refine cDraw17 raw _ zw hr fun y j p1 hye hyd hj hp1=>?_)|refine zG ?_|apply zA|(apply zI;intro h)|exact zT));(all_goals conv=>whnf)
  all_goals
   have hbj:=spo_bnd hj zd zd zd zd
   have hjt:=hj.t
  all_goals(repeat' ((conv=>whnf);first|(with_reducible first|refine eyNms raw _ zw hr fun nm p2 hp2=>?_|refine nNext raw _ _ (by(try simp only[List.length_map]);omega) zw hr fun k p3 hk hp3=>?_|refine hsp j _ hj zw fun j' p4 hj' hp4=>?_|refine cRes y zo zo j hbj _ _ ?_)|(refine cRes y zo zo _ (spo_bnd zw zd zd zd zd) _ _ ?_)|(with_reducible refine wr_i64 rfl (by(try simp only[List.length_map]at*);omega) (by(try simp only[List.length_map]at*);omega) ?_)|refine zG ?_|apply zA|(apply zI;intro h)|exact zT));(all_goals conv=>whnf)
  all_goals first
   |(refine⟨(_,m+1),⟨by with_reducible assumption,by simp only;omega⟩,by simp only;omega,?_⟩
     simp only[Int.natCast_add,Int.natCast_one]
     (exact leA))
   |trace_state
 ·have hm5:m=4:=by omega
  subst hm5
  (repeat' ((conv=>whnf);first|(with_reducible first|refine cnHuge t ?_|refine cHugN i hl ?_)|(refine cRes t (by have:=huge_le zw;omega) (by have:=huge_le zw;omega) i (bnd_huge zw) s n ?_)|(with_reducible refine cwSane ?_)|refine zG ?_|apply zA|(apply zI;intro h)|exact zT));(all_goals conv=>whnf)
  all_goals first
   |exact .inl rfl
   |exact .inr rfl
   |trace_state
open Go Go.Vm Go.ChangeShapes Go.WideShapes Go.ChangeAt Go.RowKit
theorem tys5L{P:Program}{L d:Nat}{t0 t1 t2 t3 t4:TypeId}:∀{xs:List AV},TysL P L d [t0,t1,t2,t3,t4] xs->∃a0 a1 a2 a3 a4,xs=[a0,a1,a2,a3,a4]/\TyL P L d t0 a0/\TyL P L d t1 a1/\TyL P L d t2 a2/\TyL P L d t3 a3/\TyL P L d t4 a4
 |[a0,a1,a2,a3,a4],⟨h0,h1,h2,h3,h4,_⟩=>⟨a0,a1,a2,a3,a4,rfl,h0,h1,h2,h3,h4⟩
theorem resolveAgrees_lifted(os:Os)(started:os.Started)(H:Type)(enc:TypeId×Value->H):
  ReturnsInHanded {} Tryz.checked os 7 .any (fun w args=>(Rows.resolveAgreesSpec.pre enc Tryz.prog Tryz.f7 [] false w args/\laidMetH Tryz.prog laid3 w)/\sizedMet enc Tryz.prog Tryz.f7 (OpenSpec.ofChange Rows.resolveAgreesSpec) false w args)
   (Rows.resolveAgreesSpec.post enc Tryz.prog Tryz.f7 false true false false):=by
 refine returnsInHanded_of_change_and (C:=Tryz.checked) (X:=fun w _=>laidMetH Tryz.prog laid3 w) (fun _ _ _ hh h=>h.of_heap hh) ownNone started zk Tryz.func7
  (ChangeSpec.witness_shaped (enc:=enc) (C:=Tryz.checked) (os:=os) (X:=fun w _=>laidMetH Tryz.prog laid3 w) false (World.doorLaid Tryz.prog 400 os) #[.slice none 0 0,.agg #[.slice none 0 0,.slice none 0 0,.slice none 0 0,.slice none 0 0,.int .i64 0],.agg #[.slice none 0 0,.slice none 0 0,.slice none 0 0,.slice none 0 0,.slice none 0 0,.slice none 0 0],.string ⟨#[]⟩,.int .i64 0] 8 rfl (World.shaped_of_RefB zk zk) zk zk zk (door_met os _)) ?_
 intro W base args ds gs before hval0 hW _ hwt hL _
 have hval:∀(j:Nat) t v,Tryz.f7.params[j]? =some t->args[j]? =some v->Value.okWide Tryz.prog W .any base t v:=hval0
 refine law_contractL 140737488351232 (P:=Tryz.prog) (t:=4) (d:=8) laidOut zk zk rfl rfl zk (fun ds hds=>?_) (fun xs hxs=>?_) (glob_of hL) hval hW hwt
 ·have hds:ds.length=5:=hds.trans (show Tryz.f7.params.size=5 by kernel_rfl)
  match ds,hds with
  |[d0,d1,d2,d3,d4],_=>rfl
 ·have hxs:TysL Tryz.prog 140737488351232 8 [22,31,39,9,3] xs:=Eq.mp (congrArg (fun l=>TysL Tryz.prog 140737488351232 8 l xs) (show Tryz.f7.params.toList=[22,31,39,9,3] by kernel_rfl)) hxs
  obtain⟨a0,a1,a2,a3,a4,rfl,h0,h1,h2,h3,h4⟩:=tys5L hxs
  obtain⟨raw0,rfl,hr0⟩:=ty_is (d:=6) h0.ty
  obtain⟨t1,rfl⟩:=ty_tp (d:=3) h1.ty
  obtain⟨i2,rfl,l2⟩:=tzL_nt (d:=1) h2
  obtain⟨s3,rfl⟩:=tz_str (d:=7) h3.ty
  obtain⟨n4,rfl,m4⟩:=tz_int (d:=7) h4.ty
  exact cAgrees17 raw0 t1 i2 s3 n4 hr0 l2
theorem resolveAgrees_closed:joinedFacts Tryz.pinned.checked.prog 7 Tryz.f7 Rows.resolveAgreesSpec Rows.resolveAgreesRow=true:=by kernel_rfl
theorem resolveAgrees_row:Rows.ResolveAgreesSaid:=
 OpenClaim.holds_of_wide 7 Tryz.f7 rfl rfl rfl rfl rfl rfl rfl ⟨rfl,rfl,rfl,rfl,rfl⟩ rfl rfl rfl rfl rfl zk Tryz.func7 resolveAgrees_closed
  (of_decide_eq_true zk) (by unfold Func.isWrapper;first|(rw[if_pos (by decide+kernel)];kernel_rfl)|(rw[if_neg (by decide+kernel)];exact⟨rfl,rfl⟩))
  (fun os started H enc _=>resolveAgrees_lifted os started H enc)
theorem resolveAgrees_holds:Rows.ResolveAgreesCardSaid:=
 Claim7.holds_tied_plain_at .later [] [.data,.widerDeep] true Rows.resolveAgreesCard.stood.harness false
  resolveAgrees_row (fun _ h=>by cases h) zk (fun _ h=>by cases h) resolveAgrees_row_tie rfl ⟨rfl,rfl⟩ zk rfl
  (fun f fn hf hfn=>by
   obtain rfl:f=7:=Option.some.inj ((show Tryz.prog.funcNamed "netsegment/nsglaw17.ResolveAgrees"=some 7 by kernel_rfl).symm.trans hf)|>.symm
   obtain rfl:fn=Tryz.f7:=(Option.some.inj (Tryz.func7.symm.trans hfn)).symm
   exact⟨by kernel_rfl,fun j t ht=>wants_none (ts:=Tryz.f7.params.toList) zk (List.mem_of_getElem? (by rw[Array.getElem?_toList];exact ht))⟩)
  zk
#print axioms resolveAgrees_holds
end Go.Proofs.YtahhamfngafmcaaGreatDoor
