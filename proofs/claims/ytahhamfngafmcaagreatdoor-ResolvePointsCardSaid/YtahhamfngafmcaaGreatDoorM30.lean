/- Services contain initial headers only, and do not depend on addresses: the statement ResolveServicesCardSaid holds, for every input, without a condition of ours (its card ties the package-level variables to the program's text). -/
import Derived.Test.YtahhamfngafmcaaGreatDoorM29
set_option linter.unusedVariables false
set_option linter.unusedSimpArgs false
set_option maxRecDepth 100000
set_option maxHeartbeats 4000000
namespace Go.Proofs.YtahhamfngafmcaaGreatDoor
open Go Go.Vm
noncomputable abbrev boxSm(s:Sm):Vm.Obj:=.box [.sb s.permit,.v (.string s.frm),.v (.string s.to),.v (.string s.svc),.sb s.exc,.v (.string s.exF),.v (.string s.exT),.v (.string s.cls),.v (.string s.dur),.v (.int .i64 s.pri)]
noncomputable abbrev clSm(s:Sm):List AV:=[.sb s.permit,.v (.string s.frm),.v (.string s.to),.v (.string s.svc),.sb s.exc,.v (.string s.exF),.v (.string s.exT),.v (.string s.cls),.v (.string s.dur),.v (.int .i64 s.pri)]
theorem crNam1(d:Dv)(s:Sm){K:KT}(hK:K (.sb (sEq d.cls s.cls)) []):ACall Tryz.prog 148 [encD d,.fp (clSm s)] [] K:=by
 refine ofrNam1 rfl rfl ?_
 (repeat' ((conv=>whnf);first|refine zG ?_|apply zA|(apply zI;intro h)|exact zT));(all_goals conv=>whnf)
 exact hK
theorem crNam2(d:Wn)(s:Sm){K:KT}(hK:K (.sb (sEq d.name s.dur)) []):ACall Tryz.prog 150 [encWn d,.fp (clSm s)] [] K:=by
 refine ofrNam2 rfl rfl ?_
 (repeat' ((conv=>whnf);first|refine zG ?_|apply zA|(apply zI;intro h)|exact zT));(all_goals conv=>whnf)
 exact hK
theorem crAnD(l:List Dv)(s:Sm)(hl:l.length<1000000){K:KT}(hK:K (.sb (l.any fun d=>sEq d.cls s.cls)) []):
  ACall Tryz.prog 147 [.lst (l.map encD),.fn (.func 148) [] [.fp (clSm s)]] [] K:=by
 have hc:∀{K:KT},K (.v (.int .i64 (firstIx (fun d:Dv=>sEq d.cls s.cls) l))) []->ACall Tryz.prog 175 [.lst (l.map encD),.fn (.func 148) [] [.fp (clSm s)]] [] K:=fun h=>cixDev l _ _ (fun d=>sEq d.cls s.cls) (fun x K h=>crNam1 x s h) hl h
 refine ofrAnD rfl rfl ?_
 (repeat' ((conv=>whnf);first|(with_reducible refine hc ?_)|refine zG ?_|apply zA|(apply zI;intro h)|exact zT));(all_goals conv=>whnf)
 rw[<-first_any]at hK
 exact hK
theorem crAnW(l:List Wn)(s:Sm)(hl:l.length<1000000){K:KT}(hK:K (.sb (l.any fun d=>sEq d.name s.dur)) []):
  ACall Tryz.prog 149 [.lst (l.map encWn),.fn (.func 150) [] [.fp (clSm s)]] [] K:=by
 have hc:∀{K:KT},K (.v (.int .i64 (firstIx (fun d:Wn=>sEq d.name s.dur) l))) []->ACall Tryz.prog 137 [.lst (l.map encWn),.fn (.func 150) [] [.fp (clSm s)]] [] K:=fun h=>cixW l _ _ (fun d=>sEq d.name s.dur) (fun x K h=>crNam2 x s h) hl h
 refine ofrAnW rfl rfl ?_
 (repeat' ((conv=>whnf);first|(with_reducible refine hc ?_)|refine zG ?_|apply zA|(apply zI;intro h)|exact zT));(all_goals conv=>whnf)
 rw[<-first_any]at hK
 exact hK
theorem crNames(t:Tp)(ht:t.devs.length<1000000)(i:Nt)(hb:Bnd i)(s:Sm){K:KT}(hK:K (.v (.int .i64 (namE t i s))) []):ACall Tryz.prog 89 [encT t,encNt i,encSm s] [] K:=by
 have bw:=hb.w
 refine ofrNames rfl rfl ?_
 (repeat' ((conv=>whnf);first|(with_reducible first|refine crAnD t.devs s ht ?_|refine crAnW i.wins s (by omega) ?_)|refine zG ?_|apply zA|(apply zI;intro h)|exact zT));(all_goals conv=>whnf)
 all_goals
  have e:∀b:ByteArray,sEq b ⟨#[]⟩=(b.toList==(⟨#[]⟩:ByteArray).toList):=fun _=>rfl
  unfold namE at hK
  rw[e,e]at hK
  simp_all
 all_goals first
  |exact hK
  |trace_state
theorem fstE_cons{α:Type}(f:α->Int)(x:α)(l:List α):fstE f (x::l)=if f x≠0 then f x else fstE f l:=rfl
noncomputable def chkV(t:Tp)(i:Nt):Int:=if compB t=true/\ntB i=true then chkP t i else 1
theorem chkP_eq(t:Tp)(i:Nt):chkP t i=
  if fstE (fun d:Df=>(grpP t i d.name).2) i.grps≠0 then fstE (fun d:Df=>(grpP t i d.name).2) i.grps else
  if fstE (fun d:Df=>(svcP i d.name).2) i.svcs≠0 then fstE (fun d:Df=>(svcP i d.name).2) i.svcs else
  if fstE (fun s:Sm=>if(stmP t i s).2≠0 then(stmP t i s).2 else namE t i s) i.sts≠0 then fstE (fun s:Sm=>if(stmP t i s).2≠0 then(stmP t i s).2 else namE t i s) i.sts else
  if fstE (fun p:Pb=>if edgeIx t.edges p.edge<0 then 5 else 0) i.pubs≠0 then fstE (fun p:Pb=>if edgeIx t.edges p.edge<0 then 5 else 0) i.pubs else
  fstE (fun h:Hn=>if edgeIx t.edges h.edge<0 then 5 else(grpP t i h.grp).2) i.hids:=rfl
theorem crCheck(t:Tp)(ht:t.edges.length<1000000)(hd:t.devs.length<1000000)(i:Nt)(hb:Bnd i){K:KT}(hK:K (.v (.int .i64 (chkV t i))) []):ACall Tryz.prog 47 [encT t,encNt i] [] K:=by
 have bg:=hb.g;have bs:=hb.s;have bt:=hb.t;have bp:=hb.p;have bh:=hb.h
 refine ofrCheck rfl rfl ?_
 unfold chkV at hK
 by_cases hc:compB t=true
 rotate_left
 ·have hcf:compB t=false:=by simpa using hc
  rw[if_neg (fun hh=>hc hh.1)]at hK
  (repeat' ((conv=>whnf);first|(with_reducible refine ctComp t ht ?_)|refine zG ?_|apply zA|(apply zI;intro h)|exact zT));(all_goals conv=>whnf)
  exact hK
 by_cases hn:ntB i=true
 rotate_left
 ·have hnf:ntB i=false:=by simpa using hn
  rw[if_neg (fun hh=>hn hh.2)]at hK
  (repeat' ((conv=>whnf);first|(with_reducible first|refine ctComp t ht ?_|refine ckNt i hb ?_)|refine zG ?_|apply zA|(apply zI;intro h)|exact zT));(all_goals conv=>whnf)
  exact hK
 rw[if_pos ⟨hc,hn⟩,chkP_eq]at hK
 have hg:=fun(nm:ByteArray) {K:KT} h=>@crGrp t hc i hb nm K h
 have hs:=fun(nm:ByteArray) {K:KT} h=>@crSvc i hb nm K h
 have hm:=fun(s:Sm) {K:KT} h=>@crStm t hc i hb s K h
 (repeat' ((conv=>whnf);first|(with_reducible first|refine ctComp t ht ?_|refine ckNt i hb ?_)|refine zG ?_|apply zA|(apply zI;intro h)|exact zT));(all_goals conv=>whnf)
 refine Lp.intro Nat (fun n=>⟨2,[(0,boxT t),(1,boxNt i)],[(2,.op 0 0),(3,.op 1 0),(33,.lst (i.grps.map encDf)),(34,.v (.int .i64 (i.grps.map encDf).length)),(35,.v (.int .i64 n))]⟩) (fun n=>n<=i.grps.length/\fstE (fun d:Df=>(grpP t i d.name).2) i.grps=fstE (fun d:Df=>(grpP t i d.name).2) (i.grps.drop n)) (fun n=>i.grps.length-n) 0 ⟨Nat.zero_le _,by rw[List.drop_zero]⟩ ?_ ?_
 ·(exact leA)
 intro n ⟨hn1,heq⟩
 rcases Nat.lt_or_ge n i.grps.length with hnl|hnl
 ·obtain⟨x,hx⟩:=gex hnl
  have hdr:i.grps.drop n=x::i.grps.drop (n+1):=by
   rw[List.getElem?_eq_getElem hnl]at hx
   rw[<-Option.some.inj hx,<-List.drop_eq_getElem_cons hnl]
  rw[hdr,fstE_cons]at heq
  have hgx:=fun {K} h=>@hg x.name K h
  generalize grpP t i x.name=G at*
  obtain⟨Gs,Ge⟩:=G
  simp only at heq hgx
  (repeat' ((conv=>whnf);first|(with_reducible first|refine in_map hnl ?_|refine ix_map hx ?_|refine hgx ?_)|refine zG ?_|apply zA|(apply zI;intro h)|exact zT));(all_goals conv=>whnf)
  all_goals first
   |(rw[if_neg (fun hh=>hh h)]at heq
     refine⟨n+1,⟨hnl,heq⟩,by omega,?_⟩
     rw[Int.natCast_add,Int.natCast_one]
     (exact leA)
     done)
   |(rw[if_pos h]at heq
     rw[heq,if_pos h]at hK
     exact hK)
   |trace_state
 rw[List.drop_of_length_le hnl]at heq
 have e0:fstE (fun d:Df=>(grpP t i d.name).2) i.grps=0:=heq
 clear heq
 (repeat' ((conv=>whnf);first|refine zG ?_|apply zA|(apply zI;intro h)|exact zT));(all_goals conv=>whnf)
 refine Lp.intro Nat (fun n=>⟨2,[(0,boxT t),(1,boxNt i)],[(2,.op 0 0),(3,.op 1 0),(52,.lst (i.svcs.map encDf)),(53,.v (.int .i64 (i.svcs.map encDf).length)),(54,.v (.int .i64 n))]⟩) (fun n=>n<=i.svcs.length/\fstE (fun d:Df=>(svcP i d.name).2) i.svcs=fstE (fun d:Df=>(svcP i d.name).2) (i.svcs.drop n)) (fun n=>i.svcs.length-n) 0 ⟨Nat.zero_le _,by rw[List.drop_zero]⟩ ?_ ?_
 ·(exact leA)
 intro n ⟨hn1,heq⟩
 rcases Nat.lt_or_ge n i.svcs.length with hnl|hnl
 ·obtain⟨x,hx⟩:=gex hnl
  have hdr:i.svcs.drop n=x::i.svcs.drop (n+1):=by
   rw[List.getElem?_eq_getElem hnl]at hx
   rw[<-Option.some.inj hx,<-List.drop_eq_getElem_cons hnl]
  rw[hdr,fstE_cons]at heq
  have hsx:=fun {K} h=>@hs x.name K h
  generalize svcP i x.name=G at*
  obtain⟨Gs,Ge⟩:=G
  simp only at heq hsx
  (repeat' ((conv=>whnf);first|(with_reducible first|refine in_map hnl ?_|refine ix_map hx ?_|refine hsx ?_)|refine zG ?_|apply zA|(apply zI;intro h)|exact zT));(all_goals conv=>whnf)
  all_goals first
   |(rw[if_neg (fun hh=>hh h)]at heq
     refine⟨n+1,⟨hnl,heq⟩,by omega,?_⟩
     rw[Int.natCast_add,Int.natCast_one]
     (exact leA)
     done)
   |(rw[if_pos h]at heq
     rw[if_neg (fun hh=>hh e0)]at hK
     rw[heq,if_pos h]at hK
     exact hK)
   |trace_state
 rw[List.drop_of_length_le hnl]at heq
 have e1:fstE (fun d:Df=>(svcP i d.name).2) i.svcs=0:=heq
 clear heq
 (repeat' ((conv=>whnf);first|refine zG ?_|apply zA|(apply zI;intro h)|exact zT));(all_goals conv=>whnf)
 refine Lp.intro Nat (fun n=>⟨2,[(0,boxT t),(1,boxNt i)],[(2,.op 0 0),(3,.op 1 0),(70,.lst (i.sts.map encSm)),(71,.v (.int .i64 (i.sts.map encSm).length)),(72,.v (.int .i64 n))]⟩) (fun n=>n<=i.sts.length/\fstE (fun s:Sm=>if(stmP t i s).2≠0 then(stmP t i s).2 else namE t i s) i.sts=fstE (fun s:Sm=>if(stmP t i s).2≠0 then(stmP t i s).2 else namE t i s) (i.sts.drop n)) (fun n=>i.sts.length-n) 0 ⟨Nat.zero_le _,by rw[List.drop_zero]⟩ ?_ ?_
 ·(exact leA)
 intro n ⟨hn1,heq⟩
 rcases Nat.lt_or_ge n i.sts.length with hnl|hnl
 ·obtain⟨x,hx⟩:=gex hnl
  have hdr:i.sts.drop n=x::i.sts.drop (n+1):=by
   rw[List.getElem?_eq_getElem hnl]at hx
   rw[<-Option.some.inj hx,<-List.drop_eq_getElem_cons hnl]
  rw[hdr,fstE_cons]at heq
  have hmx:=fun {K} h=>@hm x K h
  generalize stmP t i x=G at*
  obtain⟨Gs,Ge⟩:=G
  simp only at heq hmx
  (repeat' ((conv=>whnf);first|(with_reducible first|refine in_map hnl ?_|refine ix_map hx ?_|refine hmx ?_|refine crNames t hd i hb x ?_)|refine zG ?_|apply zA|(apply zI;intro h)|exact zT));(all_goals conv=>whnf)
  all_goals first
   |(rename_i hz
     rw[if_neg (show ¬(Ge≠0)from fun hh=>hh hz),if_neg (fun hh=>hh h)]at heq
     refine⟨n+1,⟨hnl,heq⟩,by omega,?_⟩
     rw[Int.natCast_add,Int.natCast_one]
     (exact leA)
     done)
   |(rw[if_pos h,if_pos h]at heq
     rw[if_neg (fun hh=>hh e0),if_neg (fun hh=>hh e1)]at hK
     rw[heq,if_pos h]at hK
     exact hK)
   |(rename_i hz
     rw[if_neg (show ¬(Ge≠0)from fun hh=>hh hz),if_pos h]at heq
     rw[if_neg (fun hh=>hh e0),if_neg (fun hh=>hh e1)]at hK
     rw[heq,if_pos h]at hK
     exact hK)
   |trace_state
 rw[List.drop_of_length_le hnl]at heq
 have e2:fstE (fun s:Sm=>if(stmP t i s).2≠0 then(stmP t i s).2 else namE t i s) i.sts=0:=heq
 clear heq
 (repeat' ((conv=>whnf);first|refine zG ?_|apply zA|(apply zI;intro h)|exact zT));(all_goals conv=>whnf)
 refine Lp.intro Nat (fun n=>⟨2,[(0,boxT t),(1,boxNt i)],[(2,.op 0 0),(3,.op 1 0),(95,.lst (i.pubs.map encPb)),(96,.v (.int .i64 (i.pubs.map encPb).length)),(97,.v (.int .i64 n))]⟩) (fun n=>n<=i.pubs.length/\fstE (fun p:Pb=>if edgeIx t.edges p.edge<0 then 5 else 0) i.pubs=fstE (fun p:Pb=>if edgeIx t.edges p.edge<0 then 5 else 0) (i.pubs.drop n)) (fun n=>i.pubs.length-n) 0 ⟨Nat.zero_le _,by rw[List.drop_zero]⟩ ?_ ?_
 ·(exact leA)
 intro n ⟨hn1,heq⟩
 rcases Nat.lt_or_ge n i.pubs.length with hnl|hnl
 ·obtain⟨x,hx⟩:=gex hnl
  have hdr:i.pubs.drop n=x::i.pubs.drop (n+1):=by
   rw[List.getElem?_eq_getElem hnl]at hx
   rw[<-Option.some.inj hx,<-List.drop_eq_getElem_cons hnl]
  rw[hdr,fstE_cons]at heq
  (repeat' ((conv=>whnf);first|(with_reducible first|refine in_map hnl ?_|refine ix_map hx ?_|refine ctEdge t _ ht ?_)|refine zG ?_|apply zA|(apply zI;intro h)|exact zT));(all_goals conv=>whnf)
  all_goals first
   |(rw[if_neg h,if_neg (by decide)]at heq
     refine⟨n+1,⟨hnl,heq⟩,by omega,?_⟩
     rw[Int.natCast_add,Int.natCast_one]
     (exact leA)
     done)
   |(rw[if_pos h,if_pos (by decide)]at heq
     rw[if_neg (fun hh=>hh e0),if_neg (fun hh=>hh e1),if_neg (fun hh=>hh e2)]at hK
     rw[heq,if_pos (by decide)]at hK
     exact hK)
   |trace_state
 rw[List.drop_of_length_le hnl]at heq
 have e3:fstE (fun p:Pb=>if edgeIx t.edges p.edge<0 then 5 else 0) i.pubs=0:=heq
 clear heq
 (repeat' ((conv=>whnf);first|refine zG ?_|apply zA|(apply zI;intro h)|exact zT));(all_goals conv=>whnf)
 refine Lp.intro Nat (fun n=>⟨2,[(0,boxT t),(1,boxNt i)],[(2,.op 0 0),(3,.op 1 0),(108,.lst (i.hids.map encHn)),(109,.v (.int .i64 (i.hids.map encHn).length)),(110,.v (.int .i64 n))]⟩) (fun n=>n<=i.hids.length/\fstE (fun h:Hn=>if edgeIx t.edges h.edge<0 then 5 else(grpP t i h.grp).2) i.hids=fstE (fun h:Hn=>if edgeIx t.edges h.edge<0 then 5 else(grpP t i h.grp).2) (i.hids.drop n)) (fun n=>i.hids.length-n) 0 ⟨Nat.zero_le _,by rw[List.drop_zero]⟩ ?_ ?_
 ·(exact leA)
 intro n ⟨hn1,heq⟩
 rcases Nat.lt_or_ge n i.hids.length with hnl|hnl
 ·obtain⟨x,hx⟩:=gex hnl
  have hdr:i.hids.drop n=x::i.hids.drop (n+1):=by
   rw[List.getElem?_eq_getElem hnl]at hx
   rw[<-Option.some.inj hx,<-List.drop_eq_getElem_cons hnl]
  rw[hdr,fstE_cons]at heq
  have hgx:=fun {K} h=>@hg x.grp K h
  generalize grpP t i x.grp=G at*
  obtain⟨Gs,Ge⟩:=G
  simp only at heq hgx
  (repeat' ((conv=>whnf);first|(with_reducible first|refine in_map hnl ?_|refine ix_map hx ?_|refine ctEdge t _ ht ?_|refine hgx ?_)|refine zG ?_|apply zA|(apply zI;intro h)|exact zT));(all_goals conv=>whnf)
  all_goals first
   |(rename_i hz
     rw[if_neg hz,if_neg (fun hh=>hh h)]at heq
     refine⟨n+1,⟨hnl,heq⟩,by omega,?_⟩
     rw[Int.natCast_add,Int.natCast_one]
     (exact leA)
     done)
   |(rw[if_pos h,if_pos (by decide)]at heq
     rw[if_neg (fun hh=>hh e0),if_neg (fun hh=>hh e1),if_neg (fun hh=>hh e2),if_neg (fun hh=>hh e3)]at hK
     rw[heq]at hK
     exact hK)
   |(rename_i hz
     rw[if_neg hz,if_pos h]at heq
     rw[if_neg (fun hh=>hh e0),if_neg (fun hh=>hh e1),if_neg (fun hh=>hh e2),if_neg (fun hh=>hh e3)]at hK
     rw[heq]at hK
     exact hK)
   |trace_state
 rw[List.drop_of_length_le hnl]at heq
 have e4:fstE (fun h:Hn=>if edgeIx t.edges h.edge<0 then 5 else(grpP t i h.grp).2) i.hids=0:=heq
 clear heq
 rw[if_neg (fun hh=>hh e0),if_neg (fun hh=>hh e1),if_neg (fun hh=>hh e2),if_neg (fun hh=>hh e3),e4]at hK
 (repeat' ((conv=>whnf);first|refine zG ?_|apply zA|(apply zI;intro h)|exact zT));(all_goals conv=>whnf)
 exact hK
theorem cwSub0{K:KT}(hK:K (encP pf0) []):ACall Tryz.prog 31 [.v (.int .i64 0)] [] K:=cnSub 0 (by decide) hK
theorem cwSub4{K:KT}(hK:K (encP pf4) []):ACall Tryz.prog 31 [.v (.int .i64 4)] [] K:=cnSub 4 (by decide) hK
theorem cwNet{K:KT}(hK:K (encT netR) []):ACall Tryz.prog 30 [] [] K:=by
 refine ACall.weak (ofl17Net rfl rfl ?_)
 (repeat' ((conv=>whnf);first|(refine cwSub0 ?_)|(refine cwSub4 ?_)|refine zG ?_|apply zA|(apply zI;intro h)|exact zT));(all_goals conv=>whnf)
 exact⟨encT netR,Weak.agg (ys:=[_,.lst [],_,.lst [],_]) ⟨Weak.refl,Weak.nils,Weak.refl,Weak.nils,Weak.refl,trivial⟩,hK⟩
theorem bnd_def{g s:List Df}(h1:g.length<=4)(h2:s.length<=4)(h3:∀x,x∈g->x.items.length<=4)(h4:∀x,x∈s->x.items.length<=4):Bnd (defI g s):=by
 have sum:∀l:List Df,(∀x,x∈l->x.items.length<=4)->itsN l<=4*l.length:=by
  intro l
  induction l with
  |nil=>intro _;exact Nat.zero_le _
  |cons x l ih=>
   intro h
   have:=ih fun y hy=>h y (List.mem_cons_of_mem _ hy)
   have:=h x (by simp)
   unfold itsN at*
   simp only[List.map_cons,List.sum_cons,List.length_cons]
   omega
 have e1:=sum g h3
 have e2:=sum s h4
 exact⟨by show g.length<=999;omega,by show s.length<=999;omega,Nat.zero_le _,Nat.zero_le _,Nat.zero_le _,Nat.zero_le _,fun x hx=>by have:=h3 x hx;omega,fun x hx=>by have:=h4 x hx;omega,fun x hx=>by simp[defI]at hx,by show itsN g<=70;omega,by show itsN s<=70000;omega⟩
theorem netR_len:netR.edges.length<1000000:=by decide
theorem grp_netR{g s:List Df}(h:NtOk (defI g s))(hb:Bnd (defI g s))(nm:ByteArray){K:KT}(hK:K (.tup [encRs (grpP netR (defI g s) nm).1,.v (.int .i64 (grpP netR (defI g s) nm).2)]) []):ACall Tryz.prog 13 [encT netR,encNt (defI g s),.v (.string nm)] [] K:=
 crGroup netR netR_len (defI g s) hb nm (by rw[grpV,if_pos ⟨comp_netR,ntB_true h⟩];exact hK)
theorem svc_netR{g s:List Df}(h:NtOk (defI g s))(hb:Bnd (defI g s))(nm:ByteArray){K:KT}(hK:K (.tup [encXs (svcP (defI g s) nm).1,.v (.int .i64 (svcP (defI g s) nm).2)]) []):ACall Tryz.prog 24 [encNt (defI g s),.v (.string nm)] [] K:=
 crService (defI g s) hb nm (by rw[svcV,if_pos (ntB_true h)];exact hK)
theorem san_bnd:Bnd (defI sanG []):=bnd_def (by decide) (by decide) (fun x hx=>by
 simp only[sanG,List.mem_cons,List.not_mem_nil,or_false]at hx
 rcases hx with rfl|rfl|rfl<;>decide) (fun x hx=>by simp at hx)
theorem canO_one{r:Rg}(h:r.lo<=r.hi):canO (has [r])=[r]:=canO_eq ⟨fun s hs=>by rw[List.mem_singleton.1 hs];exact h,List.pairwise_singleton ..⟩ fun v=>rfl
theorem sanP_a:grpP netR (defI sanG []) (nmB 97)=([pf4.rg],0):=by
 have e:grpE netR (defI sanG []).grps (nmB 97)=(0,[pf4.rg]):=san_a
 rw[grpP,e,if_pos rfl,canO_one (by decide)]
theorem sanP_b:grpP netR (defI sanG []) (nmB 98)=([pf4.rg],0):=by
 have e:grpE netR (defI sanG []).grps (nmB 98)=(0,[pf4.rg]):=san_b
 rw[grpP,e,if_pos rfl,canO_one (by decide)]
theorem sanP_c:grpP netR (defI sanG []) (nmB 99)=([],8):=by
 have e:(grpE netR (defI sanG []).grps (nmB 99)).1=8:=san_c
 rw[grpP,e,if_neg (by decide)]
theorem san_chk:chkP netR (defI sanG [])=8:=by
 have e:fstE (fun d:Df=>(grpP netR (defI sanG []) d.name).2) (defI sanG []).grps=8:=by
  show fstE (fun d:Df=>(grpP netR (defI sanG []) d.name).2) [⟨nmB 97,[itNm (nmB 98)]⟩,⟨nmB 98,[itZn ⟨#[100,109,122]⟩]⟩,⟨nmB 99,[itNm (nmB 99)]⟩]=8
  rw[fstE_cons,if_neg (by simp only[sanP_a];decide),fstE_cons,if_neg (by simp only[sanP_b];decide),fstE_cons,if_pos (by simp only[sanP_c];decide)]
  simp only[sanP_c]
 rw[chkP_eq,e,if_pos (by decide)]
theorem cwSane{K:KT}(hK:K (.sb true) []):ACall Tryz.prog 19 [] [] K:=by
 have ga:∀{K:KT},K (.tup [encRs [pf4.rg],.v (.int .i64 0)]) []->ACall Tryz.prog 13 [encT netR,encNt (defI sanG []),.v (.string (nmB 97))] [] K:=fun h=>grp_netR san_ok san_bnd _ (by rw[sanP_a];exact h)
 have gc:∀{K:KT},K (.tup [.lst [],.v (.int .i64 8)]) []->ACall Tryz.prog 13 [encT netR,encNt (defI sanG []),.v (.string (nmB 99))] [] K:=fun h=>grp_netR san_ok san_bnd _ (by rw[sanP_c];exact h)
 have se:∀{K:KT},K (.tup [encXs initS,.v (.int .i64 0)]) []->ACall Tryz.prog 24 [encNt (defI sanG []),.v (.string ⟨#[]⟩)] [] K:=fun h=>svc_netR san_ok san_bnd _ (by rw[svcP,if_pos (by rw[sEq_data];rfl)];exact h)
 have ch:∀{K:KT},K (.v (.int .i64 8)) []->ACall Tryz.prog 47 [encT netR,encNt (defI sanG [])] [] K:=fun h=>crCheck netR netR_len (by decide) _ san_bnd (by rw[chkV,if_pos ⟨comp_netR,ntB_true san_ok⟩,san_chk];exact h)
 refine ACall.bool (ofl17San rfl rfl ?_)
 (repeat' ((conv=>whnf);first|(with_reducible refine cwNet ?_)|(refine ga ?_)|(refine gc ?_)|(refine se ?_)|(refine ch ?_)|(refine in_c (by decide) ?_)|(refine Ix.intro rfl ?_)|refine zG ?_|apply zA|(apply zI;intro h)|exact zT));(all_goals conv=>whnf)
 all_goals first
  |exact fin_s hK rfl
  |exact absurd rfl h
  |exact absurd (by decide) h
theorem enInt1(raw:List Int)(pos:Nat)(t:Tp)(hg:GTop t)(hp:pos<=raw.length)(hr:raw.length<=9223372036854775807){K:KT}
  (hK:∀(i:Nt) (pos':Nat),ENt i->pos'<=raw.length->K (encNt i) [tapeO raw pos']):
  ACall Tryz.prog 11 [.op 0 0,encT t,.v (.int .i64 1)] [tapeO raw pos] K:=enInt raw pos t hg.e5 (by have:=hg.d6;omega) (tpn_top hg) 1 (by decide) hp hr hK
theorem ix_getM{α:Type}{f:α->AV}{l:List α}{n:Nat}{K:AV->Prop}(h:n<l.length)(hk:∀e,l[n]? =some e->K (f e)):Ix (l.map f) n K:=
 ix_map (List.getElem?_eq_getElem h) (hk _ (List.getElem?_eq_getElem h))
theorem eyCont(l:List Bx)(g:Hd)(ho:g.Ok)(hl:l.length<1000000000){K:KT}(hK:K (.sb (l.any fun b=>conB b g)) []):ACall Tryz.prog 29 [encXs l,encHd g] [] K:=by
 refine ACall.bool (ofnCont rfl rfl ?_)
 (repeat' ((conv=>whnf);first|refine zG ?_|apply zA|(apply zI;intro h)|exact zT));(all_goals conv=>whnf)
 refine Lp.intro Nat (fun i=>⟨1,[(0,.box [.v (.int .u32 g.src),.v (.int .u32 g.dst),.v (.int .u8 g.pro),.v (.int .u16 g.sp),.v (.int .u16 g.dp)])],[(0,encXs l),(3,.op 0 0),(5,.v (.int .i64 i))]⟩) (fun i=>i<=l.length/\∀(j:Nat) x,j<i->l[j]? =some x->conB x g=false) (fun i=>l.length-i) 0 ⟨Nat.zero_le _,fun j x h=>absurd h (Nat.not_lt_zero _)⟩ ?_ ?_
 ·(exact leA)
 intro i ⟨hi,hinv⟩
 rcases Nat.lt_or_ge i l.length with hil|hil
 ·obtain⟨x,hx⟩:=gex hil
  (repeat' ((conv=>whnf);first|(with_reducible first|refine in_map hil ?_|refine ix_map hx ?_|refine cvCon x g ho ?_)|refine zG ?_|apply zA|(apply zI;intro h)|exact zT));(all_goals conv=>whnf)
  all_goals first
   |exact fin_t hK (List.any_eq_true.2 ⟨x,List.mem_of_getElem? hx,h⟩)
   |(refine⟨i+1,⟨hil,all_succ hx (by simpa using h) hinv⟩,by omega,?_⟩
     rw[Int.natCast_add,Int.natCast_one]
     (exact leA)
     done)
   |trace_state
 ·(repeat' ((conv=>whnf);first|refine zG ?_|apply zA|(apply zI;intro h)|exact zT));(all_goals conv=>whnf)
  refine fin_f hK ?_
  rw[Bool.eq_false_iff,ne_eq,List.any_eq_true]
  rintro⟨x,hx,hc⟩
  obtain⟨j,hj⟩:=List.mem_iff_getElem?.1 hx
  have:=before_all hil hinv j x hj
  rw[hc]at this;cases this
theorem con_mem{X:List Bx}(hs:setB X=true){g:Hd}(ho:g.Ok):(X.any fun b=>conB b g)=memK (hdQ g) 5 X:=by
 rw[Bool.eq_iff_iff,List.any_eq_true,memK_iff]
 refine exists_congr fun b=>and_congr_right fun hb=>?_
 have hok:=okL_ok (okL_set hs) hb
 rw[conB_iff,inK_iff]
 constructor
 ·rintro⟨h0,h1,h2,h3,h4,_⟩ f hf
  obtain rfl|rfl|rfl|rfl|rfl:f=0\/f=1\/f=2\/f=3\/f=4:=by omega
  ·exact h0
  ·exact h1
  ·exact h2
  ·exact h3
  ·exact h4
 ·intro h
  exact⟨h 0 (by omega),h 1 (by omega),h 2 (by omega),h 3 (by omega),h 4 (by omega),hok⟩
theorem eyNms(raw:List Int)(pos:Nat)(hp:pos<=raw.length)(hr:raw.length<=9223372036854775807){K:KT}
  (hK:∀(s:ByteArray) (pos':Nat),pos'<=raw.length->K (.v (.string s)) [tapeO raw pos']):ACall Tryz.prog 26 [.op 0 0] [tapeO raw pos] K:=by
 refine ofl17Nms rfl rfl ?_
 (repeat' ((conv=>whnf);first|(refine nNext raw _ 10 (by decide) (by assumption) hr fun m1 p1 hm1 hp1=>?_)|(with_reducible first|refine in_nat (by omega) ?_|refine ix_strX [⟨#[]⟩,⟨#[103,49]⟩,⟨#[103,50]⟩,⟨#[103,51]⟩,⟨#[119,101,98]⟩,⟨#[115,115,104]⟩,⟨#[115]⟩,⟨#[104]⟩,⟨#[110,111,119,104,101,114,101]⟩,⟨#[97,110,121]⟩] 10 rfl rfl (by omega) fun c hc=>?_)|refine zG ?_|apply zA|(apply zI;intro h)|exact zT));(all_goals conv=>whnf)
 all_goals exact hK _ _ (by assumption)
theorem ACall_fin{P:Program}{f:FuncId}{args:List AV}{hs:List Vm.Obj}{K:KT}(h:ACall P f args hs fun v hs'=>finQ hs.length (enumH 0 hs') v K):ACall P f args hs K:=by
 obtain⟨h1,h2⟩:=h.elim
 refine ACall.intro h1 fun ι E w vals r hv=>(h2 ι E w vals r hv).mono ?_
 rintro e w' ⟨v,rr,hs',ι',E',he,hq,hr,hrel,hx⟩
 obtain⟨y,hs2,ι2,E2,k1,k2,k3,k4⟩:=finQ_sound hr (ι0:=ι) (fun id hid=>r.fresh id hid) hx.ex hrel hq
 exact⟨v,y,hs2,ι2,E2,he,k1,k2,k3,k4⟩
theorem enTop2(raw:List Int)(pos:Nat)(hp:pos<=raw.length)(hr:raw.length<=9223372036854775807){K:KT}
  (hK:∀(t:Tp) (pos':Nat),GTop t->t.devs.length<=2->pos'<=raw.length->K (encT t) [tapeO raw pos']):
  ACall Tryz.prog 10 [.op 0 0,.v (.int .i64 2)] [tapeO raw pos] K:=by
 refine ACall_fin (cnTop raw pos 2 (by decide) hp hr fun t p h1 h2 h3=>?_)
 (repeat' ((conv=>whnf);first|(with_reducible refine sl_full (List.length_map ..) ?_)|refine zG ?_|apply zA|(apply zI;intro h)|exact zT));(all_goals conv=>whnf)
 exact hK t p h1 (by omega) h3
theorem sub_small{a b:List Bx}(ha:setB a=true)(hb:setB b=true)(h:∀q,InP q->memK q 5 a=true->memK q 5 b=true){K:KT}(hK:K (.sb true) []):ACall Tryz.prog 25 [encXs a,encXs b] [] K:=by
 have e1:=vld_all (okL_set ha)
 have e2:=vld_all (okL_set hb)
 have l1:=(setB_pset ha).len
 have l2:=(setB_pset hb).len
 have hn:cano woB 5 (vldB a) (vldB b)=[]:=by rw[e1,e2];exact(cano_sub a b).2 h
 exact cr4Subs a b (by omega) (by rw[hn];exact Nat.zero_le _) (by rw[hn];exact hK)
theorem same_lowS{I:List (Int×Rg)}{X:List Bx}(h:Sv I X){q q':Nat->Int}(hq:InP q)(hq':InP q')(e2:q 2=q' 2)(e3:q 3=q' 3)(e4:q 4=q' 4):memK q 5 X=memK q' 5 X:=h.sig q q' hq hq' (fun b _=>inK_congr 3 b (by omega) fun f h4 h5=>by
  obtain rfl|rfl|rfl:f=2\/f=3\/f=4:=by omega
  ·exact e2
  ·exact e3
  ·exact e4) fun x _=>by rw[e2,e4]
theorem cServices(raw:List Int)(a b:Int)(hr:raw.length<=9223372036854775807)(a0:0<=a)(a1:a<=4294967295)(b0:0<=b)(b1:b<=4294967295):ACall Tryz.prog 5 [.lst (raw.map encI),.v (.int .u32 a),.v (.int .u32 b)] [] Yes:=by
 refine ofl17Svc rfl rfl ?_
 (repeat' ((conv=>whnf);first|(with_reducible refine c9 raw ?_)|(refine enTop2 raw 0 (Nat.zero_le _) hr fun t p1 ht hd hp1=>?_)|(with_reducible first|refine enInt1 raw _ t ht (by with_reducible assumption) hr fun i p2 hi hp2=>?_|refine eyNms raw _ (by with_reducible assumption) hr fun nm p3 hp3=>?_)|refine zG ?_|apply zA|(apply zI;intro h)|exact zT));(all_goals conv=>whnf)
 all_goals
  have hb:=bnd_ent hi
  have hcs:∀{K:KT},K (.tup [encXs (svcP i nm).1,.v (.int .i64 (svcP i nm).2)]) []->ACall Tryz.prog 24 [encNt i,.v (.string nm)] [] K:=fun h=>crService i hb nm (by rw[svcV,if_pos (ntB_true hi.ok)];exact h)
  obtain⟨he,hv,_⟩:=svcP_ok hi.ok.s (svcI_kind hi.gen) (by have:=svcI_few hi.gen;omega) nm
  have hset:=svcP_set i nm
  generalize svcP i nm=S at*
  obtain⟨X,e⟩:=S
  simp only at hcs he hv hset
  have hl:=(setB_pset hset).len
  by_cases h0:e=0
  rotate_left
  ·(repeat' ((conv=>whnf);first|(with_reducible refine hcs ?_)|refine zG ?_|apply zA|(apply zI;intro h)|exact zT));(all_goals conv=>whnf)
   all_goals first
    |exact .inl rfl
    |exact .inr rfl
    |(exact .inl (congrArg AV.sb (decide_eq_true (by simp only at*;omega))))
    |(simp only at*;omega)
    |trace_state
  subst h0
  have hsub:∀{K:KT},K (.sb true) []->ACall Tryz.prog 25 [encXs X,encXs initS] [] K:=fun h=>sub_small hset init_set (fun q hq hm=>by rw[init_q hq];exact hv.ini q hq hm) h
  (repeat' ((conv=>whnf);first|(with_reducible first|refine hcs ?_|refine enNear raw _ X (by omega) (by with_reducible assumption) hr fun g p4 hg hp4=>?_)|(refine hsub ?_)|(with_reducible first|refine cr4Init ?_|refine eyCont X g hg (by omega) ?_)|(refine eyCont X ⟨a,b,g.pro,g.sp,g.dp⟩ ⟨a0,a1,b0,b1,hg.p0,hg.p1,hg.a0,hg.a1,hg.b0,hg.b1⟩ (by omega) ?_)|(with_reducible refine cwSane ?_)|refine zG ?_|apply zA|(apply zI;intro h)|exact zT));(all_goals conv=>whnf)
  all_goals first
   |exact .inl rfl
   |exact .inr rfl
   |(exfalso
     rw[con_mem hset hg,con_mem hset (g:=⟨a,b,g.pro,g.sp,g.dp⟩) ⟨a0,a1,b0,b1,hg.p0,hg.p1,hg.a0,hg.a1,hg.b0,hg.b1⟩,same_lowS hv (q':=hdQ ⟨a,b,g.pro,g.sp,g.dp⟩) (hdQ_in hg) (hdQ_in ⟨a0,a1,b0,b1,hg.p0,hg.p1,hg.a0,hg.a1,hg.b0,hg.b1⟩) rfl rfl rfl]at h
     simp at h)
   |trace_state
open Go Go.Vm Go.ChangeShapes Go.WideShapes Go.ChangeAt Go.RowKit
theorem resolveServices_lifted(os:Os)(started:os.Started)(H:Type)(enc:TypeId×Value->H):
  ReturnsInHanded {} Tryz.checked os 5 .any (fun w args=>(Rows.resolveServicesSpec.pre enc Tryz.prog Tryz.f5 [] false w args/\laidMetH Tryz.prog laid3 w)/\sizedMet enc Tryz.prog Tryz.f5 (OpenSpec.ofChange Rows.resolveServicesSpec) false w args)
   (Rows.resolveServicesSpec.post enc Tryz.prog Tryz.f5 false true false false):=by
 refine returnsInHanded_of_change_and (C:=Tryz.checked) (X:=fun w _=>laidMetH Tryz.prog laid3 w) (fun _ _ _ hh h=>h.of_heap hh) ownNone started (by kernel_rfl) Tryz.func5
  (ChangeSpec.witness_shaped (enc:=enc) (C:=Tryz.checked) (os:=os) (X:=fun w _=>laidMetH Tryz.prog laid3 w) false (World.doorLaid Tryz.prog 400 os) #[.slice none 0 0,.int .u32 0,.int .u32 0] 8 rfl (World.shaped_of_RefB (by kernel_rfl) (by kernel_rfl)) (by kernel_rfl) (by kernel_rfl) (by kernel_rfl) (door_met os _)) ?_
 intro W base args ds gs before hval0 hW _ _ hL _
 have hval:∀(j:Nat) t v,Tryz.f5.params[j]? =some t->args[j]? =some v->Value.okWide Tryz.prog W .any base t v:=hval0
 refine law_contract (P:=Tryz.prog) (t:=4) (d:=6) laidOut (by kernel_rfl) (by kernel_rfl) rfl rfl (by kernel_rfl) (fun ds hds=>?_) (fun xs hxs=>?_) (glob_of hL) hval hW
 ·have hds:ds.length=3:=hds.trans (show Tryz.f5.params.size=3 by kernel_rfl)
  match ds,hds with
  |[d0,d1,d2],_=>rfl
 ·match xs,hxs with
  |[a0,a1,a2],⟨h0,h1,h2,_⟩=>
   obtain⟨raw0,rfl,hr0⟩:=ty_is (d:=4) h0
   obtain⟨n1,rfl,l1,u1⟩:=ty_u32 (d:=5) h1
   obtain⟨n2,rfl,l2,u2⟩:=ty_u32 (d:=5) h2
   exact cServices raw0 n1 n2 hr0 l1 u1 l2 u2
theorem resolveServices_row:Rows.ResolveServicesSaid:=
 OpenClaim.holds_of_wide 5 Tryz.f5 rfl rfl rfl rfl rfl rfl rfl ⟨rfl,rfl,rfl,rfl,rfl⟩ rfl rfl rfl rfl rfl (by kernel_rfl) Tryz.func5 (by kernel_rfl)
  (of_decide_eq_true (by kernel_rfl)) (by unfold Func.isWrapper;first|(rw[if_pos (by decide+kernel)];kernel_rfl)|(rw[if_neg (by decide+kernel)];exact⟨rfl,rfl⟩))
  (fun os started H enc _=>resolveServices_lifted os started H enc)
theorem resolveServices_holds:Rows.ResolveServicesCardSaid:=
 Claim7.holds_tied_plain_at .later [] [.data,.widerDeep] true Rows.resolveServicesCard.stood.harness false
  resolveServices_row (fun _ h=>by cases h) (by kernel_rfl) (fun _ h=>by cases h) resolveServices_row_tie rfl ⟨rfl,rfl⟩ (by kernel_rfl) rfl
  (fun f fn hf hfn=>by
   obtain rfl:f=5:=Option.some.inj ((show Tryz.prog.funcNamed "netsegment/nsglaw17.ResolveServices"=some 5 by kernel_rfl).symm.trans hf)|>.symm
   obtain rfl:fn=Tryz.f5:=(Option.some.inj (Tryz.func5.symm.trans hfn)).symm
   exact⟨by kernel_rfl,fun j t ht=>wants_none (ts:=Tryz.f5.params.toList) (by kernel_rfl) (List.mem_of_getElem? (by rw[Array.getElem?_toList];exact ht))⟩)
  (by kernel_rfl)
#print axioms resolveServices_holds
theorem apart_of{c:List Rg}(h:Canon c):ApartR c:=h.2.imp fun hab=>.inl (by omega)
theorem apart_one{L:List Rg}(h:ApartR L){r s:Rg}(hr:r∈L)(hs:s∈L){u:Int}(h1:inR r u=true)(h2:inR s u=true):r=s:=by
 rcases apart_mem h r hr s hs with e|e|e
 ·exact e
 ·rw[inR_iff]at h1 h2;omega
 ·rw[inR_iff]at h1 h2;omega
theorem apart_pat{L:List Rg}(h:ApartR L){r:Rg}(hr:r∈L){u v:Int}(hu:inR r u=true)(hv:inR r v=true):∀s,s∈L->inR s u=inR s v:=fun s hs=>by
 rw[Bool.eq_iff_iff]
 constructor
 ·intro h1;rw[<-apart_one h hr hs hu h1];exact hv
 ·intro h1;rw[<-apart_one h hr hs hv h1];exact hu
theorem grid_len{X:List Bx}(L:List Rg)(G:Rg->List Rg)(M:Nat)(hL:ApartR L)(hle:∀r,r∈L->r.lo<=r.hi)(hG:∀r,r∈L->ApartR (G r))(hGle:∀r,r∈L->∀s,s∈G r->s.lo<=s.hi)
  (h1:∀q,InP q->memK q 5 X=true->∃r,r∈L/\inR r (q 0)=true/\∃s,s∈G r/\inR s (q 1)=true)
  (h2:∀q q',InP q->InP q'->∀r,r∈L->inR r (q 0)=true->inR r (q' 0)=true->(∀s,s∈G r->inR s (q 1)=inR s (q' 1))->q 2=q' 2->q 3=q' 3->q 4=q' 4->memK q 5 X=memK q' 5 X)
  (h3:∀u v,0<=u->u<=4294967295->0<=v->v<=4294967295->(cano orB 3 (atF 1 v (atF 0 u X)) []).length<=M):
  (cano orB 5 X []).length<=(L.map fun r=>(G r).length*M).sum:=by
 refine cano_len_ranges orB 4 X [] L hL hle (fun r=>(G r).length*M) (fun v v0 v1 hv=>rest_nil (k:=4) (by omega) rfl fun p hp=>?_) (fun r hr u v hu hv u0 u1 v0 v1=>rest_ext (k:=4) (by omega) (fun p hp=>?_) fun p hp=>rfl) fun r hr u hu u0 u1=>?_
 ·rw[memK_nil,orB,Bool.or_false]
  cases hm:memK (setF p (4-4) v) (4+1) X with
  |false=>rfl
  |true=>
   obtain⟨r,hr,h,_⟩:=h1 _ (inP_set hp v0 v1) hm
   rw[show(setF p (4-4) v) 0=v from rfl,hv r hr]at h;cases h
 ·exact h2 _ _ (inP_set hp u0 u1) (inP_set hp v0 v1) r hr hu hv (fun s _=>rfl) rfl rfl rfl
 ·have e:∀p w,memK (setF p 1 w) 4 (atF 0 u X)=memK (setF (setF p 1 w) 0 u) 5 X:=fun p w=>memK_at (k:=4) (by omega) u X
  have hin:∀p w,InP p->0<=w->w<=4294967295->InP (setF (setF p 1 w) 0 u):=fun p w hp w0 w1=>inP_set (inP_set hp (f:=1) w0 w1) (f:=0) u0 u1
  have:=cano_len_ranges orB 3 (atF 0 u X) [] (G r) (hG r hr) (hGle r hr) (fun _=>M) (fun v v0 v1 hv=>rest_nil (k:=3) (by omega) rfl fun p hp=>?_) (fun s hs a b ha hb a0 a1 b0 b1=>rest_ext (k:=3) (by omega) (fun p hp=>?_) fun p hp=>rfl) fun s hs v hv v0 v1=>h3 u v u0 u1 v0 v1
  ·rw[sum_nat_const]at this;exact this
  ·show orB (memK (setF p 1 v) 4 (atF 0 u X)) (memK (setF p 1 v) 4 [])=false
   rw[memK_nil,orB,Bool.or_false,e]
   cases hm:memK (setF (setF p 1 v) 0 u) 5 X with
   |false=>rfl
   |true=>
    obtain⟨r',hr',h,s,hs,h'⟩:=h1 _ (hin p v hp v0 v1) hm
    have e0:=apart_one hL hr' hr h hu
    subst e0
    rw[show(setF (setF p 1 v) 0 u) 1=v from rfl,hv s hs]at h';cases h'
  ·show memK (setF p 1 a) 4 (atF 0 u X)=memK (setF p 1 b) 4 (atF 0 u X)
   rw[e,e]
   exact h2 _ _ (hin p a hp a0 a1) (hin p b hp b0 b1) r hr hu hu (fun z hz=>apart_pat (hG r hr) hs ha hb z hz) rfl rfl rfl
theorem fullB_ok:fullB.ok:=by decide
theorem const_three{Y:List Bx}(h:∀p p',InP p->InP p'->memK p 3 Y=memK p' 3 Y):(cano orB 3 Y []).length<=1:=by
 have hz:=inP_zero
 have hf:∀p,InP p->memK p 3 [fullB]=true:=fun p hp=>by
  have h2:=hp 2;have h3:=hp 3;have h4:=hp 4
  have e2:fullB.r2.lo=0/\fullB.r2.hi=255:=by decide
  have e3:fullB.r3.lo=0/\fullB.r3.hi=65535:=by decide
  have e4:fullB.r4.lo=0/\fullB.r4.hi=65535:=by decide
  have t2:topF 2=255:=rfl
  have t3:topF 3=65535:=rfl
  have t4:topF 4=65535:=rfl
  simp only[memK,List.any_cons,List.any_nil,Bool.or_false,inK,Bx.get,Nat.sub_zero,Nat.reduceSub,Bool.and_true,Bool.and_eq_true,decide_eq_true_eq]
  omega
 cases hm:memK (fun _=>0) 3 Y with
 |true=>
  rw[cano_ext2 orB orB 3 Y [] [fullB] [] (by omega) fun p hp=>by rw[h p _ hp hz,hm,hf p hp]]
  exact boundO 3 [fullB] (by omega) (cn_one 3 (by omega) fullB_ok)
 |false=>
  rw[cano_ext2 orB orB 3 Y [] [] [] (by omega) fun p hp=>by rw[h p _ hp hz,hm,memK_nil],cano_nils orB rfl 3]
  exact Nat.zero_le _
def inZ(Z:List (Rg×Rg))(q:Nat->Int):Bool:=Z.any fun z=>inR z.1 (q 0)&&inR z.2 (q 1)
theorem pairs_len{f g:List Rg}(hf:Canon f)(hg:Canon g){Z:List (Rg×Rg)}(hZ:∀z,z∈Z->z.1∈f/\z.2∈g){X:List Bx}(hX:∀q,InP q->memK q 5 X=inZ Z q):(cano orB 5 X []).length<=f.length*g.length:=by
 have:=grid_len (X:=X) f (fun _=>g) 1 (apart_of hf) hf.1 (fun _ _=>apart_of hg) (fun _ _=>hg.1) (fun q hq h=>by
  rw[hX q hq,inZ,List.any_eq_true]at h
  obtain⟨z,hz,hzq⟩:=h
  rw[Bool.and_eq_true]at hzq
  exact⟨z.1,(hZ z hz).1,hzq.1,z.2,(hZ z hz).2,hzq.2⟩) (fun q q' hq hq' r hr h h' hs _ _ _=>by
  rw[hX q hq,hX q' hq',inZ,inZ,Bool.eq_iff_iff,List.any_eq_true,List.any_eq_true]
  refine exists_congr fun z=>and_congr_right fun hz=>?_
  rw[apart_pat (apart_of hf) hr h h' z.1 (hZ z hz).1,hs z.2 (hZ z hz).2]) fun u v u0 u1 v0 v1=>const_three fun p p' hp hp'=>by
   rw[at_two,at_two,hX _ (inP_set (inP_set hp (f:=1) v0 v1) (f:=0) u0 u1),hX _ (inP_set (inP_set hp' (f:=1) v0 v1) (f:=0) u0 u1)]
   rfl
 rw[sum_nat_const,Nat.mul_one]at this
 exact this
theorem btwX_ok{r s:Rg}(hr:r.lo<=r.hi)(hs:s.lo<=s.hi):(btwX r s).ok:=by
 have:=r.h1;have:=s.h1
 have e:fullB.r2.okF 2/\fullB.r3.okF 3/\fullB.r4.okF 4:=by unfold Rg.okF;decide
 exact⟨⟨hr,r.h1⟩,⟨hs,s.h1⟩,e.1,e.2.1,e.2.2⟩
theorem makeGo_grid{f g:List Rg}(hf:Canon f)(hg:Canon g)(hl:f.length*g.length<=4096):∀(W Z:List (Rg×Rg)) (s:List Bx),(∀z,z∈Z->z.1∈f/\z.2∈g)->(∀z,z∈W->z.1∈f/\z.2∈g)->(∀q,InP q->memK q 5 s=inZ Z q)->
  (makeGo s (W.map fun z=>btwX z.1 z.2)).2=0
 |[],Z,s,_,_,_=>rfl
 |w::W,Z,s,hZ,hW,hs=>by
  have hw:=hW w (by simp)
  have ho:(btwX w.1 w.2).ok:=btwX_ok (hf.1 _ hw.1) (hg.1 _ hw.2)
  have hm:∀q,InP q->memK q 5 (addO s (btwX w.1 w.2))=inZ (Z++[w]) q:=fun q hq=>by
   rw[addO,cano_mem orB hq 5 _ _ (Nat.le_refl _),hs q hq,orB,inZ,inZ,List.any_append]
   simp only[memK,List.any_cons,List.any_nil,Bool.or_false,inK_btw hq]
  have hZ2:∀z,z∈Z++[w]->z.1∈f/\z.2∈g:=fun z hz=>by
   rcases List.mem_append.1 hz with hz|hz
   ·exact hZ z hz
   ·rw[List.mem_singleton.1 hz];exact hw
  have hlen:(addO s (btwX w.1 w.2)).length<=4096:=by
   have h1:=pairs_len hf hg hZ2 hm
   rw[cano_ext2 orB orB 5 _ [] s [btwX w.1 w.2] (Nat.le_refl _) fun q hq=>by
    rw[addO,cano_mem orB hq 5 _ _ (Nat.le_refl _),memK_nil];simp[orB]]at h1
   exact Nat.le_trans h1 hl
  rw[List.map_cons,makeGo,if_pos ho,if_neg (by omega)]
  exact makeGo_grid hf hg hl W (Z++[w]) _ hZ2 (fun z hz=>hW z (List.mem_cons_of_mem _ hz)) hm
theorem btw_make{f g:List Rg}(hf:Canon f)(hg:Canon g)(hl:f.length*g.length<=4096):(makeP (btwB f g)).2=0/\∀q,InP q->memK q 5 (makeP (btwB f g)).1=(has f (q 0)&&has g (q 1)):=by
 have e:btwB f g=(f.flatMap fun r=>g.map fun s=>(r,s)).map fun z=>btwX z.1 z.2:=by
  unfold btwB
  rw[List.map_flatMap]
  simp only[List.map_map]
  rfl
 have h0:(makeP (btwB f g)).2=0:=by
  rw[e,makeP]
  exact makeGo_grid hf hg hl _ [] [] (fun z h=>by simp at h) (fun z hz=>by
   obtain⟨r,hr,hz⟩:=List.mem_flatMap.1 hz
   obtain⟨s,hs,rfl⟩:=List.mem_map.1 hz
   exact⟨hr,hs⟩) fun q hq=>by rw[memK_nil];rfl
 refine⟨h0,fun q hq=>?_⟩
 rw[makeP,makeGo_eq hq _ _ h0,memK_nil,Bool.false_or]
 exact vld_btw hq
/-! ### Unions of ranges out of a list -/
def UnB(B:List Rg)(c:Int->Bool):Prop:=∃P:Rg->Prop,∀u,c u=true↔∃r,r∈B/\P r/\inR r u=true
theorem canon_start{c:List Rg}(hc:Canon c){r:Rg}(hr:r∈c):has c r.lo=true/\has c (r.lo-1)=false:=by
 have hle:=hc.1 r hr
 refine⟨has_iff.2 ⟨r,hr,Int.le_refl _,hle⟩,?_⟩
 rw[Bool.eq_false_iff,ne_eq,has_iff]
 rintro⟨q,hq,q1,q2⟩
 obtain⟨i,hi,rfl⟩:=List.mem_iff_getElem.1 hr
 obtain⟨j,hj,rfl⟩:=List.mem_iff_getElem.1 hq
 have hp:=List.pairwise_iff_getElem.1 hc.2
 rcases Nat.lt_trichotomy i j with hij|hij|hij
 ·have:=hp i j hi hj hij;omega
 ·subst hij;omega
 ·have:=hp j i hj hi hij;omega
theorem los_nodup{c:List Rg}(hc:Canon c):(c.map fun r=>r.lo).Nodup:=by
 unfold List.Nodup
 rw[List.pairwise_map]
 refine List.Pairwise.imp_of_mem ?_ hc.2
 intro a b ha _ hab e
 have:=hc.1 a ha;omega
theorem un_and{B c:List Rg}{F O:Int->Bool}(hc:Canon c)(hF:UnB B F)(hO:UnB B O)(h:∀u,has c u=(F u&&O u)):c.length<=B.length:=by
 obtain⟨P,hP⟩:=hF
 obtain⟨Q,hQ⟩:=hO
 have:=nodup_sub (los_nodup hc) (m:=B.map fun r=>r.lo) fun x hx=>by
  obtain⟨r,hr,rfl⟩:=List.mem_map.1 hx
  obtain⟨s1,s2⟩:=canon_start hc hr
  rw[h,Bool.and_eq_true]at s1
  rw[h,Bool.and_eq_false_iff]at s2
  rcases s2 with s2|s2
  ·obtain⟨b,hb,hp,hi⟩:=(hP _).1 s1.1
   refine List.mem_map.2 ⟨b,hb,?_⟩
   have hn:¬inR b (r.lo-1)=true:=fun hh=>by
    rw[(hP _).2 ⟨b,hb,hp,hh⟩]at s2;cases s2
   rw[inR_iff]at hi hn
   omega
  ·obtain⟨b,hb,hp,hi⟩:=(hQ _).1 s1.2
   refine List.mem_map.2 ⟨b,hb,?_⟩
   have hn:¬inR b (r.lo-1)=true:=fun hh=>by
    rw[(hQ _).2 ⟨b,hb,hp,hh⟩]at s2;cases s2
   rw[inR_iff]at hi hn
   omega
 simpa using this
open Classical in
theorem un_diff{B c:List Rg}{F O:Int->Bool}(hc:Canon c)(hF:UnB B F)(hO:UnB B O)(h:∀u,has c u=(F u&& !O u)):c.length<=B.length:=by
 obtain⟨P,hP⟩:=hF
 obtain⟨Q,hQ⟩:=hO
 have:=nodup_sub (los_nodup hc) (m:=B.map fun r=>if Q r then r.hi+1 else r.lo) fun x hx=>by
  obtain⟨r,hr,rfl⟩:=List.mem_map.1 hx
  obtain⟨s1,s2⟩:=canon_start hc hr
  rw[h,Bool.and_eq_true,Bool.not_eq_true']at s1
  cases ho:O (r.lo-1)with
  |true=>
   obtain⟨b,hb,hq,hi⟩:=(hQ _).1 ho
   refine List.mem_map.2 ⟨b,hb,?_⟩
   have hn:¬inR b r.lo=true:=fun hh=>by
    rw[(hQ _).2 ⟨b,hb,hq,hh⟩]at s1;exact absurd s1.2 (by decide)
   rw[if_pos hq]
   rw[inR_iff]at hi hn
   omega
  |false=>
   obtain⟨b,hb,hp,hi⟩:=(hP _).1 s1.1
   refine List.mem_map.2 ⟨b,hb,?_⟩
   have hq:¬Q b:=fun hq=>by
    rw[(hQ _).2 ⟨b,hb,hq,hi⟩]at s1;exact absurd s1.2 (by decide)
   have hn:¬inR b (r.lo-1)=true:=fun hh=>by
    rw[h,(hP _).2 ⟨b,hb,hp,hh⟩,ho]at s2;cases s2
   rw[if_neg hq]
   rw[inR_iff]at hi hn
   omega
 simpa using this
end Go.Proofs.YtahhamfngafmcaaGreatDoor
