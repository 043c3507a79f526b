/- A further item never removes addresses of a group, nor headers of a service. Printed by mk_yv.py. -/
import Derived.Test.YtahhamfngafmcaaGreatDoorM31
set_option linter.unusedVariables false
set_option linter.unusedSimpArgs false
set_option maxRecDepth 100000
set_option maxHeartbeats 40000000
namespace Go.Proofs.YtahhamfngafmcaaGreatDoor
open Go Go.Vm
abbrev zX(q:Pf):It:=⟨2,⟨#[]⟩,q,0,zR⟩
abbrev zY(r:Rg):It:=⟨4,⟨#[]⟩,noPf,6,r⟩
theorem cMonotone(raw:List Int)(hr:raw.length<=9223372036854775807):ACall Tryz.prog 4 [.lst (raw.map encI)] [] Yes:=by
 refine ofl17Mon rfl rfl ?_
 (repeat' ((conv=>whnf);first|(with_reducible refine c9 raw ?_)|(refine enTop3f raw 0 (Nat.zero_le _) hr fun t p1 ht hd hp1=>?_)|(with_reducible refine enInt1 raw _ t ht (by with_reducible assumption) hr fun i p2 hi hp2=>?_)|refine zG ?_|apply zA|(apply zI;intro h)|exact zT));(all_goals conv=>whnf)
 have hf:=hi.gen.few
 have hok:=hi.ok
 have hb:=bnd_ent hi
 have hc:=comp_top ht
 have he5:=ht.e5
 have hits:=sum_two _ hf.gi
 have hsits:=sum_two _ hf.si
 have hkI:=svcI_kind hi.gen
 have hkF:=svcI_few hi.gen
 obtain⟨gs,ss,ws,ts,ps,hds⟩:=i
 have hg1:1<=gs.length:=hi.g1
 have hg3:gs.length<=3:=hf.g3
 have hs2:ss.length<=2:=hi.gen.s2
 have hgi:∀d,d∈gs->d.items.length<=2:=hf.gi
 have hsi:∀d,d∈ss->d.items.length<=2:=hf.si
 have hw1:ws.length<=1:=hi.w1
 have hcp:=fun {K} h=>@eyCpI ⟨gs,ss,ws,ts,ps,hds⟩ hg1 hg3 hs2 hw1 (fun d hd=>Nat.le_trans (hgi d hd) (by decide)) (fun d hd=>Nat.le_trans (hsi d hd) (by decide)) hf.sml.wi hb.t hb.p hb.h K h
 -- validity and bounds with further items
 have hbJ:∀(n m:Nat) (x y:It),Bnd ⟨addIt gs n x,ss,ws,ts,ps,hds⟩/\Bnd ⟨addIt gs n x,addIt ss m y,ws,ts,ps,hds⟩:=fun n m x y=>by
  have q1:=sum_mod (l:=gs) n x
  have q2:=sum_mod (l:=ss) m y
  have l1:=addIt_len gs n x
  have l2:=addIt_len ss m y
  have i1:=addIt_items (k:=2) n x hgi
  have i2:=addIt_items (k:=2) m y hsi
  simp only at hits hsits
  exact⟨⟨by simp only;omega,hb.s,hb.w,hb.t,hb.p,hb.h,fun d hd=>Nat.le_trans (i1 d hd) (by decide),hb.si,hb.wi,by simp only;omega,hb.sits⟩,
   ⟨by simp only;omega,by simp only;omega,hb.w,hb.t,hb.p,hb.h,fun d hd=>Nat.le_trans (i1 d hd) (by decide),fun d hd=>Nat.le_trans (i2 d hd) (by decide),hb.wi,by simp only;omega,by simp only;omega⟩⟩
 have hoJ:∀(n m:Nat) (x y:It),itB x true=true->itB y false=true->NtOk ⟨addIt gs n x,ss,ws,ts,ps,hds⟩/\NtOk ⟨addIt gs n x,addIt ss m y,ws,ts,ps,hds⟩:=fun n m x y hx hy=>by
  have d1:=dfsOk_add hok.g n hx fun d hd=>Nat.le_trans (hgi d hd) (by decide)
  have d2:=dfsOk_add hok.s m hy fun d hd=>Nat.le_trans (hsi d hd) (by decide)
  exact⟨⟨d1,hok.s,hok.wl,hok.tl,hok.pl,hok.hl,hok.w,hok.t,hok.p,hok.h⟩,⟨d1,d2,hok.wl,hok.tl,hok.pl,hok.hl,hok.w,hok.t,hok.p,hok.h⟩⟩
 have hgA:∀(nm:ByteArray) {K:KT},((grpP t ⟨gs,ss,ws,ts,ps,hds⟩ nm).2≠0->(grpP t ⟨gs,ss,ws,ts,ps,hds⟩ nm).1=[]->K (.tup [.lst [],.v (.int .i64 (grpP t ⟨gs,ss,ws,ts,ps,hds⟩ nm).2)]) [])->((grpP t ⟨gs,ss,ws,ts,ps,hds⟩ nm).2=0->K (.tup [.os 0 2 0 (grpP t ⟨gs,ss,ws,ts,ps,hds⟩ nm).1.length,.v (.int .i64 0)]) [.arr 2 ((grpP t ⟨gs,ss,ws,ts,ps,hds⟩ nm).1.map encR)])->ACall Tryz.prog 13 [encT t,encNt ⟨gs,ss,ws,ts,ps,hds⟩,.v (.string nm)] [] K:=fun nm K h1 h2=>
  crGroupO t (by omega) hc _ hb (ntB_true hok) nm h1 h2
 have hgB:∀(n:Nat) (x:It) (nm:ByteArray),itB x true=true->∀{K:KT},((grpP t ⟨addIt gs n x,ss,ws,ts,ps,hds⟩ nm).2≠0->(grpP t ⟨addIt gs n x,ss,ws,ts,ps,hds⟩ nm).1=[]->K (.tup [.lst [],.v (.int .i64 (grpP t ⟨addIt gs n x,ss,ws,ts,ps,hds⟩ nm).2)]) [])->((grpP t ⟨addIt gs n x,ss,ws,ts,ps,hds⟩ nm).2=0->K (.tup [.os 0 2 0 (grpP t ⟨addIt gs n x,ss,ws,ts,ps,hds⟩ nm).1.length,.v (.int .i64 0)]) [.arr 2 ((grpP t ⟨addIt gs n x,ss,ws,ts,ps,hds⟩ nm).1.map encR)])->ACall Tryz.prog 13 [encT t,encNt ⟨addIt gs n x,ss,ws,ts,ps,hds⟩,.v (.string nm)] [] K:=fun n x nm hx K h1 h2=>
  crGroupO t (by omega) hc _ (hbJ n 0 x (zY zR)).1 (ntB_true (hoJ n 0 x (zY zR) hx (itB_svc (by decide))).1) nm h1 h2
 have hgL:∀(n:Nat) (x:It) (nm:ByteArray),x.kind=2->(grpP t ⟨gs,ss,ws,ts,ps,hds⟩ nm).1.length<=860/\(grpP t ⟨addIt gs n x,ss,ws,ts,ps,hds⟩ nm).1.length<=860/\(grpP t ⟨gs,ss,ws,ts,ps,hds⟩ nm).2=(grpP t ⟨addIt gs n x,ss,ws,ts,ps,hds⟩ nm).2/\∀u,has (grpP t ⟨gs,ss,ws,ts,ps,hds⟩ nm).1 u=true->has (grpP t ⟨addIt gs n x,ss,ws,ts,ps,hds⟩ nm).1 u=true:=fun n x nm hx=>
  ⟨grpP_len hc hb nm,grpP_len hc (hbJ n 0 x (zY zR)).1 nm,grp_add t ⟨gs,ss,ws,ts,ps,hds⟩ n hx nm⟩
 have hsA:∀(nm:ByteArray) {K:KT},K (.tup [encXs (svcP ⟨gs,ss,ws,ts,ps,hds⟩ nm).1,.v (.int .i64 (svcP ⟨gs,ss,ws,ts,ps,hds⟩ nm).2)]) []->ACall Tryz.prog 24 [encNt ⟨gs,ss,ws,ts,ps,hds⟩,.v (.string nm)] [] K:=fun nm K h=>
  crService _ hb nm (by rw[svcV,if_pos (ntB_true hok)];exact h)
 have hsB:∀(n m:Nat) (x y:It) (nm:ByteArray),itB x true=true->itB y false=true->∀{K:KT},K (.tup [encXs (svcP ⟨gs,addIt ss m y,ws,ts,ps,hds⟩ nm).1,.v (.int .i64 (svcP ⟨gs,addIt ss m y,ws,ts,ps,hds⟩ nm).2)]) []->ACall Tryz.prog 24 [encNt ⟨addIt gs n x,addIt ss m y,ws,ts,ps,hds⟩,.v (.string nm)] [] K:=fun n m x y nm hx hy K h=>
  crService _ (hbJ n m x y).2 nm (by rw[svcV,if_pos (ntB_true (hoJ n m x y hx hy).2)];exact h)
 have hsL:∀(m:Nat) (r:Rg) (nm:ByteArray),r.lo<=r.hi->r.hi<=65535->setB (svcP ⟨gs,ss,ws,ts,ps,hds⟩ nm).1=true/\setB (svcP ⟨gs,addIt ss m (zY r),ws,ts,ps,hds⟩ nm).1=true/\(svcP ⟨gs,ss,ws,ts,ps,hds⟩ nm).2=(svcP ⟨gs,addIt ss m (zY r),ws,ts,ps,hds⟩ nm).2/\∀q,InP q->memK q 5 (svcP ⟨gs,ss,ws,ts,ps,hds⟩ nm).1=true->memK q 5 (svcP ⟨gs,addIt ss m (zY r),ws,ts,ps,hds⟩ nm).1=true:=fun m r nm h1 h2=>
  ⟨svcP_set _ nm,svcP_set _ nm,svc_add (i:=⟨gs,ss,ws,ts,ps,hds⟩) hok.s hkI (by omega) (fun d hd=>Nat.le_trans (hsi d hd) (by decide)) m (itB_svc (by unfold prB;rw[if_pos (.inl rfl)];exact decide_eq_true ⟨h1,h2⟩)) (show(4:Int)≠3 by decide) (.inl (show wu 6=6 by decide)) nm⟩
 have hyB:∀r:Rg,r.lo<=r.hi->r.hi<=65535->itB (zY r) false=true:=fun r h1 h2=>itB_svc (by unfold prB;rw[if_pos (.inl rfl)];exact decide_eq_true ⟨h1,h2⟩)
 clear hbJ hoJ hits hsits hkI hkF hi hf hok
 rcases gs with _|⟨a,_|⟨b,_|⟨e,_|⟨_,_⟩⟩⟩⟩<;>rcases ss with _|⟨c,_|⟨d,_|⟨_,_⟩⟩⟩
 all_goals try(exfalso;simp only[List.length_cons,List.length_nil]at hg1 hg3 hs2;omega)
 ·have haa:=hgi a (by simp)
  (repeat' ((conv=>whnf);first|(with_reducible first|refine hcp ?_|refine nNext raw _ _ (by simp) (by with_reducible assumption) hr fun n p3 hn hp3=>?_)|refine zG ?_|apply zA|(apply zI;intro h)|exact zT));(all_goals conv=>whnf)
  obtain rfl:n=0:=by simp only[List.length_cons,List.length_nil]at hn;omega
  ·refine Jn.intro (Nat×Pf) (fun g=>⟨20,[(0,tapeO raw g.1),(1,boxT t),(2,boxNt ⟨[a],[],ws,ts,ps,hds⟩),(3,.box [.os 4 2 0 1,.os 5 2 0 0,.os 6 2 0 ws.length,.os 7 10 0 ts.length,.os 8 6 0 ps.length,.os 9 5 0 hds.length]),(4,.box [.v (.string a.name),.os 10 7 0 (a.items.length+1)]),(5,.arr 2 []),(6,.arr 2 (ws.map encWn)),(7,.arr 10 (ts.map encSm)),(8,.arr 6 (ps.map encPb)),(9,.arr 5 (hds.map encHn)),(10,.arr 7 (a.items.map encIt++[encIt (zX g.2)]))],[(3,.op 0 0),(4,.op 1 0),(5,.op 2 0),(6,.op 3 0),(7,.v (.int .i64 0))]⟩) (fun g=>g.1<=raw.length/\g.2.okP) ?_ ?_
   ·(repeat' ((conv=>whnf);first|(refine in_r (by rfl) ?_)|(refine Ix.intro rfl ?_)|(refine sl_full (by simp) ?_)|(with_reducible refine enPref raw _ (by with_reducible assumption) hr fun q p4 hq hp4=>?_)|refine zG ?_|apply zA|(apply zI;intro h)|exact zT));(all_goals conv=>whnf)
    all_goals
     refine⟨(p4,q),⟨by with_reducible assumption,hq⟩,?_⟩
     (exact leA)
   rintro⟨p4,q⟩ ⟨hp4,hq⟩
   simp only at hp4 hq⊢
   have hxB:=itB_sub hq
   obtain⟨l1,l2,l3,l4⟩:=hgL 0 (zX q) a.name rfl
   have gA:=fun {K} h1 h2=>@hgA a.name K h1 h2
   have gB:∀{K:KT},((grpP t ⟨addIt [a] 0 (zX q),[],ws,ts,ps,hds⟩ a.name).2≠0->(grpP t ⟨addIt [a] 0 (zX q),[],ws,ts,ps,hds⟩ a.name).1=[]->K (.tup [.lst [],.v (.int .i64 (grpP t ⟨addIt [a] 0 (zX q),[],ws,ts,ps,hds⟩ a.name).2)]) [])->((grpP t ⟨addIt [a] 0 (zX q),[],ws,ts,ps,hds⟩ a.name).2=0->K (.tup [.os 0 2 0 (grpP t ⟨addIt [a] 0 (zX q),[],ws,ts,ps,hds⟩ a.name).1.length,.v (.int .i64 0)]) [.arr 2 ((grpP t ⟨addIt [a] 0 (zX q),[],ws,ts,ps,hds⟩ a.name).1.map encR)])->ACall Tryz.prog 13 [encT t,.agg [.lst [.agg [.v (.string a.name),.lst (a.items.map encIt++[encIt (zX q)])]],.lst [],.lst (ws.map encWn),.lst (ts.map encSm),.lst (ps.map encPb),.lst (hds.map encHn)],.v (.string a.name)] [] K:=fun {K} h1 h2=>by
    have eE:(AV.agg [.lst [.agg [.v (.string a.name),.lst (a.items.map encIt++[encIt (zX q)])]],.lst [],.lst (ws.map encWn),.lst (ts.map encSm),.lst (ps.map encPb),.lst (hds.map encHn)])=encNt ⟨addIt [a] 0 (zX q),[],ws,ts,ps,hds⟩:=by simp[addIt]
    rw[eE]
    exact @hgB 0 (zX q) a.name hxB K h1 h2
   have l5:=grpP_errO t ⟨addIt [a] 0 (zX q),[],ws,ts,ps,hds⟩ a.name
   have l6:=grpP_errO t ⟨[a],[],ws,ts,ps,hds⟩ a.name
   generalize grpP t ⟨addIt [a] 0 (zX q),[],ws,ts,ps,hds⟩ a.name=J at*
   generalize grpP t ⟨[a],[],ws,ts,ps,hds⟩ a.name=O at*
   obtain⟨Js,Je⟩:=J
   obtain⟨Os,Oe⟩:=O
   simp only at l1 l2 l3 l4 l5 l6 gA gB
   subst l3
   have hfl:=flat_encR Js
   have hfo:=flat_encR Os
   by_cases hz:Oe=0
   ·subst hz
    have gB:=fun {K:KT} h=>@gB K (fun h0=>absurd rfl h0) (fun _=>h)
    have gA:=fun {K:KT} h=>@gA K (fun h0=>absurd rfl h0) (fun _=>h)
    (repeat' ((conv=>whnf);first|(refine in_r (by rfl) ?_)|(refine Ix.intro rfl ?_)|(refine sl_full (by simp) ?_)|(with_reducible refine gA ?_)|(refine gB ?_)|(with_reducible first|refine c44 Os Js (by omega) (by omega) fun s hs=>?_|refine cwSane ?_)|(refine Ob.intro hfl ?_)|(refine Ob.intro hfo ?_)|refine zG ?_|apply zA|(apply zI;intro h)|exact zT));(all_goals conv=>whnf)
    all_goals first
     |exact .inl rfl
     |exact .inr rfl
     |(exfalso
       have:=hs.2 l4
       simp_all;done)
     |(exfalso;simp at h;done)
     |trace_state
   ·obtain rfl:=l5 hz
    obtain rfl:=l6 hz
    have gA:=fun {K:KT} h=>@gA K (fun _ _=>h) (fun h0=>absurd h0 hz)
    have gB:=fun {K:KT} h=>@gB K (fun _ _=>h) (fun h0=>absurd h0 hz)
    (repeat' ((conv=>whnf);first|(refine in_r (by rfl) ?_)|(refine Ix.intro rfl ?_)|(refine sl_full (by simp) ?_)|(with_reducible refine gA ?_)|(refine gB ?_)|(refine c44 [] [] (by simp) (by simp) fun s hs=>?_)|(with_reducible refine cwSane ?_)|refine zG ?_|apply zA|(apply zI;intro h)|exact zT));(all_goals conv=>whnf)
    all_goals first
     |exact .inl rfl
     |exact .inr rfl
     |(exfalso
       have:=hs.2 l4
       simp_all;done)
     |(exfalso;simp at h;done)
     |trace_state
 ·have haa:=hgi a (by simp)
  have hcc:=hsi c (by simp)
  (repeat' ((conv=>whnf);first|(with_reducible first|refine hcp ?_|refine nNext raw _ _ (by simp) (by with_reducible assumption) hr fun n p3 hn hp3=>?_)|refine zG ?_|apply zA|(apply zI;intro h)|exact zT));(all_goals conv=>whnf)
  obtain rfl:n=0:=by simp only[List.length_cons,List.length_nil]at hn;omega
  ·refine Jn.intro (Nat×Pf) (fun g=>⟨20,[(0,tapeO raw g.1),(1,boxT t),(2,boxNt ⟨[a],[c],ws,ts,ps,hds⟩),(3,.box [.os 4 2 0 1,.os 5 2 0 1,.os 6 2 0 ws.length,.os 7 10 0 ts.length,.os 8 6 0 ps.length,.os 9 5 0 hds.length]),(4,.box [.v (.string a.name),.os 10 7 0 (a.items.length+1)]),(5,.box [.v (.string c.name),.os 14 7 0 c.items.length]),(6,.arr 2 (ws.map encWn)),(7,.arr 10 (ts.map encSm)),(8,.arr 6 (ps.map encPb)),(9,.arr 5 (hds.map encHn)),(10,.arr 7 (a.items.map encIt++[encIt (zX g.2)])),(14,.arr 7 (c.items.map encIt))],[(3,.op 0 0),(4,.op 1 0),(5,.op 2 0),(6,.op 3 0),(7,.v (.int .i64 0))]⟩) (fun g=>g.1<=raw.length/\g.2.okP) ?_ ?_
   ·(repeat' ((conv=>whnf);first|(refine in_r (by rfl) ?_)|(refine Ix.intro rfl ?_)|(refine sl_full (by simp) ?_)|(with_reducible refine enPref raw _ (by with_reducible assumption) hr fun q p4 hq hp4=>?_)|refine zG ?_|apply zA|(apply zI;intro h)|exact zT));(all_goals conv=>whnf)
    all_goals
     refine⟨(p4,q),⟨by with_reducible assumption,hq⟩,?_⟩
     (exact leA)
   rintro⟨p4,q⟩ ⟨hp4,hq⟩
   simp only at hp4 hq⊢
   have hxB:=itB_sub hq
   obtain⟨l1,l2,l3,l4⟩:=hgL 0 (zX q) a.name rfl
   have gA:=fun {K} h1 h2=>@hgA a.name K h1 h2
   have gB:∀{K:KT},((grpP t ⟨addIt [a] 0 (zX q),[c],ws,ts,ps,hds⟩ a.name).2≠0->(grpP t ⟨addIt [a] 0 (zX q),[c],ws,ts,ps,hds⟩ a.name).1=[]->K (.tup [.lst [],.v (.int .i64 (grpP t ⟨addIt [a] 0 (zX q),[c],ws,ts,ps,hds⟩ a.name).2)]) [])->((grpP t ⟨addIt [a] 0 (zX q),[c],ws,ts,ps,hds⟩ a.name).2=0->K (.tup [.os 0 2 0 (grpP t ⟨addIt [a] 0 (zX q),[c],ws,ts,ps,hds⟩ a.name).1.length,.v (.int .i64 0)]) [.arr 2 ((grpP t ⟨addIt [a] 0 (zX q),[c],ws,ts,ps,hds⟩ a.name).1.map encR)])->ACall Tryz.prog 13 [encT t,.agg [.lst [.agg [.v (.string a.name),.lst (a.items.map encIt++[encIt (zX q)])]],.lst [.agg [.v (.string c.name),.lst (c.items.map encIt)]],.lst (ws.map encWn),.lst (ts.map encSm),.lst (ps.map encPb),.lst (hds.map encHn)],.v (.string a.name)] [] K:=fun {K} h1 h2=>by
    have eE:(AV.agg [.lst [.agg [.v (.string a.name),.lst (a.items.map encIt++[encIt (zX q)])]],.lst [.agg [.v (.string c.name),.lst (c.items.map encIt)]],.lst (ws.map encWn),.lst (ts.map encSm),.lst (ps.map encPb),.lst (hds.map encHn)])=encNt ⟨addIt [a] 0 (zX q),[c],ws,ts,ps,hds⟩:=by simp[addIt]
    rw[eE]
    exact @hgB 0 (zX q) a.name hxB K h1 h2
   have l5:=grpP_errO t ⟨addIt [a] 0 (zX q),[c],ws,ts,ps,hds⟩ a.name
   have l6:=grpP_errO t ⟨[a],[c],ws,ts,ps,hds⟩ a.name
   generalize grpP t ⟨addIt [a] 0 (zX q),[c],ws,ts,ps,hds⟩ a.name=J at*
   generalize grpP t ⟨[a],[c],ws,ts,ps,hds⟩ a.name=O at*
   obtain⟨Js,Je⟩:=J
   obtain⟨Os,Oe⟩:=O
   simp only at l1 l2 l3 l4 l5 l6 gA gB
   subst l3
   have hfl:=flat_encR Js
   have hfo:=flat_encR Os
   by_cases hz:Oe=0
   ·subst hz
    have gB:=fun {K:KT} h=>@gB K (fun h0=>absurd rfl h0) (fun _=>h)
    have gA:=fun {K:KT} h=>@gA K (fun h0=>absurd rfl h0) (fun _=>h)
    (repeat' ((conv=>whnf);first|(refine in_r (by rfl) ?_)|(refine Ix.intro rfl ?_)|(refine sl_full (by simp) ?_)|(with_reducible refine gA ?_)|(refine gB ?_)|(with_reducible first|refine c44 Os Js (by omega) (by omega) fun s hs=>?_|refine cwSane ?_|refine nNext raw _ _ (by simp) (by with_reducible assumption) hr fun m p5 hm hp5=>?_)|(refine Ob.intro hfl ?_)|(refine Ob.intro hfo ?_)|refine zG ?_|apply zA|(apply zI;intro h)|exact zT));(all_goals conv=>whnf)
    all_goals try(exfalso;have:=hs.2 l4;simp_all;done)
    all_goals try(exfalso;simp at h;done)
    all_goals try(first|exact .inl rfl|exact .inr rfl)
    obtain rfl:m=0:=by(try simp only[List.length_cons,List.length_nil]at hm);omega
    ·refine Jn.intro (Nat×Rg) (fun g=>⟨20,[(0,tapeO raw g.1),(1,boxT t),(2,boxNt ⟨[a],[c],ws,ts,ps,hds⟩),(3,.box [.os 4 2 0 1,.os 5 2 0 1,.os 6 2 0 ws.length,.os 7 10 0 ts.length,.os 8 6 0 ps.length,.os 9 5 0 hds.length]),(4,.box [.v (.string a.name),.os 10 7 0 (a.items.length+1)]),(5,.box [.v (.string c.name),.os 14 7 0 (c.items.length+1)]),(6,.arr 2 (ws.map encWn)),(7,.arr 10 (ts.map encSm)),(8,.arr 6 (ps.map encPb)),(9,.arr 5 (hds.map encHn)),(10,.arr 7 (a.items.map encIt++[encIt (zX q)])),(14,.arr 7 (c.items.map encIt++[encIt (zY g.2)]))],[(3,.op 0 0),(4,.op 1 0),(5,.op 2 0),(6,.op 3 0),(12,.v (.int .i64 0))]⟩) (fun g=>g.1<=raw.length/\g.2.lo<=g.2.hi/\g.2.hi<=65535) ?_ ?_
     ·(repeat' ((conv=>whnf);first|(refine in_r (by rfl) ?_)|(refine Ix.intro rfl ?_)|(refine sl_full (by simp) ?_)|(refine enRange raw _ 65535 (by decide) (by decide) (by with_reducible assumption) hr fun r p6 r0 r1 hp6=>?_)|refine zG ?_|apply zA|(apply zI;intro h)|exact zT));(all_goals conv=>whnf)
      all_goals
       refine⟨(p6,r),⟨by with_reducible assumption,r0,r1⟩,?_⟩
       (exact leA)
     rintro⟨p6,r⟩ ⟨hp6,r0,r1⟩
     simp only at hp6 r0 r1⊢
     obtain⟨k1,k2,k3,k4⟩:=hsL 0 r c.name r0 r1
     have sA:=fun {K} h=>@hsA c.name K h
     have sB:∀{K:KT},K (.tup [encXs (svcP ⟨[a],addIt [c] 0 (zY r),ws,ts,ps,hds⟩ c.name).1,.v (.int .i64 (svcP ⟨[a],addIt [c] 0 (zY r),ws,ts,ps,hds⟩ c.name).2)]) []->ACall Tryz.prog 24 [.agg [.lst [.agg [.v (.string a.name),.lst (a.items.map encIt++[encIt (zX q)])]],.lst [.agg [.v (.string c.name),.lst (c.items.map encIt++[encIt (zY r)])]],.lst (ws.map encWn),.lst (ts.map encSm),.lst (ps.map encPb),.lst (hds.map encHn)],.v (.string c.name)] [] K:=fun {K} h=>by
      have eE:(AV.agg [.lst [.agg [.v (.string a.name),.lst (a.items.map encIt++[encIt (zX q)])]],.lst [.agg [.v (.string c.name),.lst (c.items.map encIt++[encIt (zY r)])]],.lst (ws.map encWn),.lst (ts.map encSm),.lst (ps.map encPb),.lst (hds.map encHn)])=encNt ⟨addIt [a] 0 (zX q),addIt [c] 0 (zY r),ws,ts,ps,hds⟩:=by simp[addIt]
      rw[eE]
      exact @hsB 0 0 (zX q) (zY r) c.name hxB (hyB r r0 r1) K h
     generalize svcP ⟨[a],addIt [c] 0 (zY r),ws,ts,ps,hds⟩ c.name=T at*
     generalize svcP ⟨[a],[c],ws,ts,ps,hds⟩ c.name=U at*
     obtain⟨Ts,Te⟩:=T
     obtain⟨Us,Ue⟩:=U
     simp only at k1 k2 k3 k4 sA sB
     subst k3
     have hsub:=fun {K} h=>@sub_small Us Ts k1 k2 k4 K h
     (repeat' ((conv=>whnf);first|(refine in_r (by rfl) ?_)|(refine Ix.intro rfl ?_)|(refine sl_full (by simp) ?_)|(with_reducible refine sA ?_)|(refine sB ?_)|(with_reducible first|refine hsub ?_|refine cwSane ?_)|refine zG ?_|apply zA|(apply zI;intro h)|exact zT));(all_goals conv=>whnf)
     all_goals first
      |exact .inl rfl
      |exact .inr rfl
      |(exfalso;simp_all;done)
      |trace_state
   ·obtain rfl:=l5 hz
    obtain rfl:=l6 hz
    have gA:=fun {K:KT} h=>@gA K (fun _ _=>h) (fun h0=>absurd h0 hz)
    have gB:=fun {K:KT} h=>@gB K (fun _ _=>h) (fun h0=>absurd h0 hz)
    (repeat' ((conv=>whnf);first|(refine in_r (by rfl) ?_)|(refine Ix.intro rfl ?_)|(refine sl_full (by simp) ?_)|(with_reducible refine gA ?_)|(refine gB ?_)|(refine c44 [] [] (by simp) (by simp) fun s hs=>?_)|(with_reducible first|refine cwSane ?_|refine nNext raw _ _ (by simp) (by with_reducible assumption) hr fun m p5 hm hp5=>?_)|refine zG ?_|apply zA|(apply zI;intro h)|exact zT));(all_goals conv=>whnf)
    all_goals try(exfalso;have:=hs.2 l4;simp_all;done)
    all_goals try(exfalso;simp at h;done)
    all_goals try(first|exact .inl rfl|exact .inr rfl)
    obtain rfl:m=0:=by(try simp only[List.length_cons,List.length_nil]at hm);omega
    ·refine Jn.intro (Nat×Rg) (fun g=>⟨20,[(0,tapeO raw g.1),(1,boxT t),(2,boxNt ⟨[a],[c],ws,ts,ps,hds⟩),(3,.box [.os 4 2 0 1,.os 5 2 0 1,.os 6 2 0 ws.length,.os 7 10 0 ts.length,.os 8 6 0 ps.length,.os 9 5 0 hds.length]),(4,.box [.v (.string a.name),.os 10 7 0 (a.items.length+1)]),(5,.box [.v (.string c.name),.os 14 7 0 (c.items.length+1)]),(6,.arr 2 (ws.map encWn)),(7,.arr 10 (ts.map encSm)),(8,.arr 6 (ps.map encPb)),(9,.arr 5 (hds.map encHn)),(10,.arr 7 (a.items.map encIt++[encIt (zX q)])),(14,.arr 7 (c.items.map encIt++[encIt (zY g.2)]))],[(3,.op 0 0),(4,.op 1 0),(5,.op 2 0),(6,.op 3 0),(12,.v (.int .i64 0))]⟩) (fun g=>g.1<=raw.length/\g.2.lo<=g.2.hi/\g.2.hi<=65535) ?_ ?_
     ·(repeat' ((conv=>whnf);first|(refine in_r (by rfl) ?_)|(refine Ix.intro rfl ?_)|(refine sl_full (by simp) ?_)|(refine enRange raw _ 65535 (by decide) (by decide) (by with_reducible assumption) hr fun r p6 r0 r1 hp6=>?_)|refine zG ?_|apply zA|(apply zI;intro h)|exact zT));(all_goals conv=>whnf)
      all_goals
       refine⟨(p6,r),⟨by with_reducible assumption,r0,r1⟩,?_⟩
       (exact leA)
     rintro⟨p6,r⟩ ⟨hp6,r0,r1⟩
     simp only at hp6 r0 r1⊢
     obtain⟨k1,k2,k3,k4⟩:=hsL 0 r c.name r0 r1
     have sA:=fun {K} h=>@hsA c.name K h
     have sB:∀{K:KT},K (.tup [encXs (svcP ⟨[a],addIt [c] 0 (zY r),ws,ts,ps,hds⟩ c.name).1,.v (.int .i64 (svcP ⟨[a],addIt [c] 0 (zY r),ws,ts,ps,hds⟩ c.name).2)]) []->ACall Tryz.prog 24 [.agg [.lst [.agg [.v (.string a.name),.lst (a.items.map encIt++[encIt (zX q)])]],.lst [.agg [.v (.string c.name),.lst (c.items.map encIt++[encIt (zY r)])]],.lst (ws.map encWn),.lst (ts.map encSm),.lst (ps.map encPb),.lst (hds.map encHn)],.v (.string c.name)] [] K:=fun {K} h=>by
      have eE:(AV.agg [.lst [.agg [.v (.string a.name),.lst (a.items.map encIt++[encIt (zX q)])]],.lst [.agg [.v (.string c.name),.lst (c.items.map encIt++[encIt (zY r)])]],.lst (ws.map encWn),.lst (ts.map encSm),.lst (ps.map encPb),.lst (hds.map encHn)])=encNt ⟨addIt [a] 0 (zX q),addIt [c] 0 (zY r),ws,ts,ps,hds⟩:=by simp[addIt]
      rw[eE]
      exact @hsB 0 0 (zX q) (zY r) c.name hxB (hyB r r0 r1) K h
     generalize svcP ⟨[a],addIt [c] 0 (zY r),ws,ts,ps,hds⟩ c.name=T at*
     generalize svcP ⟨[a],[c],ws,ts,ps,hds⟩ c.name=U at*
     obtain⟨Ts,Te⟩:=T
     obtain⟨Us,Ue⟩:=U
     simp only at k1 k2 k3 k4 sA sB
     subst k3
     have hsub:=fun {K} h=>@sub_small Us Ts k1 k2 k4 K h
     (repeat' ((conv=>whnf);first|(refine in_r (by rfl) ?_)|(refine Ix.intro rfl ?_)|(refine sl_full (by simp) ?_)|(with_reducible refine sA ?_)|(refine sB ?_)|(with_reducible first|refine hsub ?_|refine cwSane ?_)|refine zG ?_|apply zA|(apply zI;intro h)|exact zT));(all_goals conv=>whnf)
     all_goals first
      |exact .inl rfl
      |exact .inr rfl
      |(exfalso;simp_all;done)
      |trace_state
 ·have haa:=hgi a (by simp)
  have hcc:=hsi c (by simp)
  have hdd:=hsi d (by simp)
  (repeat' ((conv=>whnf);first|(with_reducible first|refine hcp ?_|refine nNext raw _ _ (by simp) (by with_reducible assumption) hr fun n p3 hn hp3=>?_)|refine zG ?_|apply zA|(apply zI;intro h)|exact zT));(all_goals conv=>whnf)
  obtain rfl:n=0:=by simp only[List.length_cons,List.length_nil]at hn;omega
  ·refine Jn.intro (Nat×Pf) (fun g=>⟨20,[(0,tapeO raw g.1),(1,boxT t),(2,boxNt ⟨[a],[c,d],ws,ts,ps,hds⟩),(3,.box [.os 4 2 0 1,.os 5 2 0 2,.os 6 2 0 ws.length,.os 7 10 0 ts.length,.os 8 6 0 ps.length,.os 9 5 0 hds.length]),(4,.box [.v (.string a.name),.os 10 7 0 (a.items.length+1)]),(5,.box [.v (.string c.name),.os 14 7 0 c.items.length,.v (.string d.name),.os 15 7 0 d.items.length]),(6,.arr 2 (ws.map encWn)),(7,.arr 10 (ts.map encSm)),(8,.arr 6 (ps.map encPb)),(9,.arr 5 (hds.map encHn)),(10,.arr 7 (a.items.map encIt++[encIt (zX g.2)])),(14,.arr 7 (c.items.map encIt)),(15,.arr 7 (d.items.map encIt))],[(3,.op 0 0),(4,.op 1 0),(5,.op 2 0),(6,.op 3 0),(7,.v (.int .i64 0))]⟩) (fun g=>g.1<=raw.length/\g.2.okP) ?_ ?_
   ·(repeat' ((conv=>whnf);first|(refine in_r (by rfl) ?_)|(refine Ix.intro rfl ?_)|(refine sl_full (by simp) ?_)|(with_reducible refine enPref raw _ (by with_reducible assumption) hr fun q p4 hq hp4=>?_)|refine zG ?_|apply zA|(apply zI;intro h)|exact zT));(all_goals conv=>whnf)
    all_goals
     refine⟨(p4,q),⟨by with_reducible assumption,hq⟩,?_⟩
     (exact leA)
   rintro⟨p4,q⟩ ⟨hp4,hq⟩
   simp only at hp4 hq⊢
   have hxB:=itB_sub hq
   obtain⟨l1,l2,l3,l4⟩:=hgL 0 (zX q) a.name rfl
   have gA:=fun {K} h1 h2=>@hgA a.name K h1 h2
   have gB:∀{K:KT},((grpP t ⟨addIt [a] 0 (zX q),[c,d],ws,ts,ps,hds⟩ a.name).2≠0->(grpP t ⟨addIt [a] 0 (zX q),[c,d],ws,ts,ps,hds⟩ a.name).1=[]->K (.tup [.lst [],.v (.int .i64 (grpP t ⟨addIt [a] 0 (zX q),[c,d],ws,ts,ps,hds⟩ a.name).2)]) [])->((grpP t ⟨addIt [a] 0 (zX q),[c,d],ws,ts,ps,hds⟩ a.name).2=0->K (.tup [.os 0 2 0 (grpP t ⟨addIt [a] 0 (zX q),[c,d],ws,ts,ps,hds⟩ a.name).1.length,.v (.int .i64 0)]) [.arr 2 ((grpP t ⟨addIt [a] 0 (zX q),[c,d],ws,ts,ps,hds⟩ a.name).1.map encR)])->ACall Tryz.prog 13 [encT t,.agg [.lst [.agg [.v (.string a.name),.lst (a.items.map encIt++[encIt (zX q)])]],.lst [.agg [.v (.string c.name),.lst (c.items.map encIt)],.agg [.v (.string d.name),.lst (d.items.map encIt)]],.lst (ws.map encWn),.lst (ts.map encSm),.lst (ps.map encPb),.lst (hds.map encHn)],.v (.string a.name)] [] K:=fun {K} h1 h2=>by
    have eE:(AV.agg [.lst [.agg [.v (.string a.name),.lst (a.items.map encIt++[encIt (zX q)])]],.lst [.agg [.v (.string c.name),.lst (c.items.map encIt)],.agg [.v (.string d.name),.lst (d.items.map encIt)]],.lst (ws.map encWn),.lst (ts.map encSm),.lst (ps.map encPb),.lst (hds.map encHn)])=encNt ⟨addIt [a] 0 (zX q),[c,d],ws,ts,ps,hds⟩:=by simp[addIt]
    rw[eE]
    exact @hgB 0 (zX q) a.name hxB K h1 h2
   have l5:=grpP_errO t ⟨addIt [a] 0 (zX q),[c,d],ws,ts,ps,hds⟩ a.name
   have l6:=grpP_errO t ⟨[a],[c,d],ws,ts,ps,hds⟩ a.name
   generalize grpP t ⟨addIt [a] 0 (zX q),[c,d],ws,ts,ps,hds⟩ a.name=J at*
   generalize grpP t ⟨[a],[c,d],ws,ts,ps,hds⟩ a.name=O at*
   obtain⟨Js,Je⟩:=J
   obtain⟨Os,Oe⟩:=O
   simp only at l1 l2 l3 l4 l5 l6 gA gB
   subst l3
   have hfl:=flat_encR Js
   have hfo:=flat_encR Os
   by_cases hz:Oe=0
   ·subst hz
    have gB:=fun {K:KT} h=>@gB K (fun h0=>absurd rfl h0) (fun _=>h)
    have gA:=fun {K:KT} h=>@gA K (fun h0=>absurd rfl h0) (fun _=>h)
    (repeat' ((conv=>whnf);first|(refine in_r (by rfl) ?_)|(refine Ix.intro rfl ?_)|(refine sl_full (by simp) ?_)|(with_reducible refine gA ?_)|(refine gB ?_)|(with_reducible first|refine c44 Os Js (by omega) (by omega) fun s hs=>?_|refine cwSane ?_|refine nNext raw _ _ (by simp) (by with_reducible assumption) hr fun m p5 hm hp5=>?_)|(refine Ob.intro hfl ?_)|(refine Ob.intro hfo ?_)|refine zG ?_|apply zA|(apply zI;intro h)|exact zT));(all_goals conv=>whnf)
    all_goals try(exfalso;have:=hs.2 l4;simp_all;done)
    all_goals try(exfalso;simp at h;done)
    all_goals try(first|exact .inl rfl|exact .inr rfl)
    obtain rfl|rfl:m=0\/m=1:=by(try simp only[List.length_cons,List.length_nil]at hm);omega
    ·refine Jn.intro (Nat×Rg) (fun g=>⟨20,[(0,tapeO raw g.1),(1,boxT t),(2,boxNt ⟨[a],[c,d],ws,ts,ps,hds⟩),(3,.box [.os 4 2 0 1,.os 5 2 0 2,.os 6 2 0 ws.length,.os 7 10 0 ts.length,.os 8 6 0 ps.length,.os 9 5 0 hds.length]),(4,.box [.v (.string a.name),.os 10 7 0 (a.items.length+1)]),(5,.box [.v (.string c.name),.os 14 7 0 (c.items.length+1),.v (.string d.name),.os 15 7 0 d.items.length]),(6,.arr 2 (ws.map encWn)),(7,.arr 10 (ts.map encSm)),(8,.arr 6 (ps.map encPb)),(9,.arr 5 (hds.map encHn)),(10,.arr 7 (a.items.map encIt++[encIt (zX q)])),(14,.arr 7 (c.items.map encIt++[encIt (zY g.2)])),(15,.arr 7 (d.items.map encIt))],[(3,.op 0 0),(4,.op 1 0),(5,.op 2 0),(6,.op 3 0),(12,.v (.int .i64 0))]⟩) (fun g=>g.1<=raw.length/\g.2.lo<=g.2.hi/\g.2.hi<=65535) ?_ ?_
     ·(repeat' ((conv=>whnf);first|(refine in_r (by rfl) ?_)|(refine Ix.intro rfl ?_)|(refine sl_full (by simp) ?_)|(refine enRange raw _ 65535 (by decide) (by decide) (by with_reducible assumption) hr fun r p6 r0 r1 hp6=>?_)|refine zG ?_|apply zA|(apply zI;intro h)|exact zT));(all_goals conv=>whnf)
      all_goals
       refine⟨(p6,r),⟨by with_reducible assumption,r0,r1⟩,?_⟩
       (exact leA)
     rintro⟨p6,r⟩ ⟨hp6,r0,r1⟩
     simp only at hp6 r0 r1⊢
     obtain⟨k1,k2,k3,k4⟩:=hsL 0 r c.name r0 r1
     have sA:=fun {K} h=>@hsA c.name K h
     have sB:∀{K:KT},K (.tup [encXs (svcP ⟨[a],addIt [c,d] 0 (zY r),ws,ts,ps,hds⟩ c.name).1,.v (.int .i64 (svcP ⟨[a],addIt [c,d] 0 (zY r),ws,ts,ps,hds⟩ c.name).2)]) []->ACall Tryz.prog 24 [.agg [.lst [.agg [.v (.string a.name),.lst (a.items.map encIt++[encIt (zX q)])]],.lst [.agg [.v (.string c.name),.lst (c.items.map encIt++[encIt (zY r)])],.agg [.v (.string d.name),.lst (d.items.map encIt)]],.lst (ws.map encWn),.lst (ts.map encSm),.lst (ps.map encPb),.lst (hds.map encHn)],.v (.string c.name)] [] K:=fun {K} h=>by
      have eE:(AV.agg [.lst [.agg [.v (.string a.name),.lst (a.items.map encIt++[encIt (zX q)])]],.lst [.agg [.v (.string c.name),.lst (c.items.map encIt++[encIt (zY r)])],.agg [.v (.string d.name),.lst (d.items.map encIt)]],.lst (ws.map encWn),.lst (ts.map encSm),.lst (ps.map encPb),.lst (hds.map encHn)])=encNt ⟨addIt [a] 0 (zX q),addIt [c,d] 0 (zY r),ws,ts,ps,hds⟩:=by simp[addIt]
      rw[eE]
      exact @hsB 0 0 (zX q) (zY r) c.name hxB (hyB r r0 r1) K h
     generalize svcP ⟨[a],addIt [c,d] 0 (zY r),ws,ts,ps,hds⟩ c.name=T at*
     generalize svcP ⟨[a],[c,d],ws,ts,ps,hds⟩ c.name=U at*
     obtain⟨Ts,Te⟩:=T
     obtain⟨Us,Ue⟩:=U
     simp only at k1 k2 k3 k4 sA sB
     subst k3
     have hsub:=fun {K} h=>@sub_small Us Ts k1 k2 k4 K h
     (repeat' ((conv=>whnf);first|(refine in_r (by rfl) ?_)|(refine Ix.intro rfl ?_)|(refine sl_full (by simp) ?_)|(with_reducible refine sA ?_)|(refine sB ?_)|(with_reducible first|refine hsub ?_|refine cwSane ?_)|refine zG ?_|apply zA|(apply zI;intro h)|exact zT));(all_goals conv=>whnf)
     all_goals first
      |exact .inl rfl
      |exact .inr rfl
      |(exfalso;simp_all;done)
      |trace_state
    ·refine Jn.intro (Nat×Rg) (fun g=>⟨20,[(0,tapeO raw g.1),(1,boxT t),(2,boxNt ⟨[a],[c,d],ws,ts,ps,hds⟩),(3,.box [.os 4 2 0 1,.os 5 2 0 2,.os 6 2 0 ws.length,.os 7 10 0 ts.length,.os 8 6 0 ps.length,.os 9 5 0 hds.length]),(4,.box [.v (.string a.name),.os 10 7 0 (a.items.length+1)]),(5,.box [.v (.string c.name),.os 14 7 0 c.items.length,.v (.string d.name),.os 15 7 0 (d.items.length+1)]),(6,.arr 2 (ws.map encWn)),(7,.arr 10 (ts.map encSm)),(8,.arr 6 (ps.map encPb)),(9,.arr 5 (hds.map encHn)),(10,.arr 7 (a.items.map encIt++[encIt (zX q)])),(14,.arr 7 (c.items.map encIt)),(15,.arr 7 (d.items.map encIt++[encIt (zY g.2)]))],[(3,.op 0 0),(4,.op 1 0),(5,.op 2 0),(6,.op 3 0),(12,.v (.int .i64 1))]⟩) (fun g=>g.1<=raw.length/\g.2.lo<=g.2.hi/\g.2.hi<=65535) ?_ ?_
     ·(repeat' ((conv=>whnf);first|(refine in_r (by rfl) ?_)|(refine Ix.intro rfl ?_)|(refine sl_full (by simp) ?_)|(refine enRange raw _ 65535 (by decide) (by decide) (by with_reducible assumption) hr fun r p6 r0 r1 hp6=>?_)|refine zG ?_|apply zA|(apply zI;intro h)|exact zT));(all_goals conv=>whnf)
      all_goals
       refine⟨(p6,r),⟨by with_reducible assumption,r0,r1⟩,?_⟩
       (exact leA)
     rintro⟨p6,r⟩ ⟨hp6,r0,r1⟩
     simp only at hp6 r0 r1⊢
     obtain⟨k1,k2,k3,k4⟩:=hsL 1 r d.name r0 r1
     have sA:=fun {K} h=>@hsA d.name K h
     have sB:∀{K:KT},K (.tup [encXs (svcP ⟨[a],addIt [c,d] 1 (zY r),ws,ts,ps,hds⟩ d.name).1,.v (.int .i64 (svcP ⟨[a],addIt [c,d] 1 (zY r),ws,ts,ps,hds⟩ d.name).2)]) []->ACall Tryz.prog 24 [.agg [.lst [.agg [.v (.string a.name),.lst (a.items.map encIt++[encIt (zX q)])]],.lst [.agg [.v (.string c.name),.lst (c.items.map encIt)],.agg [.v (.string d.name),.lst (d.items.map encIt++[encIt (zY r)])]],.lst (ws.map encWn),.lst (ts.map encSm),.lst (ps.map encPb),.lst (hds.map encHn)],.v (.string d.name)] [] K:=fun {K} h=>by
      have eE:(AV.agg [.lst [.agg [.v (.string a.name),.lst (a.items.map encIt++[encIt (zX q)])]],.lst [.agg [.v (.string c.name),.lst (c.items.map encIt)],.agg [.v (.string d.name),.lst (d.items.map encIt++[encIt (zY r)])]],.lst (ws.map encWn),.lst (ts.map encSm),.lst (ps.map encPb),.lst (hds.map encHn)])=encNt ⟨addIt [a] 0 (zX q),addIt [c,d] 1 (zY r),ws,ts,ps,hds⟩:=by simp[addIt]
      rw[eE]
      exact @hsB 0 1 (zX q) (zY r) d.name hxB (hyB r r0 r1) K h
     generalize svcP ⟨[a],addIt [c,d] 1 (zY r),ws,ts,ps,hds⟩ d.name=T at*
     generalize svcP ⟨[a],[c,d],ws,ts,ps,hds⟩ d.name=U at*
     obtain⟨Ts,Te⟩:=T
     obtain⟨Us,Ue⟩:=U
     simp only at k1 k2 k3 k4 sA sB
     subst k3
     have hsub:=fun {K} h=>@sub_small Us Ts k1 k2 k4 K h
     (repeat' ((conv=>whnf);first|(refine in_r (by rfl) ?_)|(refine Ix.intro rfl ?_)|(refine sl_full (by simp) ?_)|(with_reducible refine sA ?_)|(refine sB ?_)|(with_reducible first|refine hsub ?_|refine cwSane ?_)|refine zG ?_|apply zA|(apply zI;intro h)|exact zT));(all_goals conv=>whnf)
     all_goals first
      |exact .inl rfl
      |exact .inr rfl
      |(exfalso;simp_all;done)
      |trace_state
   ·obtain rfl:=l5 hz
    obtain rfl:=l6 hz
    have gA:=fun {K:KT} h=>@gA K (fun _ _=>h) (fun h0=>absurd h0 hz)
    have gB:=fun {K:KT} h=>@gB K (fun _ _=>h) (fun h0=>absurd h0 hz)
    (repeat' ((conv=>whnf);first|(refine in_r (by rfl) ?_)|(refine Ix.intro rfl ?_)|(refine sl_full (by simp) ?_)|(with_reducible refine gA ?_)|(refine gB ?_)|(refine c44 [] [] (by simp) (by simp) fun s hs=>?_)|(with_reducible first|refine cwSane ?_|refine nNext raw _ _ (by simp) (by with_reducible assumption) hr fun m p5 hm hp5=>?_)|refine zG ?_|apply zA|(apply zI;intro h)|exact zT));(all_goals conv=>whnf)
    all_goals try(exfalso;have:=hs.2 l4;simp_all;done)
    all_goals try(exfalso;simp at h;done)
    all_goals try(first|exact .inl rfl|exact .inr rfl)
    obtain rfl|rfl:m=0\/m=1:=by(try simp only[List.length_cons,List.length_nil]at hm);omega
    ·refine Jn.intro (Nat×Rg) (fun g=>⟨20,[(0,tapeO raw g.1),(1,boxT t),(2,boxNt ⟨[a],[c,d],ws,ts,ps,hds⟩),(3,.box [.os 4 2 0 1,.os 5 2 0 2,.os 6 2 0 ws.length,.os 7 10 0 ts.length,.os 8 6 0 ps.length,.os 9 5 0 hds.length]),(4,.box [.v (.string a.name),.os 10 7 0 (a.items.length+1)]),(5,.box [.v (.string c.name),.os 14 7 0 (c.items.length+1),.v (.string d.name),.os 15 7 0 d.items.length]),(6,.arr 2 (ws.map encWn)),(7,.arr 10 (ts.map encSm)),(8,.arr 6 (ps.map encPb)),(9,.arr 5 (hds.map encHn)),(10,.arr 7 (a.items.map encIt++[encIt (zX q)])),(14,.arr 7 (c.items.map encIt++[encIt (zY g.2)])),(15,.arr 7 (d.items.map encIt))],[(3,.op 0 0),(4,.op 1 0),(5,.op 2 0),(6,.op 3 0),(12,.v (.int .i64 0))]⟩) (fun g=>g.1<=raw.length/\g.2.lo<=g.2.hi/\g.2.hi<=65535) ?_ ?_
     ·(repeat' ((conv=>whnf);first|(refine in_r (by rfl) ?_)|(refine Ix.intro rfl ?_)|(refine sl_full (by simp) ?_)|(refine enRange raw _ 65535 (by decide) (by decide) (by with_reducible assumption) hr fun r p6 r0 r1 hp6=>?_)|refine zG ?_|apply zA|(apply zI;intro h)|exact zT));(all_goals conv=>whnf)
      all_goals
       refine⟨(p6,r),⟨by with_reducible assumption,r0,r1⟩,?_⟩
       (exact leA)
     rintro⟨p6,r⟩ ⟨hp6,r0,r1⟩
     simp only at hp6 r0 r1⊢
     obtain⟨k1,k2,k3,k4⟩:=hsL 0 r c.name r0 r1
     have sA:=fun {K} h=>@hsA c.name K h
     have sB:∀{K:KT},K (.tup [encXs (svcP ⟨[a],addIt [c,d] 0 (zY r),ws,ts,ps,hds⟩ c.name).1,.v (.int .i64 (svcP ⟨[a],addIt [c,d] 0 (zY r),ws,ts,ps,hds⟩ c.name).2)]) []->ACall Tryz.prog 24 [.agg [.lst [.agg [.v (.string a.name),.lst (a.items.map encIt++[encIt (zX q)])]],.lst [.agg [.v (.string c.name),.lst (c.items.map encIt++[encIt (zY r)])],.agg [.v (.string d.name),.lst (d.items.map encIt)]],.lst (ws.map encWn),.lst (ts.map encSm),.lst (ps.map encPb),.lst (hds.map encHn)],.v (.string c.name)] [] K:=fun {K} h=>by
      have eE:(AV.agg [.lst [.agg [.v (.string a.name),.lst (a.items.map encIt++[encIt (zX q)])]],.lst [.agg [.v (.string c.name),.lst (c.items.map encIt++[encIt (zY r)])],.agg [.v (.string d.name),.lst (d.items.map encIt)]],.lst (ws.map encWn),.lst (ts.map encSm),.lst (ps.map encPb),.lst (hds.map encHn)])=encNt ⟨addIt [a] 0 (zX q),addIt [c,d] 0 (zY r),ws,ts,ps,hds⟩:=by simp[addIt]
      rw[eE]
      exact @hsB 0 0 (zX q) (zY r) c.name hxB (hyB r r0 r1) K h
     generalize svcP ⟨[a],addIt [c,d] 0 (zY r),ws,ts,ps,hds⟩ c.name=T at*
     generalize svcP ⟨[a],[c,d],ws,ts,ps,hds⟩ c.name=U at*
     obtain⟨Ts,Te⟩:=T
     obtain⟨Us,Ue⟩:=U
     simp only at k1 k2 k3 k4 sA sB
     subst k3
     have hsub:=fun {K} h=>@sub_small Us Ts k1 k2 k4 K h
     (repeat' ((conv=>whnf);first|(refine in_r (by rfl) ?_)|(refine Ix.intro rfl ?_)|(refine sl_full (by simp) ?_)|(with_reducible refine sA ?_)|(refine sB ?_)|(with_reducible first|refine hsub ?_|refine cwSane ?_)|refine zG ?_|apply zA|(apply zI;intro h)|exact zT));(all_goals conv=>whnf)
     all_goals first
      |exact .inl rfl
      |exact .inr rfl
      |(exfalso;simp_all;done)
      |trace_state
    ·refine Jn.intro (Nat×Rg) (fun g=>⟨20,[(0,tapeO raw g.1),(1,boxT t),(2,boxNt ⟨[a],[c,d],ws,ts,ps,hds⟩),(3,.box [.os 4 2 0 1,.os 5 2 0 2,.os 6 2 0 ws.length,.os 7 10 0 ts.length,.os 8 6 0 ps.length,.os 9 5 0 hds.length]),(4,.box [.v (.string a.name),.os 10 7 0 (a.items.length+1)]),(5,.box [.v (.string c.name),.os 14 7 0 c.items.length,.v (.string d.name),.os 15 7 0 (d.items.length+1)]),(6,.arr 2 (ws.map encWn)),(7,.arr 10 (ts.map encSm)),(8,.arr 6 (ps.map encPb)),(9,.arr 5 (hds.map encHn)),(10,.arr 7 (a.items.map encIt++[encIt (zX q)])),(14,.arr 7 (c.items.map encIt)),(15,.arr 7 (d.items.map encIt++[encIt (zY g.2)]))],[(3,.op 0 0),(4,.op 1 0),(5,.op 2 0),(6,.op 3 0),(12,.v (.int .i64 1))]⟩) (fun g=>g.1<=raw.length/\g.2.lo<=g.2.hi/\g.2.hi<=65535) ?_ ?_
     ·(repeat' ((conv=>whnf);first|(refine in_r (by rfl) ?_)|(refine Ix.intro rfl ?_)|(refine sl_full (by simp) ?_)|(refine enRange raw _ 65535 (by decide) (by decide) (by with_reducible assumption) hr fun r p6 r0 r1 hp6=>?_)|refine zG ?_|apply zA|(apply zI;intro h)|exact zT));(all_goals conv=>whnf)
      all_goals
       refine⟨(p6,r),⟨by with_reducible assumption,r0,r1⟩,?_⟩
       (exact leA)
     rintro⟨p6,r⟩ ⟨hp6,r0,r1⟩
     simp only at hp6 r0 r1⊢
     obtain⟨k1,k2,k3,k4⟩:=hsL 1 r d.name r0 r1
     have sA:=fun {K} h=>@hsA d.name K h
     have sB:∀{K:KT},K (.tup [encXs (svcP ⟨[a],addIt [c,d] 1 (zY r),ws,ts,ps,hds⟩ d.name).1,.v (.int .i64 (svcP ⟨[a],addIt [c,d] 1 (zY r),ws,ts,ps,hds⟩ d.name).2)]) []->ACall Tryz.prog 24 [.agg [.lst [.agg [.v (.string a.name),.lst (a.items.map encIt++[encIt (zX q)])]],.lst [.agg [.v (.string c.name),.lst (c.items.map encIt)],.agg [.v (.string d.name),.lst (d.items.map encIt++[encIt (zY r)])]],.lst (ws.map encWn),.lst (ts.map encSm),.lst (ps.map encPb),.lst (hds.map encHn)],.v (.string d.name)] [] K:=fun {K} h=>by
      have eE:(AV.agg [.lst [.agg [.v (.string a.name),.lst (a.items.map encIt++[encIt (zX q)])]],.lst [.agg [.v (.string c.name),.lst (c.items.map encIt)],.agg [.v (.string d.name),.lst (d.items.map encIt++[encIt (zY r)])]],.lst (ws.map encWn),.lst (ts.map encSm),.lst (ps.map encPb),.lst (hds.map encHn)])=encNt ⟨addIt [a] 0 (zX q),addIt [c,d] 1 (zY r),ws,ts,ps,hds⟩:=by simp[addIt]
      rw[eE]
      exact @hsB 0 1 (zX q) (zY r) d.name hxB (hyB r r0 r1) K h
     generalize svcP ⟨[a],addIt [c,d] 1 (zY r),ws,ts,ps,hds⟩ d.name=T at*
     generalize svcP ⟨[a],[c,d],ws,ts,ps,hds⟩ d.name=U at*
     obtain⟨Ts,Te⟩:=T
     obtain⟨Us,Ue⟩:=U
     simp only at k1 k2 k3 k4 sA sB
     subst k3
     have hsub:=fun {K} h=>@sub_small Us Ts k1 k2 k4 K h
     (repeat' ((conv=>whnf);first|(refine in_r (by rfl) ?_)|(refine Ix.intro rfl ?_)|(refine sl_full (by simp) ?_)|(with_reducible refine sA ?_)|(refine sB ?_)|(with_reducible first|refine hsub ?_|refine cwSane ?_)|refine zG ?_|apply zA|(apply zI;intro h)|exact zT));(all_goals conv=>whnf)
     all_goals first
      |exact .inl rfl
      |exact .inr rfl
      |(exfalso;simp_all;done)
      |trace_state
 ·have haa:=hgi a (by simp)
  have hbb:=hgi b (by simp)
  (repeat' ((conv=>whnf);first|(with_reducible first|refine hcp ?_|refine nNext raw _ _ (by simp) (by with_reducible assumption) hr fun n p3 hn hp3=>?_)|refine zG ?_|apply zA|(apply zI;intro h)|exact zT));(all_goals conv=>whnf)
  obtain rfl|rfl:n=0\/n=1:=by simp only[List.length_cons,List.length_nil]at hn;omega
  ·refine Jn.intro (Nat×Pf) (fun g=>⟨20,[(0,tapeO raw g.1),(1,boxT t),(2,boxNt ⟨[a,b],[],ws,ts,ps,hds⟩),(3,.box [.os 4 2 0 2,.os 5 2 0 0,.os 6 2 0 ws.length,.os 7 10 0 ts.length,.os 8 6 0 ps.length,.os 9 5 0 hds.length]),(4,.box [.v (.string a.name),.os 10 7 0 (a.items.length+1),.v (.string b.name),.os 11 7 0 b.items.length]),(5,.arr 2 []),(6,.arr 2 (ws.map encWn)),(7,.arr 10 (ts.map encSm)),(8,.arr 6 (ps.map encPb)),(9,.arr 5 (hds.map encHn)),(10,.arr 7 (a.items.map encIt++[encIt (zX g.2)])),(11,.arr 7 (b.items.map encIt))],[(3,.op 0 0),(4,.op 1 0),(5,.op 2 0),(6,.op 3 0),(7,.v (.int .i64 0))]⟩) (fun g=>g.1<=raw.length/\g.2.okP) ?_ ?_
   ·(repeat' ((conv=>whnf);first|(refine in_r (by rfl) ?_)|(refine Ix.intro rfl ?_)|(refine sl_full (by simp) ?_)|(with_reducible refine enPref raw _ (by with_reducible assumption) hr fun q p4 hq hp4=>?_)|refine zG ?_|apply zA|(apply zI;intro h)|exact zT));(all_goals conv=>whnf)
    all_goals
     refine⟨(p4,q),⟨by with_reducible assumption,hq⟩,?_⟩
     (exact leA)
   rintro⟨p4,q⟩ ⟨hp4,hq⟩
   simp only at hp4 hq⊢
   have hxB:=itB_sub hq
   obtain⟨l1,l2,l3,l4⟩:=hgL 0 (zX q) a.name rfl
   have gA:=fun {K} h1 h2=>@hgA a.name K h1 h2
   have gB:∀{K:KT},((grpP t ⟨addIt [a,b] 0 (zX q),[],ws,ts,ps,hds⟩ a.name).2≠0->(grpP t ⟨addIt [a,b] 0 (zX q),[],ws,ts,ps,hds⟩ a.name).1=[]->K (.tup [.lst [],.v (.int .i64 (grpP t ⟨addIt [a,b] 0 (zX q),[],ws,ts,ps,hds⟩ a.name).2)]) [])->((grpP t ⟨addIt [a,b] 0 (zX q),[],ws,ts,ps,hds⟩ a.name).2=0->K (.tup [.os 0 2 0 (grpP t ⟨addIt [a,b] 0 (zX q),[],ws,ts,ps,hds⟩ a.name).1.length,.v (.int .i64 0)]) [.arr 2 ((grpP t ⟨addIt [a,b] 0 (zX q),[],ws,ts,ps,hds⟩ a.name).1.map encR)])->ACall Tryz.prog 13 [encT t,.agg [.lst [.agg [.v (.string a.name),.lst (a.items.map encIt++[encIt (zX q)])],.agg [.v (.string b.name),.lst (b.items.map encIt)]],.lst [],.lst (ws.map encWn),.lst (ts.map encSm),.lst (ps.map encPb),.lst (hds.map encHn)],.v (.string a.name)] [] K:=fun {K} h1 h2=>by
    have eE:(AV.agg [.lst [.agg [.v (.string a.name),.lst (a.items.map encIt++[encIt (zX q)])],.agg [.v (.string b.name),.lst (b.items.map encIt)]],.lst [],.lst (ws.map encWn),.lst (ts.map encSm),.lst (ps.map encPb),.lst (hds.map encHn)])=encNt ⟨addIt [a,b] 0 (zX q),[],ws,ts,ps,hds⟩:=by simp[addIt]
    rw[eE]
    exact @hgB 0 (zX q) a.name hxB K h1 h2
   have l5:=grpP_errO t ⟨addIt [a,b] 0 (zX q),[],ws,ts,ps,hds⟩ a.name
   have l6:=grpP_errO t ⟨[a,b],[],ws,ts,ps,hds⟩ a.name
   generalize grpP t ⟨addIt [a,b] 0 (zX q),[],ws,ts,ps,hds⟩ a.name=J at*
   generalize grpP t ⟨[a,b],[],ws,ts,ps,hds⟩ a.name=O at*
   obtain⟨Js,Je⟩:=J
   obtain⟨Os,Oe⟩:=O
   simp only at l1 l2 l3 l4 l5 l6 gA gB
   subst l3
   have hfl:=flat_encR Js
   have hfo:=flat_encR Os
   by_cases hz:Oe=0
   ·subst hz
    have gB:=fun {K:KT} h=>@gB K (fun h0=>absurd rfl h0) (fun _=>h)
    have gA:=fun {K:KT} h=>@gA K (fun h0=>absurd rfl h0) (fun _=>h)
    (repeat' ((conv=>whnf);first|(refine in_r (by rfl) ?_)|(refine Ix.intro rfl ?_)|(refine sl_full (by simp) ?_)|(with_reducible refine gA ?_)|(refine gB ?_)|(with_reducible first|refine c44 Os Js (by omega) (by omega) fun s hs=>?_|refine cwSane ?_)|(refine Ob.intro hfl ?_)|(refine Ob.intro hfo ?_)|refine zG ?_|apply zA|(apply zI;intro h)|exact zT));(all_goals conv=>whnf)
    all_goals first
     |exact .inl rfl
     |exact .inr rfl
     |(exfalso
       have:=hs.2 l4
       simp_all;done)
     |(exfalso;simp at h;done)
     |trace_state
   ·obtain rfl:=l5 hz
    obtain rfl:=l6 hz
    have gA:=fun {K:KT} h=>@gA K (fun _ _=>h) (fun h0=>absurd h0 hz)
    have gB:=fun {K:KT} h=>@gB K (fun _ _=>h) (fun h0=>absurd h0 hz)
    (repeat' ((conv=>whnf);first|(refine in_r (by rfl) ?_)|(refine Ix.intro rfl ?_)|(refine sl_full (by simp) ?_)|(with_reducible refine gA ?_)|(refine gB ?_)|(refine c44 [] [] (by simp) (by simp) fun s hs=>?_)|(with_reducible refine cwSane ?_)|refine zG ?_|apply zA|(apply zI;intro h)|exact zT));(all_goals conv=>whnf)
    all_goals first
     |exact .inl rfl
     |exact .inr rfl
     |(exfalso
       have:=hs.2 l4
       simp_all;done)
     |(exfalso;simp at h;done)
     |trace_state
  ·refine Jn.intro (Nat×Pf) (fun g=>⟨20,[(0,tapeO raw g.1),(1,boxT t),(2,boxNt ⟨[a,b],[],ws,ts,ps,hds⟩),(3,.box [.os 4 2 0 2,.os 5 2 0 0,.os 6 2 0 ws.length,.os 7 10 0 ts.length,.os 8 6 0 ps.length,.os 9 5 0 hds.length]),(4,.box [.v (.string a.name),.os 10 7 0 a.items.length,.v (.string b.name),.os 11 7 0 (b.items.length+1)]),(5,.arr 2 []),(6,.arr 2 (ws.map encWn)),(7,.arr 10 (ts.map encSm)),(8,.arr 6 (ps.map encPb)),(9,.arr 5 (hds.map encHn)),(10,.arr 7 (a.items.map encIt)),(11,.arr 7 (b.items.map encIt++[encIt (zX g.2)]))],[(3,.op 0 0),(4,.op 1 0),(5,.op 2 0),(6,.op 3 0),(7,.v (.int .i64 1))]⟩) (fun g=>g.1<=raw.length/\g.2.okP) ?_ ?_
   ·(repeat' ((conv=>whnf);first|(refine in_r (by rfl) ?_)|(refine Ix.intro rfl ?_)|(refine sl_full (by simp) ?_)|(with_reducible refine enPref raw _ (by with_reducible assumption) hr fun q p4 hq hp4=>?_)|refine zG ?_|apply zA|(apply zI;intro h)|exact zT));(all_goals conv=>whnf)
    all_goals
     refine⟨(p4,q),⟨by with_reducible assumption,hq⟩,?_⟩
     (exact leA)
   rintro⟨p4,q⟩ ⟨hp4,hq⟩
   simp only at hp4 hq⊢
   have hxB:=itB_sub hq
   obtain⟨l1,l2,l3,l4⟩:=hgL 1 (zX q) b.name rfl
   have gA:=fun {K} h1 h2=>@hgA b.name K h1 h2
   have gB:∀{K:KT},((grpP t ⟨addIt [a,b] 1 (zX q),[],ws,ts,ps,hds⟩ b.name).2≠0->(grpP t ⟨addIt [a,b] 1 (zX q),[],ws,ts,ps,hds⟩ b.name).1=[]->K (.tup [.lst [],.v (.int .i64 (grpP t ⟨addIt [a,b] 1 (zX q),[],ws,ts,ps,hds⟩ b.name).2)]) [])->((grpP t ⟨addIt [a,b] 1 (zX q),[],ws,ts,ps,hds⟩ b.name).2=0->K (.tup [.os 0 2 0 (grpP t ⟨addIt [a,b] 1 (zX q),[],ws,ts,ps,hds⟩ b.name).1.length,.v (.int .i64 0)]) [.arr 2 ((grpP t ⟨addIt [a,b] 1 (zX q),[],ws,ts,ps,hds⟩ b.name).1.map encR)])->ACall Tryz.prog 13 [encT t,.agg [.lst [.agg [.v (.string a.name),.lst (a.items.map encIt)],.agg [.v (.string b.name),.lst (b.items.map encIt++[encIt (zX q)])]],.lst [],.lst (ws.map encWn),.lst (ts.map encSm),.lst (ps.map encPb),.lst (hds.map encHn)],.v (.string b.name)] [] K:=fun {K} h1 h2=>by
    have eE:(AV.agg [.lst [.agg [.v (.string a.name),.lst (a.items.map encIt)],.agg [.v (.string b.name),.lst (b.items.map encIt++[encIt (zX q)])]],.lst [],.lst (ws.map encWn),.lst (ts.map encSm),.lst (ps.map encPb),.lst (hds.map encHn)])=encNt ⟨addIt [a,b] 1 (zX q),[],ws,ts,ps,hds⟩:=by simp[addIt]
    rw[eE]
    exact @hgB 1 (zX q) b.name hxB K h1 h2
   have l5:=grpP_errO t ⟨addIt [a,b] 1 (zX q),[],ws,ts,ps,hds⟩ b.name
   have l6:=grpP_errO t ⟨[a,b],[],ws,ts,ps,hds⟩ b.name
   generalize grpP t ⟨addIt [a,b] 1 (zX q),[],ws,ts,ps,hds⟩ b.name=J at*
   generalize grpP t ⟨[a,b],[],ws,ts,ps,hds⟩ b.name=O at*
   obtain⟨Js,Je⟩:=J
   obtain⟨Os,Oe⟩:=O
   simp only at l1 l2 l3 l4 l5 l6 gA gB
   subst l3
   have hfl:=flat_encR Js
   have hfo:=flat_encR Os
   by_cases hz:Oe=0
   ·subst hz
    have gB:=fun {K:KT} h=>@gB K (fun h0=>absurd rfl h0) (fun _=>h)
    have gA:=fun {K:KT} h=>@gA K (fun h0=>absurd rfl h0) (fun _=>h)
    (repeat' ((conv=>whnf);first|(refine in_r (by rfl) ?_)|(refine Ix.intro rfl ?_)|(refine sl_full (by simp) ?_)|(with_reducible refine gA ?_)|(refine gB ?_)|(with_reducible first|refine c44 Os Js (by omega) (by omega) fun s hs=>?_|refine cwSane ?_)|(refine Ob.intro hfl ?_)|(refine Ob.intro hfo ?_)|refine zG ?_|apply zA|(apply zI;intro h)|exact zT));(all_goals conv=>whnf)
    all_goals first
     |exact .inl rfl
     |exact .inr rfl
     |(exfalso
       have:=hs.2 l4
       simp_all;done)
     |(exfalso;simp at h;done)
     |trace_state
   ·obtain rfl:=l5 hz
    obtain rfl:=l6 hz
    have gA:=fun {K:KT} h=>@gA K (fun _ _=>h) (fun h0=>absurd h0 hz)
    have gB:=fun {K:KT} h=>@gB K (fun _ _=>h) (fun h0=>absurd h0 hz)
    (repeat' ((conv=>whnf);first|(refine in_r (by rfl) ?_)|(refine Ix.intro rfl ?_)|(refine sl_full (by simp) ?_)|(with_reducible refine gA ?_)|(refine gB ?_)|(refine c44 [] [] (by simp) (by simp) fun s hs=>?_)|(with_reducible refine cwSane ?_)|refine zG ?_|apply zA|(apply zI;intro h)|exact zT));(all_goals conv=>whnf)
    all_goals first
     |exact .inl rfl
     |exact .inr rfl
     |(exfalso
       have:=hs.2 l4
       simp_all;done)
     |(exfalso;simp at h;done)
     |trace_state
 ·have haa:=hgi a (by simp)
  have hbb:=hgi b (by simp)
  have hcc:=hsi c (by simp)
  (repeat' ((conv=>whnf);first|(with_reducible first|refine hcp ?_|refine nNext raw _ _ (by simp) (by with_reducible assumption) hr fun n p3 hn hp3=>?_)|refine zG ?_|apply zA|(apply zI;intro h)|exact zT));(all_goals conv=>whnf)
  obtain rfl|rfl:n=0\/n=1:=by simp only[List.length_cons,List.length_nil]at hn;omega
  ·refine Jn.intro (Nat×Pf) (fun g=>⟨20,[(0,tapeO raw g.1),(1,boxT t),(2,boxNt ⟨[a,b],[c],ws,ts,ps,hds⟩),(3,.box [.os 4 2 0 2,.os 5 2 0 1,.os 6 2 0 ws.length,.os 7 10 0 ts.length,.os 8 6 0 ps.length,.os 9 5 0 hds.length]),(4,.box [.v (.string a.name),.os 10 7 0 (a.items.length+1),.v (.string b.name),.os 11 7 0 b.items.length]),(5,.box [.v (.string c.name),.os 14 7 0 c.items.length]),(6,.arr 2 (ws.map encWn)),(7,.arr 10 (ts.map encSm)),(8,.arr 6 (ps.map encPb)),(9,.arr 5 (hds.map encHn)),(10,.arr 7 (a.items.map encIt++[encIt (zX g.2)])),(11,.arr 7 (b.items.map encIt)),(14,.arr 7 (c.items.map encIt))],[(3,.op 0 0),(4,.op 1 0),(5,.op 2 0),(6,.op 3 0),(7,.v (.int .i64 0))]⟩) (fun g=>g.1<=raw.length/\g.2.okP) ?_ ?_
   ·(repeat' ((conv=>whnf);first|(refine in_r (by rfl) ?_)|(refine Ix.intro rfl ?_)|(refine sl_full (by simp) ?_)|(with_reducible refine enPref raw _ (by with_reducible assumption) hr fun q p4 hq hp4=>?_)|refine zG ?_|apply zA|(apply zI;intro h)|exact zT));(all_goals conv=>whnf)
    all_goals
     refine⟨(p4,q),⟨by with_reducible assumption,hq⟩,?_⟩
     (exact leA)
   rintro⟨p4,q⟩ ⟨hp4,hq⟩
   simp only at hp4 hq⊢
   have hxB:=itB_sub hq
   obtain⟨l1,l2,l3,l4⟩:=hgL 0 (zX q) a.name rfl
   have gA:=fun {K} h1 h2=>@hgA a.name K h1 h2
   have gB:∀{K:KT},((grpP t ⟨addIt [a,b] 0 (zX q),[c],ws,ts,ps,hds⟩ a.name).2≠0->(grpP t ⟨addIt [a,b] 0 (zX q),[c],ws,ts,ps,hds⟩ a.name).1=[]->K (.tup [.lst [],.v (.int .i64 (grpP t ⟨addIt [a,b] 0 (zX q),[c],ws,ts,ps,hds⟩ a.name).2)]) [])->((grpP t ⟨addIt [a,b] 0 (zX q),[c],ws,ts,ps,hds⟩ a.name).2=0->K (.tup [.os 0 2 0 (grpP t ⟨addIt [a,b] 0 (zX q),[c],ws,ts,ps,hds⟩ a.name).1.length,.v (.int .i64 0)]) [.arr 2 ((grpP t ⟨addIt [a,b] 0 (zX q),[c],ws,ts,ps,hds⟩ a.name).1.map encR)])->ACall Tryz.prog 13 [encT t,.agg [.lst [.agg [.v (.string a.name),.lst (a.items.map encIt++[encIt (zX q)])],.agg [.v (.string b.name),.lst (b.items.map encIt)]],.lst [.agg [.v (.string c.name),.lst (c.items.map encIt)]],.lst (ws.map encWn),.lst (ts.map encSm),.lst (ps.map encPb),.lst (hds.map encHn)],.v (.string a.name)] [] K:=fun {K} h1 h2=>by
    have eE:(AV.agg [.lst [.agg [.v (.string a.name),.lst (a.items.map encIt++[encIt (zX q)])],.agg [.v (.string b.name),.lst (b.items.map encIt)]],.lst [.agg [.v (.string c.name),.lst (c.items.map encIt)]],.lst (ws.map encWn),.lst (ts.map encSm),.lst (ps.map encPb),.lst (hds.map encHn)])=encNt ⟨addIt [a,b] 0 (zX q),[c],ws,ts,ps,hds⟩:=by simp[addIt]
    rw[eE]
    exact @hgB 0 (zX q) a.name hxB K h1 h2
   have l5:=grpP_errO t ⟨addIt [a,b] 0 (zX q),[c],ws,ts,ps,hds⟩ a.name
   have l6:=grpP_errO t ⟨[a,b],[c],ws,ts,ps,hds⟩ a.name
   generalize grpP t ⟨addIt [a,b] 0 (zX q),[c],ws,ts,ps,hds⟩ a.name=J at*
   generalize grpP t ⟨[a,b],[c],ws,ts,ps,hds⟩ a.name=O at*
   obtain⟨Js,Je⟩:=J
   obtain⟨Os,Oe⟩:=O
   simp only at l1 l2 l3 l4 l5 l6 gA gB
   subst l3
   have hfl:=flat_encR Js
   have hfo:=flat_encR Os
   by_cases hz:Oe=0
   ·subst hz
    have gB:=fun {K:KT} h=>@gB K (fun h0=>absurd rfl h0) (fun _=>h)
    have gA:=fun {K:KT} h=>@gA K (fun h0=>absurd rfl h0) (fun _=>h)
    (repeat' ((conv=>whnf);first|(refine in_r (by rfl) ?_)|(refine Ix.intro rfl ?_)|(refine sl_full (by simp) ?_)|(with_reducible refine gA ?_)|(refine gB ?_)|(with_reducible first|refine c44 Os Js (by omega) (by omega) fun s hs=>?_|refine cwSane ?_|refine nNext raw _ _ (by simp) (by with_reducible assumption) hr fun m p5 hm hp5=>?_)|(refine Ob.intro hfl ?_)|(refine Ob.intro hfo ?_)|refine zG ?_|apply zA|(apply zI;intro h)|exact zT));(all_goals conv=>whnf)
    all_goals try(exfalso;have:=hs.2 l4;simp_all;done)
    all_goals try(exfalso;simp at h;done)
    all_goals try(first|exact .inl rfl|exact .inr rfl)
    obtain rfl:m=0:=by(try simp only[List.length_cons,List.length_nil]at hm);omega
    ·refine Jn.intro (Nat×Rg) (fun g=>⟨20,[(0,tapeO raw g.1),(1,boxT t),(2,boxNt ⟨[a,b],[c],ws,ts,ps,hds⟩),(3,.box [.os 4 2 0 2,.os 5 2 0 1,.os 6 2 0 ws.length,.os 7 10 0 ts.length,.os 8 6 0 ps.length,.os 9 5 0 hds.length]),(4,.box [.v (.string a.name),.os 10 7 0 (a.items.length+1),.v (.string b.name),.os 11 7 0 b.items.length]),(5,.box [.v (.string c.name),.os 14 7 0 (c.items.length+1)]),(6,.arr 2 (ws.map encWn)),(7,.arr 10 (ts.map encSm)),(8,.arr 6 (ps.map encPb)),(9,.arr 5 (hds.map encHn)),(10,.arr 7 (a.items.map encIt++[encIt (zX q)])),(11,.arr 7 (b.items.map encIt)),(14,.arr 7 (c.items.map encIt++[encIt (zY g.2)]))],[(3,.op 0 0),(4,.op 1 0),(5,.op 2 0),(6,.op 3 0),(12,.v (.int .i64 0))]⟩) (fun g=>g.1<=raw.length/\g.2.lo<=g.2.hi/\g.2.hi<=65535) ?_ ?_
     ·(repeat' ((conv=>whnf);first|(refine in_r (by rfl) ?_)|(refine Ix.intro rfl ?_)|(refine sl_full (by simp) ?_)|(refine enRange raw _ 65535 (by decide) (by decide) (by with_reducible assumption) hr fun r p6 r0 r1 hp6=>?_)|refine zG ?_|apply zA|(apply zI;intro h)|exact zT));(all_goals conv=>whnf)
      all_goals
       refine⟨(p6,r),⟨by with_reducible assumption,r0,r1⟩,?_⟩
       (exact leA)
     rintro⟨p6,r⟩ ⟨hp6,r0,r1⟩
     simp only at hp6 r0 r1⊢
     obtain⟨k1,k2,k3,k4⟩:=hsL 0 r c.name r0 r1
     have sA:=fun {K} h=>@hsA c.name K h
     have sB:∀{K:KT},K (.tup [encXs (svcP ⟨[a,b],addIt [c] 0 (zY r),ws,ts,ps,hds⟩ c.name).1,.v (.int .i64 (svcP ⟨[a,b],addIt [c] 0 (zY r),ws,ts,ps,hds⟩ c.name).2)]) []->ACall Tryz.prog 24 [.agg [.lst [.agg [.v (.string a.name),.lst (a.items.map encIt++[encIt (zX q)])],.agg [.v (.string b.name),.lst (b.items.map encIt)]],.lst [.agg [.v (.string c.name),.lst (c.items.map encIt++[encIt (zY r)])]],.lst (ws.map encWn),.lst (ts.map encSm),.lst (ps.map encPb),.lst (hds.map encHn)],.v (.string c.name)] [] K:=fun {K} h=>by
      have eE:(AV.agg [.lst [.agg [.v (.string a.name),.lst (a.items.map encIt++[encIt (zX q)])],.agg [.v (.string b.name),.lst (b.items.map encIt)]],.lst [.agg [.v (.string c.name),.lst (c.items.map encIt++[encIt (zY r)])]],.lst (ws.map encWn),.lst (ts.map encSm),.lst (ps.map encPb),.lst (hds.map encHn)])=encNt ⟨addIt [a,b] 0 (zX q),addIt [c] 0 (zY r),ws,ts,ps,hds⟩:=by simp[addIt]
      rw[eE]
      exact @hsB 0 0 (zX q) (zY r) c.name hxB (hyB r r0 r1) K h
     generalize svcP ⟨[a,b],addIt [c] 0 (zY r),ws,ts,ps,hds⟩ c.name=T at*
     generalize svcP ⟨[a,b],[c],ws,ts,ps,hds⟩ c.name=U at*
     obtain⟨Ts,Te⟩:=T
     obtain⟨Us,Ue⟩:=U
     simp only at k1 k2 k3 k4 sA sB
     subst k3
     have hsub:=fun {K} h=>@sub_small Us Ts k1 k2 k4 K h
     (repeat' ((conv=>whnf);first|(refine in_r (by rfl) ?_)|(refine Ix.intro rfl ?_)|(refine sl_full (by simp) ?_)|(with_reducible refine sA ?_)|(refine sB ?_)|(with_reducible first|refine hsub ?_|refine cwSane ?_)|refine zG ?_|apply zA|(apply zI;intro h)|exact zT));(all_goals conv=>whnf)
     all_goals first
      |exact .inl rfl
      |exact .inr rfl
      |(exfalso;simp_all;done)
      |trace_state
   ·obtain rfl:=l5 hz
    obtain rfl:=l6 hz
    have gA:=fun {K:KT} h=>@gA K (fun _ _=>h) (fun h0=>absurd h0 hz)
    have gB:=fun {K:KT} h=>@gB K (fun _ _=>h) (fun h0=>absurd h0 hz)
    (repeat' ((conv=>whnf);first|(refine in_r (by rfl) ?_)|(refine Ix.intro rfl ?_)|(refine sl_full (by simp) ?_)|(with_reducible refine gA ?_)|(refine gB ?_)|(refine c44 [] [] (by simp) (by simp) fun s hs=>?_)|(with_reducible first|refine cwSane ?_|refine nNext raw _ _ (by simp) (by with_reducible assumption) hr fun m p5 hm hp5=>?_)|refine zG ?_|apply zA|(apply zI;intro h)|exact zT));(all_goals conv=>whnf)
    all_goals try(exfalso;have:=hs.2 l4;simp_all;done)
    all_goals try(exfalso;simp at h;done)
    all_goals try(first|exact .inl rfl|exact .inr rfl)
    obtain rfl:m=0:=by(try simp only[List.length_cons,List.length_nil]at hm);omega
    ·refine Jn.intro (Nat×Rg) (fun g=>⟨20,[(0,tapeO raw g.1),(1,boxT t),(2,boxNt ⟨[a,b],[c],ws,ts,ps,hds⟩),(3,.box [.os 4 2 0 2,.os 5 2 0 1,.os 6 2 0 ws.length,.os 7 10 0 ts.length,.os 8 6 0 ps.length,.os 9 5 0 hds.length]),(4,.box [.v (.string a.name),.os 10 7 0 (a.items.length+1),.v (.string b.name),.os 11 7 0 b.items.length]),(5,.box [.v (.string c.name),.os 14 7 0 (c.items.length+1)]),(6,.arr 2 (ws.map encWn)),(7,.arr 10 (ts.map encSm)),(8,.arr 6 (ps.map encPb)),(9,.arr 5 (hds.map encHn)),(10,.arr 7 (a.items.map encIt++[encIt (zX q)])),(11,.arr 7 (b.items.map encIt)),(14,.arr 7 (c.items.map encIt++[encIt (zY g.2)]))],[(3,.op 0 0),(4,.op 1 0),(5,.op 2 0),(6,.op 3 0),(12,.v (.int .i64 0))]⟩) (fun g=>g.1<=raw.length/\g.2.lo<=g.2.hi/\g.2.hi<=65535) ?_ ?_
     ·(repeat' ((conv=>whnf);first|(refine in_r (by rfl) ?_)|(refine Ix.intro rfl ?_)|(refine sl_full (by simp) ?_)|(refine enRange raw _ 65535 (by decide) (by decide) (by with_reducible assumption) hr fun r p6 r0 r1 hp6=>?_)|refine zG ?_|apply zA|(apply zI;intro h)|exact zT));(all_goals conv=>whnf)
      all_goals
       refine⟨(p6,r),⟨by with_reducible assumption,r0,r1⟩,?_⟩
       (exact leA)
     rintro⟨p6,r⟩ ⟨hp6,r0,r1⟩
     simp only at hp6 r0 r1⊢
     obtain⟨k1,k2,k3,k4⟩:=hsL 0 r c.name r0 r1
     have sA:=fun {K} h=>@hsA c.name K h
     have sB:∀{K:KT},K (.tup [encXs (svcP ⟨[a,b],addIt [c] 0 (zY r),ws,ts,ps,hds⟩ c.name).1,.v (.int .i64 (svcP ⟨[a,b],addIt [c] 0 (zY r),ws,ts,ps,hds⟩ c.name).2)]) []->ACall Tryz.prog 24 [.agg [.lst [.agg [.v (.string a.name),.lst (a.items.map encIt++[encIt (zX q)])],.agg [.v (.string b.name),.lst (b.items.map encIt)]],.lst [.agg [.v (.string c.name),.lst (c.items.map encIt++[encIt (zY r)])]],.lst (ws.map encWn),.lst (ts.map encSm),.lst (ps.map encPb),.lst (hds.map encHn)],.v (.string c.name)] [] K:=fun {K} h=>by
      have eE:(AV.agg [.lst [.agg [.v (.string a.name),.lst (a.items.map encIt++[encIt (zX q)])],.agg [.v (.string b.name),.lst (b.items.map encIt)]],.lst [.agg [.v (.string c.name),.lst (c.items.map encIt++[encIt (zY r)])]],.lst (ws.map encWn),.lst (ts.map encSm),.lst (ps.map encPb),.lst (hds.map encHn)])=encNt ⟨addIt [a,b] 0 (zX q),addIt [c] 0 (zY r),ws,ts,ps,hds⟩:=by simp[addIt]
      rw[eE]
      exact @hsB 0 0 (zX q) (zY r) c.name hxB (hyB r r0 r1) K h
     generalize svcP ⟨[a,b],addIt [c] 0 (zY r),ws,ts,ps,hds⟩ c.name=T at*
     generalize svcP ⟨[a,b],[c],ws,ts,ps,hds⟩ c.name=U at*
     obtain⟨Ts,Te⟩:=T
     obtain⟨Us,Ue⟩:=U
     simp only at k1 k2 k3 k4 sA sB
     subst k3
     have hsub:=fun {K} h=>@sub_small Us Ts k1 k2 k4 K h
     (repeat' ((conv=>whnf);first|(refine in_r (by rfl) ?_)|(refine Ix.intro rfl ?_)|(refine sl_full (by simp) ?_)|(with_reducible refine sA ?_)|(refine sB ?_)|(with_reducible first|refine hsub ?_|refine cwSane ?_)|refine zG ?_|apply zA|(apply zI;intro h)|exact zT));(all_goals conv=>whnf)
     all_goals first
      |exact .inl rfl
      |exact .inr rfl
      |(exfalso;simp_all;done)
      |trace_state
  ·refine Jn.intro (Nat×Pf) (fun g=>⟨20,[(0,tapeO raw g.1),(1,boxT t),(2,boxNt ⟨[a,b],[c],ws,ts,ps,hds⟩),(3,.box [.os 4 2 0 2,.os 5 2 0 1,.os 6 2 0 ws.length,.os 7 10 0 ts.length,.os 8 6 0 ps.length,.os 9 5 0 hds.length]),(4,.box [.v (.string a.name),.os 10 7 0 a.items.length,.v (.string b.name),.os 11 7 0 (b.items.length+1)]),(5,.box [.v (.string c.name),.os 14 7 0 c.items.length]),(6,.arr 2 (ws.map encWn)),(7,.arr 10 (ts.map encSm)),(8,.arr 6 (ps.map encPb)),(9,.arr 5 (hds.map encHn)),(10,.arr 7 (a.items.map encIt)),(11,.arr 7 (b.items.map encIt++[encIt (zX g.2)])),(14,.arr 7 (c.items.map encIt))],[(3,.op 0 0),(4,.op 1 0),(5,.op 2 0),(6,.op 3 0),(7,.v (.int .i64 1))]⟩) (fun g=>g.1<=raw.length/\g.2.okP) ?_ ?_
   ·(repeat' ((conv=>whnf);first|(refine in_r (by rfl) ?_)|(refine Ix.intro rfl ?_)|(refine sl_full (by simp) ?_)|(with_reducible refine enPref raw _ (by with_reducible assumption) hr fun q p4 hq hp4=>?_)|refine zG ?_|apply zA|(apply zI;intro h)|exact zT));(all_goals conv=>whnf)
    all_goals
     refine⟨(p4,q),⟨by with_reducible assumption,hq⟩,?_⟩
     (exact leA)
   rintro⟨p4,q⟩ ⟨hp4,hq⟩
   simp only at hp4 hq⊢
   have hxB:=itB_sub hq
   obtain⟨l1,l2,l3,l4⟩:=hgL 1 (zX q) b.name rfl
   have gA:=fun {K} h1 h2=>@hgA b.name K h1 h2
   have gB:∀{K:KT},((grpP t ⟨addIt [a,b] 1 (zX q),[c],ws,ts,ps,hds⟩ b.name).2≠0->(grpP t ⟨addIt [a,b] 1 (zX q),[c],ws,ts,ps,hds⟩ b.name).1=[]->K (.tup [.lst [],.v (.int .i64 (grpP t ⟨addIt [a,b] 1 (zX q),[c],ws,ts,ps,hds⟩ b.name).2)]) [])->((grpP t ⟨addIt [a,b] 1 (zX q),[c],ws,ts,ps,hds⟩ b.name).2=0->K (.tup [.os 0 2 0 (grpP t ⟨addIt [a,b] 1 (zX q),[c],ws,ts,ps,hds⟩ b.name).1.length,.v (.int .i64 0)]) [.arr 2 ((grpP t ⟨addIt [a,b] 1 (zX q),[c],ws,ts,ps,hds⟩ b.name).1.map encR)])->ACall Tryz.prog 13 [encT t,.agg [.lst [.agg [.v (.string a.name),.lst (a.items.map encIt)],.agg [.v (.string b.name),.lst (b.items.map encIt++[encIt (zX q)])]],.lst [.agg [.v (.string c.name),.lst (c.items.map encIt)]],.lst (ws.map encWn),.lst (ts.map encSm),.lst (ps.map encPb),.lst (hds.map encHn)],.v (.string b.name)] [] K:=fun {K} h1 h2=>by
    have eE:(AV.agg [.lst [.agg [.v (.string a.name),.lst (a.items.map encIt)],.agg [.v (.string b.name),.lst (b.items.map encIt++[encIt (zX q)])]],.lst [.agg [.v (.string c.name),.lst (c.items.map encIt)]],.lst (ws.map encWn),.lst (ts.map encSm),.lst (ps.map encPb),.lst (hds.map encHn)])=encNt ⟨addIt [a,b] 1 (zX q),[c],ws,ts,ps,hds⟩:=by simp[addIt]
    rw[eE]
    exact @hgB 1 (zX q) b.name hxB K h1 h2
   have l5:=grpP_errO t ⟨addIt [a,b] 1 (zX q),[c],ws,ts,ps,hds⟩ b.name
   have l6:=grpP_errO t ⟨[a,b],[c],ws,ts,ps,hds⟩ b.name
   generalize grpP t ⟨addIt [a,b] 1 (zX q),[c],ws,ts,ps,hds⟩ b.name=J at*
   generalize grpP t ⟨[a,b],[c],ws,ts,ps,hds⟩ b.name=O at*
   obtain⟨Js,Je⟩:=J
   obtain⟨Os,Oe⟩:=O
   simp only at l1 l2 l3 l4 l5 l6 gA gB
   subst l3
   have hfl:=flat_encR Js
   have hfo:=flat_encR Os
   by_cases hz:Oe=0
   ·subst hz
    have gB:=fun {K:KT} h=>@gB K (fun h0=>absurd rfl h0) (fun _=>h)
    have gA:=fun {K:KT} h=>@gA K (fun h0=>absurd rfl h0) (fun _=>h)
    (repeat' ((conv=>whnf);first|(refine in_r (by rfl) ?_)|(refine Ix.intro rfl ?_)|(refine sl_full (by simp) ?_)|(with_reducible refine gA ?_)|(refine gB ?_)|(with_reducible first|refine c44 Os Js (by omega) (by omega) fun s hs=>?_|refine cwSane ?_|refine nNext raw _ _ (by simp) (by with_reducible assumption) hr fun m p5 hm hp5=>?_)|(refine Ob.intro hfl ?_)|(refine Ob.intro hfo ?_)|refine zG ?_|apply zA|(apply zI;intro h)|exact zT));(all_goals conv=>whnf)
    all_goals try(exfalso;have:=hs.2 l4;simp_all;done)
    all_goals try(exfalso;simp at h;done)
    all_goals try(first|exact .inl rfl|exact .inr rfl)
    obtain rfl:m=0:=by(try simp only[List.length_cons,List.length_nil]at hm);omega
    ·refine Jn.intro (Nat×Rg) (fun g=>⟨20,[(0,tapeO raw g.1),(1,boxT t),(2,boxNt ⟨[a,b],[c],ws,ts,ps,hds⟩),(3,.box [.os 4 2 0 2,.os 5 2 0 1,.os 6 2 0 ws.length,.os 7 10 0 ts.length,.os 8 6 0 ps.length,.os 9 5 0 hds.length]),(4,.box [.v (.string a.name),.os 10 7 0 a.items.length,.v (.string b.name),.os 11 7 0 (b.items.length+1)]),(5,.box [.v (.string c.name),.os 14 7 0 (c.items.length+1)]),(6,.arr 2 (ws.map encWn)),(7,.arr 10 (ts.map encSm)),(8,.arr 6 (ps.map encPb)),(9,.arr 5 (hds.map encHn)),(10,.arr 7 (a.items.map encIt)),(11,.arr 7 (b.items.map encIt++[encIt (zX q)])),(14,.arr 7 (c.items.map encIt++[encIt (zY g.2)]))],[(3,.op 0 0),(4,.op 1 0),(5,.op 2 0),(6,.op 3 0),(12,.v (.int .i64 0))]⟩) (fun g=>g.1<=raw.length/\g.2.lo<=g.2.hi/\g.2.hi<=65535) ?_ ?_
     ·(repeat' ((conv=>whnf);first|(refine in_r (by rfl) ?_)|(refine Ix.intro rfl ?_)|(refine sl_full (by simp) ?_)|(refine enRange raw _ 65535 (by decide) (by decide) (by with_reducible assumption) hr fun r p6 r0 r1 hp6=>?_)|refine zG ?_|apply zA|(apply zI;intro h)|exact zT));(all_goals conv=>whnf)
      all_goals
       refine⟨(p6,r),⟨by with_reducible assumption,r0,r1⟩,?_⟩
       (exact leA)
     rintro⟨p6,r⟩ ⟨hp6,r0,r1⟩
     simp only at hp6 r0 r1⊢
     obtain⟨k1,k2,k3,k4⟩:=hsL 0 r c.name r0 r1
     have sA:=fun {K} h=>@hsA c.name K h
     have sB:∀{K:KT},K (.tup [encXs (svcP ⟨[a,b],addIt [c] 0 (zY r),ws,ts,ps,hds⟩ c.name).1,.v (.int .i64 (svcP ⟨[a,b],addIt [c] 0 (zY r),ws,ts,ps,hds⟩ c.name).2)]) []->ACall Tryz.prog 24 [.agg [.lst [.agg [.v (.string a.name),.lst (a.items.map encIt)],.agg [.v (.string b.name),.lst (b.items.map encIt++[encIt (zX q)])]],.lst [.agg [.v (.string c.name),.lst (c.items.map encIt++[encIt (zY r)])]],.lst (ws.map encWn),.lst (ts.map encSm),.lst (ps.map encPb),.lst (hds.map encHn)],.v (.string c.name)] [] K:=fun {K} h=>by
      have eE:(AV.agg [.lst [.agg [.v (.string a.name),.lst (a.items.map encIt)],.agg [.v (.string b.name),.lst (b.items.map encIt++[encIt (zX q)])]],.lst [.agg [.v (.string c.name),.lst (c.items.map encIt++[encIt (zY r)])]],.lst (ws.map encWn),.lst (ts.map encSm),.lst (ps.map encPb),.lst (hds.map encHn)])=encNt ⟨addIt [a,b] 1 (zX q),addIt [c] 0 (zY r),ws,ts,ps,hds⟩:=by simp[addIt]
      rw[eE]
      exact @hsB 1 0 (zX q) (zY r) c.name hxB (hyB r r0 r1) K h
     generalize svcP ⟨[a,b],addIt [c] 0 (zY r),ws,ts,ps,hds⟩ c.name=T at*
     generalize svcP ⟨[a,b],[c],ws,ts,ps,hds⟩ c.name=U at*
     obtain⟨Ts,Te⟩:=T
     obtain⟨Us,Ue⟩:=U
     simp only at k1 k2 k3 k4 sA sB
     subst k3
     have hsub:=fun {K} h=>@sub_small Us Ts k1 k2 k4 K h
     (repeat' ((conv=>whnf);first|(refine in_r (by rfl) ?_)|(refine Ix.intro rfl ?_)|(refine sl_full (by simp) ?_)|(with_reducible refine sA ?_)|(refine sB ?_)|(with_reducible first|refine hsub ?_|refine cwSane ?_)|refine zG ?_|apply zA|(apply zI;intro h)|exact zT));(all_goals conv=>whnf)
     all_goals first
      |exact .inl rfl
      |exact .inr rfl
      |(exfalso;simp_all;done)
      |trace_state
   ·obtain rfl:=l5 hz
    obtain rfl:=l6 hz
    have gA:=fun {K:KT} h=>@gA K (fun _ _=>h) (fun h0=>absurd h0 hz)
    have gB:=fun {K:KT} h=>@gB K (fun _ _=>h) (fun h0=>absurd h0 hz)
    (repeat' ((conv=>whnf);first|(refine in_r (by rfl) ?_)|(refine Ix.intro rfl ?_)|(refine sl_full (by simp) ?_)|(with_reducible refine gA ?_)|(refine gB ?_)|(refine c44 [] [] (by simp) (by simp) fun s hs=>?_)|(with_reducible first|refine cwSane ?_|refine nNext raw _ _ (by simp) (by with_reducible assumption) hr fun m p5 hm hp5=>?_)|refine zG ?_|apply zA|(apply zI;intro h)|exact zT));(all_goals conv=>whnf)
    all_goals try(exfalso;have:=hs.2 l4;simp_all;done)
    all_goals try(exfalso;simp at h;done)
    all_goals try(first|exact .inl rfl|exact .inr rfl)
    obtain rfl:m=0:=by(try simp only[List.length_cons,List.length_nil]at hm);omega
    ·refine Jn.intro (Nat×Rg) (fun g=>⟨20,[(0,tapeO raw g.1),(1,boxT t),(2,boxNt ⟨[a,b],[c],ws,ts,ps,hds⟩),(3,.box [.os 4 2 0 2,.os 5 2 0 1,.os 6 2 0 ws.length,.os 7 10 0 ts.length,.os 8 6 0 ps.length,.os 9 5 0 hds.length]),(4,.box [.v (.string a.name),.os 10 7 0 a.items.length,.v (.string b.name),.os 11 7 0 (b.items.length+1)]),(5,.box [.v (.string c.name),.os 14 7 0 (c.items.length+1)]),(6,.arr 2 (ws.map encWn)),(7,.arr 10 (ts.map encSm)),(8,.arr 6 (ps.map encPb)),(9,.arr 5 (hds.map encHn)),(10,.arr 7 (a.items.map encIt)),(11,.arr 7 (b.items.map encIt++[encIt (zX q)])),(14,.arr 7 (c.items.map encIt++[encIt (zY g.2)]))],[(3,.op 0 0),(4,.op 1 0),(5,.op 2 0),(6,.op 3 0),(12,.v (.int .i64 0))]⟩) (fun g=>g.1<=raw.length/\g.2.lo<=g.2.hi/\g.2.hi<=65535) ?_ ?_
     ·(repeat' ((conv=>whnf);first|(refine in_r (by rfl) ?_)|(refine Ix.intro rfl ?_)|(refine sl_full (by simp) ?_)|(refine enRange raw _ 65535 (by decide) (by decide) (by with_reducible assumption) hr fun r p6 r0 r1 hp6=>?_)|refine zG ?_|apply zA|(apply zI;intro h)|exact zT));(all_goals conv=>whnf)
      all_goals
       refine⟨(p6,r),⟨by with_reducible assumption,r0,r1⟩,?_⟩
       (exact leA)
     rintro⟨p6,r⟩ ⟨hp6,r0,r1⟩
     simp only at hp6 r0 r1⊢
     obtain⟨k1,k2,k3,k4⟩:=hsL 0 r c.name r0 r1
     have sA:=fun {K} h=>@hsA c.name K h
     have sB:∀{K:KT},K (.tup [encXs (svcP ⟨[a,b],addIt [c] 0 (zY r),ws,ts,ps,hds⟩ c.name).1,.v (.int .i64 (svcP ⟨[a,b],addIt [c] 0 (zY r),ws,ts,ps,hds⟩ c.name).2)]) []->ACall Tryz.prog 24 [.agg [.lst [.agg [.v (.string a.name),.lst (a.items.map encIt)],.agg [.v (.string b.name),.lst (b.items.map encIt++[encIt (zX q)])]],.lst [.agg [.v (.string c.name),.lst (c.items.map encIt++[encIt (zY r)])]],.lst (ws.map encWn),.lst (ts.map encSm),.lst (ps.map encPb),.lst (hds.map encHn)],.v (.string c.name)] [] K:=fun {K} h=>by
      have eE:(AV.agg [.lst [.agg [.v (.string a.name),.lst (a.items.map encIt)],.agg [.v (.string b.name),.lst (b.items.map encIt++[encIt (zX q)])]],.lst [.agg [.v (.string c.name),.lst (c.items.map encIt++[encIt (zY r)])]],.lst (ws.map encWn),.lst (ts.map encSm),.lst (ps.map encPb),.lst (hds.map encHn)])=encNt ⟨addIt [a,b] 1 (zX q),addIt [c] 0 (zY r),ws,ts,ps,hds⟩:=by simp[addIt]
      rw[eE]
      exact @hsB 1 0 (zX q) (zY r) c.name hxB (hyB r r0 r1) K h
     generalize svcP ⟨[a,b],addIt [c] 0 (zY r),ws,ts,ps,hds⟩ c.name=T at*
     generalize svcP ⟨[a,b],[c],ws,ts,ps,hds⟩ c.name=U at*
     obtain⟨Ts,Te⟩:=T
     obtain⟨Us,Ue⟩:=U
     simp only at k1 k2 k3 k4 sA sB
     subst k3
     have hsub:=fun {K} h=>@sub_small Us Ts k1 k2 k4 K h
     (repeat' ((conv=>whnf);first|(refine in_r (by rfl) ?_)|(refine Ix.intro rfl ?_)|(refine sl_full (by simp) ?_)|(with_reducible refine sA ?_)|(refine sB ?_)|(with_reducible first|refine hsub ?_|refine cwSane ?_)|refine zG ?_|apply zA|(apply zI;intro h)|exact zT));(all_goals conv=>whnf)
     all_goals first
      |exact .inl rfl
      |exact .inr rfl
      |(exfalso;simp_all;done)
      |trace_state
 ·have haa:=hgi a (by simp)
  have hbb:=hgi b (by simp)
  have hcc:=hsi c (by simp)
  have hdd:=hsi d (by simp)
  (repeat' ((conv=>whnf);first|(with_reducible first|refine hcp ?_|refine nNext raw _ _ (by simp) (by with_reducible assumption) hr fun n p3 hn hp3=>?_)|refine zG ?_|apply zA|(apply zI;intro h)|exact zT));(all_goals conv=>whnf)
  obtain rfl|rfl:n=0\/n=1:=by simp only[List.length_cons,List.length_nil]at hn;omega
  ·refine Jn.intro (Nat×Pf) (fun g=>⟨20,[(0,tapeO raw g.1),(1,boxT t),(2,boxNt ⟨[a,b],[c,d],ws,ts,ps,hds⟩),(3,.box [.os 4 2 0 2,.os 5 2 0 2,.os 6 2 0 ws.length,.os 7 10 0 ts.length,.os 8 6 0 ps.length,.os 9 5 0 hds.length]),(4,.box [.v (.string a.name),.os 10 7 0 (a.items.length+1),.v (.string b.name),.os 11 7 0 b.items.length]),(5,.box [.v (.string c.name),.os 14 7 0 c.items.length,.v (.string d.name),.os 15 7 0 d.items.length]),(6,.arr 2 (ws.map encWn)),(7,.arr 10 (ts.map encSm)),(8,.arr 6 (ps.map encPb)),(9,.arr 5 (hds.map encHn)),(10,.arr 7 (a.items.map encIt++[encIt (zX g.2)])),(11,.arr 7 (b.items.map encIt)),(14,.arr 7 (c.items.map encIt)),(15,.arr 7 (d.items.map encIt))],[(3,.op 0 0),(4,.op 1 0),(5,.op 2 0),(6,.op 3 0),(7,.v (.int .i64 0))]⟩) (fun g=>g.1<=raw.length/\g.2.okP) ?_ ?_
   ·(repeat' ((conv=>whnf);first|(refine in_r (by rfl) ?_)|(refine Ix.intro rfl ?_)|(refine sl_full (by simp) ?_)|(with_reducible refine enPref raw _ (by with_reducible assumption) hr fun q p4 hq hp4=>?_)|refine zG ?_|apply zA|(apply zI;intro h)|exact zT));(all_goals conv=>whnf)
    all_goals
     refine⟨(p4,q),⟨by with_reducible assumption,hq⟩,?_⟩
     (exact leA)
   rintro⟨p4,q⟩ ⟨hp4,hq⟩
   simp only at hp4 hq⊢
   have hxB:=itB_sub hq
   obtain⟨l1,l2,l3,l4⟩:=hgL 0 (zX q) a.name rfl
   have gA:=fun {K} h1 h2=>@hgA a.name K h1 h2
   have gB:∀{K:KT},((grpP t ⟨addIt [a,b] 0 (zX q),[c,d],ws,ts,ps,hds⟩ a.name).2≠0->(grpP t ⟨addIt [a,b] 0 (zX q),[c,d],ws,ts,ps,hds⟩ a.name).1=[]->K (.tup [.lst [],.v (.int .i64 (grpP t ⟨addIt [a,b] 0 (zX q),[c,d],ws,ts,ps,hds⟩ a.name).2)]) [])->((grpP t ⟨addIt [a,b] 0 (zX q),[c,d],ws,ts,ps,hds⟩ a.name).2=0->K (.tup [.os 0 2 0 (grpP t ⟨addIt [a,b] 0 (zX q),[c,d],ws,ts,ps,hds⟩ a.name).1.length,.v (.int .i64 0)]) [.arr 2 ((grpP t ⟨addIt [a,b] 0 (zX q),[c,d],ws,ts,ps,hds⟩ a.name).1.map encR)])->ACall Tryz.prog 13 [encT t,.agg [.lst [.agg [.v (.string a.name),.lst (a.items.map encIt++[encIt (zX q)])],.agg [.v (.string b.name),.lst (b.items.map encIt)]],.lst [.agg [.v (.string c.name),.lst (c.items.map encIt)],.agg [.v (.string d.name),.lst (d.items.map encIt)]],.lst (ws.map encWn),.lst (ts.map encSm),.lst (ps.map encPb),.lst (hds.map encHn)],.v (.string a.name)] [] K:=fun {K} h1 h2=>by
    have eE:(AV.agg [.lst [.agg [.v (.string a.name),.lst (a.items.map encIt++[encIt (zX q)])],.agg [.v (.string b.name),.lst (b.items.map encIt)]],.lst [.agg [.v (.string c.name),.lst (c.items.map encIt)],.agg [.v (.string d.name),.lst (d.items.map encIt)]],.lst (ws.map encWn),.lst (ts.map encSm),.lst (ps.map encPb),.lst (hds.map encHn)])=encNt ⟨addIt [a,b] 0 (zX q),[c,d],ws,ts,ps,hds⟩:=by simp[addIt]
    rw[eE]
    exact @hgB 0 (zX q) a.name hxB K h1 h2
   have l5:=grpP_errO t ⟨addIt [a,b] 0 (zX q),[c,d],ws,ts,ps,hds⟩ a.name
   have l6:=grpP_errO t ⟨[a,b],[c,d],ws,ts,ps,hds⟩ a.name
   generalize grpP t ⟨addIt [a,b] 0 (zX q),[c,d],ws,ts,ps,hds⟩ a.name=J at*
   generalize grpP t ⟨[a,b],[c,d],ws,ts,ps,hds⟩ a.name=O at*
   obtain⟨Js,Je⟩:=J
   obtain⟨Os,Oe⟩:=O
   simp only at l1 l2 l3 l4 l5 l6 gA gB
   subst l3
   have hfl:=flat_encR Js
   have hfo:=flat_encR Os
   by_cases hz:Oe=0
   ·subst hz
    have gB:=fun {K:KT} h=>@gB K (fun h0=>absurd rfl h0) (fun _=>h)
    have gA:=fun {K:KT} h=>@gA K (fun h0=>absurd rfl h0) (fun _=>h)
    (repeat' ((conv=>whnf);first|(refine in_r (by rfl) ?_)|(refine Ix.intro rfl ?_)|(refine sl_full (by simp) ?_)|(with_reducible refine gA ?_)|(refine gB ?_)|(with_reducible first|refine c44 Os Js (by omega) (by omega) fun s hs=>?_|refine cwSane ?_|refine nNext raw _ _ (by simp) (by with_reducible assumption) hr fun m p5 hm hp5=>?_)|(refine Ob.intro hfl ?_)|(refine Ob.intro hfo ?_)|refine zG ?_|apply zA|(apply zI;intro h)|exact zT));(all_goals conv=>whnf)
    all_goals try(exfalso;have:=hs.2 l4;simp_all;done)
    all_goals try(exfalso;simp at h;done)
    all_goals try(first|exact .inl rfl|exact .inr rfl)
    obtain rfl|rfl:m=0\/m=1:=by(try simp only[List.length_cons,List.length_nil]at hm);omega
    ·refine Jn.intro (Nat×Rg) (fun g=>⟨20,[(0,tapeO raw g.1),(1,boxT t),(2,boxNt ⟨[a,b],[c,d],ws,ts,ps,hds⟩),(3,.box [.os 4 2 0 2,.os 5 2 0 2,.os 6 2 0 ws.length,.os 7 10 0 ts.length,.os 8 6 0 ps.length,.os 9 5 0 hds.length]),(4,.box [.v (.string a.name),.os 10 7 0 (a.items.length+1),.v (.string b.name),.os 11 7 0 b.items.length]),(5,.box [.v (.string c.name),.os 14 7 0 (c.items.length+1),.v (.string d.name),.os 15 7 0 d.items.length]),(6,.arr 2 (ws.map encWn)),(7,.arr 10 (ts.map encSm)),(8,.arr 6 (ps.map encPb)),(9,.arr 5 (hds.map encHn)),(10,.arr 7 (a.items.map encIt++[encIt (zX q)])),(11,.arr 7 (b.items.map encIt)),(14,.arr 7 (c.items.map encIt++[encIt (zY g.2)])),(15,.arr 7 (d.items.map encIt))],[(3,.op 0 0),(4,.op 1 0),(5,.op 2 0),(6,.op 3 0),(12,.v (.int .i64 0))]⟩) (fun g=>g.1<=raw.length/\g.2.lo<=g.2.hi/\g.2.hi<=65535) ?_ ?_
     ·(repeat' ((conv=>whnf);first|(refine in_r (by rfl) ?_)|(refine Ix.intro rfl ?_)|(refine sl_full (by simp) ?_)|(refine enRange raw _ 65535 (by decide) (by decide) (by with_reducible assumption) hr fun r p6 r0 r1 hp6=>?_)|refine zG ?_|apply zA|(apply zI;intro h)|exact zT));(all_goals conv=>whnf)
      all_goals
       refine⟨(p6,r),⟨by with_reducible assumption,r0,r1⟩,?_⟩
       (exact leA)
     rintro⟨p6,r⟩ ⟨hp6,r0,r1⟩
     simp only at hp6 r0 r1⊢
     obtain⟨k1,k2,k3,k4⟩:=hsL 0 r c.name r0 r1
     have sA:=fun {K} h=>@hsA c.name K h
     have sB:∀{K:KT},K (.tup [encXs (svcP ⟨[a,b],addIt [c,d] 0 (zY r),ws,ts,ps,hds⟩ c.name).1,.v (.int .i64 (svcP ⟨[a,b],addIt [c,d] 0 (zY r),ws,ts,ps,hds⟩ c.name).2)]) []->ACall Tryz.prog 24 [.agg [.lst [.agg [.v (.string a.name),.lst (a.items.map encIt++[encIt (zX q)])],.agg [.v (.string b.name),.lst (b.items.map encIt)]],.lst [.agg [.v (.string c.name),.lst (c.items.map encIt++[encIt (zY r)])],.agg [.v (.string d.name),.lst (d.items.map encIt)]],.lst (ws.map encWn),.lst (ts.map encSm),.lst (ps.map encPb),.lst (hds.map encHn)],.v (.string c.name)] [] K:=fun {K} h=>by
      have eE:(AV.agg [.lst [.agg [.v (.string a.name),.lst (a.items.map encIt++[encIt (zX q)])],.agg [.v (.string b.name),.lst (b.items.map encIt)]],.lst [.agg [.v (.string c.name),.lst (c.items.map encIt++[encIt (zY r)])],.agg [.v (.string d.name),.lst (d.items.map encIt)]],.lst (ws.map encWn),.lst (ts.map encSm),.lst (ps.map encPb),.lst (hds.map encHn)])=encNt ⟨addIt [a,b] 0 (zX q),addIt [c,d] 0 (zY r),ws,ts,ps,hds⟩:=by simp[addIt]
      rw[eE]
      exact @hsB 0 0 (zX q) (zY r) c.name hxB (hyB r r0 r1) K h
     generalize svcP ⟨[a,b],addIt [c,d] 0 (zY r),ws,ts,ps,hds⟩ c.name=T at*
     generalize svcP ⟨[a,b],[c,d],ws,ts,ps,hds⟩ c.name=U at*
     obtain⟨Ts,Te⟩:=T
     obtain⟨Us,Ue⟩:=U
     simp only at k1 k2 k3 k4 sA sB
     subst k3
     have hsub:=fun {K} h=>@sub_small Us Ts k1 k2 k4 K h
     (repeat' ((conv=>whnf);first|(refine in_r (by rfl) ?_)|(refine Ix.intro rfl ?_)|(refine sl_full (by simp) ?_)|(with_reducible refine sA ?_)|(refine sB ?_)|(with_reducible first|refine hsub ?_|refine cwSane ?_)|refine zG ?_|apply zA|(apply zI;intro h)|exact zT));(all_goals conv=>whnf)
     all_goals first
      |exact .inl rfl
      |exact .inr rfl
      |(exfalso;simp_all;done)
      |trace_state
    ·refine Jn.intro (Nat×Rg) (fun g=>⟨20,[(0,tapeO raw g.1),(1,boxT t),(2,boxNt ⟨[a,b],[c,d],ws,ts,ps,hds⟩),(3,.box [.os 4 2 0 2,.os 5 2 0 2,.os 6 2 0 ws.length,.os 7 10 0 ts.length,.os 8 6 0 ps.length,.os 9 5 0 hds.length]),(4,.box [.v (.string a.name),.os 10 7 0 (a.items.length+1),.v (.string b.name),.os 11 7 0 b.items.length]),(5,.box [.v (.string c.name),.os 14 7 0 c.items.length,.v (.string d.name),.os 15 7 0 (d.items.length+1)]),(6,.arr 2 (ws.map encWn)),(7,.arr 10 (ts.map encSm)),(8,.arr 6 (ps.map encPb)),(9,.arr 5 (hds.map encHn)),(10,.arr 7 (a.items.map encIt++[encIt (zX q)])),(11,.arr 7 (b.items.map encIt)),(14,.arr 7 (c.items.map encIt)),(15,.arr 7 (d.items.map encIt++[encIt (zY g.2)]))],[(3,.op 0 0),(4,.op 1 0),(5,.op 2 0),(6,.op 3 0),(12,.v (.int .i64 1))]⟩) (fun g=>g.1<=raw.length/\g.2.lo<=g.2.hi/\g.2.hi<=65535) ?_ ?_
     ·(repeat' ((conv=>whnf);first|(refine in_r (by rfl) ?_)|(refine Ix.intro rfl ?_)|(refine sl_full (by simp) ?_)|(refine enRange raw _ 65535 (by decide) (by decide) (by with_reducible assumption) hr fun r p6 r0 r1 hp6=>?_)|refine zG ?_|apply zA|(apply zI;intro h)|exact zT));(all_goals conv=>whnf)
      all_goals
       refine⟨(p6,r),⟨by with_reducible assumption,r0,r1⟩,?_⟩
       (exact leA)
     rintro⟨p6,r⟩ ⟨hp6,r0,r1⟩
     simp only at hp6 r0 r1⊢
     obtain⟨k1,k2,k3,k4⟩:=hsL 1 r d.name r0 r1
     have sA:=fun {K} h=>@hsA d.name K h
     have sB:∀{K:KT},K (.tup [encXs (svcP ⟨[a,b],addIt [c,d] 1 (zY r),ws,ts,ps,hds⟩ d.name).1,.v (.int .i64 (svcP ⟨[a,b],addIt [c,d] 1 (zY r),ws,ts,ps,hds⟩ d.name).2)]) []->ACall Tryz.prog 24 [.agg [.lst [.agg [.v (.string a.name),.lst (a.items.map encIt++[encIt (zX q)])],.agg [.v (.string b.name),.lst (b.items.map encIt)]],.lst [.agg [.v (.string c.name),.lst (c.items.map encIt)],.agg [.v (.string d.name),.lst (d.items.map encIt++[encIt (zY r)])]],.lst (ws.map encWn),.lst (ts.map encSm),.lst (ps.map encPb),.lst (hds.map encHn)],.v (.string d.name)] [] K:=fun {K} h=>by
      have eE:(AV.agg [.lst [.agg [.v (.string a.name),.lst (a.items.map encIt++[encIt (zX q)])],.agg [.v (.string b.name),.lst (b.items.map encIt)]],.lst [.agg [.v (.string c.name),.lst (c.items.map encIt)],.agg [.v (.string d.name),.lst (d.items.map encIt++[encIt (zY r)])]],.lst (ws.map encWn),.lst (ts.map encSm),.lst (ps.map encPb),.lst (hds.map encHn)])=encNt ⟨addIt [a,b] 0 (zX q),addIt [c,d] 1 (zY r),ws,ts,ps,hds⟩:=by simp[addIt]
      rw[eE]
      exact @hsB 0 1 (zX q) (zY r) d.name hxB (hyB r r0 r1) K h
     generalize svcP ⟨[a,b],addIt [c,d] 1 (zY r),ws,ts,ps,hds⟩ d.name=T at*
     generalize svcP ⟨[a,b],[c,d],ws,ts,ps,hds⟩ d.name=U at*
     obtain⟨Ts,Te⟩:=T
     obtain⟨Us,Ue⟩:=U
     simp only at k1 k2 k3 k4 sA sB
     subst k3
     have hsub:=fun {K} h=>@sub_small Us Ts k1 k2 k4 K h
     (repeat' ((conv=>whnf);first|(refine in_r (by rfl) ?_)|(refine Ix.intro rfl ?_)|(refine sl_full (by simp) ?_)|(with_reducible refine sA ?_)|(refine sB ?_)|(with_reducible first|refine hsub ?_|refine cwSane ?_)|refine zG ?_|apply zA|(apply zI;intro h)|exact zT));(all_goals conv=>whnf)
     all_goals first
      |exact .inl rfl
      |exact .inr rfl
      |(exfalso;simp_all;done)
      |trace_state
   ·obtain rfl:=l5 hz
    obtain rfl:=l6 hz
    have gA:=fun {K:KT} h=>@gA K (fun _ _=>h) (fun h0=>absurd h0 hz)
    have gB:=fun {K:KT} h=>@gB K (fun _ _=>h) (fun h0=>absurd h0 hz)
    (repeat' ((conv=>whnf);first|(refine in_r (by rfl) ?_)|(refine Ix.intro rfl ?_)|(refine sl_full (by simp) ?_)|(with_reducible refine gA ?_)|(refine gB ?_)|(refine c44 [] [] (by simp) (by simp) fun s hs=>?_)|(with_reducible first|refine cwSane ?_|refine nNext raw _ _ (by simp) (by with_reducible assumption) hr fun m p5 hm hp5=>?_)|refine zG ?_|apply zA|(apply zI;intro h)|exact zT));(all_goals conv=>whnf)
    all_goals try(exfalso;have:=hs.2 l4;simp_all;done)
    all_goals try(exfalso;simp at h;done)
    all_goals try(first|exact .inl rfl|exact .inr rfl)
    obtain rfl|rfl:m=0\/m=1:=by(try simp only[List.length_cons,List.length_nil]at hm);omega
    ·refine Jn.intro (Nat×Rg) (fun g=>⟨20,[(0,tapeO raw g.1),(1,boxT t),(2,boxNt ⟨[a,b],[c,d],ws,ts,ps,hds⟩),(3,.box [.os 4 2 0 2,.os 5 2 0 2,.os 6 2 0 ws.length,.os 7 10 0 ts.length,.os 8 6 0 ps.length,.os 9 5 0 hds.length]),(4,.box [.v (.string a.name),.os 10 7 0 (a.items.length+1),.v (.string b.name),.os 11 7 0 b.items.length]),(5,.box [.v (.string c.name),.os 14 7 0 (c.items.length+1),.v (.string d.name),.os 15 7 0 d.items.length]),(6,.arr 2 (ws.map encWn)),(7,.arr 10 (ts.map encSm)),(8,.arr 6 (ps.map encPb)),(9,.arr 5 (hds.map encHn)),(10,.arr 7 (a.items.map encIt++[encIt (zX q)])),(11,.arr 7 (b.items.map encIt)),(14,.arr 7 (c.items.map encIt++[encIt (zY g.2)])),(15,.arr 7 (d.items.map encIt))],[(3,.op 0 0),(4,.op 1 0),(5,.op 2 0),(6,.op 3 0),(12,.v (.int .i64 0))]⟩) (fun g=>g.1<=raw.length/\g.2.lo<=g.2.hi/\g.2.hi<=65535) ?_ ?_
     ·(repeat' ((conv=>whnf);first|(refine in_r (by rfl) ?_)|(refine Ix.intro rfl ?_)|(refine sl_full (by simp) ?_)|(refine enRange raw _ 65535 (by decide) (by decide) (by with_reducible assumption) hr fun r p6 r0 r1 hp6=>?_)|refine zG ?_|apply zA|(apply zI;intro h)|exact zT));(all_goals conv=>whnf)
      all_goals
       refine⟨(p6,r),⟨by with_reducible assumption,r0,r1⟩,?_⟩
       (exact leA)
     rintro⟨p6,r⟩ ⟨hp6,r0,r1⟩
     simp only at hp6 r0 r1⊢
     obtain⟨k1,k2,k3,k4⟩:=hsL 0 r c.name r0 r1
     have sA:=fun {K} h=>@hsA c.name K h
     have sB:∀{K:KT},K (.tup [encXs (svcP ⟨[a,b],addIt [c,d] 0 (zY r),ws,ts,ps,hds⟩ c.name).1,.v (.int .i64 (svcP ⟨[a,b],addIt [c,d] 0 (zY r),ws,ts,ps,hds⟩ c.name).2)]) []->ACall Tryz.prog 24 [.agg [.lst [.agg [.v (.string a.name),.lst (a.items.map encIt++[encIt (zX q)])],.agg [.v (.string b.name),.lst (b.items.map encIt)]],.lst [.agg [.v (.string c.name),.lst (c.items.map encIt++[encIt (zY r)])],.agg [.v (.string d.name),.lst (d.items.map encIt)]],.lst (ws.map encWn),.lst (ts.map encSm),.lst (ps.map encPb),.lst (hds.map encHn)],.v (.string c.name)] [] K:=fun {K} h=>by
      have eE:(AV.agg [.lst [.agg [.v (.string a.name),.lst (a.items.map encIt++[encIt (zX q)])],.agg [.v (.string b.name),.lst (b.items.map encIt)]],.lst [.agg [.v (.string c.name),.lst (c.items.map encIt++[encIt (zY r)])],.agg [.v (.string d.name),.lst (d.items.map encIt)]],.lst (ws.map encWn),.lst (ts.map encSm),.lst (ps.map encPb),.lst (hds.map encHn)])=encNt ⟨addIt [a,b] 0 (zX q),addIt [c,d] 0 (zY r),ws,ts,ps,hds⟩:=by simp[addIt]
      rw[eE]
      exact @hsB 0 0 (zX q) (zY r) c.name hxB (hyB r r0 r1) K h
     generalize svcP ⟨[a,b],addIt [c,d] 0 (zY r),ws,ts,ps,hds⟩ c.name=T at*
     generalize svcP ⟨[a,b],[c,d],ws,ts,ps,hds⟩ c.name=U at*
     obtain⟨Ts,Te⟩:=T
     obtain⟨Us,Ue⟩:=U
     simp only at k1 k2 k3 k4 sA sB
     subst k3
     have hsub:=fun {K} h=>@sub_small Us Ts k1 k2 k4 K h
     (repeat' ((conv=>whnf);first|(refine in_r (by rfl) ?_)|(refine Ix.intro rfl ?_)|(refine sl_full (by simp) ?_)|(with_reducible refine sA ?_)|(refine sB ?_)|(with_reducible first|refine hsub ?_|refine cwSane ?_)|refine zG ?_|apply zA|(apply zI;intro h)|exact zT));(all_goals conv=>whnf)
     all_goals first
      |exact .inl rfl
      |exact .inr rfl
      |(exfalso;simp_all;done)
      |trace_state
    ·refine Jn.intro (Nat×Rg) (fun g=>⟨20,[(0,tapeO raw g.1),(1,boxT t),(2,boxNt ⟨[a,b],[c,d],ws,ts,ps,hds⟩),(3,.box [.os 4 2 0 2,.os 5 2 0 2,.os 6 2 0 ws.length,.os 7 10 0 ts.length,.os 8 6 0 ps.length,.os 9 5 0 hds.length]),(4,.box [.v (.string a.name),.os 10 7 0 (a.items.length+1),.v (.string b.name),.os 11 7 0 b.items.length]),(5,.box [.v (.string c.name),.os 14 7 0 c.items.length,.v (.string d.name),.os 15 7 0 (d.items.length+1)]),(6,.arr 2 (ws.map encWn)),(7,.arr 10 (ts.map encSm)),(8,.arr 6 (ps.map encPb)),(9,.arr 5 (hds.map encHn)),(10,.arr 7 (a.items.map encIt++[encIt (zX q)])),(11,.arr 7 (b.items.map encIt)),(14,.arr 7 (c.items.map encIt)),(15,.arr 7 (d.items.map encIt++[encIt (zY g.2)]))],[(3,.op 0 0),(4,.op 1 0),(5,.op 2 0),(6,.op 3 0),(12,.v (.int .i64 1))]⟩) (fun g=>g.1<=raw.length/\g.2.lo<=g.2.hi/\g.2.hi<=65535) ?_ ?_
     ·(repeat' ((conv=>whnf);first|(refine in_r (by rfl) ?_)|(refine Ix.intro rfl ?_)|(refine sl_full (by simp) ?_)|(refine enRange raw _ 65535 (by decide) (by decide) (by with_reducible assumption) hr fun r p6 r0 r1 hp6=>?_)|refine zG ?_|apply zA|(apply zI;intro h)|exact zT));(all_goals conv=>whnf)
      all_goals
       refine⟨(p6,r),⟨by with_reducible assumption,r0,r1⟩,?_⟩
       (exact leA)
     rintro⟨p6,r⟩ ⟨hp6,r0,r1⟩
     simp only at hp6 r0 r1⊢
     obtain⟨k1,k2,k3,k4⟩:=hsL 1 r d.name r0 r1
     have sA:=fun {K} h=>@hsA d.name K h
     have sB:∀{K:KT},K (.tup [encXs (svcP ⟨[a,b],addIt [c,d] 1 (zY r),ws,ts,ps,hds⟩ d.name).1,.v (.int .i64 (svcP ⟨[a,b],addIt [c,d] 1 (zY r),ws,ts,ps,hds⟩ d.name).2)]) []->ACall Tryz.prog 24 [.agg [.lst [.agg [.v (.string a.name),.lst (a.items.map encIt++[encIt (zX q)])],.agg [.v (.string b.name),.lst (b.items.map encIt)]],.lst [.agg [.v (.string c.name),.lst (c.items.map encIt)],.agg [.v (.string d.name),.lst (d.items.map encIt++[encIt (zY r)])]],.lst (ws.map encWn),.lst (ts.map encSm),.lst (ps.map encPb),.lst (hds.map encHn)],.v (.string d.name)] [] K:=fun {K} h=>by
      have eE:(AV.agg [.lst [.agg [.v (.string a.name),.lst (a.items.map encIt++[encIt (zX q)])],.agg [.v (.string b.name),.lst (b.items.map encIt)]],.lst [.agg [.v (.string c.name),.lst (c.items.map encIt)],.agg [.v (.string d.name),.lst (d.items.map encIt++[encIt (zY r)])]],.lst (ws.map encWn),.lst (ts.map encSm),.lst (ps.map encPb),.lst (hds.map encHn)])=encNt ⟨addIt [a,b] 0 (zX q),addIt [c,d] 1 (zY r),ws,ts,ps,hds⟩:=by simp[addIt]
      rw[eE]
      exact @hsB 0 1 (zX q) (zY r) d.name hxB (hyB r r0 r1) K h
     generalize svcP ⟨[a,b],addIt [c,d] 1 (zY r),ws,ts,ps,hds⟩ d.name=T at*
     generalize svcP ⟨[a,b],[c,d],ws,ts,ps,hds⟩ d.name=U at*
     obtain⟨Ts,Te⟩:=T
     obtain⟨Us,Ue⟩:=U
     simp only at k1 k2 k3 k4 sA sB
     subst k3
     have hsub:=fun {K} h=>@sub_small Us Ts k1 k2 k4 K h
     (repeat' ((conv=>whnf);first|(refine in_r (by rfl) ?_)|(refine Ix.intro rfl ?_)|(refine sl_full (by simp) ?_)|(with_reducible refine sA ?_)|(refine sB ?_)|(with_reducible first|refine hsub ?_|refine cwSane ?_)|refine zG ?_|apply zA|(apply zI;intro h)|exact zT));(all_goals conv=>whnf)
     all_goals first
      |exact .inl rfl
      |exact .inr rfl
      |(exfalso;simp_all;done)
      |trace_state
  ·refine Jn.intro (Nat×Pf) (fun g=>⟨20,[(0,tapeO raw g.1),(1,boxT t),(2,boxNt ⟨[a,b],[c,d],ws,ts,ps,hds⟩),(3,.box [.os 4 2 0 2,.os 5 2 0 2,.os 6 2 0 ws.length,.os 7 10 0 ts.length,.os 8 6 0 ps.length,.os 9 5 0 hds.length]),(4,.box [.v (.string a.name),.os 10 7 0 a.items.length,.v (.string b.name),.os 11 7 0 (b.items.length+1)]),(5,.box [.v (.string c.name),.os 14 7 0 c.items.length,.v (.string d.name),.os 15 7 0 d.items.length]),(6,.arr 2 (ws.map encWn)),(7,.arr 10 (ts.map encSm)),(8,.arr 6 (ps.map encPb)),(9,.arr 5 (hds.map encHn)),(10,.arr 7 (a.items.map encIt)),(11,.arr 7 (b.items.map encIt++[encIt (zX g.2)])),(14,.arr 7 (c.items.map encIt)),(15,.arr 7 (d.items.map encIt))],[(3,.op 0 0),(4,.op 1 0),(5,.op 2 0),(6,.op 3 0),(7,.v (.int .i64 1))]⟩) (fun g=>g.1<=raw.length/\g.2.okP) ?_ ?_
   ·(repeat' ((conv=>whnf);first|(refine in_r (by rfl) ?_)|(refine Ix.intro rfl ?_)|(refine sl_full (by simp) ?_)|(with_reducible refine enPref raw _ (by with_reducible assumption) hr fun q p4 hq hp4=>?_)|refine zG ?_|apply zA|(apply zI;intro h)|exact zT));(all_goals conv=>whnf)
    all_goals
     refine⟨(p4,q),⟨by with_reducible assumption,hq⟩,?_⟩
     (exact leA)
   rintro⟨p4,q⟩ ⟨hp4,hq⟩
   simp only at hp4 hq⊢
   have hxB:=itB_sub hq
   obtain⟨l1,l2,l3,l4⟩:=hgL 1 (zX q) b.name rfl
   have gA:=fun {K} h1 h2=>@hgA b.name K h1 h2
   have gB:∀{K:KT},((grpP t ⟨addIt [a,b] 1 (zX q),[c,d],ws,ts,ps,hds⟩ b.name).2≠0->(grpP t ⟨addIt [a,b] 1 (zX q),[c,d],ws,ts,ps,hds⟩ b.name).1=[]->K (.tup [.lst [],.v (.int .i64 (grpP t ⟨addIt [a,b] 1 (zX q),[c,d],ws,ts,ps,hds⟩ b.name).2)]) [])->((grpP t ⟨addIt [a,b] 1 (zX q),[c,d],ws,ts,ps,hds⟩ b.name).2=0->K (.tup [.os 0 2 0 (grpP t ⟨addIt [a,b] 1 (zX q),[c,d],ws,ts,ps,hds⟩ b.name).1.length,.v (.int .i64 0)]) [.arr 2 ((grpP t ⟨addIt [a,b] 1 (zX q),[c,d],ws,ts,ps,hds⟩ b.name).1.map encR)])->ACall Tryz.prog 13 [encT t,.agg [.lst [.agg [.v (.string a.name),.lst (a.items.map encIt)],.agg [.v (.string b.name),.lst (b.items.map encIt++[encIt (zX q)])]],.lst [.agg [.v (.string c.name),.lst (c.items.map encIt)],.agg [.v (.string d.name),.lst (d.items.map encIt)]],.lst (ws.map encWn),.lst (ts.map encSm),.lst (ps.map encPb),.lst (hds.map encHn)],.v (.string b.name)] [] K:=fun {K} h1 h2=>by
    have eE:(AV.agg [.lst [.agg [.v (.string a.name),.lst (a.items.map encIt)],.agg [.v (.string b.name),.lst (b.items.map encIt++[encIt (zX q)])]],.lst [.agg [.v (.string c.name),.lst (c.items.map encIt)],.agg [.v (.string d.name),.lst (d.items.map encIt)]],.lst (ws.map encWn),.lst (ts.map encSm),.lst (ps.map encPb),.lst (hds.map encHn)])=encNt ⟨addIt [a,b] 1 (zX q),[c,d],ws,ts,ps,hds⟩:=by simp[addIt]
    rw[eE]
    exact @hgB 1 (zX q) b.name hxB K h1 h2
   have l5:=grpP_errO t ⟨addIt [a,b] 1 (zX q),[c,d],ws,ts,ps,hds⟩ b.name
   have l6:=grpP_errO t ⟨[a,b],[c,d],ws,ts,ps,hds⟩ b.name
   generalize grpP t ⟨addIt [a,b] 1 (zX q),[c,d],ws,ts,ps,hds⟩ b.name=J at*
   generalize grpP t ⟨[a,b],[c,d],ws,ts,ps,hds⟩ b.name=O at*
   obtain⟨Js,Je⟩:=J
   obtain⟨Os,Oe⟩:=O
   simp only at l1 l2 l3 l4 l5 l6 gA gB
   subst l3
   have hfl:=flat_encR Js
   have hfo:=flat_encR Os
   by_cases hz:Oe=0
   ·subst hz
    have gB:=fun {K:KT} h=>@gB K (fun h0=>absurd rfl h0) (fun _=>h)
    have gA:=fun {K:KT} h=>@gA K (fun h0=>absurd rfl h0) (fun _=>h)
    (repeat' ((conv=>whnf);first|(refine in_r (by rfl) ?_)|(refine Ix.intro rfl ?_)|(refine sl_full (by simp) ?_)|(with_reducible refine gA ?_)|(refine gB ?_)|(with_reducible first|refine c44 Os Js (by omega) (by omega) fun s hs=>?_|refine cwSane ?_|refine nNext raw _ _ (by simp) (by with_reducible assumption) hr fun m p5 hm hp5=>?_)|(refine Ob.intro hfl ?_)|(refine Ob.intro hfo ?_)|refine zG ?_|apply zA|(apply zI;intro h)|exact zT));(all_goals conv=>whnf)
    all_goals try(exfalso;have:=hs.2 l4;simp_all;done)
    all_goals try(exfalso;simp at h;done)
    all_goals try(first|exact .inl rfl|exact .inr rfl)
    obtain rfl|rfl:m=0\/m=1:=by(try simp only[List.length_cons,List.length_nil]at hm);omega
    ·refine Jn.intro (Nat×Rg) (fun g=>⟨20,[(0,tapeO raw g.1),(1,boxT t),(2,boxNt ⟨[a,b],[c,d],ws,ts,ps,hds⟩),(3,.box [.os 4 2 0 2,.os 5 2 0 2,.os 6 2 0 ws.length,.os 7 10 0 ts.length,.os 8 6 0 ps.length,.os 9 5 0 hds.length]),(4,.box [.v (.string a.name),.os 10 7 0 a.items.length,.v (.string b.name),.os 11 7 0 (b.items.length+1)]),(5,.box [.v (.string c.name),.os 14 7 0 (c.items.length+1),.v (.string d.name),.os 15 7 0 d.items.length]),(6,.arr 2 (ws.map encWn)),(7,.arr 10 (ts.map encSm)),(8,.arr 6 (ps.map encPb)),(9,.arr 5 (hds.map encHn)),(10,.arr 7 (a.items.map encIt)),(11,.arr 7 (b.items.map encIt++[encIt (zX q)])),(14,.arr 7 (c.items.map encIt++[encIt (zY g.2)])),(15,.arr 7 (d.items.map encIt))],[(3,.op 0 0),(4,.op 1 0),(5,.op 2 0),(6,.op 3 0),(12,.v (.int .i64 0))]⟩) (fun g=>g.1<=raw.length/\g.2.lo<=g.2.hi/\g.2.hi<=65535) ?_ ?_
     ·(repeat' ((conv=>whnf);first|(refine in_r (by rfl) ?_)|(refine Ix.intro rfl ?_)|(refine sl_full (by simp) ?_)|(refine enRange raw _ 65535 (by decide) (by decide) (by with_reducible assumption) hr fun r p6 r0 r1 hp6=>?_)|refine zG ?_|apply zA|(apply zI;intro h)|exact zT));(all_goals conv=>whnf)
      all_goals
       refine⟨(p6,r),⟨by with_reducible assumption,r0,r1⟩,?_⟩
       (exact leA)
     rintro⟨p6,r⟩ ⟨hp6,r0,r1⟩
     simp only at hp6 r0 r1⊢
     obtain⟨k1,k2,k3,k4⟩:=hsL 0 r c.name r0 r1
     have sA:=fun {K} h=>@hsA c.name K h
     have sB:∀{K:KT},K (.tup [encXs (svcP ⟨[a,b],addIt [c,d] 0 (zY r),ws,ts,ps,hds⟩ c.name).1,.v (.int .i64 (svcP ⟨[a,b],addIt [c,d] 0 (zY r),ws,ts,ps,hds⟩ c.name).2)]) []->ACall Tryz.prog 24 [.agg [.lst [.agg [.v (.string a.name),.lst (a.items.map encIt)],.agg [.v (.string b.name),.lst (b.items.map encIt++[encIt (zX q)])]],.lst [.agg [.v (.string c.name),.lst (c.items.map encIt++[encIt (zY r)])],.agg [.v (.string d.name),.lst (d.items.map encIt)]],.lst (ws.map encWn),.lst (ts.map encSm),.lst (ps.map encPb),.lst (hds.map encHn)],.v (.string c.name)] [] K:=fun {K} h=>by
      have eE:(AV.agg [.lst [.agg [.v (.string a.name),.lst (a.items.map encIt)],.agg [.v (.string b.name),.lst (b.items.map encIt++[encIt (zX q)])]],.lst [.agg [.v (.string c.name),.lst (c.items.map encIt++[encIt (zY r)])],.agg [.v (.string d.name),.lst (d.items.map encIt)]],.lst (ws.map encWn),.lst (ts.map encSm),.lst (ps.map encPb),.lst (hds.map encHn)])=encNt ⟨addIt [a,b] 1 (zX q),addIt [c,d] 0 (zY r),ws,ts,ps,hds⟩:=by simp[addIt]
      rw[eE]
      exact @hsB 1 0 (zX q) (zY r) c.name hxB (hyB r r0 r1) K h
     generalize svcP ⟨[a,b],addIt [c,d] 0 (zY r),ws,ts,ps,hds⟩ c.name=T at*
     generalize svcP ⟨[a,b],[c,d],ws,ts,ps,hds⟩ c.name=U at*
     obtain⟨Ts,Te⟩:=T
     obtain⟨Us,Ue⟩:=U
     simp only at k1 k2 k3 k4 sA sB
     subst k3
     have hsub:=fun {K} h=>@sub_small Us Ts k1 k2 k4 K h
     (repeat' ((conv=>whnf);first|(refine in_r (by rfl) ?_)|(refine Ix.intro rfl ?_)|(refine sl_full (by simp) ?_)|(with_reducible refine sA ?_)|(refine sB ?_)|(with_reducible first|refine hsub ?_|refine cwSane ?_)|refine zG ?_|apply zA|(apply zI;intro h)|exact zT));(all_goals conv=>whnf)
     all_goals first
      |exact .inl rfl
      |exact .inr rfl
      |(exfalso;simp_all;done)
      |trace_state
    ·refine Jn.intro (Nat×Rg) (fun g=>⟨20,[(0,tapeO raw g.1),(1,boxT t),(2,boxNt ⟨[a,b],[c,d],ws,ts,ps,hds⟩),(3,.box [.os 4 2 0 2,.os 5 2 0 2,.os 6 2 0 ws.length,.os 7 10 0 ts.length,.os 8 6 0 ps.length,.os 9 5 0 hds.length]),(4,.box [.v (.string a.name),.os 10 7 0 a.items.length,.v (.string b.name),.os 11 7 0 (b.items.length+1)]),(5,.box [.v (.string c.name),.os 14 7 0 c.items.length,.v (.string d.name),.os 15 7 0 (d.items.length+1)]),(6,.arr 2 (ws.map encWn)),(7,.arr 10 (ts.map encSm)),(8,.arr 6 (ps.map encPb)),(9,.arr 5 (hds.map encHn)),(10,.arr 7 (a.items.map encIt)),(11,.arr 7 (b.items.map encIt++[encIt (zX q)])),(14,.arr 7 (c.items.map encIt)),(15,.arr 7 (d.items.map encIt++[encIt (zY g.2)]))],[(3,.op 0 0),(4,.op 1 0),(5,.op 2 0),(6,.op 3 0),(12,.v (.int .i64 1))]⟩) (fun g=>g.1<=raw.length/\g.2.lo<=g.2.hi/\g.2.hi<=65535) ?_ ?_
     ·(repeat' ((conv=>whnf);first|(refine in_r (by rfl) ?_)|(refine Ix.intro rfl ?_)|(refine sl_full (by simp) ?_)|(refine enRange raw _ 65535 (by decide) (by decide) (by with_reducible assumption) hr fun r p6 r0 r1 hp6=>?_)|refine zG ?_|apply zA|(apply zI;intro h)|exact zT));(all_goals conv=>whnf)
      all_goals
       refine⟨(p6,r),⟨by with_reducible assumption,r0,r1⟩,?_⟩
       (exact leA)
     rintro⟨p6,r⟩ ⟨hp6,r0,r1⟩
     simp only at hp6 r0 r1⊢
     obtain⟨k1,k2,k3,k4⟩:=hsL 1 r d.name r0 r1
     have sA:=fun {K} h=>@hsA d.name K h
     have sB:∀{K:KT},K (.tup [encXs (svcP ⟨[a,b],addIt [c,d] 1 (zY r),ws,ts,ps,hds⟩ d.name).1,.v (.int .i64 (svcP ⟨[a,b],addIt [c,d] 1 (zY r),ws,ts,ps,hds⟩ d.name).2)]) []->ACall Tryz.prog 24 [.agg [.lst [.agg [.v (.string a.name),.lst (a.items.map encIt)],.agg [.v (.string b.name),.lst (b.items.map encIt++[encIt (zX q)])]],.lst [.agg [.v (.string c.name),.lst (c.items.map encIt)],.agg [.v (.string d.name),.lst (d.items.map encIt++[encIt (zY r)])]],.lst (ws.map encWn),.lst (ts.map encSm),.lst (ps.map encPb),.lst (hds.map encHn)],.v (.string d.name)] [] K:=fun {K} h=>by
      have eE:(AV.agg [.lst [.agg [.v (.string a.name),.lst (a.items.map encIt)],.agg [.v (.string b.name),.lst (b.items.map encIt++[encIt (zX q)])]],.lst [.agg [.v (.string c.name),.lst (c.items.map encIt)],.agg [.v (.string d.name),.lst (d.items.map encIt++[encIt (zY r)])]],.lst (ws.map encWn),.lst (ts.map encSm),.lst (ps.map encPb),.lst (hds.map encHn)])=encNt ⟨addIt [a,b] 1 (zX q),addIt [c,d] 1 (zY r),ws,ts,ps,hds⟩:=by simp[addIt]
      rw[eE]
      exact @hsB 1 1 (zX q) (zY r) d.name hxB (hyB r r0 r1) K h
     generalize svcP ⟨[a,b],addIt [c,d] 1 (zY r),ws,ts,ps,hds⟩ d.name=T at*
     generalize svcP ⟨[a,b],[c,d],ws,ts,ps,hds⟩ d.name=U at*
     obtain⟨Ts,Te⟩:=T
     obtain⟨Us,Ue⟩:=U
     simp only at k1 k2 k3 k4 sA sB
     subst k3
     have hsub:=fun {K} h=>@sub_small Us Ts k1 k2 k4 K h
     (repeat' ((conv=>whnf);first|(refine in_r (by rfl) ?_)|(refine Ix.intro rfl ?_)|(refine sl_full (by simp) ?_)|(with_reducible refine sA ?_)|(refine sB ?_)|(with_reducible first|refine hsub ?_|refine cwSane ?_)|refine zG ?_|apply zA|(apply zI;intro h)|exact zT));(all_goals conv=>whnf)
     all_goals first
      |exact .inl rfl
      |exact .inr rfl
      |(exfalso;simp_all;done)
      |trace_state
   ·obtain rfl:=l5 hz
    obtain rfl:=l6 hz
    have gA:=fun {K:KT} h=>@gA K (fun _ _=>h) (fun h0=>absurd h0 hz)
    have gB:=fun {K:KT} h=>@gB K (fun _ _=>h) (fun h0=>absurd h0 hz)
    (repeat' ((conv=>whnf);first|(refine in_r (by rfl) ?_)|(refine Ix.intro rfl ?_)|(refine sl_full (by simp) ?_)|(with_reducible refine gA ?_)|(refine gB ?_)|(refine c44 [] [] (by simp) (by simp) fun s hs=>?_)|(with_reducible first|refine cwSane ?_|refine nNext raw _ _ (by simp) (by with_reducible assumption) hr fun m p5 hm hp5=>?_)|refine zG ?_|apply zA|(apply zI;intro h)|exact zT));(all_goals conv=>whnf)
    all_goals try(exfalso;have:=hs.2 l4;simp_all;done)
    all_goals try(exfalso;simp at h;done)
    all_goals try(first|exact .inl rfl|exact .inr rfl)
    obtain rfl|rfl:m=0\/m=1:=by(try simp only[List.length_cons,List.length_nil]at hm);omega
    ·refine Jn.intro (Nat×Rg) (fun g=>⟨20,[(0,tapeO raw g.1),(1,boxT t),(2,boxNt ⟨[a,b],[c,d],ws,ts,ps,hds⟩),(3,.box [.os 4 2 0 2,.os 5 2 0 2,.os 6 2 0 ws.length,.os 7 10 0 ts.length,.os 8 6 0 ps.length,.os 9 5 0 hds.length]),(4,.box [.v (.string a.name),.os 10 7 0 a.items.length,.v (.string b.name),.os 11 7 0 (b.items.length+1)]),(5,.box [.v (.string c.name),.os 14 7 0 (c.items.length+1),.v (.string d.name),.os 15 7 0 d.items.length]),(6,.arr 2 (ws.map encWn)),(7,.arr 10 (ts.map encSm)),(8,.arr 6 (ps.map encPb)),(9,.arr 5 (hds.map encHn)),(10,.arr 7 (a.items.map encIt)),(11,.arr 7 (b.items.map encIt++[encIt (zX q)])),(14,.arr 7 (c.items.map encIt++[encIt (zY g.2)])),(15,.arr 7 (d.items.map encIt))],[(3,.op 0 0),(4,.op 1 0),(5,.op 2 0),(6,.op 3 0),(12,.v (.int .i64 0))]⟩) (fun g=>g.1<=raw.length/\g.2.lo<=g.2.hi/\g.2.hi<=65535) ?_ ?_
     ·(repeat' ((conv=>whnf);first|(refine in_r (by rfl) ?_)|(refine Ix.intro rfl ?_)|(refine sl_full (by simp) ?_)|(refine enRange raw _ 65535 (by decide) (by decide) (by with_reducible assumption) hr fun r p6 r0 r1 hp6=>?_)|refine zG ?_|apply zA|(apply zI;intro h)|exact zT));(all_goals conv=>whnf)
      all_goals
       refine⟨(p6,r),⟨by with_reducible assumption,r0,r1⟩,?_⟩
       (exact leA)
     rintro⟨p6,r⟩ ⟨hp6,r0,r1⟩
     simp only at hp6 r0 r1⊢
     obtain⟨k1,k2,k3,k4⟩:=hsL 0 r c.name r0 r1
     have sA:=fun {K} h=>@hsA c.name K h
     have sB:∀{K:KT},K (.tup [encXs (svcP ⟨[a,b],addIt [c,d] 0 (zY r),ws,ts,ps,hds⟩ c.name).1,.v (.int .i64 (svcP ⟨[a,b],addIt [c,d] 0 (zY r),ws,ts,ps,hds⟩ c.name).2)]) []->ACall Tryz.prog 24 [.agg [.lst [.agg [.v (.string a.name),.lst (a.items.map encIt)],.agg [.v (.string b.name),.lst (b.items.map encIt++[encIt (zX q)])]],.lst [.agg [.v (.string c.name),.lst (c.items.map encIt++[encIt (zY r)])],.agg [.v (.string d.name),.lst (d.items.map encIt)]],.lst (ws.map encWn),.lst (ts.map encSm),.lst (ps.map encPb),.lst (hds.map encHn)],.v (.string c.name)] [] K:=fun {K} h=>by
      have eE:(AV.agg [.lst [.agg [.v (.string a.name),.lst (a.items.map encIt)],.agg [.v (.string b.name),.lst (b.items.map encIt++[encIt (zX q)])]],.lst [.agg [.v (.string c.name),.lst (c.items.map encIt++[encIt (zY r)])],.agg [.v (.string d.name),.lst (d.items.map encIt)]],.lst (ws.map encWn),.lst (ts.map encSm),.lst (ps.map encPb),.lst (hds.map encHn)])=encNt ⟨addIt [a,b] 1 (zX q),addIt [c,d] 0 (zY r),ws,ts,ps,hds⟩:=by simp[addIt]
      rw[eE]
      exact @hsB 1 0 (zX q) (zY r) c.name hxB (hyB r r0 r1) K h
     generalize svcP ⟨[a,b],addIt [c,d] 0 (zY r),ws,ts,ps,hds⟩ c.name=T at*
     generalize svcP ⟨[a,b],[c,d],ws,ts,ps,hds⟩ c.name=U at*
     obtain⟨Ts,Te⟩:=T
     obtain⟨Us,Ue⟩:=U
     simp only at k1 k2 k3 k4 sA sB
     subst k3
     have hsub:=fun {K} h=>@sub_small Us Ts k1 k2 k4 K h
     (repeat' ((conv=>whnf);first|(refine in_r (by rfl) ?_)|(refine Ix.intro rfl ?_)|(refine sl_full (by simp) ?_)|(with_reducible refine sA ?_)|(refine sB ?_)|(with_reducible first|refine hsub ?_|refine cwSane ?_)|refine zG ?_|apply zA|(apply zI;intro h)|exact zT));(all_goals conv=>whnf)
     all_goals first
      |exact .inl rfl
      |exact .inr rfl
      |(exfalso;simp_all;done)
      |trace_state
    ·refine Jn.intro (Nat×Rg) (fun g=>⟨20,[(0,tapeO raw g.1),(1,boxT t),(2,boxNt ⟨[a,b],[c,d],ws,ts,ps,hds⟩),(3,.box [.os 4 2 0 2,.os 5 2 0 2,.os 6 2 0 ws.length,.os 7 10 0 ts.length,.os 8 6 0 ps.length,.os 9 5 0 hds.length]),(4,.box [.v (.string a.name),.os 10 7 0 a.items.length,.v (.string b.name),.os 11 7 0 (b.items.length+1)]),(5,.box [.v (.string c.name),.os 14 7 0 c.items.length,.v (.string d.name),.os 15 7 0 (d.items.length+1)]),(6,.arr 2 (ws.map encWn)),(7,.arr 10 (ts.map encSm)),(8,.arr 6 (ps.map encPb)),(9,.arr 5 (hds.map encHn)),(10,.arr 7 (a.items.map encIt)),(11,.arr 7 (b.items.map encIt++[encIt (zX q)])),(14,.arr 7 (c.items.map encIt)),(15,.arr 7 (d.items.map encIt++[encIt (zY g.2)]))],[(3,.op 0 0),(4,.op 1 0),(5,.op 2 0),(6,.op 3 0),(12,.v (.int .i64 1))]⟩) (fun g=>g.1<=raw.length/\g.2.lo<=g.2.hi/\g.2.hi<=65535) ?_ ?_
     ·(repeat' ((conv=>whnf);first|(refine in_r (by rfl) ?_)|(refine Ix.intro rfl ?_)|(refine sl_full (by simp) ?_)|(refine enRange raw _ 65535 (by decide) (by decide) (by with_reducible assumption) hr fun r p6 r0 r1 hp6=>?_)|refine zG ?_|apply zA|(apply zI;intro h)|exact zT));(all_goals conv=>whnf)
      all_goals
       refine⟨(p6,r),⟨by with_reducible assumption,r0,r1⟩,?_⟩
       (exact leA)
     rintro⟨p6,r⟩ ⟨hp6,r0,r1⟩
     simp only at hp6 r0 r1⊢
     obtain⟨k1,k2,k3,k4⟩:=hsL 1 r d.name r0 r1
     have sA:=fun {K} h=>@hsA d.name K h
     have sB:∀{K:KT},K (.tup [encXs (svcP ⟨[a,b],addIt [c,d] 1 (zY r),ws,ts,ps,hds⟩ d.name).1,.v (.int .i64 (svcP ⟨[a,b],addIt [c,d] 1 (zY r),ws,ts,ps,hds⟩ d.name).2)]) []->ACall Tryz.prog 24 [.agg [.lst [.agg [.v (.string a.name),.lst (a.items.map encIt)],.agg [.v (.string b.name),.lst (b.items.map encIt++[encIt (zX q)])]],.lst [.agg [.v (.string c.name),.lst (c.items.map encIt)],.agg [.v (.string d.name),.lst (d.items.map encIt++[encIt (zY r)])]],.lst (ws.map encWn),.lst (ts.map encSm),.lst (ps.map encPb),.lst (hds.map encHn)],.v (.string d.name)] [] K:=fun {K} h=>by
      have eE:(AV.agg [.lst [.agg [.v (.string a.name),.lst (a.items.map encIt)],.agg [.v (.string b.name),.lst (b.items.map encIt++[encIt (zX q)])]],.lst [.agg [.v (.string c.name),.lst (c.items.map encIt)],.agg [.v (.string d.name),.lst (d.items.map encIt++[encIt (zY r)])]],.lst (ws.map encWn),.lst (ts.map encSm),.lst (ps.map encPb),.lst (hds.map encHn)])=encNt ⟨addIt [a,b] 1 (zX q),addIt [c,d] 1 (zY r),ws,ts,ps,hds⟩:=by simp[addIt]
      rw[eE]
      exact @hsB 1 1 (zX q) (zY r) d.name hxB (hyB r r0 r1) K h
     generalize svcP ⟨[a,b],addIt [c,d] 1 (zY r),ws,ts,ps,hds⟩ d.name=T at*
     generalize svcP ⟨[a,b],[c,d],ws,ts,ps,hds⟩ d.name=U at*
     obtain⟨Ts,Te⟩:=T
     obtain⟨Us,Ue⟩:=U
     simp only at k1 k2 k3 k4 sA sB
     subst k3
     have hsub:=fun {K} h=>@sub_small Us Ts k1 k2 k4 K h
     (repeat' ((conv=>whnf);first|(refine in_r (by rfl) ?_)|(refine Ix.intro rfl ?_)|(refine sl_full (by simp) ?_)|(with_reducible refine sA ?_)|(refine sB ?_)|(with_reducible first|refine hsub ?_|refine cwSane ?_)|refine zG ?_|apply zA|(apply zI;intro h)|exact zT));(all_goals conv=>whnf)
     all_goals first
      |exact .inl rfl
      |exact .inr rfl
      |(exfalso;simp_all;done)
      |trace_state
 ·have haa:=hgi a (by simp)
  have hbb:=hgi b (by simp)
  have hee:=hgi e (by simp)
  (repeat' ((conv=>whnf);first|(with_reducible first|refine hcp ?_|refine nNext raw _ _ (by simp) (by with_reducible assumption) hr fun n p3 hn hp3=>?_)|refine zG ?_|apply zA|(apply zI;intro h)|exact zT));(all_goals conv=>whnf)
  obtain rfl|rfl|rfl:n=0\/n=1\/n=2:=by simp only[List.length_cons,List.length_nil]at hn;omega
  ·refine Jn.intro (Nat×Pf) (fun g=>⟨20,[(0,tapeO raw g.1),(1,boxT t),(2,boxNt ⟨[a,b,e],[],ws,ts,ps,hds⟩),(3,.box [.os 4 2 0 3,.os 5 2 0 0,.os 6 2 0 ws.length,.os 7 10 0 ts.length,.os 8 6 0 ps.length,.os 9 5 0 hds.length]),(4,.box [.v (.string a.name),.os 10 7 0 (a.items.length+1),.v (.string b.name),.os 11 7 0 b.items.length,.v (.string e.name),.os 12 7 0 e.items.length]),(5,.arr 2 []),(6,.arr 2 (ws.map encWn)),(7,.arr 10 (ts.map encSm)),(8,.arr 6 (ps.map encPb)),(9,.arr 5 (hds.map encHn)),(10,.arr 7 (a.items.map encIt++[encIt (zX g.2)])),(11,.arr 7 (b.items.map encIt)),(12,.arr 7 (e.items.map encIt))],[(3,.op 0 0),(4,.op 1 0),(5,.op 2 0),(6,.op 3 0),(7,.v (.int .i64 0))]⟩) (fun g=>g.1<=raw.length/\g.2.okP) ?_ ?_
   ·(repeat' ((conv=>whnf);first|(refine in_r (by rfl) ?_)|(refine Ix.intro rfl ?_)|(refine sl_full (by simp) ?_)|(with_reducible refine enPref raw _ (by with_reducible assumption) hr fun q p4 hq hp4=>?_)|refine zG ?_|apply zA|(apply zI;intro h)|exact zT));(all_goals conv=>whnf)
    all_goals
     refine⟨(p4,q),⟨by with_reducible assumption,hq⟩,?_⟩
     (exact leA)
   rintro⟨p4,q⟩ ⟨hp4,hq⟩
   simp only at hp4 hq⊢
   have hxB:=itB_sub hq
   obtain⟨l1,l2,l3,l4⟩:=hgL 0 (zX q) a.name rfl
   have gA:=fun {K} h1 h2=>@hgA a.name K h1 h2
   have gB:∀{K:KT},((grpP t ⟨addIt [a,b,e] 0 (zX q),[],ws,ts,ps,hds⟩ a.name).2≠0->(grpP t ⟨addIt [a,b,e] 0 (zX q),[],ws,ts,ps,hds⟩ a.name).1=[]->K (.tup [.lst [],.v (.int .i64 (grpP t ⟨addIt [a,b,e] 0 (zX q),[],ws,ts,ps,hds⟩ a.name).2)]) [])->((grpP t ⟨addIt [a,b,e] 0 (zX q),[],ws,ts,ps,hds⟩ a.name).2=0->K (.tup [.os 0 2 0 (grpP t ⟨addIt [a,b,e] 0 (zX q),[],ws,ts,ps,hds⟩ a.name).1.length,.v (.int .i64 0)]) [.arr 2 ((grpP t ⟨addIt [a,b,e] 0 (zX q),[],ws,ts,ps,hds⟩ a.name).1.map encR)])->ACall Tryz.prog 13 [encT t,.agg [.lst [.agg [.v (.string a.name),.lst (a.items.map encIt++[encIt (zX q)])],.agg [.v (.string b.name),.lst (b.items.map encIt)],.agg [.v (.string e.name),.lst (e.items.map encIt)]],.lst [],.lst (ws.map encWn),.lst (ts.map encSm),.lst (ps.map encPb),.lst (hds.map encHn)],.v (.string a.name)] [] K:=fun {K} h1 h2=>by
    have eE:(AV.agg [.lst [.agg [.v (.string a.name),.lst (a.items.map encIt++[encIt (zX q)])],.agg [.v (.string b.name),.lst (b.items.map encIt)],.agg [.v (.string e.name),.lst (e.items.map encIt)]],.lst [],.lst (ws.map encWn),.lst (ts.map encSm),.lst (ps.map encPb),.lst (hds.map encHn)])=encNt ⟨addIt [a,b,e] 0 (zX q),[],ws,ts,ps,hds⟩:=by simp[addIt]
    rw[eE]
    exact @hgB 0 (zX q) a.name hxB K h1 h2
   have l5:=grpP_errO t ⟨addIt [a,b,e] 0 (zX q),[],ws,ts,ps,hds⟩ a.name
   have l6:=grpP_errO t ⟨[a,b,e],[],ws,ts,ps,hds⟩ a.name
   generalize grpP t ⟨addIt [a,b,e] 0 (zX q),[],ws,ts,ps,hds⟩ a.name=J at*
   generalize grpP t ⟨[a,b,e],[],ws,ts,ps,hds⟩ a.name=O at*
   obtain⟨Js,Je⟩:=J
   obtain⟨Os,Oe⟩:=O
   simp only at l1 l2 l3 l4 l5 l6 gA gB
   subst l3
   have hfl:=flat_encR Js
   have hfo:=flat_encR Os
   by_cases hz:Oe=0
   ·subst hz
    have gB:=fun {K:KT} h=>@gB K (fun h0=>absurd rfl h0) (fun _=>h)
    have gA:=fun {K:KT} h=>@gA K (fun h0=>absurd rfl h0) (fun _=>h)
    (repeat' ((conv=>whnf);first|(refine in_r (by rfl) ?_)|(refine Ix.intro rfl ?_)|(refine sl_full (by simp) ?_)|(with_reducible refine gA ?_)|(refine gB ?_)|(with_reducible first|refine c44 Os Js (by omega) (by omega) fun s hs=>?_|refine cwSane ?_)|(refine Ob.intro hfl ?_)|(refine Ob.intro hfo ?_)|refine zG ?_|apply zA|(apply zI;intro h)|exact zT));(all_goals conv=>whnf)
    all_goals first
     |exact .inl rfl
     |exact .inr rfl
     |(exfalso
       have:=hs.2 l4
       simp_all;done)
     |(exfalso;simp at h;done)
     |trace_state
   ·obtain rfl:=l5 hz
    obtain rfl:=l6 hz
    have gA:=fun {K:KT} h=>@gA K (fun _ _=>h) (fun h0=>absurd h0 hz)
    have gB:=fun {K:KT} h=>@gB K (fun _ _=>h) (fun h0=>absurd h0 hz)
    (repeat' ((conv=>whnf);first|(refine in_r (by rfl) ?_)|(refine Ix.intro rfl ?_)|(refine sl_full (by simp) ?_)|(with_reducible refine gA ?_)|(refine gB ?_)|(refine c44 [] [] (by simp) (by simp) fun s hs=>?_)|(with_reducible refine cwSane ?_)|refine zG ?_|apply zA|(apply zI;intro h)|exact zT));(all_goals conv=>whnf)
    all_goals first
     |exact .inl rfl
     |exact .inr rfl
     |(exfalso
       have:=hs.2 l4
       simp_all;done)
     |(exfalso;simp at h;done)
     |trace_state
  ·refine Jn.intro (Nat×Pf) (fun g=>⟨20,[(0,tapeO raw g.1),(1,boxT t),(2,boxNt ⟨[a,b,e],[],ws,ts,ps,hds⟩),(3,.box [.os 4 2 0 3,.os 5 2 0 0,.os 6 2 0 ws.length,.os 7 10 0 ts.length,.os 8 6 0 ps.length,.os 9 5 0 hds.length]),(4,.box [.v (.string a.name),.os 10 7 0 a.items.length,.v (.string b.name),.os 11 7 0 (b.items.length+1),.v (.string e.name),.os 12 7 0 e.items.length]),(5,.arr 2 []),(6,.arr 2 (ws.map encWn)),(7,.arr 10 (ts.map encSm)),(8,.arr 6 (ps.map encPb)),(9,.arr 5 (hds.map encHn)),(10,.arr 7 (a.items.map encIt)),(11,.arr 7 (b.items.map encIt++[encIt (zX g.2)])),(12,.arr 7 (e.items.map encIt))],[(3,.op 0 0),(4,.op 1 0),(5,.op 2 0),(6,.op 3 0),(7,.v (.int .i64 1))]⟩) (fun g=>g.1<=raw.length/\g.2.okP) ?_ ?_
   ·(repeat' ((conv=>whnf);first|(refine in_r (by rfl) ?_)|(refine Ix.intro rfl ?_)|(refine sl_full (by simp) ?_)|(with_reducible refine enPref raw _ (by with_reducible assumption) hr fun q p4 hq hp4=>?_)|refine zG ?_|apply zA|(apply zI;intro h)|exact zT));(all_goals conv=>whnf)
    all_goals
     refine⟨(p4,q),⟨by with_reducible assumption,hq⟩,?_⟩
     (exact leA)
   rintro⟨p4,q⟩ ⟨hp4,hq⟩
   simp only at hp4 hq⊢
   have hxB:=itB_sub hq
   obtain⟨l1,l2,l3,l4⟩:=hgL 1 (zX q) b.name rfl
   have gA:=fun {K} h1 h2=>@hgA b.name K h1 h2
   have gB:∀{K:KT},((grpP t ⟨addIt [a,b,e] 1 (zX q),[],ws,ts,ps,hds⟩ b.name).2≠0->(grpP t ⟨addIt [a,b,e] 1 (zX q),[],ws,ts,ps,hds⟩ b.name).1=[]->K (.tup [.lst [],.v (.int .i64 (grpP t ⟨addIt [a,b,e] 1 (zX q),[],ws,ts,ps,hds⟩ b.name).2)]) [])->((grpP t ⟨addIt [a,b,e] 1 (zX q),[],ws,ts,ps,hds⟩ b.name).2=0->K (.tup [.os 0 2 0 (grpP t ⟨addIt [a,b,e] 1 (zX q),[],ws,ts,ps,hds⟩ b.name).1.length,.v (.int .i64 0)]) [.arr 2 ((grpP t ⟨addIt [a,b,e] 1 (zX q),[],ws,ts,ps,hds⟩ b.name).1.map encR)])->ACall Tryz.prog 13 [encT t,.agg [.lst [.agg [.v (.string a.name),.lst (a.items.map encIt)],.agg [.v (.string b.name),.lst (b.items.map encIt++[encIt (zX q)])],.agg [.v (.string e.name),.lst (e.items.map encIt)]],.lst [],.lst (ws.map encWn),.lst (ts.map encSm),.lst (ps.map encPb),.lst (hds.map encHn)],.v (.string b.name)] [] K:=fun {K} h1 h2=>by
    have eE:(AV.agg [.lst [.agg [.v (.string a.name),.lst (a.items.map encIt)],.agg [.v (.string b.name),.lst (b.items.map encIt++[encIt (zX q)])],.agg [.v (.string e.name),.lst (e.items.map encIt)]],.lst [],.lst (ws.map encWn),.lst (ts.map encSm),.lst (ps.map encPb),.lst (hds.map encHn)])=encNt ⟨addIt [a,b,e] 1 (zX q),[],ws,ts,ps,hds⟩:=by simp[addIt]
    rw[eE]
    exact @hgB 1 (zX q) b.name hxB K h1 h2
   have l5:=grpP_errO t ⟨addIt [a,b,e] 1 (zX q),[],ws,ts,ps,hds⟩ b.name
   have l6:=grpP_errO t ⟨[a,b,e],[],ws,ts,ps,hds⟩ b.name
   generalize grpP t ⟨addIt [a,b,e] 1 (zX q),[],ws,ts,ps,hds⟩ b.name=J at*
   generalize grpP t ⟨[a,b,e],[],ws,ts,ps,hds⟩ b.name=O at*
   obtain⟨Js,Je⟩:=J
   obtain⟨Os,Oe⟩:=O
   simp only at l1 l2 l3 l4 l5 l6 gA gB
   subst l3
   have hfl:=flat_encR Js
   have hfo:=flat_encR Os
   by_cases hz:Oe=0
   ·subst hz
    have gB:=fun {K:KT} h=>@gB K (fun h0=>absurd rfl h0) (fun _=>h)
    have gA:=fun {K:KT} h=>@gA K (fun h0=>absurd rfl h0) (fun _=>h)
    (repeat' ((conv=>whnf);first|(refine in_r (by rfl) ?_)|(refine Ix.intro rfl ?_)|(refine sl_full (by simp) ?_)|(with_reducible refine gA ?_)|(refine gB ?_)|(with_reducible first|refine c44 Os Js (by omega) (by omega) fun s hs=>?_|refine cwSane ?_)|(refine Ob.intro hfl ?_)|(refine Ob.intro hfo ?_)|refine zG ?_|apply zA|(apply zI;intro h)|exact zT));(all_goals conv=>whnf)
    all_goals first
     |exact .inl rfl
     |exact .inr rfl
     |(exfalso
       have:=hs.2 l4
       simp_all;done)
     |(exfalso;simp at h;done)
     |trace_state
   ·obtain rfl:=l5 hz
    obtain rfl:=l6 hz
    have gA:=fun {K:KT} h=>@gA K (fun _ _=>h) (fun h0=>absurd h0 hz)
    have gB:=fun {K:KT} h=>@gB K (fun _ _=>h) (fun h0=>absurd h0 hz)
    (repeat' ((conv=>whnf);first|(refine in_r (by rfl) ?_)|(refine Ix.intro rfl ?_)|(refine sl_full (by simp) ?_)|(with_reducible refine gA ?_)|(refine gB ?_)|(refine c44 [] [] (by simp) (by simp) fun s hs=>?_)|(with_reducible refine cwSane ?_)|refine zG ?_|apply zA|(apply zI;intro h)|exact zT));(all_goals conv=>whnf)
    all_goals first
     |exact .inl rfl
     |exact .inr rfl
     |(exfalso
       have:=hs.2 l4
       simp_all;done)
     |(exfalso;simp at h;done)
     |trace_state
  ·refine Jn.intro (Nat×Pf) (fun g=>⟨20,[(0,tapeO raw g.1),(1,boxT t),(2,boxNt ⟨[a,b,e],[],ws,ts,ps,hds⟩),(3,.box [.os 4 2 0 3,.os 5 2 0 0,.os 6 2 0 ws.length,.os 7 10 0 ts.length,.os 8 6 0 ps.length,.os 9 5 0 hds.length]),(4,.box [.v (.string a.name),.os 10 7 0 a.items.length,.v (.string b.name),.os 11 7 0 b.items.length,.v (.string e.name),.os 12 7 0 (e.items.length+1)]),(5,.arr 2 []),(6,.arr 2 (ws.map encWn)),(7,.arr 10 (ts.map encSm)),(8,.arr 6 (ps.map encPb)),(9,.arr 5 (hds.map encHn)),(10,.arr 7 (a.items.map encIt)),(11,.arr 7 (b.items.map encIt)),(12,.arr 7 (e.items.map encIt++[encIt (zX g.2)]))],[(3,.op 0 0),(4,.op 1 0),(5,.op 2 0),(6,.op 3 0),(7,.v (.int .i64 2))]⟩) (fun g=>g.1<=raw.length/\g.2.okP) ?_ ?_
   ·(repeat' ((conv=>whnf);first|(refine in_r (by rfl) ?_)|(refine Ix.intro rfl ?_)|(refine sl_full (by simp) ?_)|(with_reducible refine enPref raw _ (by with_reducible assumption) hr fun q p4 hq hp4=>?_)|refine zG ?_|apply zA|(apply zI;intro h)|exact zT));(all_goals conv=>whnf)
    all_goals
     refine⟨(p4,q),⟨by with_reducible assumption,hq⟩,?_⟩
     (exact leA)
   rintro⟨p4,q⟩ ⟨hp4,hq⟩
   simp only at hp4 hq⊢
   have hxB:=itB_sub hq
   obtain⟨l1,l2,l3,l4⟩:=hgL 2 (zX q) e.name rfl
   have gA:=fun {K} h1 h2=>@hgA e.name K h1 h2
   have gB:∀{K:KT},((grpP t ⟨addIt [a,b,e] 2 (zX q),[],ws,ts,ps,hds⟩ e.name).2≠0->(grpP t ⟨addIt [a,b,e] 2 (zX q),[],ws,ts,ps,hds⟩ e.name).1=[]->K (.tup [.lst [],.v (.int .i64 (grpP t ⟨addIt [a,b,e] 2 (zX q),[],ws,ts,ps,hds⟩ e.name).2)]) [])->((grpP t ⟨addIt [a,b,e] 2 (zX q),[],ws,ts,ps,hds⟩ e.name).2=0->K (.tup [.os 0 2 0 (grpP t ⟨addIt [a,b,e] 2 (zX q),[],ws,ts,ps,hds⟩ e.name).1.length,.v (.int .i64 0)]) [.arr 2 ((grpP t ⟨addIt [a,b,e] 2 (zX q),[],ws,ts,ps,hds⟩ e.name).1.map encR)])->ACall Tryz.prog 13 [encT t,.agg [.lst [.agg [.v (.string a.name),.lst (a.items.map encIt)],.agg [.v (.string b.name),.lst (b.items.map encIt)],.agg [.v (.string e.name),.lst (e.items.map encIt++[encIt (zX q)])]],.lst [],.lst (ws.map encWn),.lst (ts.map encSm),.lst (ps.map encPb),.lst (hds.map encHn)],.v (.string e.name)] [] K:=fun {K} h1 h2=>by
    have eE:(AV.agg [.lst [.agg [.v (.string a.name),.lst (a.items.map encIt)],.agg [.v (.string b.name),.lst (b.items.map encIt)],.agg [.v (.string e.name),.lst (e.items.map encIt++[encIt (zX q)])]],.lst [],.lst (ws.map encWn),.lst (ts.map encSm),.lst (ps.map encPb),.lst (hds.map encHn)])=encNt ⟨addIt [a,b,e] 2 (zX q),[],ws,ts,ps,hds⟩:=by simp[addIt]
    rw[eE]
    exact @hgB 2 (zX q) e.name hxB K h1 h2
   have l5:=grpP_errO t ⟨addIt [a,b,e] 2 (zX q),[],ws,ts,ps,hds⟩ e.name
   have l6:=grpP_errO t ⟨[a,b,e],[],ws,ts,ps,hds⟩ e.name
   generalize grpP t ⟨addIt [a,b,e] 2 (zX q),[],ws,ts,ps,hds⟩ e.name=J at*
   generalize grpP t ⟨[a,b,e],[],ws,ts,ps,hds⟩ e.name=O at*
   obtain⟨Js,Je⟩:=J
   obtain⟨Os,Oe⟩:=O
   simp only at l1 l2 l3 l4 l5 l6 gA gB
   subst l3
   have hfl:=flat_encR Js
   have hfo:=flat_encR Os
   by_cases hz:Oe=0
   ·subst hz
    have gB:=fun {K:KT} h=>@gB K (fun h0=>absurd rfl h0) (fun _=>h)
    have gA:=fun {K:KT} h=>@gA K (fun h0=>absurd rfl h0) (fun _=>h)
    (repeat' ((conv=>whnf);first|(refine in_r (by rfl) ?_)|(refine Ix.intro rfl ?_)|(refine sl_full (by simp) ?_)|(with_reducible refine gA ?_)|(refine gB ?_)|(with_reducible first|refine c44 Os Js (by omega) (by omega) fun s hs=>?_|refine cwSane ?_)|(refine Ob.intro hfl ?_)|(refine Ob.intro hfo ?_)|refine zG ?_|apply zA|(apply zI;intro h)|exact zT));(all_goals conv=>whnf)
    all_goals first
     |exact .inl rfl
     |exact .inr rfl
     |(exfalso
       have:=hs.2 l4
       simp_all;done)
     |(exfalso;simp at h;done)
     |trace_state
   ·obtain rfl:=l5 hz
    obtain rfl:=l6 hz
    have gA:=fun {K:KT} h=>@gA K (fun _ _=>h) (fun h0=>absurd h0 hz)
    have gB:=fun {K:KT} h=>@gB K (fun _ _=>h) (fun h0=>absurd h0 hz)
    (repeat' ((conv=>whnf);first|(refine in_r (by rfl) ?_)|(refine Ix.intro rfl ?_)|(refine sl_full (by simp) ?_)|(with_reducible refine gA ?_)|(refine gB ?_)|(refine c44 [] [] (by simp) (by simp) fun s hs=>?_)|(with_reducible refine cwSane ?_)|refine zG ?_|apply zA|(apply zI;intro h)|exact zT));(all_goals conv=>whnf)
    all_goals first
     |exact .inl rfl
     |exact .inr rfl
     |(exfalso
       have:=hs.2 l4
       simp_all;done)
     |(exfalso;simp at h;done)
     |trace_state
 ·have haa:=hgi a (by simp)
  have hbb:=hgi b (by simp)
  have hee:=hgi e (by simp)
  have hcc:=hsi c (by simp)
  (repeat' ((conv=>whnf);first|(with_reducible first|refine hcp ?_|refine nNext raw _ _ (by simp) (by with_reducible assumption) hr fun n p3 hn hp3=>?_)|refine zG ?_|apply zA|(apply zI;intro h)|exact zT));(all_goals conv=>whnf)
  obtain rfl|rfl|rfl:n=0\/n=1\/n=2:=by simp only[List.length_cons,List.length_nil]at hn;omega
  ·refine Jn.intro (Nat×Pf) (fun g=>⟨20,[(0,tapeO raw g.1),(1,boxT t),(2,boxNt ⟨[a,b,e],[c],ws,ts,ps,hds⟩),(3,.box [.os 4 2 0 3,.os 5 2 0 1,.os 6 2 0 ws.length,.os 7 10 0 ts.length,.os 8 6 0 ps.length,.os 9 5 0 hds.length]),(4,.box [.v (.string a.name),.os 10 7 0 (a.items.length+1),.v (.string b.name),.os 11 7 0 b.items.length,.v (.string e.name),.os 12 7 0 e.items.length]),(5,.box [.v (.string c.name),.os 14 7 0 c.items.length]),(6,.arr 2 (ws.map encWn)),(7,.arr 10 (ts.map encSm)),(8,.arr 6 (ps.map encPb)),(9,.arr 5 (hds.map encHn)),(10,.arr 7 (a.items.map encIt++[encIt (zX g.2)])),(11,.arr 7 (b.items.map encIt)),(12,.arr 7 (e.items.map encIt)),(14,.arr 7 (c.items.map encIt))],[(3,.op 0 0),(4,.op 1 0),(5,.op 2 0),(6,.op 3 0),(7,.v (.int .i64 0))]⟩) (fun g=>g.1<=raw.length/\g.2.okP) ?_ ?_
   ·(repeat' ((conv=>whnf);first|(refine in_r (by rfl) ?_)|(refine Ix.intro rfl ?_)|(refine sl_full (by simp) ?_)|(with_reducible refine enPref raw _ (by with_reducible assumption) hr fun q p4 hq hp4=>?_)|refine zG ?_|apply zA|(apply zI;intro h)|exact zT));(all_goals conv=>whnf)
    all_goals
     refine⟨(p4,q),⟨by with_reducible assumption,hq⟩,?_⟩
     (exact leA)
   rintro⟨p4,q⟩ ⟨hp4,hq⟩
   simp only at hp4 hq⊢
   have hxB:=itB_sub hq
   obtain⟨l1,l2,l3,l4⟩:=hgL 0 (zX q) a.name rfl
   have gA:=fun {K} h1 h2=>@hgA a.name K h1 h2
   have gB:∀{K:KT},((grpP t ⟨addIt [a,b,e] 0 (zX q),[c],ws,ts,ps,hds⟩ a.name).2≠0->(grpP t ⟨addIt [a,b,e] 0 (zX q),[c],ws,ts,ps,hds⟩ a.name).1=[]->K (.tup [.lst [],.v (.int .i64 (grpP t ⟨addIt [a,b,e] 0 (zX q),[c],ws,ts,ps,hds⟩ a.name).2)]) [])->((grpP t ⟨addIt [a,b,e] 0 (zX q),[c],ws,ts,ps,hds⟩ a.name).2=0->K (.tup [.os 0 2 0 (grpP t ⟨addIt [a,b,e] 0 (zX q),[c],ws,ts,ps,hds⟩ a.name).1.length,.v (.int .i64 0)]) [.arr 2 ((grpP t ⟨addIt [a,b,e] 0 (zX q),[c],ws,ts,ps,hds⟩ a.name).1.map encR)])->ACall Tryz.prog 13 [encT t,.agg [.lst [.agg [.v (.string a.name),.lst (a.items.map encIt++[encIt (zX q)])],.agg [.v (.string b.name),.lst (b.items.map encIt)],.agg [.v (.string e.name),.lst (e.items.map encIt)]],.lst [.agg [.v (.string c.name),.lst (c.items.map encIt)]],.lst (ws.map encWn),.lst (ts.map encSm),.lst (ps.map encPb),.lst (hds.map encHn)],.v (.string a.name)] [] K:=fun {K} h1 h2=>by
    have eE:(AV.agg [.lst [.agg [.v (.string a.name),.lst (a.items.map encIt++[encIt (zX q)])],.agg [.v (.string b.name),.lst (b.items.map encIt)],.agg [.v (.string e.name),.lst (e.items.map encIt)]],.lst [.agg [.v (.string c.name),.lst (c.items.map encIt)]],.lst (ws.map encWn),.lst (ts.map encSm),.lst (ps.map encPb),.lst (hds.map encHn)])=encNt ⟨addIt [a,b,e] 0 (zX q),[c],ws,ts,ps,hds⟩:=by simp[addIt]
    rw[eE]
    exact @hgB 0 (zX q) a.name hxB K h1 h2
   have l5:=grpP_errO t ⟨addIt [a,b,e] 0 (zX q),[c],ws,ts,ps,hds⟩ a.name
   have l6:=grpP_errO t ⟨[a,b,e],[c],ws,ts,ps,hds⟩ a.name
   generalize grpP t ⟨addIt [a,b,e] 0 (zX q),[c],ws,ts,ps,hds⟩ a.name=J at*
   generalize grpP t ⟨[a,b,e],[c],ws,ts,ps,hds⟩ a.name=O at*
   obtain⟨Js,Je⟩:=J
   obtain⟨Os,Oe⟩:=O
   simp only at l1 l2 l3 l4 l5 l6 gA gB
   subst l3
   have hfl:=flat_encR Js
   have hfo:=flat_encR Os
   by_cases hz:Oe=0
   ·subst hz
    have gB:=fun {K:KT} h=>@gB K (fun h0=>absurd rfl h0) (fun _=>h)
    have gA:=fun {K:KT} h=>@gA K (fun h0=>absurd rfl h0) (fun _=>h)
    (repeat' ((conv=>whnf);first|(refine in_r (by rfl) ?_)|(refine Ix.intro rfl ?_)|(refine sl_full (by simp) ?_)|(with_reducible refine gA ?_)|(refine gB ?_)|(with_reducible first|refine c44 Os Js (by omega) (by omega) fun s hs=>?_|refine cwSane ?_|refine nNext raw _ _ (by simp) (by with_reducible assumption) hr fun m p5 hm hp5=>?_)|(refine Ob.intro hfl ?_)|(refine Ob.intro hfo ?_)|refine zG ?_|apply zA|(apply zI;intro h)|exact zT));(all_goals conv=>whnf)
    all_goals try(exfalso;have:=hs.2 l4;simp_all;done)
    all_goals try(exfalso;simp at h;done)
    all_goals try(first|exact .inl rfl|exact .inr rfl)
    obtain rfl:m=0:=by(try simp only[List.length_cons,List.length_nil]at hm);omega
    ·refine Jn.intro (Nat×Rg) (fun g=>⟨20,[(0,tapeO raw g.1),(1,boxT t),(2,boxNt ⟨[a,b,e],[c],ws,ts,ps,hds⟩),(3,.box [.os 4 2 0 3,.os 5 2 0 1,.os 6 2 0 ws.length,.os 7 10 0 ts.length,.os 8 6 0 ps.length,.os 9 5 0 hds.length]),(4,.box [.v (.string a.name),.os 10 7 0 (a.items.length+1),.v (.string b.name),.os 11 7 0 b.items.length,.v (.string e.name),.os 12 7 0 e.items.length]),(5,.box [.v (.string c.name),.os 14 7 0 (c.items.length+1)]),(6,.arr 2 (ws.map encWn)),(7,.arr 10 (ts.map encSm)),(8,.arr 6 (ps.map encPb)),(9,.arr 5 (hds.map encHn)),(10,.arr 7 (a.items.map encIt++[encIt (zX q)])),(11,.arr 7 (b.items.map encIt)),(12,.arr 7 (e.items.map encIt)),(14,.arr 7 (c.items.map encIt++[encIt (zY g.2)]))],[(3,.op 0 0),(4,.op 1 0),(5,.op 2 0),(6,.op 3 0),(12,.v (.int .i64 0))]⟩) (fun g=>g.1<=raw.length/\g.2.lo<=g.2.hi/\g.2.hi<=65535) ?_ ?_
     ·(repeat' ((conv=>whnf);first|(refine in_r (by rfl) ?_)|(refine Ix.intro rfl ?_)|(refine sl_full (by simp) ?_)|(refine enRange raw _ 65535 (by decide) (by decide) (by with_reducible assumption) hr fun r p6 r0 r1 hp6=>?_)|refine zG ?_|apply zA|(apply zI;intro h)|exact zT));(all_goals conv=>whnf)
      all_goals
       refine⟨(p6,r),⟨by with_reducible assumption,r0,r1⟩,?_⟩
       (exact leA)
     rintro⟨p6,r⟩ ⟨hp6,r0,r1⟩
     simp only at hp6 r0 r1⊢
     obtain⟨k1,k2,k3,k4⟩:=hsL 0 r c.name r0 r1
     have sA:=fun {K} h=>@hsA c.name K h
     have sB:∀{K:KT},K (.tup [encXs (svcP ⟨[a,b,e],addIt [c] 0 (zY r),ws,ts,ps,hds⟩ c.name).1,.v (.int .i64 (svcP ⟨[a,b,e],addIt [c] 0 (zY r),ws,ts,ps,hds⟩ c.name).2)]) []->ACall Tryz.prog 24 [.agg [.lst [.agg [.v (.string a.name),.lst (a.items.map encIt++[encIt (zX q)])],.agg [.v (.string b.name),.lst (b.items.map encIt)],.agg [.v (.string e.name),.lst (e.items.map encIt)]],.lst [.agg [.v (.string c.name),.lst (c.items.map encIt++[encIt (zY r)])]],.lst (ws.map encWn),.lst (ts.map encSm),.lst (ps.map encPb),.lst (hds.map encHn)],.v (.string c.name)] [] K:=fun {K} h=>by
      have eE:(AV.agg [.lst [.agg [.v (.string a.name),.lst (a.items.map encIt++[encIt (zX q)])],.agg [.v (.string b.name),.lst (b.items.map encIt)],.agg [.v (.string e.name),.lst (e.items.map encIt)]],.lst [.agg [.v (.string c.name),.lst (c.items.map encIt++[encIt (zY r)])]],.lst (ws.map encWn),.lst (ts.map encSm),.lst (ps.map encPb),.lst (hds.map encHn)])=encNt ⟨addIt [a,b,e] 0 (zX q),addIt [c] 0 (zY r),ws,ts,ps,hds⟩:=by simp[addIt]
      rw[eE]
      exact @hsB 0 0 (zX q) (zY r) c.name hxB (hyB r r0 r1) K h
     generalize svcP ⟨[a,b,e],addIt [c] 0 (zY r),ws,ts,ps,hds⟩ c.name=T at*
     generalize svcP ⟨[a,b,e],[c],ws,ts,ps,hds⟩ c.name=U at*
     obtain⟨Ts,Te⟩:=T
     obtain⟨Us,Ue⟩:=U
     simp only at k1 k2 k3 k4 sA sB
     subst k3
     have hsub:=fun {K} h=>@sub_small Us Ts k1 k2 k4 K h
     (repeat' ((conv=>whnf);first|(refine in_r (by rfl) ?_)|(refine Ix.intro rfl ?_)|(refine sl_full (by simp) ?_)|(with_reducible refine sA ?_)|(refine sB ?_)|(with_reducible first|refine hsub ?_|refine cwSane ?_)|refine zG ?_|apply zA|(apply zI;intro h)|exact zT));(all_goals conv=>whnf)
     all_goals first
      |exact .inl rfl
      |exact .inr rfl
      |(exfalso;simp_all;done)
      |trace_state
   ·obtain rfl:=l5 hz
    obtain rfl:=l6 hz
    have gA:=fun {K:KT} h=>@gA K (fun _ _=>h) (fun h0=>absurd h0 hz)
    have gB:=fun {K:KT} h=>@gB K (fun _ _=>h) (fun h0=>absurd h0 hz)
    (repeat' ((conv=>whnf);first|(refine in_r (by rfl) ?_)|(refine Ix.intro rfl ?_)|(refine sl_full (by simp) ?_)|(with_reducible refine gA ?_)|(refine gB ?_)|(refine c44 [] [] (by simp) (by simp) fun s hs=>?_)|(with_reducible first|refine cwSane ?_|refine nNext raw _ _ (by simp) (by with_reducible assumption) hr fun m p5 hm hp5=>?_)|refine zG ?_|apply zA|(apply zI;intro h)|exact zT));(all_goals conv=>whnf)
    all_goals try(exfalso;have:=hs.2 l4;simp_all;done)
    all_goals try(exfalso;simp at h;done)
    all_goals try(first|exact .inl rfl|exact .inr rfl)
    obtain rfl:m=0:=by(try simp only[List.length_cons,List.length_nil]at hm);omega
    ·refine Jn.intro (Nat×Rg) (fun g=>⟨20,[(0,tapeO raw g.1),(1,boxT t),(2,boxNt ⟨[a,b,e],[c],ws,ts,ps,hds⟩),(3,.box [.os 4 2 0 3,.os 5 2 0 1,.os 6 2 0 ws.length,.os 7 10 0 ts.length,.os 8 6 0 ps.length,.os 9 5 0 hds.length]),(4,.box [.v (.string a.name),.os 10 7 0 (a.items.length+1),.v (.string b.name),.os 11 7 0 b.items.length,.v (.string e.name),.os 12 7 0 e.items.length]),(5,.box [.v (.string c.name),.os 14 7 0 (c.items.length+1)]),(6,.arr 2 (ws.map encWn)),(7,.arr 10 (ts.map encSm)),(8,.arr 6 (ps.map encPb)),(9,.arr 5 (hds.map encHn)),(10,.arr 7 (a.items.map encIt++[encIt (zX q)])),(11,.arr 7 (b.items.map encIt)),(12,.arr 7 (e.items.map encIt)),(14,.arr 7 (c.items.map encIt++[encIt (zY g.2)]))],[(3,.op 0 0),(4,.op 1 0),(5,.op 2 0),(6,.op 3 0),(12,.v (.int .i64 0))]⟩) (fun g=>g.1<=raw.length/\g.2.lo<=g.2.hi/\g.2.hi<=65535) ?_ ?_
     ·(repeat' ((conv=>whnf);first|(refine in_r (by rfl) ?_)|(refine Ix.intro rfl ?_)|(refine sl_full (by simp) ?_)|(refine enRange raw _ 65535 (by decide) (by decide) (by with_reducible assumption) hr fun r p6 r0 r1 hp6=>?_)|refine zG ?_|apply zA|(apply zI;intro h)|exact zT));(all_goals conv=>whnf)
      all_goals
       refine⟨(p6,r),⟨by with_reducible assumption,r0,r1⟩,?_⟩
       (exact leA)
     rintro⟨p6,r⟩ ⟨hp6,r0,r1⟩
     simp only at hp6 r0 r1⊢
     obtain⟨k1,k2,k3,k4⟩:=hsL 0 r c.name r0 r1
     have sA:=fun {K} h=>@hsA c.name K h
     have sB:∀{K:KT},K (.tup [encXs (svcP ⟨[a,b,e],addIt [c] 0 (zY r),ws,ts,ps,hds⟩ c.name).1,.v (.int .i64 (svcP ⟨[a,b,e],addIt [c] 0 (zY r),ws,ts,ps,hds⟩ c.name).2)]) []->ACall Tryz.prog 24 [.agg [.lst [.agg [.v (.string a.name),.lst (a.items.map encIt++[encIt (zX q)])],.agg [.v (.string b.name),.lst (b.items.map encIt)],.agg [.v (.string e.name),.lst (e.items.map encIt)]],.lst [.agg [.v (.string c.name),.lst (c.items.map encIt++[encIt (zY r)])]],.lst (ws.map encWn),.lst (ts.map encSm),.lst (ps.map encPb),.lst (hds.map encHn)],.v (.string c.name)] [] K:=fun {K} h=>by
      have eE:(AV.agg [.lst [.agg [.v (.string a.name),.lst (a.items.map encIt++[encIt (zX q)])],.agg [.v (.string b.name),.lst (b.items.map encIt)],.agg [.v (.string e.name),.lst (e.items.map encIt)]],.lst [.agg [.v (.string c.name),.lst (c.items.map encIt++[encIt (zY r)])]],.lst (ws.map encWn),.lst (ts.map encSm),.lst (ps.map encPb),.lst (hds.map encHn)])=encNt ⟨addIt [a,b,e] 0 (zX q),addIt [c] 0 (zY r),ws,ts,ps,hds⟩:=by simp[addIt]
      rw[eE]
      exact @hsB 0 0 (zX q) (zY r) c.name hxB (hyB r r0 r1) K h
     generalize svcP ⟨[a,b,e],addIt [c] 0 (zY r),ws,ts,ps,hds⟩ c.name=T at*
     generalize svcP ⟨[a,b,e],[c],ws,ts,ps,hds⟩ c.name=U at*
     obtain⟨Ts,Te⟩:=T
     obtain⟨Us,Ue⟩:=U
     simp only at k1 k2 k3 k4 sA sB
     subst k3
     have hsub:=fun {K} h=>@sub_small Us Ts k1 k2 k4 K h
     (repeat' ((conv=>whnf);first|(refine in_r (by rfl) ?_)|(refine Ix.intro rfl ?_)|(refine sl_full (by simp) ?_)|(with_reducible refine sA ?_)|(refine sB ?_)|(with_reducible first|refine hsub ?_|refine cwSane ?_)|refine zG ?_|apply zA|(apply zI;intro h)|exact zT));(all_goals conv=>whnf)
     all_goals first
      |exact .inl rfl
      |exact .inr rfl
      |(exfalso;simp_all;done)
      |trace_state
  ·refine Jn.intro (Nat×Pf) (fun g=>⟨20,[(0,tapeO raw g.1),(1,boxT t),(2,boxNt ⟨[a,b,e],[c],ws,ts,ps,hds⟩),(3,.box [.os 4 2 0 3,.os 5 2 0 1,.os 6 2 0 ws.length,.os 7 10 0 ts.length,.os 8 6 0 ps.length,.os 9 5 0 hds.length]),(4,.box [.v (.string a.name),.os 10 7 0 a.items.length,.v (.string b.name),.os 11 7 0 (b.items.length+1),.v (.string e.name),.os 12 7 0 e.items.length]),(5,.box [.v (.string c.name),.os 14 7 0 c.items.length]),(6,.arr 2 (ws.map encWn)),(7,.arr 10 (ts.map encSm)),(8,.arr 6 (ps.map encPb)),(9,.arr 5 (hds.map encHn)),(10,.arr 7 (a.items.map encIt)),(11,.arr 7 (b.items.map encIt++[encIt (zX g.2)])),(12,.arr 7 (e.items.map encIt)),(14,.arr 7 (c.items.map encIt))],[(3,.op 0 0),(4,.op 1 0),(5,.op 2 0),(6,.op 3 0),(7,.v (.int .i64 1))]⟩) (fun g=>g.1<=raw.length/\g.2.okP) ?_ ?_
   ·(repeat' ((conv=>whnf);first|(refine in_r (by rfl) ?_)|(refine Ix.intro rfl ?_)|(refine sl_full (by simp) ?_)|(with_reducible refine enPref raw _ (by with_reducible assumption) hr fun q p4 hq hp4=>?_)|refine zG ?_|apply zA|(apply zI;intro h)|exact zT));(all_goals conv=>whnf)
    all_goals
     refine⟨(p4,q),⟨by with_reducible assumption,hq⟩,?_⟩
     (exact leA)
   rintro⟨p4,q⟩ ⟨hp4,hq⟩
   simp only at hp4 hq⊢
   have hxB:=itB_sub hq
   obtain⟨l1,l2,l3,l4⟩:=hgL 1 (zX q) b.name rfl
   have gA:=fun {K} h1 h2=>@hgA b.name K h1 h2
   have gB:∀{K:KT},((grpP t ⟨addIt [a,b,e] 1 (zX q),[c],ws,ts,ps,hds⟩ b.name).2≠0->(grpP t ⟨addIt [a,b,e] 1 (zX q),[c],ws,ts,ps,hds⟩ b.name).1=[]->K (.tup [.lst [],.v (.int .i64 (grpP t ⟨addIt [a,b,e] 1 (zX q),[c],ws,ts,ps,hds⟩ b.name).2)]) [])->((grpP t ⟨addIt [a,b,e] 1 (zX q),[c],ws,ts,ps,hds⟩ b.name).2=0->K (.tup [.os 0 2 0 (grpP t ⟨addIt [a,b,e] 1 (zX q),[c],ws,ts,ps,hds⟩ b.name).1.length,.v (.int .i64 0)]) [.arr 2 ((grpP t ⟨addIt [a,b,e] 1 (zX q),[c],ws,ts,ps,hds⟩ b.name).1.map encR)])->ACall Tryz.prog 13 [encT t,.agg [.lst [.agg [.v (.string a.name),.lst (a.items.map encIt)],.agg [.v (.string b.name),.lst (b.items.map encIt++[encIt (zX q)])],.agg [.v (.string e.name),.lst (e.items.map encIt)]],.lst [.agg [.v (.string c.name),.lst (c.items.map encIt)]],.lst (ws.map encWn),.lst (ts.map encSm),.lst (ps.map encPb),.lst (hds.map encHn)],.v (.string b.name)] [] K:=fun {K} h1 h2=>by
    have eE:(AV.agg [.lst [.agg [.v (.string a.name),.lst (a.items.map encIt)],.agg [.v (.string b.name),.lst (b.items.map encIt++[encIt (zX q)])],.agg [.v (.string e.name),.lst (e.items.map encIt)]],.lst [.agg [.v (.string c.name),.lst (c.items.map encIt)]],.lst (ws.map encWn),.lst (ts.map encSm),.lst (ps.map encPb),.lst (hds.map encHn)])=encNt ⟨addIt [a,b,e] 1 (zX q),[c],ws,ts,ps,hds⟩:=by simp[addIt]
    rw[eE]
    exact @hgB 1 (zX q) b.name hxB K h1 h2
   have l5:=grpP_errO t ⟨addIt [a,b,e] 1 (zX q),[c],ws,ts,ps,hds⟩ b.name
   have l6:=grpP_errO t ⟨[a,b,e],[c],ws,ts,ps,hds⟩ b.name
   generalize grpP t ⟨addIt [a,b,e] 1 (zX q),[c],ws,ts,ps,hds⟩ b.name=J at*
   generalize grpP t ⟨[a,b,e],[c],ws,ts,ps,hds⟩ b.name=O at*
   obtain⟨Js,Je⟩:=J
   obtain⟨Os,Oe⟩:=O
   simp only at l1 l2 l3 l4 l5 l6 gA gB
   subst l3
   have hfl:=flat_encR Js
   have hfo:=flat_encR Os
   by_cases hz:Oe=0
   ·subst hz
    have gB:=fun {K:KT} h=>@gB K (fun h0=>absurd rfl h0) (fun _=>h)
    have gA:=fun {K:KT} h=>@gA K (fun h0=>absurd rfl h0) (fun _=>h)
    (repeat' ((conv=>whnf);first|(refine in_r (by rfl) ?_)|(refine Ix.intro rfl ?_)|(refine sl_full (by simp) ?_)|(with_reducible refine gA ?_)|(refine gB ?_)|(with_reducible first|refine c44 Os Js (by omega) (by omega) fun s hs=>?_|refine cwSane ?_|refine nNext raw _ _ (by simp) (by with_reducible assumption) hr fun m p5 hm hp5=>?_)|(refine Ob.intro hfl ?_)|(refine Ob.intro hfo ?_)|refine zG ?_|apply zA|(apply zI;intro h)|exact zT));(all_goals conv=>whnf)
    all_goals try(exfalso;have:=hs.2 l4;simp_all;done)
    all_goals try(exfalso;simp at h;done)
    all_goals try(first|exact .inl rfl|exact .inr rfl)
    obtain rfl:m=0:=by(try simp only[List.length_cons,List.length_nil]at hm);omega
    ·refine Jn.intro (Nat×Rg) (fun g=>⟨20,[(0,tapeO raw g.1),(1,boxT t),(2,boxNt ⟨[a,b,e],[c],ws,ts,ps,hds⟩),(3,.box [.os 4 2 0 3,.os 5 2 0 1,.os 6 2 0 ws.length,.os 7 10 0 ts.length,.os 8 6 0 ps.length,.os 9 5 0 hds.length]),(4,.box [.v (.string a.name),.os 10 7 0 a.items.length,.v (.string b.name),.os 11 7 0 (b.items.length+1),.v (.string e.name),.os 12 7 0 e.items.length]),(5,.box [.v (.string c.name),.os 14 7 0 (c.items.length+1)]),(6,.arr 2 (ws.map encWn)),(7,.arr 10 (ts.map encSm)),(8,.arr 6 (ps.map encPb)),(9,.arr 5 (hds.map encHn)),(10,.arr 7 (a.items.map encIt)),(11,.arr 7 (b.items.map encIt++[encIt (zX q)])),(12,.arr 7 (e.items.map encIt)),(14,.arr 7 (c.items.map encIt++[encIt (zY g.2)]))],[(3,.op 0 0),(4,.op 1 0),(5,.op 2 0),(6,.op 3 0),(12,.v (.int .i64 0))]⟩) (fun g=>g.1<=raw.length/\g.2.lo<=g.2.hi/\g.2.hi<=65535) ?_ ?_
     ·(repeat' ((conv=>whnf);first|(refine in_r (by rfl) ?_)|(refine Ix.intro rfl ?_)|(refine sl_full (by simp) ?_)|(refine enRange raw _ 65535 (by decide) (by decide) (by with_reducible assumption) hr fun r p6 r0 r1 hp6=>?_)|refine zG ?_|apply zA|(apply zI;intro h)|exact zT));(all_goals conv=>whnf)
      all_goals
       refine⟨(p6,r),⟨by with_reducible assumption,r0,r1⟩,?_⟩
       (exact leA)
     rintro⟨p6,r⟩ ⟨hp6,r0,r1⟩
     simp only at hp6 r0 r1⊢
     obtain⟨k1,k2,k3,k4⟩:=hsL 0 r c.name r0 r1
     have sA:=fun {K} h=>@hsA c.name K h
     have sB:∀{K:KT},K (.tup [encXs (svcP ⟨[a,b,e],addIt [c] 0 (zY r),ws,ts,ps,hds⟩ c.name).1,.v (.int .i64 (svcP ⟨[a,b,e],addIt [c] 0 (zY r),ws,ts,ps,hds⟩ c.name).2)]) []->ACall Tryz.prog 24 [.agg [.lst [.agg [.v (.string a.name),.lst (a.items.map encIt)],.agg [.v (.string b.name),.lst (b.items.map encIt++[encIt (zX q)])],.agg [.v (.string e.name),.lst (e.items.map encIt)]],.lst [.agg [.v (.string c.name),.lst (c.items.map encIt++[encIt (zY r)])]],.lst (ws.map encWn),.lst (ts.map encSm),.lst (ps.map encPb),.lst (hds.map encHn)],.v (.string c.name)] [] K:=fun {K} h=>by
      have eE:(AV.agg [.lst [.agg [.v (.string a.name),.lst (a.items.map encIt)],.agg [.v (.string b.name),.lst (b.items.map encIt++[encIt (zX q)])],.agg [.v (.string e.name),.lst (e.items.map encIt)]],.lst [.agg [.v (.string c.name),.lst (c.items.map encIt++[encIt (zY r)])]],.lst (ws.map encWn),.lst (ts.map encSm),.lst (ps.map encPb),.lst (hds.map encHn)])=encNt ⟨addIt [a,b,e] 1 (zX q),addIt [c] 0 (zY r),ws,ts,ps,hds⟩:=by simp[addIt]
      rw[eE]
      exact @hsB 1 0 (zX q) (zY r) c.name hxB (hyB r r0 r1) K h
     generalize svcP ⟨[a,b,e],addIt [c] 0 (zY r),ws,ts,ps,hds⟩ c.name=T at*
     generalize svcP ⟨[a,b,e],[c],ws,ts,ps,hds⟩ c.name=U at*
     obtain⟨Ts,Te⟩:=T
     obtain⟨Us,Ue⟩:=U
     simp only at k1 k2 k3 k4 sA sB
     subst k3
     have hsub:=fun {K} h=>@sub_small Us Ts k1 k2 k4 K h
     (repeat' ((conv=>whnf);first|(refine in_r (by rfl) ?_)|(refine Ix.intro rfl ?_)|(refine sl_full (by simp) ?_)|(with_reducible refine sA ?_)|(refine sB ?_)|(with_reducible first|refine hsub ?_|refine cwSane ?_)|refine zG ?_|apply zA|(apply zI;intro h)|exact zT));(all_goals conv=>whnf)
     all_goals first
      |exact .inl rfl
      |exact .inr rfl
      |(exfalso;simp_all;done)
      |trace_state
   ·obtain rfl:=l5 hz
    obtain rfl:=l6 hz
    have gA:=fun {K:KT} h=>@gA K (fun _ _=>h) (fun h0=>absurd h0 hz)
    have gB:=fun {K:KT} h=>@gB K (fun _ _=>h) (fun h0=>absurd h0 hz)
    (repeat' ((conv=>whnf);first|(refine in_r (by rfl) ?_)|(refine Ix.intro rfl ?_)|(refine sl_full (by simp) ?_)|(with_reducible refine gA ?_)|(refine gB ?_)|(refine c44 [] [] (by simp) (by simp) fun s hs=>?_)|(with_reducible first|refine cwSane ?_|refine nNext raw _ _ (by simp) (by with_reducible assumption) hr fun m p5 hm hp5=>?_)|refine zG ?_|apply zA|(apply zI;intro h)|exact zT));(all_goals conv=>whnf)
    all_goals try(exfalso;have:=hs.2 l4;simp_all;done)
    all_goals try(exfalso;simp at h;done)
    all_goals try(first|exact .inl rfl|exact .inr rfl)
    obtain rfl:m=0:=by(try simp only[List.length_cons,List.length_nil]at hm);omega
    ·refine Jn.intro (Nat×Rg) (fun g=>⟨20,[(0,tapeO raw g.1),(1,boxT t),(2,boxNt ⟨[a,b,e],[c],ws,ts,ps,hds⟩),(3,.box [.os 4 2 0 3,.os 5 2 0 1,.os 6 2 0 ws.length,.os 7 10 0 ts.length,.os 8 6 0 ps.length,.os 9 5 0 hds.length]),(4,.box [.v (.string a.name),.os 10 7 0 a.items.length,.v (.string b.name),.os 11 7 0 (b.items.length+1),.v (.string e.name),.os 12 7 0 e.items.length]),(5,.box [.v (.string c.name),.os 14 7 0 (c.items.length+1)]),(6,.arr 2 (ws.map encWn)),(7,.arr 10 (ts.map encSm)),(8,.arr 6 (ps.map encPb)),(9,.arr 5 (hds.map encHn)),(10,.arr 7 (a.items.map encIt)),(11,.arr 7 (b.items.map encIt++[encIt (zX q)])),(12,.arr 7 (e.items.map encIt)),(14,.arr 7 (c.items.map encIt++[encIt (zY g.2)]))],[(3,.op 0 0),(4,.op 1 0),(5,.op 2 0),(6,.op 3 0),(12,.v (.int .i64 0))]⟩) (fun g=>g.1<=raw.length/\g.2.lo<=g.2.hi/\g.2.hi<=65535) ?_ ?_
     ·(repeat' ((conv=>whnf);first|(refine in_r (by rfl) ?_)|(refine Ix.intro rfl ?_)|(refine sl_full (by simp) ?_)|(refine enRange raw _ 65535 (by decide) (by decide) (by with_reducible assumption) hr fun r p6 r0 r1 hp6=>?_)|refine zG ?_|apply zA|(apply zI;intro h)|exact zT));(all_goals conv=>whnf)
      all_goals
       refine⟨(p6,r),⟨by with_reducible assumption,r0,r1⟩,?_⟩
       (exact leA)
     rintro⟨p6,r⟩ ⟨hp6,r0,r1⟩
     simp only at hp6 r0 r1⊢
     obtain⟨k1,k2,k3,k4⟩:=hsL 0 r c.name r0 r1
     have sA:=fun {K} h=>@hsA c.name K h
     have sB:∀{K:KT},K (.tup [encXs (svcP ⟨[a,b,e],addIt [c] 0 (zY r),ws,ts,ps,hds⟩ c.name).1,.v (.int .i64 (svcP ⟨[a,b,e],addIt [c] 0 (zY r),ws,ts,ps,hds⟩ c.name).2)]) []->ACall Tryz.prog 24 [.agg [.lst [.agg [.v (.string a.name),.lst (a.items.map encIt)],.agg [.v (.string b.name),.lst (b.items.map encIt++[encIt (zX q)])],.agg [.v (.string e.name),.lst (e.items.map encIt)]],.lst [.agg [.v (.string c.name),.lst (c.items.map encIt++[encIt (zY r)])]],.lst (ws.map encWn),.lst (ts.map encSm),.lst (ps.map encPb),.lst (hds.map encHn)],.v (.string c.name)] [] K:=fun {K} h=>by
      have eE:(AV.agg [.lst [.agg [.v (.string a.name),.lst (a.items.map encIt)],.agg [.v (.string b.name),.lst (b.items.map encIt++[encIt (zX q)])],.agg [.v (.string e.name),.lst (e.items.map encIt)]],.lst [.agg [.v (.string c.name),.lst (c.items.map encIt++[encIt (zY r)])]],.lst (ws.map encWn),.lst (ts.map encSm),.lst (ps.map encPb),.lst (hds.map encHn)])=encNt ⟨addIt [a,b,e] 1 (zX q),addIt [c] 0 (zY r),ws,ts,ps,hds⟩:=by simp[addIt]
      rw[eE]
      exact @hsB 1 0 (zX q) (zY r) c.name hxB (hyB r r0 r1) K h
     generalize svcP ⟨[a,b,e],addIt [c] 0 (zY r),ws,ts,ps,hds⟩ c.name=T at*
     generalize svcP ⟨[a,b,e],[c],ws,ts,ps,hds⟩ c.name=U at*
     obtain⟨Ts,Te⟩:=T
     obtain⟨Us,Ue⟩:=U
     simp only at k1 k2 k3 k4 sA sB
     subst k3
     have hsub:=fun {K} h=>@sub_small Us Ts k1 k2 k4 K h
     (repeat' ((conv=>whnf);first|(refine in_r (by rfl) ?_)|(refine Ix.intro rfl ?_)|(refine sl_full (by simp) ?_)|(with_reducible refine sA ?_)|(refine sB ?_)|(with_reducible first|refine hsub ?_|refine cwSane ?_)|refine zG ?_|apply zA|(apply zI;intro h)|exact zT));(all_goals conv=>whnf)
     all_goals first
      |exact .inl rfl
      |exact .inr rfl
      |(exfalso;simp_all;done)
      |trace_state
  ·refine Jn.intro (Nat×Pf) (fun g=>⟨20,[(0,tapeO raw g.1),(1,boxT t),(2,boxNt ⟨[a,b,e],[c],ws,ts,ps,hds⟩),(3,.box [.os 4 2 0 3,.os 5 2 0 1,.os 6 2 0 ws.length,.os 7 10 0 ts.length,.os 8 6 0 ps.length,.os 9 5 0 hds.length]),(4,.box [.v (.string a.name),.os 10 7 0 a.items.length,.v (.string b.name),.os 11 7 0 b.items.length,.v (.string e.name),.os 12 7 0 (e.items.length+1)]),(5,.box [.v (.string c.name),.os 14 7 0 c.items.length]),(6,.arr 2 (ws.map encWn)),(7,.arr 10 (ts.map encSm)),(8,.arr 6 (ps.map encPb)),(9,.arr 5 (hds.map encHn)),(10,.arr 7 (a.items.map encIt)),(11,.arr 7 (b.items.map encIt)),(12,.arr 7 (e.items.map encIt++[encIt (zX g.2)])),(14,.arr 7 (c.items.map encIt))],[(3,.op 0 0),(4,.op 1 0),(5,.op 2 0),(6,.op 3 0),(7,.v (.int .i64 2))]⟩) (fun g=>g.1<=raw.length/\g.2.okP) ?_ ?_
   ·(repeat' ((conv=>whnf);first|(refine in_r (by rfl) ?_)|(refine Ix.intro rfl ?_)|(refine sl_full (by simp) ?_)|(with_reducible refine enPref raw _ (by with_reducible assumption) hr fun q p4 hq hp4=>?_)|refine zG ?_|apply zA|(apply zI;intro h)|exact zT));(all_goals conv=>whnf)
    all_goals
     refine⟨(p4,q),⟨by with_reducible assumption,hq⟩,?_⟩
     (exact leA)
   rintro⟨p4,q⟩ ⟨hp4,hq⟩
   simp only at hp4 hq⊢
   have hxB:=itB_sub hq
   obtain⟨l1,l2,l3,l4⟩:=hgL 2 (zX q) e.name rfl
   have gA:=fun {K} h1 h2=>@hgA e.name K h1 h2
   have gB:∀{K:KT},((grpP t ⟨addIt [a,b,e] 2 (zX q),[c],ws,ts,ps,hds⟩ e.name).2≠0->(grpP t ⟨addIt [a,b,e] 2 (zX q),[c],ws,ts,ps,hds⟩ e.name).1=[]->K (.tup [.lst [],.v (.int .i64 (grpP t ⟨addIt [a,b,e] 2 (zX q),[c],ws,ts,ps,hds⟩ e.name).2)]) [])->((grpP t ⟨addIt [a,b,e] 2 (zX q),[c],ws,ts,ps,hds⟩ e.name).2=0->K (.tup [.os 0 2 0 (grpP t ⟨addIt [a,b,e] 2 (zX q),[c],ws,ts,ps,hds⟩ e.name).1.length,.v (.int .i64 0)]) [.arr 2 ((grpP t ⟨addIt [a,b,e] 2 (zX q),[c],ws,ts,ps,hds⟩ e.name).1.map encR)])->ACall Tryz.prog 13 [encT t,.agg [.lst [.agg [.v (.string a.name),.lst (a.items.map encIt)],.agg [.v (.string b.name),.lst (b.items.map encIt)],.agg [.v (.string e.name),.lst (e.items.map encIt++[encIt (zX q)])]],.lst [.agg [.v (.string c.name),.lst (c.items.map encIt)]],.lst (ws.map encWn),.lst (ts.map encSm),.lst (ps.map encPb),.lst (hds.map encHn)],.v (.string e.name)] [] K:=fun {K} h1 h2=>by
    have eE:(AV.agg [.lst [.agg [.v (.string a.name),.lst (a.items.map encIt)],.agg [.v (.string b.name),.lst (b.items.map encIt)],.agg [.v (.string e.name),.lst (e.items.map encIt++[encIt (zX q)])]],.lst [.agg [.v (.string c.name),.lst (c.items.map encIt)]],.lst (ws.map encWn),.lst (ts.map encSm),.lst (ps.map encPb),.lst (hds.map encHn)])=encNt ⟨addIt [a,b,e] 2 (zX q),[c],ws,ts,ps,hds⟩:=by simp[addIt]
    rw[eE]
    exact @hgB 2 (zX q) e.name hxB K h1 h2
   have l5:=grpP_errO t ⟨addIt [a,b,e] 2 (zX q),[c],ws,ts,ps,hds⟩ e.name
   have l6:=grpP_errO t ⟨[a,b,e],[c],ws,ts,ps,hds⟩ e.name
   generalize grpP t ⟨addIt [a,b,e] 2 (zX q),[c],ws,ts,ps,hds⟩ e.name=J at*
   generalize grpP t ⟨[a,b,e],[c],ws,ts,ps,hds⟩ e.name=O at*
   obtain⟨Js,Je⟩:=J
   obtain⟨Os,Oe⟩:=O
   simp only at l1 l2 l3 l4 l5 l6 gA gB
   subst l3
   have hfl:=flat_encR Js
   have hfo:=flat_encR Os
   by_cases hz:Oe=0
   ·subst hz
    have gB:=fun {K:KT} h=>@gB K (fun h0=>absurd rfl h0) (fun _=>h)
    have gA:=fun {K:KT} h=>@gA K (fun h0=>absurd rfl h0) (fun _=>h)
    (repeat' ((conv=>whnf);first|(refine in_r (by rfl) ?_)|(refine Ix.intro rfl ?_)|(refine sl_full (by simp) ?_)|(with_reducible refine gA ?_)|(refine gB ?_)|(with_reducible first|refine c44 Os Js (by omega) (by omega) fun s hs=>?_|refine cwSane ?_|refine nNext raw _ _ (by simp) (by with_reducible assumption) hr fun m p5 hm hp5=>?_)|(refine Ob.intro hfl ?_)|(refine Ob.intro hfo ?_)|refine zG ?_|apply zA|(apply zI;intro h)|exact zT));(all_goals conv=>whnf)
    all_goals try(exfalso;have:=hs.2 l4;simp_all;done)
    all_goals try(exfalso;simp at h;done)
    all_goals try(first|exact .inl rfl|exact .inr rfl)
    obtain rfl:m=0:=by(try simp only[List.length_cons,List.length_nil]at hm);omega
    ·refine Jn.intro (Nat×Rg) (fun g=>⟨20,[(0,tapeO raw g.1),(1,boxT t),(2,boxNt ⟨[a,b,e],[c],ws,ts,ps,hds⟩),(3,.box [.os 4 2 0 3,.os 5 2 0 1,.os 6 2 0 ws.length,.os 7 10 0 ts.length,.os 8 6 0 ps.length,.os 9 5 0 hds.length]),(4,.box [.v (.string a.name),.os 10 7 0 a.items.length,.v (.string b.name),.os 11 7 0 b.items.length,.v (.string e.name),.os 12 7 0 (e.items.length+1)]),(5,.box [.v (.string c.name),.os 14 7 0 (c.items.length+1)]),(6,.arr 2 (ws.map encWn)),(7,.arr 10 (ts.map encSm)),(8,.arr 6 (ps.map encPb)),(9,.arr 5 (hds.map encHn)),(10,.arr 7 (a.items.map encIt)),(11,.arr 7 (b.items.map encIt)),(12,.arr 7 (e.items.map encIt++[encIt (zX q)])),(14,.arr 7 (c.items.map encIt++[encIt (zY g.2)]))],[(3,.op 0 0),(4,.op 1 0),(5,.op 2 0),(6,.op 3 0),(12,.v (.int .i64 0))]⟩) (fun g=>g.1<=raw.length/\g.2.lo<=g.2.hi/\g.2.hi<=65535) ?_ ?_
     ·(repeat' ((conv=>whnf);first|(refine in_r (by rfl) ?_)|(refine Ix.intro rfl ?_)|(refine sl_full (by simp) ?_)|(refine enRange raw _ 65535 (by decide) (by decide) (by with_reducible assumption) hr fun r p6 r0 r1 hp6=>?_)|refine zG ?_|apply zA|(apply zI;intro h)|exact zT));(all_goals conv=>whnf)
      all_goals
       refine⟨(p6,r),⟨by with_reducible assumption,r0,r1⟩,?_⟩
       (exact leA)
     rintro⟨p6,r⟩ ⟨hp6,r0,r1⟩
     simp only at hp6 r0 r1⊢
     obtain⟨k1,k2,k3,k4⟩:=hsL 0 r c.name r0 r1
     have sA:=fun {K} h=>@hsA c.name K h
     have sB:∀{K:KT},K (.tup [encXs (svcP ⟨[a,b,e],addIt [c] 0 (zY r),ws,ts,ps,hds⟩ c.name).1,.v (.int .i64 (svcP ⟨[a,b,e],addIt [c] 0 (zY r),ws,ts,ps,hds⟩ c.name).2)]) []->ACall Tryz.prog 24 [.agg [.lst [.agg [.v (.string a.name),.lst (a.items.map encIt)],.agg [.v (.string b.name),.lst (b.items.map encIt)],.agg [.v (.string e.name),.lst (e.items.map encIt++[encIt (zX q)])]],.lst [.agg [.v (.string c.name),.lst (c.items.map encIt++[encIt (zY r)])]],.lst (ws.map encWn),.lst (ts.map encSm),.lst (ps.map encPb),.lst (hds.map encHn)],.v (.string c.name)] [] K:=fun {K} h=>by
      have eE:(AV.agg [.lst [.agg [.v (.string a.name),.lst (a.items.map encIt)],.agg [.v (.string b.name),.lst (b.items.map encIt)],.agg [.v (.string e.name),.lst (e.items.map encIt++[encIt (zX q)])]],.lst [.agg [.v (.string c.name),.lst (c.items.map encIt++[encIt (zY r)])]],.lst (ws.map encWn),.lst (ts.map encSm),.lst (ps.map encPb),.lst (hds.map encHn)])=encNt ⟨addIt [a,b,e] 2 (zX q),addIt [c] 0 (zY r),ws,ts,ps,hds⟩:=by simp[addIt]
      rw[eE]
      exact @hsB 2 0 (zX q) (zY r) c.name hxB (hyB r r0 r1) K h
     generalize svcP ⟨[a,b,e],addIt [c] 0 (zY r),ws,ts,ps,hds⟩ c.name=T at*
     generalize svcP ⟨[a,b,e],[c],ws,ts,ps,hds⟩ c.name=U at*
     obtain⟨Ts,Te⟩:=T
     obtain⟨Us,Ue⟩:=U
     simp only at k1 k2 k3 k4 sA sB
     subst k3
     have hsub:=fun {K} h=>@sub_small Us Ts k1 k2 k4 K h
     (repeat' ((conv=>whnf);first|(refine in_r (by rfl) ?_)|(refine Ix.intro rfl ?_)|(refine sl_full (by simp) ?_)|(with_reducible refine sA ?_)|(refine sB ?_)|(with_reducible first|refine hsub ?_|refine cwSane ?_)|refine zG ?_|apply zA|(apply zI;intro h)|exact zT));(all_goals conv=>whnf)
     all_goals first
      |exact .inl rfl
      |exact .inr rfl
      |(exfalso;simp_all;done)
      |trace_state
   ·obtain rfl:=l5 hz
    obtain rfl:=l6 hz
    have gA:=fun {K:KT} h=>@gA K (fun _ _=>h) (fun h0=>absurd h0 hz)
    have gB:=fun {K:KT} h=>@gB K (fun _ _=>h) (fun h0=>absurd h0 hz)
    (repeat' ((conv=>whnf);first|(refine in_r (by rfl) ?_)|(refine Ix.intro rfl ?_)|(refine sl_full (by simp) ?_)|(with_reducible refine gA ?_)|(refine gB ?_)|(refine c44 [] [] (by simp) (by simp) fun s hs=>?_)|(with_reducible first|refine cwSane ?_|refine nNext raw _ _ (by simp) (by with_reducible assumption) hr fun m p5 hm hp5=>?_)|refine zG ?_|apply zA|(apply zI;intro h)|exact zT));(all_goals conv=>whnf)
    all_goals try(exfalso;have:=hs.2 l4;simp_all;done)
    all_goals try(exfalso;simp at h;done)
    all_goals try(first|exact .inl rfl|exact .inr rfl)
    obtain rfl:m=0:=by(try simp only[List.length_cons,List.length_nil]at hm);omega
    ·refine Jn.intro (Nat×Rg) (fun g=>⟨20,[(0,tapeO raw g.1),(1,boxT t),(2,boxNt ⟨[a,b,e],[c],ws,ts,ps,hds⟩),(3,.box [.os 4 2 0 3,.os 5 2 0 1,.os 6 2 0 ws.length,.os 7 10 0 ts.length,.os 8 6 0 ps.length,.os 9 5 0 hds.length]),(4,.box [.v (.string a.name),.os 10 7 0 a.items.length,.v (.string b.name),.os 11 7 0 b.items.length,.v (.string e.name),.os 12 7 0 (e.items.length+1)]),(5,.box [.v (.string c.name),.os 14 7 0 (c.items.length+1)]),(6,.arr 2 (ws.map encWn)),(7,.arr 10 (ts.map encSm)),(8,.arr 6 (ps.map encPb)),(9,.arr 5 (hds.map encHn)),(10,.arr 7 (a.items.map encIt)),(11,.arr 7 (b.items.map encIt)),(12,.arr 7 (e.items.map encIt++[encIt (zX q)])),(14,.arr 7 (c.items.map encIt++[encIt (zY g.2)]))],[(3,.op 0 0),(4,.op 1 0),(5,.op 2 0),(6,.op 3 0),(12,.v (.int .i64 0))]⟩) (fun g=>g.1<=raw.length/\g.2.lo<=g.2.hi/\g.2.hi<=65535) ?_ ?_
     ·(repeat' ((conv=>whnf);first|(refine in_r (by rfl) ?_)|(refine Ix.intro rfl ?_)|(refine sl_full (by simp) ?_)|(refine enRange raw _ 65535 (by decide) (by decide) (by with_reducible assumption) hr fun r p6 r0 r1 hp6=>?_)|refine zG ?_|apply zA|(apply zI;intro h)|exact zT));(all_goals conv=>whnf)
      all_goals
       refine⟨(p6,r),⟨by with_reducible assumption,r0,r1⟩,?_⟩
       (exact leA)
     rintro⟨p6,r⟩ ⟨hp6,r0,r1⟩
     simp only at hp6 r0 r1⊢
     obtain⟨k1,k2,k3,k4⟩:=hsL 0 r c.name r0 r1
     have sA:=fun {K} h=>@hsA c.name K h
     have sB:∀{K:KT},K (.tup [encXs (svcP ⟨[a,b,e],addIt [c] 0 (zY r),ws,ts,ps,hds⟩ c.name).1,.v (.int .i64 (svcP ⟨[a,b,e],addIt [c] 0 (zY r),ws,ts,ps,hds⟩ c.name).2)]) []->ACall Tryz.prog 24 [.agg [.lst [.agg [.v (.string a.name),.lst (a.items.map encIt)],.agg [.v (.string b.name),.lst (b.items.map encIt)],.agg [.v (.string e.name),.lst (e.items.map encIt++[encIt (zX q)])]],.lst [.agg [.v (.string c.name),.lst (c.items.map encIt++[encIt (zY r)])]],.lst (ws.map encWn),.lst (ts.map encSm),.lst (ps.map encPb),.lst (hds.map encHn)],.v (.string c.name)] [] K:=fun {K} h=>by
      have eE:(AV.agg [.lst [.agg [.v (.string a.name),.lst (a.items.map encIt)],.agg [.v (.string b.name),.lst (b.items.map encIt)],.agg [.v (.string e.name),.lst (e.items.map encIt++[encIt (zX q)])]],.lst [.agg [.v (.string c.name),.lst (c.items.map encIt++[encIt (zY r)])]],.lst (ws.map encWn),.lst (ts.map encSm),.lst (ps.map encPb),.lst (hds.map encHn)])=encNt ⟨addIt [a,b,e] 2 (zX q),addIt [c] 0 (zY r),ws,ts,ps,hds⟩:=by simp[addIt]
      rw[eE]
      exact @hsB 2 0 (zX q) (zY r) c.name hxB (hyB r r0 r1) K h
     generalize svcP ⟨[a,b,e],addIt [c] 0 (zY r),ws,ts,ps,hds⟩ c.name=T at*
     generalize svcP ⟨[a,b,e],[c],ws,ts,ps,hds⟩ c.name=U at*
     obtain⟨Ts,Te⟩:=T
     obtain⟨Us,Ue⟩:=U
     simp only at k1 k2 k3 k4 sA sB
     subst k3
     have hsub:=fun {K} h=>@sub_small Us Ts k1 k2 k4 K h
     (repeat' ((conv=>whnf);first|(refine in_r (by rfl) ?_)|(refine Ix.intro rfl ?_)|(refine sl_full (by simp) ?_)|(with_reducible refine sA ?_)|(refine sB ?_)|(with_reducible first|refine hsub ?_|refine cwSane ?_)|refine zG ?_|apply zA|(apply zI;intro h)|exact zT));(all_goals conv=>whnf)
     all_goals first
      |exact .inl rfl
      |exact .inr rfl
      |(exfalso;simp_all;done)
      |trace_state
 ·have haa:=hgi a (by simp)
  have hbb:=hgi b (by simp)
  have hee:=hgi e (by simp)
  have hcc:=hsi c (by simp)
  have hdd:=hsi d (by simp)
  (repeat' ((conv=>whnf);first|(with_reducible first|refine hcp ?_|refine nNext raw _ _ (by simp) (by with_reducible assumption) hr fun n p3 hn hp3=>?_)|refine zG ?_|apply zA|(apply zI;intro h)|exact zT));(all_goals conv=>whnf)
  obtain rfl|rfl|rfl:n=0\/n=1\/n=2:=by simp only[List.length_cons,List.length_nil]at hn;omega
  ·refine Jn.intro (Nat×Pf) (fun g=>⟨20,[(0,tapeO raw g.1),(1,boxT t),(2,boxNt ⟨[a,b,e],[c,d],ws,ts,ps,hds⟩),(3,.box [.os 4 2 0 3,.os 5 2 0 2,.os 6 2 0 ws.length,.os 7 10 0 ts.length,.os 8 6 0 ps.length,.os 9 5 0 hds.length]),(4,.box [.v (.string a.name),.os 10 7 0 (a.items.length+1),.v (.string b.name),.os 11 7 0 b.items.length,.v (.string e.name),.os 12 7 0 e.items.length]),(5,.box [.v (.string c.name),.os 14 7 0 c.items.length,.v (.string d.name),.os 15 7 0 d.items.length]),(6,.arr 2 (ws.map encWn)),(7,.arr 10 (ts.map encSm)),(8,.arr 6 (ps.map encPb)),(9,.arr 5 (hds.map encHn)),(10,.arr 7 (a.items.map encIt++[encIt (zX g.2)])),(11,.arr 7 (b.items.map encIt)),(12,.arr 7 (e.items.map encIt)),(14,.arr 7 (c.items.map encIt)),(15,.arr 7 (d.items.map encIt))],[(3,.op 0 0),(4,.op 1 0),(5,.op 2 0),(6,.op 3 0),(7,.v (.int .i64 0))]⟩) (fun g=>g.1<=raw.length/\g.2.okP) ?_ ?_
   ·(repeat' ((conv=>whnf);first|(refine in_r (by rfl) ?_)|(refine Ix.intro rfl ?_)|(refine sl_full (by simp) ?_)|(with_reducible refine enPref raw _ (by with_reducible assumption) hr fun q p4 hq hp4=>?_)|refine zG ?_|apply zA|(apply zI;intro h)|exact zT));(all_goals conv=>whnf)
    all_goals
     refine⟨(p4,q),⟨by with_reducible assumption,hq⟩,?_⟩
     (exact leA)
   rintro⟨p4,q⟩ ⟨hp4,hq⟩
   simp only at hp4 hq⊢
   have hxB:=itB_sub hq
   obtain⟨l1,l2,l3,l4⟩:=hgL 0 (zX q) a.name rfl
   have gA:=fun {K} h1 h2=>@hgA a.name K h1 h2
   have gB:∀{K:KT},((grpP t ⟨addIt [a,b,e] 0 (zX q),[c,d],ws,ts,ps,hds⟩ a.name).2≠0->(grpP t ⟨addIt [a,b,e] 0 (zX q),[c,d],ws,ts,ps,hds⟩ a.name).1=[]->K (.tup [.lst [],.v (.int .i64 (grpP t ⟨addIt [a,b,e] 0 (zX q),[c,d],ws,ts,ps,hds⟩ a.name).2)]) [])->((grpP t ⟨addIt [a,b,e] 0 (zX q),[c,d],ws,ts,ps,hds⟩ a.name).2=0->K (.tup [.os 0 2 0 (grpP t ⟨addIt [a,b,e] 0 (zX q),[c,d],ws,ts,ps,hds⟩ a.name).1.length,.v (.int .i64 0)]) [.arr 2 ((grpP t ⟨addIt [a,b,e] 0 (zX q),[c,d],ws,ts,ps,hds⟩ a.name).1.map encR)])->ACall Tryz.prog 13 [encT t,.agg [.lst [.agg [.v (.string a.name),.lst (a.items.map encIt++[encIt (zX q)])],.agg [.v (.string b.name),.lst (b.items.map encIt)],.agg [.v (.string e.name),.lst (e.items.map encIt)]],.lst [.agg [.v (.string c.name),.lst (c.items.map encIt)],.agg [.v (.string d.name),.lst (d.items.map encIt)]],.lst (ws.map encWn),.lst (ts.map encSm),.lst (ps.map encPb),.lst (hds.map encHn)],.v (.string a.name)] [] K:=fun {K} h1 h2=>by
    have eE:(AV.agg [.lst [.agg [.v (.string a.name),.lst (a.items.map encIt++[encIt (zX q)])],.agg [.v (.string b.name),.lst (b.items.map encIt)],.agg [.v (.string e.name),.lst (e.items.map encIt)]],.lst [.agg [.v (.string c.name),.lst (c.items.map encIt)],.agg [.v (.string d.name),.lst (d.items.map encIt)]],.lst (ws.map encWn),.lst (ts.map encSm),.lst (ps.map encPb),.lst (hds.map encHn)])=encNt ⟨addIt [a,b,e] 0 (zX q),[c,d],ws,ts,ps,hds⟩:=by simp[addIt]
    rw[eE]
    exact @hgB 0 (zX q) a.name hxB K h1 h2
   have l5:=grpP_errO t ⟨addIt [a,b,e] 0 (zX q),[c,d],ws,ts,ps,hds⟩ a.name
   have l6:=grpP_errO t ⟨[a,b,e],[c,d],ws,ts,ps,hds⟩ a.name
   generalize grpP t ⟨addIt [a,b,e] 0 (zX q),[c,d],ws,ts,ps,hds⟩ a.name=J at*
   generalize grpP t ⟨[a,b,e],[c,d],ws,ts,ps,hds⟩ a.name=O at*
   obtain⟨Js,Je⟩:=J
   obtain⟨Os,Oe⟩:=O
   simp only at l1 l2 l3 l4 l5 l6 gA gB
   subst l3
   have hfl:=flat_encR Js
   have hfo:=flat_encR Os
   by_cases hz:Oe=0
   ·subst hz
    have gB:=fun {K:KT} h=>@gB K (fun h0=>absurd rfl h0) (fun _=>h)
    have gA:=fun {K:KT} h=>@gA K (fun h0=>absurd rfl h0) (fun _=>h)
    (repeat' ((conv=>whnf);first|(refine in_r (by rfl) ?_)|(refine Ix.intro rfl ?_)|(refine sl_full (by simp) ?_)|(with_reducible refine gA ?_)|(refine gB ?_)|(with_reducible first|refine c44 Os Js (by omega) (by omega) fun s hs=>?_|refine cwSane ?_|refine nNext raw _ _ (by simp) (by with_reducible assumption) hr fun m p5 hm hp5=>?_)|(refine Ob.intro hfl ?_)|(refine Ob.intro hfo ?_)|refine zG ?_|apply zA|(apply zI;intro h)|exact zT));(all_goals conv=>whnf)
    all_goals try(exfalso;have:=hs.2 l4;simp_all;done)
    all_goals try(exfalso;simp at h;done)
    all_goals try(first|exact .inl rfl|exact .inr rfl)
    obtain rfl|rfl:m=0\/m=1:=by(try simp only[List.length_cons,List.length_nil]at hm);omega
    ·refine Jn.intro (Nat×Rg) (fun g=>⟨20,[(0,tapeO raw g.1),(1,boxT t),(2,boxNt ⟨[a,b,e],[c,d],ws,ts,ps,hds⟩),(3,.box [.os 4 2 0 3,.os 5 2 0 2,.os 6 2 0 ws.length,.os 7 10 0 ts.length,.os 8 6 0 ps.length,.os 9 5 0 hds.length]),(4,.box [.v (.string a.name),.os 10 7 0 (a.items.length+1),.v (.string b.name),.os 11 7 0 b.items.length,.v (.string e.name),.os 12 7 0 e.items.length]),(5,.box [.v (.string c.name),.os 14 7 0 (c.items.length+1),.v (.string d.name),.os 15 7 0 d.items.length]),(6,.arr 2 (ws.map encWn)),(7,.arr 10 (ts.map encSm)),(8,.arr 6 (ps.map encPb)),(9,.arr 5 (hds.map encHn)),(10,.arr 7 (a.items.map encIt++[encIt (zX q)])),(11,.arr 7 (b.items.map encIt)),(12,.arr 7 (e.items.map encIt)),(14,.arr 7 (c.items.map encIt++[encIt (zY g.2)])),(15,.arr 7 (d.items.map encIt))],[(3,.op 0 0),(4,.op 1 0),(5,.op 2 0),(6,.op 3 0),(12,.v (.int .i64 0))]⟩) (fun g=>g.1<=raw.length/\g.2.lo<=g.2.hi/\g.2.hi<=65535) ?_ ?_
     ·(repeat' ((conv=>whnf);first|(refine in_r (by rfl) ?_)|(refine Ix.intro rfl ?_)|(refine sl_full (by simp) ?_)|(refine enRange raw _ 65535 (by decide) (by decide) (by with_reducible assumption) hr fun r p6 r0 r1 hp6=>?_)|refine zG ?_|apply zA|(apply zI;intro h)|exact zT));(all_goals conv=>whnf)
      all_goals
       refine⟨(p6,r),⟨by with_reducible assumption,r0,r1⟩,?_⟩
       (exact leA)
     rintro⟨p6,r⟩ ⟨hp6,r0,r1⟩
     simp only at hp6 r0 r1⊢
     obtain⟨k1,k2,k3,k4⟩:=hsL 0 r c.name r0 r1
     have sA:=fun {K} h=>@hsA c.name K h
     have sB:∀{K:KT},K (.tup [encXs (svcP ⟨[a,b,e],addIt [c,d] 0 (zY r),ws,ts,ps,hds⟩ c.name).1,.v (.int .i64 (svcP ⟨[a,b,e],addIt [c,d] 0 (zY r),ws,ts,ps,hds⟩ c.name).2)]) []->ACall Tryz.prog 24 [.agg [.lst [.agg [.v (.string a.name),.lst (a.items.map encIt++[encIt (zX q)])],.agg [.v (.string b.name),.lst (b.items.map encIt)],.agg [.v (.string e.name),.lst (e.items.map encIt)]],.lst [.agg [.v (.string c.name),.lst (c.items.map encIt++[encIt (zY r)])],.agg [.v (.string d.name),.lst (d.items.map encIt)]],.lst (ws.map encWn),.lst (ts.map encSm),.lst (ps.map encPb),.lst (hds.map encHn)],.v (.string c.name)] [] K:=fun {K} h=>by
      have eE:(AV.agg [.lst [.agg [.v (.string a.name),.lst (a.items.map encIt++[encIt (zX q)])],.agg [.v (.string b.name),.lst (b.items.map encIt)],.agg [.v (.string e.name),.lst (e.items.map encIt)]],.lst [.agg [.v (.string c.name),.lst (c.items.map encIt++[encIt (zY r)])],.agg [.v (.string d.name),.lst (d.items.map encIt)]],.lst (ws.map encWn),.lst (ts.map encSm),.lst (ps.map encPb),.lst (hds.map encHn)])=encNt ⟨addIt [a,b,e] 0 (zX q),addIt [c,d] 0 (zY r),ws,ts,ps,hds⟩:=by simp[addIt]
      rw[eE]
      exact @hsB 0 0 (zX q) (zY r) c.name hxB (hyB r r0 r1) K h
     generalize svcP ⟨[a,b,e],addIt [c,d] 0 (zY r),ws,ts,ps,hds⟩ c.name=T at*
     generalize svcP ⟨[a,b,e],[c,d],ws,ts,ps,hds⟩ c.name=U at*
     obtain⟨Ts,Te⟩:=T
     obtain⟨Us,Ue⟩:=U
     simp only at k1 k2 k3 k4 sA sB
     subst k3
     have hsub:=fun {K} h=>@sub_small Us Ts k1 k2 k4 K h
     (repeat' ((conv=>whnf);first|(refine in_r (by rfl) ?_)|(refine Ix.intro rfl ?_)|(refine sl_full (by simp) ?_)|(with_reducible refine sA ?_)|(refine sB ?_)|(with_reducible first|refine hsub ?_|refine cwSane ?_)|refine zG ?_|apply zA|(apply zI;intro h)|exact zT));(all_goals conv=>whnf)
     all_goals first
      |exact .inl rfl
      |exact .inr rfl
      |(exfalso;simp_all;done)
      |trace_state
    ·refine Jn.intro (Nat×Rg) (fun g=>⟨20,[(0,tapeO raw g.1),(1,boxT t),(2,boxNt ⟨[a,b,e],[c,d],ws,ts,ps,hds⟩),(3,.box [.os 4 2 0 3,.os 5 2 0 2,.os 6 2 0 ws.length,.os 7 10 0 ts.length,.os 8 6 0 ps.length,.os 9 5 0 hds.length]),(4,.box [.v (.string a.name),.os 10 7 0 (a.items.length+1),.v (.string b.name),.os 11 7 0 b.items.length,.v (.string e.name),.os 12 7 0 e.items.length]),(5,.box [.v (.string c.name),.os 14 7 0 c.items.length,.v (.string d.name),.os 15 7 0 (d.items.length+1)]),(6,.arr 2 (ws.map encWn)),(7,.arr 10 (ts.map encSm)),(8,.arr 6 (ps.map encPb)),(9,.arr 5 (hds.map encHn)),(10,.arr 7 (a.items.map encIt++[encIt (zX q)])),(11,.arr 7 (b.items.map encIt)),(12,.arr 7 (e.items.map encIt)),(14,.arr 7 (c.items.map encIt)),(15,.arr 7 (d.items.map encIt++[encIt (zY g.2)]))],[(3,.op 0 0),(4,.op 1 0),(5,.op 2 0),(6,.op 3 0),(12,.v (.int .i64 1))]⟩) (fun g=>g.1<=raw.length/\g.2.lo<=g.2.hi/\g.2.hi<=65535) ?_ ?_
     ·(repeat' ((conv=>whnf);first|(refine in_r (by rfl) ?_)|(refine Ix.intro rfl ?_)|(refine sl_full (by simp) ?_)|(refine enRange raw _ 65535 (by decide) (by decide) (by with_reducible assumption) hr fun r p6 r0 r1 hp6=>?_)|refine zG ?_|apply zA|(apply zI;intro h)|exact zT));(all_goals conv=>whnf)
      all_goals
       refine⟨(p6,r),⟨by with_reducible assumption,r0,r1⟩,?_⟩
       (exact leA)
     rintro⟨p6,r⟩ ⟨hp6,r0,r1⟩
     simp only at hp6 r0 r1⊢
     obtain⟨k1,k2,k3,k4⟩:=hsL 1 r d.name r0 r1
     have sA:=fun {K} h=>@hsA d.name K h
     have sB:∀{K:KT},K (.tup [encXs (svcP ⟨[a,b,e],addIt [c,d] 1 (zY r),ws,ts,ps,hds⟩ d.name).1,.v (.int .i64 (svcP ⟨[a,b,e],addIt [c,d] 1 (zY r),ws,ts,ps,hds⟩ d.name).2)]) []->ACall Tryz.prog 24 [.agg [.lst [.agg [.v (.string a.name),.lst (a.items.map encIt++[encIt (zX q)])],.agg [.v (.string b.name),.lst (b.items.map encIt)],.agg [.v (.string e.name),.lst (e.items.map encIt)]],.lst [.agg [.v (.string c.name),.lst (c.items.map encIt)],.agg [.v (.string d.name),.lst (d.items.map encIt++[encIt (zY r)])]],.lst (ws.map encWn),.lst (ts.map encSm),.lst (ps.map encPb),.lst (hds.map encHn)],.v (.string d.name)] [] K:=fun {K} h=>by
      have eE:(AV.agg [.lst [.agg [.v (.string a.name),.lst (a.items.map encIt++[encIt (zX q)])],.agg [.v (.string b.name),.lst (b.items.map encIt)],.agg [.v (.string e.name),.lst (e.items.map encIt)]],.lst [.agg [.v (.string c.name),.lst (c.items.map encIt)],.agg [.v (.string d.name),.lst (d.items.map encIt++[encIt (zY r)])]],.lst (ws.map encWn),.lst (ts.map encSm),.lst (ps.map encPb),.lst (hds.map encHn)])=encNt ⟨addIt [a,b,e] 0 (zX q),addIt [c,d] 1 (zY r),ws,ts,ps,hds⟩:=by simp[addIt]
      rw[eE]
      exact @hsB 0 1 (zX q) (zY r) d.name hxB (hyB r r0 r1) K h
     generalize svcP ⟨[a,b,e],addIt [c,d] 1 (zY r),ws,ts,ps,hds⟩ d.name=T at*
     generalize svcP ⟨[a,b,e],[c,d],ws,ts,ps,hds⟩ d.name=U at*
     obtain⟨Ts,Te⟩:=T
     obtain⟨Us,Ue⟩:=U
     simp only at k1 k2 k3 k4 sA sB
     subst k3
     have hsub:=fun {K} h=>@sub_small Us Ts k1 k2 k4 K h
     (repeat' ((conv=>whnf);first|(refine in_r (by rfl) ?_)|(refine Ix.intro rfl ?_)|(refine sl_full (by simp) ?_)|(with_reducible refine sA ?_)|(refine sB ?_)|(with_reducible first|refine hsub ?_|refine cwSane ?_)|refine zG ?_|apply zA|(apply zI;intro h)|exact zT));(all_goals conv=>whnf)
     all_goals first
      |exact .inl rfl
      |exact .inr rfl
      |(exfalso;simp_all;done)
      |trace_state
   ·obtain rfl:=l5 hz
    obtain rfl:=l6 hz
    have gA:=fun {K:KT} h=>@gA K (fun _ _=>h) (fun h0=>absurd h0 hz)
    have gB:=fun {K:KT} h=>@gB K (fun _ _=>h) (fun h0=>absurd h0 hz)
    (repeat' ((conv=>whnf);first|(refine in_r (by rfl) ?_)|(refine Ix.intro rfl ?_)|(refine sl_full (by simp) ?_)|(with_reducible refine gA ?_)|(refine gB ?_)|(refine c44 [] [] (by simp) (by simp) fun s hs=>?_)|(with_reducible first|refine cwSane ?_|refine nNext raw _ _ (by simp) (by with_reducible assumption) hr fun m p5 hm hp5=>?_)|refine zG ?_|apply zA|(apply zI;intro h)|exact zT));(all_goals conv=>whnf)
    all_goals try(exfalso;have:=hs.2 l4;simp_all;done)
    all_goals try(exfalso;simp at h;done)
    all_goals try(first|exact .inl rfl|exact .inr rfl)
    obtain rfl|rfl:m=0\/m=1:=by(try simp only[List.length_cons,List.length_nil]at hm);omega
    ·refine Jn.intro (Nat×Rg) (fun g=>⟨20,[(0,tapeO raw g.1),(1,boxT t),(2,boxNt ⟨[a,b,e],[c,d],ws,ts,ps,hds⟩),(3,.box [.os 4 2 0 3,.os 5 2 0 2,.os 6 2 0 ws.length,.os 7 10 0 ts.length,.os 8 6 0 ps.length,.os 9 5 0 hds.length]),(4,.box [.v (.string a.name),.os 10 7 0 (a.items.length+1),.v (.string b.name),.os 11 7 0 b.items.length,.v (.string e.name),.os 12 7 0 e.items.length]),(5,.box [.v (.string c.name),.os 14 7 0 (c.items.length+1),.v (.string d.name),.os 15 7 0 d.items.length]),(6,.arr 2 (ws.map encWn)),(7,.arr 10 (ts.map encSm)),(8,.arr 6 (ps.map encPb)),(9,.arr 5 (hds.map encHn)),(10,.arr 7 (a.items.map encIt++[encIt (zX q)])),(11,.arr 7 (b.items.map encIt)),(12,.arr 7 (e.items.map encIt)),(14,.arr 7 (c.items.map encIt++[encIt (zY g.2)])),(15,.arr 7 (d.items.map encIt))],[(3,.op 0 0),(4,.op 1 0),(5,.op 2 0),(6,.op 3 0),(12,.v (.int .i64 0))]⟩) (fun g=>g.1<=raw.length/\g.2.lo<=g.2.hi/\g.2.hi<=65535) ?_ ?_
     ·(repeat' ((conv=>whnf);first|(refine in_r (by rfl) ?_)|(refine Ix.intro rfl ?_)|(refine sl_full (by simp) ?_)|(refine enRange raw _ 65535 (by decide) (by decide) (by with_reducible assumption) hr fun r p6 r0 r1 hp6=>?_)|refine zG ?_|apply zA|(apply zI;intro h)|exact zT));(all_goals conv=>whnf)
      all_goals
       refine⟨(p6,r),⟨by with_reducible assumption,r0,r1⟩,?_⟩
       (exact leA)
     rintro⟨p6,r⟩ ⟨hp6,r0,r1⟩
     simp only at hp6 r0 r1⊢
     obtain⟨k1,k2,k3,k4⟩:=hsL 0 r c.name r0 r1
     have sA:=fun {K} h=>@hsA c.name K h
     have sB:∀{K:KT},K (.tup [encXs (svcP ⟨[a,b,e],addIt [c,d] 0 (zY r),ws,ts,ps,hds⟩ c.name).1,.v (.int .i64 (svcP ⟨[a,b,e],addIt [c,d] 0 (zY r),ws,ts,ps,hds⟩ c.name).2)]) []->ACall Tryz.prog 24 [.agg [.lst [.agg [.v (.string a.name),.lst (a.items.map encIt++[encIt (zX q)])],.agg [.v (.string b.name),.lst (b.items.map encIt)],.agg [.v (.string e.name),.lst (e.items.map encIt)]],.lst [.agg [.v (.string c.name),.lst (c.items.map encIt++[encIt (zY r)])],.agg [.v (.string d.name),.lst (d.items.map encIt)]],.lst (ws.map encWn),.lst (ts.map encSm),.lst (ps.map encPb),.lst (hds.map encHn)],.v (.string c.name)] [] K:=fun {K} h=>by
      have eE:(AV.agg [.lst [.agg [.v (.string a.name),.lst (a.items.map encIt++[encIt (zX q)])],.agg [.v (.string b.name),.lst (b.items.map encIt)],.agg [.v (.string e.name),.lst (e.items.map encIt)]],.lst [.agg [.v (.string c.name),.lst (c.items.map encIt++[encIt (zY r)])],.agg [.v (.string d.name),.lst (d.items.map encIt)]],.lst (ws.map encWn),.lst (ts.map encSm),.lst (ps.map encPb),.lst (hds.map encHn)])=encNt ⟨addIt [a,b,e] 0 (zX q),addIt [c,d] 0 (zY r),ws,ts,ps,hds⟩:=by simp[addIt]
      rw[eE]
      exact @hsB 0 0 (zX q) (zY r) c.name hxB (hyB r r0 r1) K h
     generalize svcP ⟨[a,b,e],addIt [c,d] 0 (zY r),ws,ts,ps,hds⟩ c.name=T at*
     generalize svcP ⟨[a,b,e],[c,d],ws,ts,ps,hds⟩ c.name=U at*
     obtain⟨Ts,Te⟩:=T
     obtain⟨Us,Ue⟩:=U
     simp only at k1 k2 k3 k4 sA sB
     subst k3
     have hsub:=fun {K} h=>@sub_small Us Ts k1 k2 k4 K h
     (repeat' ((conv=>whnf);first|(refine in_r (by rfl) ?_)|(refine Ix.intro rfl ?_)|(refine sl_full (by simp) ?_)|(with_reducible refine sA ?_)|(refine sB ?_)|(with_reducible first|refine hsub ?_|refine cwSane ?_)|refine zG ?_|apply zA|(apply zI;intro h)|exact zT));(all_goals conv=>whnf)
     all_goals first
      |exact .inl rfl
      |exact .inr rfl
      |(exfalso;simp_all;done)
      |trace_state
    ·refine Jn.intro (Nat×Rg) (fun g=>⟨20,[(0,tapeO raw g.1),(1,boxT t),(2,boxNt ⟨[a,b,e],[c,d],ws,ts,ps,hds⟩),(3,.box [.os 4 2 0 3,.os 5 2 0 2,.os 6 2 0 ws.length,.os 7 10 0 ts.length,.os 8 6 0 ps.length,.os 9 5 0 hds.length]),(4,.box [.v (.string a.name),.os 10 7 0 (a.items.length+1),.v (.string b.name),.os 11 7 0 b.items.length,.v (.string e.name),.os 12 7 0 e.items.length]),(5,.box [.v (.string c.name),.os 14 7 0 c.items.length,.v (.string d.name),.os 15 7 0 (d.items.length+1)]),(6,.arr 2 (ws.map encWn)),(7,.arr 10 (ts.map encSm)),(8,.arr 6 (ps.map encPb)),(9,.arr 5 (hds.map encHn)),(10,.arr 7 (a.items.map encIt++[encIt (zX q)])),(11,.arr 7 (b.items.map encIt)),(12,.arr 7 (e.items.map encIt)),(14,.arr 7 (c.items.map encIt)),(15,.arr 7 (d.items.map encIt++[encIt (zY g.2)]))],[(3,.op 0 0),(4,.op 1 0),(5,.op 2 0),(6,.op 3 0),(12,.v (.int .i64 1))]⟩) (fun g=>g.1<=raw.length/\g.2.lo<=g.2.hi/\g.2.hi<=65535) ?_ ?_
     ·(repeat' ((conv=>whnf);first|(refine in_r (by rfl) ?_)|(refine Ix.intro rfl ?_)|(refine sl_full (by simp) ?_)|(refine enRange raw _ 65535 (by decide) (by decide) (by with_reducible assumption) hr fun r p6 r0 r1 hp6=>?_)|refine zG ?_|apply zA|(apply zI;intro h)|exact zT));(all_goals conv=>whnf)
      all_goals
       refine⟨(p6,r),⟨by with_reducible assumption,r0,r1⟩,?_⟩
       (exact leA)
     rintro⟨p6,r⟩ ⟨hp6,r0,r1⟩
     simp only at hp6 r0 r1⊢
     obtain⟨k1,k2,k3,k4⟩:=hsL 1 r d.name r0 r1
     have sA:=fun {K} h=>@hsA d.name K h
     have sB:∀{K:KT},K (.tup [encXs (svcP ⟨[a,b,e],addIt [c,d] 1 (zY r),ws,ts,ps,hds⟩ d.name).1,.v (.int .i64 (svcP ⟨[a,b,e],addIt [c,d] 1 (zY r),ws,ts,ps,hds⟩ d.name).2)]) []->ACall Tryz.prog 24 [.agg [.lst [.agg [.v (.string a.name),.lst (a.items.map encIt++[encIt (zX q)])],.agg [.v (.string b.name),.lst (b.items.map encIt)],.agg [.v (.string e.name),.lst (e.items.map encIt)]],.lst [.agg [.v (.string c.name),.lst (c.items.map encIt)],.agg [.v (.string d.name),.lst (d.items.map encIt++[encIt (zY r)])]],.lst (ws.map encWn),.lst (ts.map encSm),.lst (ps.map encPb),.lst (hds.map encHn)],.v (.string d.name)] [] K:=fun {K} h=>by
      have eE:(AV.agg [.lst [.agg [.v (.string a.name),.lst (a.items.map encIt++[encIt (zX q)])],.agg [.v (.string b.name),.lst (b.items.map encIt)],.agg [.v (.string e.name),.lst (e.items.map encIt)]],.lst [.agg [.v (.string c.name),.lst (c.items.map encIt)],.agg [.v (.string d.name),.lst (d.items.map encIt++[encIt (zY r)])]],.lst (ws.map encWn),.lst (ts.map encSm),.lst (ps.map encPb),.lst (hds.map encHn)])=encNt ⟨addIt [a,b,e] 0 (zX q),addIt [c,d] 1 (zY r),ws,ts,ps,hds⟩:=by simp[addIt]
      rw[eE]
      exact @hsB 0 1 (zX q) (zY r) d.name hxB (hyB r r0 r1) K h
     generalize svcP ⟨[a,b,e],addIt [c,d] 1 (zY r),ws,ts,ps,hds⟩ d.name=T at*
     generalize svcP ⟨[a,b,e],[c,d],ws,ts,ps,hds⟩ d.name=U at*
     obtain⟨Ts,Te⟩:=T
     obtain⟨Us,Ue⟩:=U
     simp only at k1 k2 k3 k4 sA sB
     subst k3
     have hsub:=fun {K} h=>@sub_small Us Ts k1 k2 k4 K h
     (repeat' ((conv=>whnf);first|(refine in_r (by rfl) ?_)|(refine Ix.intro rfl ?_)|(refine sl_full (by simp) ?_)|(with_reducible refine sA ?_)|(refine sB ?_)|(with_reducible first|refine hsub ?_|refine cwSane ?_)|refine zG ?_|apply zA|(apply zI;intro h)|exact zT));(all_goals conv=>whnf)
     all_goals first
      |exact .inl rfl
      |exact .inr rfl
      |(exfalso;simp_all;done)
      |trace_state
  ·refine Jn.intro (Nat×Pf) (fun g=>⟨20,[(0,tapeO raw g.1),(1,boxT t),(2,boxNt ⟨[a,b,e],[c,d],ws,ts,ps,hds⟩),(3,.box [.os 4 2 0 3,.os 5 2 0 2,.os 6 2 0 ws.length,.os 7 10 0 ts.length,.os 8 6 0 ps.length,.os 9 5 0 hds.length]),(4,.box [.v (.string a.name),.os 10 7 0 a.items.length,.v (.string b.name),.os 11 7 0 (b.items.length+1),.v (.string e.name),.os 12 7 0 e.items.length]),(5,.box [.v (.string c.name),.os 14 7 0 c.items.length,.v (.string d.name),.os 15 7 0 d.items.length]),(6,.arr 2 (ws.map encWn)),(7,.arr 10 (ts.map encSm)),(8,.arr 6 (ps.map encPb)),(9,.arr 5 (hds.map encHn)),(10,.arr 7 (a.items.map encIt)),(11,.arr 7 (b.items.map encIt++[encIt (zX g.2)])),(12,.arr 7 (e.items.map encIt)),(14,.arr 7 (c.items.map encIt)),(15,.arr 7 (d.items.map encIt))],[(3,.op 0 0),(4,.op 1 0),(5,.op 2 0),(6,.op 3 0),(7,.v (.int .i64 1))]⟩) (fun g=>g.1<=raw.length/\g.2.okP) ?_ ?_
   ·(repeat' ((conv=>whnf);first|(refine in_r (by rfl) ?_)|(refine Ix.intro rfl ?_)|(refine sl_full (by simp) ?_)|(with_reducible refine enPref raw _ (by with_reducible assumption) hr fun q p4 hq hp4=>?_)|refine zG ?_|apply zA|(apply zI;intro h)|exact zT));(all_goals conv=>whnf)
    all_goals
     refine⟨(p4,q),⟨by with_reducible assumption,hq⟩,?_⟩
     (exact leA)
   rintro⟨p4,q⟩ ⟨hp4,hq⟩
   simp only at hp4 hq⊢
   have hxB:=itB_sub hq
   obtain⟨l1,l2,l3,l4⟩:=hgL 1 (zX q) b.name rfl
   have gA:=fun {K} h1 h2=>@hgA b.name K h1 h2
   have gB:∀{K:KT},((grpP t ⟨addIt [a,b,e] 1 (zX q),[c,d],ws,ts,ps,hds⟩ b.name).2≠0->(grpP t ⟨addIt [a,b,e] 1 (zX q),[c,d],ws,ts,ps,hds⟩ b.name).1=[]->K (.tup [.lst [],.v (.int .i64 (grpP t ⟨addIt [a,b,e] 1 (zX q),[c,d],ws,ts,ps,hds⟩ b.name).2)]) [])->((grpP t ⟨addIt [a,b,e] 1 (zX q),[c,d],ws,ts,ps,hds⟩ b.name).2=0->K (.tup [.os 0 2 0 (grpP t ⟨addIt [a,b,e] 1 (zX q),[c,d],ws,ts,ps,hds⟩ b.name).1.length,.v (.int .i64 0)]) [.arr 2 ((grpP t ⟨addIt [a,b,e] 1 (zX q),[c,d],ws,ts,ps,hds⟩ b.name).1.map encR)])->ACall Tryz.prog 13 [encT t,.agg [.lst [.agg [.v (.string a.name),.lst (a.items.map encIt)],.agg [.v (.string b.name),.lst (b.items.map encIt++[encIt (zX q)])],.agg [.v (.string e.name),.lst (e.items.map encIt)]],.lst [.agg [.v (.string c.name),.lst (c.items.map encIt)],.agg [.v (.string d.name),.lst (d.items.map encIt)]],.lst (ws.map encWn),.lst (ts.map encSm),.lst (ps.map encPb),.lst (hds.map encHn)],.v (.string b.name)] [] K:=fun {K} h1 h2=>by
    have eE:(AV.agg [.lst [.agg [.v (.string a.name),.lst (a.items.map encIt)],.agg [.v (.string b.name),.lst (b.items.map encIt++[encIt (zX q)])],.agg [.v (.string e.name),.lst (e.items.map encIt)]],.lst [.agg [.v (.string c.name),.lst (c.items.map encIt)],.agg [.v (.string d.name),.lst (d.items.map encIt)]],.lst (ws.map encWn),.lst (ts.map encSm),.lst (ps.map encPb),.lst (hds.map encHn)])=encNt ⟨addIt [a,b,e] 1 (zX q),[c,d],ws,ts,ps,hds⟩:=by simp[addIt]
    rw[eE]
    exact @hgB 1 (zX q) b.name hxB K h1 h2
   have l5:=grpP_errO t ⟨addIt [a,b,e] 1 (zX q),[c,d],ws,ts,ps,hds⟩ b.name
   have l6:=grpP_errO t ⟨[a,b,e],[c,d],ws,ts,ps,hds⟩ b.name
   generalize grpP t ⟨addIt [a,b,e] 1 (zX q),[c,d],ws,ts,ps,hds⟩ b.name=J at*
   generalize grpP t ⟨[a,b,e],[c,d],ws,ts,ps,hds⟩ b.name=O at*
   obtain⟨Js,Je⟩:=J
   obtain⟨Os,Oe⟩:=O
   simp only at l1 l2 l3 l4 l5 l6 gA gB
   subst l3
   have hfl:=flat_encR Js
   have hfo:=flat_encR Os
   by_cases hz:Oe=0
   ·subst hz
    have gB:=fun {K:KT} h=>@gB K (fun h0=>absurd rfl h0) (fun _=>h)
    have gA:=fun {K:KT} h=>@gA K (fun h0=>absurd rfl h0) (fun _=>h)
    (repeat' ((conv=>whnf);first|(refine in_r (by rfl) ?_)|(refine Ix.intro rfl ?_)|(refine sl_full (by simp) ?_)|(with_reducible refine gA ?_)|(refine gB ?_)|(with_reducible first|refine c44 Os Js (by omega) (by omega) fun s hs=>?_|refine cwSane ?_|refine nNext raw _ _ (by simp) (by with_reducible assumption) hr fun m p5 hm hp5=>?_)|(refine Ob.intro hfl ?_)|(refine Ob.intro hfo ?_)|refine zG ?_|apply zA|(apply zI;intro h)|exact zT));(all_goals conv=>whnf)
    all_goals try(exfalso;have:=hs.2 l4;simp_all;done)
    all_goals try(exfalso;simp at h;done)
    all_goals try(first|exact .inl rfl|exact .inr rfl)
    obtain rfl|rfl:m=0\/m=1:=by(try simp only[List.length_cons,List.length_nil]at hm);omega
    ·refine Jn.intro (Nat×Rg) (fun g=>⟨20,[(0,tapeO raw g.1),(1,boxT t),(2,boxNt ⟨[a,b,e],[c,d],ws,ts,ps,hds⟩),(3,.box [.os 4 2 0 3,.os 5 2 0 2,.os 6 2 0 ws.length,.os 7 10 0 ts.length,.os 8 6 0 ps.length,.os 9 5 0 hds.length]),(4,.box [.v (.string a.name),.os 10 7 0 a.items.length,.v (.string b.name),.os 11 7 0 (b.items.length+1),.v (.string e.name),.os 12 7 0 e.items.length]),(5,.box [.v (.string c.name),.os 14 7 0 (c.items.length+1),.v (.string d.name),.os 15 7 0 d.items.length]),(6,.arr 2 (ws.map encWn)),(7,.arr 10 (ts.map encSm)),(8,.arr 6 (ps.map encPb)),(9,.arr 5 (hds.map encHn)),(10,.arr 7 (a.items.map encIt)),(11,.arr 7 (b.items.map encIt++[encIt (zX q)])),(12,.arr 7 (e.items.map encIt)),(14,.arr 7 (c.items.map encIt++[encIt (zY g.2)])),(15,.arr 7 (d.items.map encIt))],[(3,.op 0 0),(4,.op 1 0),(5,.op 2 0),(6,.op 3 0),(12,.v (.int .i64 0))]⟩) (fun g=>g.1<=raw.length/\g.2.lo<=g.2.hi/\g.2.hi<=65535) ?_ ?_
     ·(repeat' ((conv=>whnf);first|(refine in_r (by rfl) ?_)|(refine Ix.intro rfl ?_)|(refine sl_full (by simp) ?_)|(refine enRange raw _ 65535 (by decide) (by decide) (by with_reducible assumption) hr fun r p6 r0 r1 hp6=>?_)|refine zG ?_|apply zA|(apply zI;intro h)|exact zT));(all_goals conv=>whnf)
      all_goals
       refine⟨(p6,r),⟨by with_reducible assumption,r0,r1⟩,?_⟩
       (exact leA)
     rintro⟨p6,r⟩ ⟨hp6,r0,r1⟩
     simp only at hp6 r0 r1⊢
     obtain⟨k1,k2,k3,k4⟩:=hsL 0 r c.name r0 r1
     have sA:=fun {K} h=>@hsA c.name K h
     have sB:∀{K:KT},K (.tup [encXs (svcP ⟨[a,b,e],addIt [c,d] 0 (zY r),ws,ts,ps,hds⟩ c.name).1,.v (.int .i64 (svcP ⟨[a,b,e],addIt [c,d] 0 (zY r),ws,ts,ps,hds⟩ c.name).2)]) []->ACall Tryz.prog 24 [.agg [.lst [.agg [.v (.string a.name),.lst (a.items.map encIt)],.agg [.v (.string b.name),.lst (b.items.map encIt++[encIt (zX q)])],.agg [.v (.string e.name),.lst (e.items.map encIt)]],.lst [.agg [.v (.string c.name),.lst (c.items.map encIt++[encIt (zY r)])],.agg [.v (.string d.name),.lst (d.items.map encIt)]],.lst (ws.map encWn),.lst (ts.map encSm),.lst (ps.map encPb),.lst (hds.map encHn)],.v (.string c.name)] [] K:=fun {K} h=>by
      have eE:(AV.agg [.lst [.agg [.v (.string a.name),.lst (a.items.map encIt)],.agg [.v (.string b.name),.lst (b.items.map encIt++[encIt (zX q)])],.agg [.v (.string e.name),.lst (e.items.map encIt)]],.lst [.agg [.v (.string c.name),.lst (c.items.map encIt++[encIt (zY r)])],.agg [.v (.string d.name),.lst (d.items.map encIt)]],.lst (ws.map encWn),.lst (ts.map encSm),.lst (ps.map encPb),.lst (hds.map encHn)])=encNt ⟨addIt [a,b,e] 1 (zX q),addIt [c,d] 0 (zY r),ws,ts,ps,hds⟩:=by simp[addIt]
      rw[eE]
      exact @hsB 1 0 (zX q) (zY r) c.name hxB (hyB r r0 r1) K h
     generalize svcP ⟨[a,b,e],addIt [c,d] 0 (zY r),ws,ts,ps,hds⟩ c.name=T at*
     generalize svcP ⟨[a,b,e],[c,d],ws,ts,ps,hds⟩ c.name=U at*
     obtain⟨Ts,Te⟩:=T
     obtain⟨Us,Ue⟩:=U
     simp only at k1 k2 k3 k4 sA sB
     subst k3
     have hsub:=fun {K} h=>@sub_small Us Ts k1 k2 k4 K h
     (repeat' ((conv=>whnf);first|(refine in_r (by rfl) ?_)|(refine Ix.intro rfl ?_)|(refine sl_full (by simp) ?_)|(with_reducible refine sA ?_)|(refine sB ?_)|(with_reducible first|refine hsub ?_|refine cwSane ?_)|refine zG ?_|apply zA|(apply zI;intro h)|exact zT));(all_goals conv=>whnf)
     all_goals first
      |exact .inl rfl
      |exact .inr rfl
      |(exfalso;simp_all;done)
      |trace_state
    ·refine Jn.intro (Nat×Rg) (fun g=>⟨20,[(0,tapeO raw g.1),(1,boxT t),(2,boxNt ⟨[a,b,e],[c,d],ws,ts,ps,hds⟩),(3,.box [.os 4 2 0 3,.os 5 2 0 2,.os 6 2 0 ws.length,.os 7 10 0 ts.length,.os 8 6 0 ps.length,.os 9 5 0 hds.length]),(4,.box [.v (.string a.name),.os 10 7 0 a.items.length,.v (.string b.name),.os 11 7 0 (b.items.length+1),.v (.string e.name),.os 12 7 0 e.items.length]),(5,.box [.v (.string c.name),.os 14 7 0 c.items.length,.v (.string d.name),.os 15 7 0 (d.items.length+1)]),(6,.arr 2 (ws.map encWn)),(7,.arr 10 (ts.map encSm)),(8,.arr 6 (ps.map encPb)),(9,.arr 5 (hds.map encHn)),(10,.arr 7 (a.items.map encIt)),(11,.arr 7 (b.items.map encIt++[encIt (zX q)])),(12,.arr 7 (e.items.map encIt)),(14,.arr 7 (c.items.map encIt)),(15,.arr 7 (d.items.map encIt++[encIt (zY g.2)]))],[(3,.op 0 0),(4,.op 1 0),(5,.op 2 0),(6,.op 3 0),(12,.v (.int .i64 1))]⟩) (fun g=>g.1<=raw.length/\g.2.lo<=g.2.hi/\g.2.hi<=65535) ?_ ?_
     ·(repeat' ((conv=>whnf);first|(refine in_r (by rfl) ?_)|(refine Ix.intro rfl ?_)|(refine sl_full (by simp) ?_)|(refine enRange raw _ 65535 (by decide) (by decide) (by with_reducible assumption) hr fun r p6 r0 r1 hp6=>?_)|refine zG ?_|apply zA|(apply zI;intro h)|exact zT));(all_goals conv=>whnf)
      all_goals
       refine⟨(p6,r),⟨by with_reducible assumption,r0,r1⟩,?_⟩
       (exact leA)
     rintro⟨p6,r⟩ ⟨hp6,r0,r1⟩
     simp only at hp6 r0 r1⊢
     obtain⟨k1,k2,k3,k4⟩:=hsL 1 r d.name r0 r1
     have sA:=fun {K} h=>@hsA d.name K h
     have sB:∀{K:KT},K (.tup [encXs (svcP ⟨[a,b,e],addIt [c,d] 1 (zY r),ws,ts,ps,hds⟩ d.name).1,.v (.int .i64 (svcP ⟨[a,b,e],addIt [c,d] 1 (zY r),ws,ts,ps,hds⟩ d.name).2)]) []->ACall Tryz.prog 24 [.agg [.lst [.agg [.v (.string a.name),.lst (a.items.map encIt)],.agg [.v (.string b.name),.lst (b.items.map encIt++[encIt (zX q)])],.agg [.v (.string e.name),.lst (e.items.map encIt)]],.lst [.agg [.v (.string c.name),.lst (c.items.map encIt)],.agg [.v (.string d.name),.lst (d.items.map encIt++[encIt (zY r)])]],.lst (ws.map encWn),.lst (ts.map encSm),.lst (ps.map encPb),.lst (hds.map encHn)],.v (.string d.name)] [] K:=fun {K} h=>by
      have eE:(AV.agg [.lst [.agg [.v (.string a.name),.lst (a.items.map encIt)],.agg [.v (.string b.name),.lst (b.items.map encIt++[encIt (zX q)])],.agg [.v (.string e.name),.lst (e.items.map encIt)]],.lst [.agg [.v (.string c.name),.lst (c.items.map encIt)],.agg [.v (.string d.name),.lst (d.items.map encIt++[encIt (zY r)])]],.lst (ws.map encWn),.lst (ts.map encSm),.lst (ps.map encPb),.lst (hds.map encHn)])=encNt ⟨addIt [a,b,e] 1 (zX q),addIt [c,d] 1 (zY r),ws,ts,ps,hds⟩:=by simp[addIt]
      rw[eE]
      exact @hsB 1 1 (zX q) (zY r) d.name hxB (hyB r r0 r1) K h
     generalize svcP ⟨[a,b,e],addIt [c,d] 1 (zY r),ws,ts,ps,hds⟩ d.name=T at*
     generalize svcP ⟨[a,b,e],[c,d],ws,ts,ps,hds⟩ d.name=U at*
     obtain⟨Ts,Te⟩:=T
     obtain⟨Us,Ue⟩:=U
     simp only at k1 k2 k3 k4 sA sB
     subst k3
     have hsub:=fun {K} h=>@sub_small Us Ts k1 k2 k4 K h
     (repeat' ((conv=>whnf);first|(refine in_r (by rfl) ?_)|(refine Ix.intro rfl ?_)|(refine sl_full (by simp) ?_)|(with_reducible refine sA ?_)|(refine sB ?_)|(with_reducible first|refine hsub ?_|refine cwSane ?_)|refine zG ?_|apply zA|(apply zI;intro h)|exact zT));(all_goals conv=>whnf)
     all_goals first
      |exact .inl rfl
      |exact .inr rfl
      |(exfalso;simp_all;done)
      |trace_state
   ·obtain rfl:=l5 hz
    obtain rfl:=l6 hz
    have gA:=fun {K:KT} h=>@gA K (fun _ _=>h) (fun h0=>absurd h0 hz)
    have gB:=fun {K:KT} h=>@gB K (fun _ _=>h) (fun h0=>absurd h0 hz)
    (repeat' ((conv=>whnf);first|(refine in_r (by rfl) ?_)|(refine Ix.intro rfl ?_)|(refine sl_full (by simp) ?_)|(with_reducible refine gA ?_)|(refine gB ?_)|(refine c44 [] [] (by simp) (by simp) fun s hs=>?_)|(with_reducible first|refine cwSane ?_|refine nNext raw _ _ (by simp) (by with_reducible assumption) hr fun m p5 hm hp5=>?_)|refine zG ?_|apply zA|(apply zI;intro h)|exact zT));(all_goals conv=>whnf)
    all_goals try(exfalso;have:=hs.2 l4;simp_all;done)
    all_goals try(exfalso;simp at h;done)
    all_goals try(first|exact .inl rfl|exact .inr rfl)
    obtain rfl|rfl:m=0\/m=1:=by(try simp only[List.length_cons,List.length_nil]at hm);omega
    ·refine Jn.intro (Nat×Rg) (fun g=>⟨20,[(0,tapeO raw g.1),(1,boxT t),(2,boxNt ⟨[a,b,e],[c,d],ws,ts,ps,hds⟩),(3,.box [.os 4 2 0 3,.os 5 2 0 2,.os 6 2 0 ws.length,.os 7 10 0 ts.length,.os 8 6 0 ps.length,.os 9 5 0 hds.length]),(4,.box [.v (.string a.name),.os 10 7 0 a.items.length,.v (.string b.name),.os 11 7 0 (b.items.length+1),.v (.string e.name),.os 12 7 0 e.items.length]),(5,.box [.v (.string c.name),.os 14 7 0 (c.items.length+1),.v (.string d.name),.os 15 7 0 d.items.length]),(6,.arr 2 (ws.map encWn)),(7,.arr 10 (ts.map encSm)),(8,.arr 6 (ps.map encPb)),(9,.arr 5 (hds.map encHn)),(10,.arr 7 (a.items.map encIt)),(11,.arr 7 (b.items.map encIt++[encIt (zX q)])),(12,.arr 7 (e.items.map encIt)),(14,.arr 7 (c.items.map encIt++[encIt (zY g.2)])),(15,.arr 7 (d.items.map encIt))],[(3,.op 0 0),(4,.op 1 0),(5,.op 2 0),(6,.op 3 0),(12,.v (.int .i64 0))]⟩) (fun g=>g.1<=raw.length/\g.2.lo<=g.2.hi/\g.2.hi<=65535) ?_ ?_
     ·(repeat' ((conv=>whnf);first|(refine in_r (by rfl) ?_)|(refine Ix.intro rfl ?_)|(refine sl_full (by simp) ?_)|(refine enRange raw _ 65535 (by decide) (by decide) (by with_reducible assumption) hr fun r p6 r0 r1 hp6=>?_)|refine zG ?_|apply zA|(apply zI;intro h)|exact zT));(all_goals conv=>whnf)
      all_goals
       refine⟨(p6,r),⟨by with_reducible assumption,r0,r1⟩,?_⟩
       (exact leA)
     rintro⟨p6,r⟩ ⟨hp6,r0,r1⟩
     simp only at hp6 r0 r1⊢
     obtain⟨k1,k2,k3,k4⟩:=hsL 0 r c.name r0 r1
     have sA:=fun {K} h=>@hsA c.name K h
     have sB:∀{K:KT},K (.tup [encXs (svcP ⟨[a,b,e],addIt [c,d] 0 (zY r),ws,ts,ps,hds⟩ c.name).1,.v (.int .i64 (svcP ⟨[a,b,e],addIt [c,d] 0 (zY r),ws,ts,ps,hds⟩ c.name).2)]) []->ACall Tryz.prog 24 [.agg [.lst [.agg [.v (.string a.name),.lst (a.items.map encIt)],.agg [.v (.string b.name),.lst (b.items.map encIt++[encIt (zX q)])],.agg [.v (.string e.name),.lst (e.items.map encIt)]],.lst [.agg [.v (.string c.name),.lst (c.items.map encIt++[encIt (zY r)])],.agg [.v (.string d.name),.lst (d.items.map encIt)]],.lst (ws.map encWn),.lst (ts.map encSm),.lst (ps.map encPb),.lst (hds.map encHn)],.v (.string c.name)] [] K:=fun {K} h=>by
      have eE:(AV.agg [.lst [.agg [.v (.string a.name),.lst (a.items.map encIt)],.agg [.v (.string b.name),.lst (b.items.map encIt++[encIt (zX q)])],.agg [.v (.string e.name),.lst (e.items.map encIt)]],.lst [.agg [.v (.string c.name),.lst (c.items.map encIt++[encIt (zY r)])],.agg [.v (.string d.name),.lst (d.items.map encIt)]],.lst (ws.map encWn),.lst (ts.map encSm),.lst (ps.map encPb),.lst (hds.map encHn)])=encNt ⟨addIt [a,b,e] 1 (zX q),addIt [c,d] 0 (zY r),ws,ts,ps,hds⟩:=by simp[addIt]
      rw[eE]
      exact @hsB 1 0 (zX q) (zY r) c.name hxB (hyB r r0 r1) K h
     generalize svcP ⟨[a,b,e],addIt [c,d] 0 (zY r),ws,ts,ps,hds⟩ c.name=T at*
     generalize svcP ⟨[a,b,e],[c,d],ws,ts,ps,hds⟩ c.name=U at*
     obtain⟨Ts,Te⟩:=T
     obtain⟨Us,Ue⟩:=U
     simp only at k1 k2 k3 k4 sA sB
     subst k3
     have hsub:=fun {K} h=>@sub_small Us Ts k1 k2 k4 K h
     (repeat' ((conv=>whnf);first|(refine in_r (by rfl) ?_)|(refine Ix.intro rfl ?_)|(refine sl_full (by simp) ?_)|(with_reducible refine sA ?_)|(refine sB ?_)|(with_reducible first|refine hsub ?_|refine cwSane ?_)|refine zG ?_|apply zA|(apply zI;intro h)|exact zT));(all_goals conv=>whnf)
     all_goals first
      |exact .inl rfl
      |exact .inr rfl
      |(exfalso;simp_all;done)
      |trace_state
    ·refine Jn.intro (Nat×Rg) (fun g=>⟨20,[(0,tapeO raw g.1),(1,boxT t),(2,boxNt ⟨[a,b,e],[c,d],ws,ts,ps,hds⟩),(3,.box [.os 4 2 0 3,.os 5 2 0 2,.os 6 2 0 ws.length,.os 7 10 0 ts.length,.os 8 6 0 ps.length,.os 9 5 0 hds.length]),(4,.box [.v (.string a.name),.os 10 7 0 a.items.length,.v (.string b.name),.os 11 7 0 (b.items.length+1),.v (.string e.name),.os 12 7 0 e.items.length]),(5,.box [.v (.string c.name),.os 14 7 0 c.items.length,.v (.string d.name),.os 15 7 0 (d.items.length+1)]),(6,.arr 2 (ws.map encWn)),(7,.arr 10 (ts.map encSm)),(8,.arr 6 (ps.map encPb)),(9,.arr 5 (hds.map encHn)),(10,.arr 7 (a.items.map encIt)),(11,.arr 7 (b.items.map encIt++[encIt (zX q)])),(12,.arr 7 (e.items.map encIt)),(14,.arr 7 (c.items.map encIt)),(15,.arr 7 (d.items.map encIt++[encIt (zY g.2)]))],[(3,.op 0 0),(4,.op 1 0),(5,.op 2 0),(6,.op 3 0),(12,.v (.int .i64 1))]⟩) (fun g=>g.1<=raw.length/\g.2.lo<=g.2.hi/\g.2.hi<=65535) ?_ ?_
     ·(repeat' ((conv=>whnf);first|(refine in_r (by rfl) ?_)|(refine Ix.intro rfl ?_)|(refine sl_full (by simp) ?_)|(refine enRange raw _ 65535 (by decide) (by decide) (by with_reducible assumption) hr fun r p6 r0 r1 hp6=>?_)|refine zG ?_|apply zA|(apply zI;intro h)|exact zT));(all_goals conv=>whnf)
      all_goals
       refine⟨(p6,r),⟨by with_reducible assumption,r0,r1⟩,?_⟩
       (exact leA)
     rintro⟨p6,r⟩ ⟨hp6,r0,r1⟩
     simp only at hp6 r0 r1⊢
     obtain⟨k1,k2,k3,k4⟩:=hsL 1 r d.name r0 r1
     have sA:=fun {K} h=>@hsA d.name K h
     have sB:∀{K:KT},K (.tup [encXs (svcP ⟨[a,b,e],addIt [c,d] 1 (zY r),ws,ts,ps,hds⟩ d.name).1,.v (.int .i64 (svcP ⟨[a,b,e],addIt [c,d] 1 (zY r),ws,ts,ps,hds⟩ d.name).2)]) []->ACall Tryz.prog 24 [.agg [.lst [.agg [.v (.string a.name),.lst (a.items.map encIt)],.agg [.v (.string b.name),.lst (b.items.map encIt++[encIt (zX q)])],.agg [.v (.string e.name),.lst (e.items.map encIt)]],.lst [.agg [.v (.string c.name),.lst (c.items.map encIt)],.agg [.v (.string d.name),.lst (d.items.map encIt++[encIt (zY r)])]],.lst (ws.map encWn),.lst (ts.map encSm),.lst (ps.map encPb),.lst (hds.map encHn)],.v (.string d.name)] [] K:=fun {K} h=>by
      have eE:(AV.agg [.lst [.agg [.v (.string a.name),.lst (a.items.map encIt)],.agg [.v (.string b.name),.lst (b.items.map encIt++[encIt (zX q)])],.agg [.v (.string e.name),.lst (e.items.map encIt)]],.lst [.agg [.v (.string c.name),.lst (c.items.map encIt)],.agg [.v (.string d.name),.lst (d.items.map encIt++[encIt (zY r)])]],.lst (ws.map encWn),.lst (ts.map encSm),.lst (ps.map encPb),.lst (hds.map encHn)])=encNt ⟨addIt [a,b,e] 1 (zX q),addIt [c,d] 1 (zY r),ws,ts,ps,hds⟩:=by simp[addIt]
      rw[eE]
      exact @hsB 1 1 (zX q) (zY r) d.name hxB (hyB r r0 r1) K h
     generalize svcP ⟨[a,b,e],addIt [c,d] 1 (zY r),ws,ts,ps,hds⟩ d.name=T at*
     generalize svcP ⟨[a,b,e],[c,d],ws,ts,ps,hds⟩ d.name=U at*
     obtain⟨Ts,Te⟩:=T
     obtain⟨Us,Ue⟩:=U
     simp only at k1 k2 k3 k4 sA sB
     subst k3
     have hsub:=fun {K} h=>@sub_small Us Ts k1 k2 k4 K h
     (repeat' ((conv=>whnf);first|(refine in_r (by rfl) ?_)|(refine Ix.intro rfl ?_)|(refine sl_full (by simp) ?_)|(with_reducible refine sA ?_)|(refine sB ?_)|(with_reducible first|refine hsub ?_|refine cwSane ?_)|refine zG ?_|apply zA|(apply zI;intro h)|exact zT));(all_goals conv=>whnf)
     all_goals first
      |exact .inl rfl
      |exact .inr rfl
      |(exfalso;simp_all;done)
      |trace_state
  ·refine Jn.intro (Nat×Pf) (fun g=>⟨20,[(0,tapeO raw g.1),(1,boxT t),(2,boxNt ⟨[a,b,e],[c,d],ws,ts,ps,hds⟩),(3,.box [.os 4 2 0 3,.os 5 2 0 2,.os 6 2 0 ws.length,.os 7 10 0 ts.length,.os 8 6 0 ps.length,.os 9 5 0 hds.length]),(4,.box [.v (.string a.name),.os 10 7 0 a.items.length,.v (.string b.name),.os 11 7 0 b.items.length,.v (.string e.name),.os 12 7 0 (e.items.length+1)]),(5,.box [.v (.string c.name),.os 14 7 0 c.items.length,.v (.string d.name),.os 15 7 0 d.items.length]),(6,.arr 2 (ws.map encWn)),(7,.arr 10 (ts.map encSm)),(8,.arr 6 (ps.map encPb)),(9,.arr 5 (hds.map encHn)),(10,.arr 7 (a.items.map encIt)),(11,.arr 7 (b.items.map encIt)),(12,.arr 7 (e.items.map encIt++[encIt (zX g.2)])),(14,.arr 7 (c.items.map encIt)),(15,.arr 7 (d.items.map encIt))],[(3,.op 0 0),(4,.op 1 0),(5,.op 2 0),(6,.op 3 0),(7,.v (.int .i64 2))]⟩) (fun g=>g.1<=raw.length/\g.2.okP) ?_ ?_
   ·(repeat' ((conv=>whnf);first|(refine in_r (by rfl) ?_)|(refine Ix.intro rfl ?_)|(refine sl_full (by simp) ?_)|(with_reducible refine enPref raw _ (by with_reducible assumption) hr fun q p4 hq hp4=>?_)|refine zG ?_|apply zA|(apply zI;intro h)|exact zT));(all_goals conv=>whnf)
    all_goals
     refine⟨(p4,q),⟨by with_reducible assumption,hq⟩,?_⟩
     (exact leA)
   rintro⟨p4,q⟩ ⟨hp4,hq⟩
   simp only at hp4 hq⊢
   have hxB:=itB_sub hq
   obtain⟨l1,l2,l3,l4⟩:=hgL 2 (zX q) e.name rfl
   have gA:=fun {K} h1 h2=>@hgA e.name K h1 h2
   have gB:∀{K:KT},((grpP t ⟨addIt [a,b,e] 2 (zX q),[c,d],ws,ts,ps,hds⟩ e.name).2≠0->(grpP t ⟨addIt [a,b,e] 2 (zX q),[c,d],ws,ts,ps,hds⟩ e.name).1=[]->K (.tup [.lst [],.v (.int .i64 (grpP t ⟨addIt [a,b,e] 2 (zX q),[c,d],ws,ts,ps,hds⟩ e.name).2)]) [])->((grpP t ⟨addIt [a,b,e] 2 (zX q),[c,d],ws,ts,ps,hds⟩ e.name).2=0->K (.tup [.os 0 2 0 (grpP t ⟨addIt [a,b,e] 2 (zX q),[c,d],ws,ts,ps,hds⟩ e.name).1.length,.v (.int .i64 0)]) [.arr 2 ((grpP t ⟨addIt [a,b,e] 2 (zX q),[c,d],ws,ts,ps,hds⟩ e.name).1.map encR)])->ACall Tryz.prog 13 [encT t,.agg [.lst [.agg [.v (.string a.name),.lst (a.items.map encIt)],.agg [.v (.string b.name),.lst (b.items.map encIt)],.agg [.v (.string e.name),.lst (e.items.map encIt++[encIt (zX q)])]],.lst [.agg [.v (.string c.name),.lst (c.items.map encIt)],.agg [.v (.string d.name),.lst (d.items.map encIt)]],.lst (ws.map encWn),.lst (ts.map encSm),.lst (ps.map encPb),.lst (hds.map encHn)],.v (.string e.name)] [] K:=fun {K} h1 h2=>by
    have eE:(AV.agg [.lst [.agg [.v (.string a.name),.lst (a.items.map encIt)],.agg [.v (.string b.name),.lst (b.items.map encIt)],.agg [.v (.string e.name),.lst (e.items.map encIt++[encIt (zX q)])]],.lst [.agg [.v (.string c.name),.lst (c.items.map encIt)],.agg [.v (.string d.name),.lst (d.items.map encIt)]],.lst (ws.map encWn),.lst (ts.map encSm),.lst (ps.map encPb),.lst (hds.map encHn)])=encNt ⟨addIt [a,b,e] 2 (zX q),[c,d],ws,ts,ps,hds⟩:=by simp[addIt]
    rw[eE]
    exact @hgB 2 (zX q) e.name hxB K h1 h2
   have l5:=grpP_errO t ⟨addIt [a,b,e] 2 (zX q),[c,d],ws,ts,ps,hds⟩ e.name
   have l6:=grpP_errO t ⟨[a,b,e],[c,d],ws,ts,ps,hds⟩ e.name
   generalize grpP t ⟨addIt [a,b,e] 2 (zX q),[c,d],ws,ts,ps,hds⟩ e.name=J at*
   generalize grpP t ⟨[a,b,e],[c,d],ws,ts,ps,hds⟩ e.name=O at*
   obtain⟨Js,Je⟩:=J
   obtain⟨Os,Oe⟩:=O
   simp only at l1 l2 l3 l4 l5 l6 gA gB
   subst l3
   have hfl:=flat_encR Js
   have hfo:=flat_encR Os
   by_cases hz:Oe=0
   ·subst hz
    have gB:=fun {K:KT} h=>@gB K (fun h0=>absurd rfl h0) (fun _=>h)
    have gA:=fun {K:KT} h=>@gA K (fun h0=>absurd rfl h0) (fun _=>h)
    (repeat' ((conv=>whnf);first|(refine in_r (by rfl) ?_)|(refine Ix.intro rfl ?_)|(refine sl_full (by simp) ?_)|(with_reducible refine gA ?_)|(refine gB ?_)|(with_reducible first|refine c44 Os Js (by omega) (by omega) fun s hs=>?_|refine cwSane ?_|refine nNext raw _ _ (by simp) (by with_reducible assumption) hr fun m p5 hm hp5=>?_)|(refine Ob.intro hfl ?_)|(refine Ob.intro hfo ?_)|refine zG ?_|apply zA|(apply zI;intro h)|exact zT));(all_goals conv=>whnf)
    all_goals try(exfalso;have:=hs.2 l4;simp_all;done)
    all_goals try(exfalso;simp at h;done)
    all_goals try(first|exact .inl rfl|exact .inr rfl)
    obtain rfl|rfl:m=0\/m=1:=by(try simp only[List.length_cons,List.length_nil]at hm);omega
    ·refine Jn.intro (Nat×Rg) (fun g=>⟨20,[(0,tapeO raw g.1),(1,boxT t),(2,boxNt ⟨[a,b,e],[c,d],ws,ts,ps,hds⟩),(3,.box [.os 4 2 0 3,.os 5 2 0 2,.os 6 2 0 ws.length,.os 7 10 0 ts.length,.os 8 6 0 ps.length,.os 9 5 0 hds.length]),(4,.box [.v (.string a.name),.os 10 7 0 a.items.length,.v (.string b.name),.os 11 7 0 b.items.length,.v (.string e.name),.os 12 7 0 (e.items.length+1)]),(5,.box [.v (.string c.name),.os 14 7 0 (c.items.length+1),.v (.string d.name),.os 15 7 0 d.items.length]),(6,.arr 2 (ws.map encWn)),(7,.arr 10 (ts.map encSm)),(8,.arr 6 (ps.map encPb)),(9,.arr 5 (hds.map encHn)),(10,.arr 7 (a.items.map encIt)),(11,.arr 7 (b.items.map encIt)),(12,.arr 7 (e.items.map encIt++[encIt (zX q)])),(14,.arr 7 (c.items.map encIt++[encIt (zY g.2)])),(15,.arr 7 (d.items.map encIt))],[(3,.op 0 0),(4,.op 1 0),(5,.op 2 0),(6,.op 3 0),(12,.v (.int .i64 0))]⟩) (fun g=>g.1<=raw.length/\g.2.lo<=g.2.hi/\g.2.hi<=65535) ?_ ?_
     ·(repeat' ((conv=>whnf);first|(refine in_r (by rfl) ?_)|(refine Ix.intro rfl ?_)|(refine sl_full (by simp) ?_)|(refine enRange raw _ 65535 (by decide) (by decide) (by with_reducible assumption) hr fun r p6 r0 r1 hp6=>?_)|refine zG ?_|apply zA|(apply zI;intro h)|exact zT));(all_goals conv=>whnf)
      all_goals
       refine⟨(p6,r),⟨by with_reducible assumption,r0,r1⟩,?_⟩
       (exact leA)
     rintro⟨p6,r⟩ ⟨hp6,r0,r1⟩
     simp only at hp6 r0 r1⊢
     obtain⟨k1,k2,k3,k4⟩:=hsL 0 r c.name r0 r1
     have sA:=fun {K} h=>@hsA c.name K h
     have sB:∀{K:KT},K (.tup [encXs (svcP ⟨[a,b,e],addIt [c,d] 0 (zY r),ws,ts,ps,hds⟩ c.name).1,.v (.int .i64 (svcP ⟨[a,b,e],addIt [c,d] 0 (zY r),ws,ts,ps,hds⟩ c.name).2)]) []->ACall Tryz.prog 24 [.agg [.lst [.agg [.v (.string a.name),.lst (a.items.map encIt)],.agg [.v (.string b.name),.lst (b.items.map encIt)],.agg [.v (.string e.name),.lst (e.items.map encIt++[encIt (zX q)])]],.lst [.agg [.v (.string c.name),.lst (c.items.map encIt++[encIt (zY r)])],.agg [.v (.string d.name),.lst (d.items.map encIt)]],.lst (ws.map encWn),.lst (ts.map encSm),.lst (ps.map encPb),.lst (hds.map encHn)],.v (.string c.name)] [] K:=fun {K} h=>by
      have eE:(AV.agg [.lst [.agg [.v (.string a.name),.lst (a.items.map encIt)],.agg [.v (.string b.name),.lst (b.items.map encIt)],.agg [.v (.string e.name),.lst (e.items.map encIt++[encIt (zX q)])]],.lst [.agg [.v (.string c.name),.lst (c.items.map encIt++[encIt (zY r)])],.agg [.v (.string d.name),.lst (d.items.map encIt)]],.lst (ws.map encWn),.lst (ts.map encSm),.lst (ps.map encPb),.lst (hds.map encHn)])=encNt ⟨addIt [a,b,e] 2 (zX q),addIt [c,d] 0 (zY r),ws,ts,ps,hds⟩:=by simp[addIt]
      rw[eE]
      exact @hsB 2 0 (zX q) (zY r) c.name hxB (hyB r r0 r1) K h
     generalize svcP ⟨[a,b,e],addIt [c,d] 0 (zY r),ws,ts,ps,hds⟩ c.name=T at*
     generalize svcP ⟨[a,b,e],[c,d],ws,ts,ps,hds⟩ c.name=U at*
     obtain⟨Ts,Te⟩:=T
     obtain⟨Us,Ue⟩:=U
     simp only at k1 k2 k3 k4 sA sB
     subst k3
     have hsub:=fun {K} h=>@sub_small Us Ts k1 k2 k4 K h
     (repeat' ((conv=>whnf);first|(refine in_r (by rfl) ?_)|(refine Ix.intro rfl ?_)|(refine sl_full (by simp) ?_)|(with_reducible refine sA ?_)|(refine sB ?_)|(with_reducible first|refine hsub ?_|refine cwSane ?_)|refine zG ?_|apply zA|(apply zI;intro h)|exact zT));(all_goals conv=>whnf)
     all_goals first
      |exact .inl rfl
      |exact .inr rfl
      |(exfalso;simp_all;done)
      |trace_state
    ·refine Jn.intro (Nat×Rg) (fun g=>⟨20,[(0,tapeO raw g.1),(1,boxT t),(2,boxNt ⟨[a,b,e],[c,d],ws,ts,ps,hds⟩),(3,.box [.os 4 2 0 3,.os 5 2 0 2,.os 6 2 0 ws.length,.os 7 10 0 ts.length,.os 8 6 0 ps.length,.os 9 5 0 hds.length]),(4,.box [.v (.string a.name),.os 10 7 0 a.items.length,.v (.string b.name),.os 11 7 0 b.items.length,.v (.string e.name),.os 12 7 0 (e.items.length+1)]),(5,.box [.v (.string c.name),.os 14 7 0 c.items.length,.v (.string d.name),.os 15 7 0 (d.items.length+1)]),(6,.arr 2 (ws.map encWn)),(7,.arr 10 (ts.map encSm)),(8,.arr 6 (ps.map encPb)),(9,.arr 5 (hds.map encHn)),(10,.arr 7 (a.items.map encIt)),(11,.arr 7 (b.items.map encIt)),(12,.arr 7 (e.items.map encIt++[encIt (zX q)])),(14,.arr 7 (c.items.map encIt)),(15,.arr 7 (d.items.map encIt++[encIt (zY g.2)]))],[(3,.op 0 0),(4,.op 1 0),(5,.op 2 0),(6,.op 3 0),(12,.v (.int .i64 1))]⟩) (fun g=>g.1<=raw.length/\g.2.lo<=g.2.hi/\g.2.hi<=65535) ?_ ?_
     ·(repeat' ((conv=>whnf);first|(refine in_r (by rfl) ?_)|(refine Ix.intro rfl ?_)|(refine sl_full (by simp) ?_)|(refine enRange raw _ 65535 (by decide) (by decide) (by with_reducible assumption) hr fun r p6 r0 r1 hp6=>?_)|refine zG ?_|apply zA|(apply zI;intro h)|exact zT));(all_goals conv=>whnf)
      all_goals
       refine⟨(p6,r),⟨by with_reducible assumption,r0,r1⟩,?_⟩
       (exact leA)
     rintro⟨p6,r⟩ ⟨hp6,r0,r1⟩
     simp only at hp6 r0 r1⊢
     obtain⟨k1,k2,k3,k4⟩:=hsL 1 r d.name r0 r1
     have sA:=fun {K} h=>@hsA d.name K h
     have sB:∀{K:KT},K (.tup [encXs (svcP ⟨[a,b,e],addIt [c,d] 1 (zY r),ws,ts,ps,hds⟩ d.name).1,.v (.int .i64 (svcP ⟨[a,b,e],addIt [c,d] 1 (zY r),ws,ts,ps,hds⟩ d.name).2)]) []->ACall Tryz.prog 24 [.agg [.lst [.agg [.v (.string a.name),.lst (a.items.map encIt)],.agg [.v (.string b.name),.lst (b.items.map encIt)],.agg [.v (.string e.name),.lst (e.items.map encIt++[encIt (zX q)])]],.lst [.agg [.v (.string c.name),.lst (c.items.map encIt)],.agg [.v (.string d.name),.lst (d.items.map encIt++[encIt (zY r)])]],.lst (ws.map encWn),.lst (ts.map encSm),.lst (ps.map encPb),.lst (hds.map encHn)],.v (.string d.name)] [] K:=fun {K} h=>by
      have eE:(AV.agg [.lst [.agg [.v (.string a.name),.lst (a.items.map encIt)],.agg [.v (.string b.name),.lst (b.items.map encIt)],.agg [.v (.string e.name),.lst (e.items.map encIt++[encIt (zX q)])]],.lst [.agg [.v (.string c.name),.lst (c.items.map encIt)],.agg [.v (.string d.name),.lst (d.items.map encIt++[encIt (zY r)])]],.lst (ws.map encWn),.lst (ts.map encSm),.lst (ps.map encPb),.lst (hds.map encHn)])=encNt ⟨addIt [a,b,e] 2 (zX q),addIt [c,d] 1 (zY r),ws,ts,ps,hds⟩:=by simp[addIt]
      rw[eE]
      exact @hsB 2 1 (zX q) (zY r) d.name hxB (hyB r r0 r1) K h
     generalize svcP ⟨[a,b,e],addIt [c,d] 1 (zY r),ws,ts,ps,hds⟩ d.name=T at*
     generalize svcP ⟨[a,b,e],[c,d],ws,ts,ps,hds⟩ d.name=U at*
     obtain⟨Ts,Te⟩:=T
     obtain⟨Us,Ue⟩:=U
     simp only at k1 k2 k3 k4 sA sB
     subst k3
     have hsub:=fun {K} h=>@sub_small Us Ts k1 k2 k4 K h
     (repeat' ((conv=>whnf);first|(refine in_r (by rfl) ?_)|(refine Ix.intro rfl ?_)|(refine sl_full (by simp) ?_)|(with_reducible refine sA ?_)|(refine sB ?_)|(with_reducible first|refine hsub ?_|refine cwSane ?_)|refine zG ?_|apply zA|(apply zI;intro h)|exact zT));(all_goals conv=>whnf)
     all_goals first
      |exact .inl rfl
      |exact .inr rfl
      |(exfalso;simp_all;done)
      |trace_state
   ·obtain rfl:=l5 hz
    obtain rfl:=l6 hz
    have gA:=fun {K:KT} h=>@gA K (fun _ _=>h) (fun h0=>absurd h0 hz)
    have gB:=fun {K:KT} h=>@gB K (fun _ _=>h) (fun h0=>absurd h0 hz)
    (repeat' ((conv=>whnf);first|(refine in_r (by rfl) ?_)|(refine Ix.intro rfl ?_)|(refine sl_full (by simp) ?_)|(with_reducible refine gA ?_)|(refine gB ?_)|(refine c44 [] [] (by simp) (by simp) fun s hs=>?_)|(with_reducible first|refine cwSane ?_|refine nNext raw _ _ (by simp) (by with_reducible assumption) hr fun m p5 hm hp5=>?_)|refine zG ?_|apply zA|(apply zI;intro h)|exact zT));(all_goals conv=>whnf)
    all_goals try(exfalso;have:=hs.2 l4;simp_all;done)
    all_goals try(exfalso;simp at h;done)
    all_goals try(first|exact .inl rfl|exact .inr rfl)
    obtain rfl|rfl:m=0\/m=1:=by(try simp only[List.length_cons,List.length_nil]at hm);omega
    ·refine Jn.intro (Nat×Rg) (fun g=>⟨20,[(0,tapeO raw g.1),(1,boxT t),(2,boxNt ⟨[a,b,e],[c,d],ws,ts,ps,hds⟩),(3,.box [.os 4 2 0 3,.os 5 2 0 2,.os 6 2 0 ws.length,.os 7 10 0 ts.length,.os 8 6 0 ps.length,.os 9 5 0 hds.length]),(4,.box [.v (.string a.name),.os 10 7 0 a.items.length,.v (.string b.name),.os 11 7 0 b.items.length,.v (.string e.name),.os 12 7 0 (e.items.length+1)]),(5,.box [.v (.string c.name),.os 14 7 0 (c.items.length+1),.v (.string d.name),.os 15 7 0 d.items.length]),(6,.arr 2 (ws.map encWn)),(7,.arr 10 (ts.map encSm)),(8,.arr 6 (ps.map encPb)),(9,.arr 5 (hds.map encHn)),(10,.arr 7 (a.items.map encIt)),(11,.arr 7 (b.items.map encIt)),(12,.arr 7 (e.items.map encIt++[encIt (zX q)])),(14,.arr 7 (c.items.map encIt++[encIt (zY g.2)])),(15,.arr 7 (d.items.map encIt))],[(3,.op 0 0),(4,.op 1 0),(5,.op 2 0),(6,.op 3 0),(12,.v (.int .i64 0))]⟩) (fun g=>g.1<=raw.length/\g.2.lo<=g.2.hi/\g.2.hi<=65535) ?_ ?_
     ·(repeat' ((conv=>whnf);first|(refine in_r (by rfl) ?_)|(refine Ix.intro rfl ?_)|(refine sl_full (by simp) ?_)|(refine enRange raw _ 65535 (by decide) (by decide) (by with_reducible assumption) hr fun r p6 r0 r1 hp6=>?_)|refine zG ?_|apply zA|(apply zI;intro h)|exact zT));(all_goals conv=>whnf)
      all_goals
       refine⟨(p6,r),⟨by with_reducible assumption,r0,r1⟩,?_⟩
       (exact leA)
     rintro⟨p6,r⟩ ⟨hp6,r0,r1⟩
     simp only at hp6 r0 r1⊢
     obtain⟨k1,k2,k3,k4⟩:=hsL 0 r c.name r0 r1
     have sA:=fun {K} h=>@hsA c.name K h
     have sB:∀{K:KT},K (.tup [encXs (svcP ⟨[a,b,e],addIt [c,d] 0 (zY r),ws,ts,ps,hds⟩ c.name).1,.v (.int .i64 (svcP ⟨[a,b,e],addIt [c,d] 0 (zY r),ws,ts,ps,hds⟩ c.name).2)]) []->ACall Tryz.prog 24 [.agg [.lst [.agg [.v (.string a.name),.lst (a.items.map encIt)],.agg [.v (.string b.name),.lst (b.items.map encIt)],.agg [.v (.string e.name),.lst (e.items.map encIt++[encIt (zX q)])]],.lst [.agg [.v (.string c.name),.lst (c.items.map encIt++[encIt (zY r)])],.agg [.v (.string d.name),.lst (d.items.map encIt)]],.lst (ws.map encWn),.lst (ts.map encSm),.lst (ps.map encPb),.lst (hds.map encHn)],.v (.string c.name)] [] K:=fun {K} h=>by
      have eE:(AV.agg [.lst [.agg [.v (.string a.name),.lst (a.items.map encIt)],.agg [.v (.string b.name),.lst (b.items.map encIt)],.agg [.v (.string e.name),.lst (e.items.map encIt++[encIt (zX q)])]],.lst [.agg [.v (.string c.name),.lst (c.items.map encIt++[encIt (zY r)])],.agg [.v (.string d.name),.lst (d.items.map encIt)]],.lst (ws.map encWn),.lst (ts.map encSm),.lst (ps.map encPb),.lst (hds.map encHn)])=encNt ⟨addIt [a,b,e] 2 (zX q),addIt [c,d] 0 (zY r),ws,ts,ps,hds⟩:=by simp[addIt]
      rw[eE]
      exact @hsB 2 0 (zX q) (zY r) c.name hxB (hyB r r0 r1) K h
     generalize svcP ⟨[a,b,e],addIt [c,d] 0 (zY r),ws,ts,ps,hds⟩ c.name=T at*
     generalize svcP ⟨[a,b,e],[c,d],ws,ts,ps,hds⟩ c.name=U at*
     obtain⟨Ts,Te⟩:=T
     obtain⟨Us,Ue⟩:=U
     simp only at k1 k2 k3 k4 sA sB
     subst k3
     have hsub:=fun {K} h=>@sub_small Us Ts k1 k2 k4 K h
     (repeat' ((conv=>whnf);first|(refine in_r (by rfl) ?_)|(refine Ix.intro rfl ?_)|(refine sl_full (by simp) ?_)|(with_reducible refine sA ?_)|(refine sB ?_)|(with_reducible first|refine hsub ?_|refine cwSane ?_)|refine zG ?_|apply zA|(apply zI;intro h)|exact zT));(all_goals conv=>whnf)
     all_goals first
      |exact .inl rfl
      |exact .inr rfl
      |(exfalso;simp_all;done)
      |trace_state
    ·refine Jn.intro (Nat×Rg) (fun g=>⟨20,[(0,tapeO raw g.1),(1,boxT t),(2,boxNt ⟨[a,b,e],[c,d],ws,ts,ps,hds⟩),(3,.box [.os 4 2 0 3,.os 5 2 0 2,.os 6 2 0 ws.length,.os 7 10 0 ts.length,.os 8 6 0 ps.length,.os 9 5 0 hds.length]),(4,.box [.v (.string a.name),.os 10 7 0 a.items.length,.v (.string b.name),.os 11 7 0 b.items.length,.v (.string e.name),.os 12 7 0 (e.items.length+1)]),(5,.box [.v (.string c.name),.os 14 7 0 c.items.length,.v (.string d.name),.os 15 7 0 (d.items.length+1)]),(6,.arr 2 (ws.map encWn)),(7,.arr 10 (ts.map encSm)),(8,.arr 6 (ps.map encPb)),(9,.arr 5 (hds.map encHn)),(10,.arr 7 (a.items.map encIt)),(11,.arr 7 (b.items.map encIt)),(12,.arr 7 (e.items.map encIt++[encIt (zX q)])),(14,.arr 7 (c.items.map encIt)),(15,.arr 7 (d.items.map encIt++[encIt (zY g.2)]))],[(3,.op 0 0),(4,.op 1 0),(5,.op 2 0),(6,.op 3 0),(12,.v (.int .i64 1))]⟩) (fun g=>g.1<=raw.length/\g.2.lo<=g.2.hi/\g.2.hi<=65535) ?_ ?_
     ·(repeat' ((conv=>whnf);first|(refine in_r (by rfl) ?_)|(refine Ix.intro rfl ?_)|(refine sl_full (by simp) ?_)|(refine enRange raw _ 65535 (by decide) (by decide) (by with_reducible assumption) hr fun r p6 r0 r1 hp6=>?_)|refine zG ?_|apply zA|(apply zI;intro h)|exact zT));(all_goals conv=>whnf)
      all_goals
       refine⟨(p6,r),⟨by with_reducible assumption,r0,r1⟩,?_⟩
       (exact leA)
     rintro⟨p6,r⟩ ⟨hp6,r0,r1⟩
     simp only at hp6 r0 r1⊢
     obtain⟨k1,k2,k3,k4⟩:=hsL 1 r d.name r0 r1
     have sA:=fun {K} h=>@hsA d.name K h
     have sB:∀{K:KT},K (.tup [encXs (svcP ⟨[a,b,e],addIt [c,d] 1 (zY r),ws,ts,ps,hds⟩ d.name).1,.v (.int .i64 (svcP ⟨[a,b,e],addIt [c,d] 1 (zY r),ws,ts,ps,hds⟩ d.name).2)]) []->ACall Tryz.prog 24 [.agg [.lst [.agg [.v (.string a.name),.lst (a.items.map encIt)],.agg [.v (.string b.name),.lst (b.items.map encIt)],.agg [.v (.string e.name),.lst (e.items.map encIt++[encIt (zX q)])]],.lst [.agg [.v (.string c.name),.lst (c.items.map encIt)],.agg [.v (.string d.name),.lst (d.items.map encIt++[encIt (zY r)])]],.lst (ws.map encWn),.lst (ts.map encSm),.lst (ps.map encPb),.lst (hds.map encHn)],.v (.string d.name)] [] K:=fun {K} h=>by
      have eE:(AV.agg [.lst [.agg [.v (.string a.name),.lst (a.items.map encIt)],.agg [.v (.string b.name),.lst (b.items.map encIt)],.agg [.v (.string e.name),.lst (e.items.map encIt++[encIt (zX q)])]],.lst [.agg [.v (.string c.name),.lst (c.items.map encIt)],.agg [.v (.string d.name),.lst (d.items.map encIt++[encIt (zY r)])]],.lst (ws.map encWn),.lst (ts.map encSm),.lst (ps.map encPb),.lst (hds.map encHn)])=encNt ⟨addIt [a,b,e] 2 (zX q),addIt [c,d] 1 (zY r),ws,ts,ps,hds⟩:=by simp[addIt]
      rw[eE]
      exact @hsB 2 1 (zX q) (zY r) d.name hxB (hyB r r0 r1) K h
     generalize svcP ⟨[a,b,e],addIt [c,d] 1 (zY r),ws,ts,ps,hds⟩ d.name=T at*
     generalize svcP ⟨[a,b,e],[c,d],ws,ts,ps,hds⟩ d.name=U at*
     obtain⟨Ts,Te⟩:=T
     obtain⟨Us,Ue⟩:=U
     simp only at k1 k2 k3 k4 sA sB
     subst k3
     have hsub:=fun {K} h=>@sub_small Us Ts k1 k2 k4 K h
     (repeat' ((conv=>whnf);first|(refine in_r (by rfl) ?_)|(refine Ix.intro rfl ?_)|(refine sl_full (by simp) ?_)|(with_reducible refine sA ?_)|(refine sB ?_)|(with_reducible first|refine hsub ?_|refine cwSane ?_)|refine zG ?_|apply zA|(apply zI;intro h)|exact zT));(all_goals conv=>whnf)
     all_goals first
      |exact .inl rfl
      |exact .inr rfl
      |(exfalso;simp_all;done)
      |trace_state
end Go.Proofs.YtahhamfngafmcaaGreatDoor
