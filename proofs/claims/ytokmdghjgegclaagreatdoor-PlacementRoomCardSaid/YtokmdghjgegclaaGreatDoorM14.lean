/- Topologies: what is valid. The reference's. -/
import Derived.Test.YtokmdghjgegclaaGreatDoorProg
import Derived.Test.YtokmdghjgegclaaGreatDoorM13
set_option linter.unusedVariables false
set_option linter.unusedSimpArgs false
set_option maxRecDepth 100000
set_option maxHeartbeats 4000000
namespace Go.Proofs.YtokmdghjgegclaaGreatDoor
open Go Go.Vm
theorem cuMeets(p:Pf)(l:List Pf)(hl:l.length<1000000){K:KT}(hK:K (.sb (l.any fun q=>p.meet q)) []):ACall Tryz.prog 163 [encP p,.lst (l.map encP)] [] K:=by
 refine ACall.bool (ofuMeets rfl rfl ?_)
 iterate 4 (all_goals((conv=>whnf);first|refine zG ?_|apply zA|(apply zI;intro h)|exact zT|skip))
 refine Lp.intro Nat (fun k=>⟨1,[(0,.box [.v (.int .u32 p.addr),.v (.int .i64 p.bits)])],[(1,.lst (l.map encP)),(2,.op 0 0),(5,.v (.int .i64 k))]⟩) (fun k=>k<=l.length/\∀(i:Nat) q,i<k->l[i]? =some q->p.meet q=false) (fun k=>l.length-k) 0 ?_ ?_ ?_
 ·exact⟨Nat.zero_le _,fun i y hi=>absurd hi (Nat.not_lt_zero _)⟩
 ·exact⟨[(0,0)],rfl,⟨rfl,rfl,rfl,trivial⟩,rfl,trivial⟩
 intro k ⟨hk,hinv⟩
 rcases Nat.lt_or_ge k l.length with hkl|hkl
 ·obtain⟨r,hr⟩:=gex hkl
  iterate 20 (all_goals((conv=>whnf);first|(with_reducible first|refine in_map hkl ?_|refine ix_map hr ?_|refine crMeet p r ?_)|refine zG ?_|apply zA|(apply zI;intro h)|exact zT|skip))
  ·exact fin_t hK (List.any_eq_true.2 ⟨r,List.mem_of_getElem? hr,h⟩)
  ·exact⟨k+1,⟨by omega,all_succ hr h hinv⟩,by omega,⟨[(0,0)],rfl,⟨rfl,rfl,rfl,trivial⟩,rfl,trivial⟩⟩
 ·have hall:=before_all hkl hinv
  iterate 12 (all_goals((conv=>whnf);first|refine zG ?_|apply zA|(apply zI;intro h)|exact zT|skip))
  refine fin_f hK (List.any_eq_false.2 fun q hq=>?_)
  obtain⟨j,hj⟩:=List.mem_iff_getElem?.1 hq
  rw[hall j q hj];simp
def fixed(l:List Ed):List Pf:=(l.filter fun e=> !e.pl).map (·.pf)
theorem fixed_succ{l:List Ed}{k:Nat}{e:Ed}(h:l[k]? =some e):fixed (l.take (k+1))=fixed (l.take k)++(if e.pl then []else [e.pf]):=by
 unfold fixed
 rw[List.take_add_one,h,List.filter_append,List.map_append]
 cases he:e.pl<;>simp[he]
theorem fixed_len(l:List Ed):(fixed l).length<=l.length:=by
 unfold fixed
 rw[List.length_map]
 exact List.length_filter_le _ _
theorem cuFixed(t:Tp)(hl:t.edges.length<1000000){K:KT}(hK:K (.lst ((fixed t.edges).map encP)) []):ACall Tryz.prog 113 [encT t] [] K:=by
 refine ofuFixed rfl rfl ?_
 iterate 8 (all_goals((conv=>whnf);first|refine zG ?_|apply zA|(apply zI;intro h)|exact zT|skip))
 refine Lp.intro Nat (fun k=>⟨2,[(1,.arr 2 ((fixed (t.edges.take k)).map encP)),(0,boxT t)],[(1,.op 0 0),(3,.os 1 2 0 (fixed (t.edges.take k)).length),(4,.v (.int .i64 k))]⟩) (fun k=>k<=t.edges.length) (fun k=>t.edges.length-k) 0 ?_ ?_ ?_
 ·exact Nat.zero_le _
 ·exact⟨[(0,0),(1,1)],rfl,⟨rfl,rfl,rfl,trivial⟩,rfl,rfl,trivial⟩
 intro k hk
 rcases Nat.lt_or_ge k t.edges.length with hkl|hkl
 ·obtain⟨r,hr⟩:=gex hkl
  have hs:=fixed_succ hr
  have hf:=fixed_len (t.edges.take k)
  simp only[List.length_take]at hf
  iterate 30 (all_goals((conv=>whnf);first|(with_reducible first|refine in_map hkl ?_|refine ix_map hr ?_)|refine zG ?_|apply zA|(apply zI;intro h)|exact zT|skip))
  ·refine⟨k+1,by omega,by omega,?_⟩
   rw[hs,h,if_pos rfl,List.append_nil]
   exact⟨[(0,0),(1,1)],rfl,⟨rfl,rfl,rfl,trivial⟩,rfl,rfl,trivial⟩
  ·refine⟨k+1,by omega,by omega,?_⟩
   rw[hs,h,if_neg (by simp),List.map_append,List.length_append]
   exact⟨[(0,0),(1,3)],rfl,⟨rfl,rfl,rfl,trivial⟩,rfl,rfl,trivial⟩
 ·iterate 12 (all_goals((conv=>whnf);first|refine zG ?_|apply zA|(apply zI;intro h)|exact zT|skip))
  rw[List.take_of_length_le hkl]
  exact hK
theorem cuDevs(l:List Dv){K:KT}(hK:∀b,(b=true↔(1<=l.length/\l.length<=12)/\∀(i:Nat) d,l[i]? =some d->devOk d/\devIx l d.name=i)->K (.sb b) []):ACall Tryz.prog 161 [.lst (l.map encD)] [] K:=by
 refine ACall.bool (ofuDevs rfl rfl ?_)
 iterate 16 (all_goals((conv=>whnf);first|refine zG ?_|apply zA|(apply zI;intro h)|exact zT|skip))
 all_goals first
  |(refine fin_f (hK false (iff_of_false (by simp) fun hn=>?_)) rfl
    have:=hn.1
    simp only[List.length_map]at*
    omega)
  |skip
 obtain⟨d0,d1⟩:1<=l.length/\l.length<=12:=by
  simp only[List.length_map]at*
  omega
 refine Lp.intro Nat (fun k=>⟨0,[],[(0,.lst (l.map encD)),(3,.v (.int .i64 k))]⟩)
  (fun k=>k<=l.length/\∀(i:Nat) d,i<k->l[i]? =some d->devOk d/\devIx l d.name=i) (fun k=>l.length-k) 0 ?_ ?_ ?_
 ·exact⟨Nat.zero_le _,fun i y hi=>absurd hi (Nat.not_lt_zero _)⟩
 ·exact⟨[],rfl,⟨rfl,rfl,trivial⟩,trivial⟩
 intro k ⟨hk,hinv⟩
 rcases Nat.lt_or_ge k l.length with hkl|hkl
 ·obtain⟨r,hr⟩:=gex hkl
  have hdv:∀(n:ByteArray) (K:AV->List Vm.Obj->Prop),K (.v (.int .i64 (devIx l n))) []->ACall Tryz.prog 198 [.agg [.lst (l.map encD),.lst [],.lst [],.lst [],.v (.int .i64 0)],.v (.string n)] [] K:=
   fun n K h=>cuDev ⟨l,[],[],[],0⟩ n (by show l.length<1000000;omega) h
  iterate 90 (all_goals((conv=>whnf);first|(with_reducible first|refine in_map hkl ?_|refine ix_map hr ?_|refine crName _ ?_|refine hdv _ _ ?_)|refine zG ?_|apply zA|(apply zI;intro h)|exact zT|skip))
  all_goals first
   |(refine fin_f (hK false (iff_of_false (by simp) fun hn=>?_)) rfl
     obtain⟨⟨n1,n2,n3,n4⟩,n5⟩:=hn.2 k r hr
     first|omega|exact nameB_not (by assumption) n1|exact n4.elim (fun n6=>by simp_all[sEq]) (fun n6=>nameB_not (by assumption) n6)|(exact absurd n5 (by assumption)))
   |(refine⟨k+1,⟨by omega,all_succ hr ⟨⟨nameB_iff.1 (by assumption),by omega,by omega,?_⟩,by assumption⟩ hinv⟩,by omega,⟨[],rfl,⟨rfl,rfl,trivial⟩,trivial⟩⟩
     first|exact .inr (nameB_iff.1 (by assumption))|(left;simp_all[sEq];done))
 ·have hall:=before_all hkl hinv
  iterate 12 (all_goals((conv=>whnf);first|refine zG ?_|apply zA|(apply zI;intro h)|exact zT|skip))
  exact fin_t (hK true (iff_of_true rfl ⟨⟨d0,d1⟩,hall⟩)) rfl
theorem pw_iff{α:Type}{R:α->α->Prop}{l:List α}:l.Pairwise R↔∀(i:Nat) x,l[i]? =some x->∀(j:Nat) y,j<i->l[j]? =some y->R y x:=by
 rw[List.pairwise_iff_getElem]
 constructor
 ·intro h i x hx j y hj hy
  obtain⟨h1,rfl⟩:=List.getElem?_eq_some_iff.1 hx
  obtain⟨h2,rfl⟩:=List.getElem?_eq_some_iff.1 hy
  exact h j i h2 h1 hj
 ·intro h i j hi hj hij
  exact h j _ (List.getElem?_eq_getElem hj) i _ hij (List.getElem?_eq_getElem hi)
theorem fixed_apart{l:List Ed}:(∀(i:Nat) p,(fixed l)[i]? =some p->∀(j:Nat) q,j<i->(fixed l)[j]? =some q->p.meet q=false)↔∀(i:Nat) e,l[i]? =some e->∀(j:Nat) o,j<i->l[j]? =some o->apartE e o:=by
 rw[<-pw_iff (R:=fun q p:Pf=>p.meet q=false),<-pw_iff (R:=fun o e:Ed=>apartE e o),fixed,List.pairwise_map,List.pairwise_filter]
 constructor
 ·refine List.Pairwise.imp fun {o e} h=>?_
  rintro⟨h1,h2,h3⟩
  rw[h (by simp[h2]) (by simp[h1])]at h3;cases h3
 ·refine List.Pairwise.imp fun {o e} h=>?_
  intro h1 h2
  cases hm:e.pf.meet o.pf with
  |false=>rfl
  |true=>exact absurd ⟨by simpa using h2,by simpa using h1,hm⟩ h
theorem cuVal(t:Tp){K:KT}(hK:K (.sb (topB t)) []):ACall Tryz.prog 112 [encT t] [] K:=by
 refine ACall.bool (ofuVal rfl rfl ?_)
 iterate 6 (all_goals((conv=>whnf);first|refine zG ?_|apply zA|(apply zI;intro h)|exact zT|skip))
 refine cuDevs t.devs fun db hdb=>?_
 iterate 50 (all_goals((conv=>whnf);first|refine zG ?_|apply zA|(apply zI;intro h)|exact zT|skip))
 all_goals first
  |(exact fin_f hK (topB_false fun hn=>by
    have h0:=hdb.2 ⟨⟨hn.d0,hn.d1⟩,hn.dev⟩
    have:=hn.l1;have:=hn.e1;have:=hn.p1;have:=hn.t0;have:=hn.t1
    (try simp only[List.length_map]at*)
    first|omega|(rw[h0]at h;cases h)))
  |skip
 obtain⟨l1,e1,p1,t0,t1⟩:t.links.length<=24/\t.edges.length<=12/\t.pools.length<=8/\0<=t.tol/\t.tol<=2:=by
  simp only[List.length_map]at*
  omega
 have hdb':=hdb.1 (by assumption)
 refine Lp.intro Nat (fun k=>⟨1,[(0,boxT t)],[(1,.op 0 0),(3,.v (.int .i64 k))]⟩)
  (fun k=>k<=t.links.length/\∀(i:Nat) d,i<k->t.links[i]? =some d->linkOk t.devs.length d) (fun k=>t.links.length-k) 0 ?_ ?_ ?_
 ·exact⟨Nat.zero_le _,fun i y hi=>absurd hi (Nat.not_lt_zero _)⟩
 ·exact⟨[(0,0)],rfl,⟨rfl,rfl,trivial⟩,rfl,trivial⟩
 intro k ⟨hk,hinv⟩
 rcases Nat.lt_or_ge k t.links.length with hkl|hkl
 ·obtain⟨r,hr⟩:=gex hkl
  iterate 50 (all_goals((conv=>whnf);first|(with_reducible first|refine in_map hkl ?_|refine ix_map hr ?_)|refine zG ?_|apply zA|(apply zI;intro h)|exact zT|skip))
  all_goals first
   |(refine fin_f hK (topB_false fun hn=>?_)
     obtain⟨n1,n2,n3,n4,n5⟩:=hn.link k r hr
     simp only[List.length_map]at*
     omega)
   |(refine⟨k+1,⟨by omega,all_succ hr ?_ hinv⟩,by omega,⟨[(0,0)],rfl,⟨rfl,rfl,trivial⟩,rfl,trivial⟩⟩
     unfold linkOk
     simp only[List.length_map]at*
     omega)
 have hlink:=before_all hkl hinv
 iterate 20 (all_goals((conv=>whnf);first|refine zG ?_|apply zA|(apply zI;intro h)|exact zT|skip))
 refine Lp.intro Nat (fun k=>⟨1,[(0,boxT t)],[(1,.op 0 0),(5,.v (.int .i64 k))]⟩)
  (fun k=>k<=t.edges.length/\∀(i:Nat) e,i<k->t.edges[i]? =some e->edgeOk t.devs.length e/\edgeIx t.edges e.name=i) (fun k=>t.edges.length-k) 0 ?_ ?_ ?_
 ·exact⟨Nat.zero_le _,fun i y hi=>absurd hi (Nat.not_lt_zero _)⟩
 ·exact⟨[(0,0)],rfl,⟨rfl,rfl,trivial⟩,rfl,trivial⟩
 intro k ⟨hk,hinv⟩
 rcases Nat.lt_or_ge k t.edges.length with hkl|hkl
 ·obtain⟨r,hr⟩:=gex hkl
  have hed:∀(K:AV->List Vm.Obj->Prop),K (.sb (edgeB t.devs.length r)) []->ACall Tryz.prog 162 [encE r,.v (.int .i64 (t.devs.map encD).length)] [] K:=fun K h=>cuEdgeOk r _ (by rw[List.length_map];exact h)
  iterate 40 (all_goals((conv=>whnf);first|(with_reducible first|refine in_map hkl ?_|refine ix_map hr ?_|refine hed _ ?_|refine cuEdge t _ (by omega) ?_)|refine zG ?_|apply zA|(apply zI;intro h)|exact zT|skip))
  ·exact⟨k+1,⟨by omega,all_succ hr ⟨edgeB_iff.1 (by assumption),h⟩ hinv⟩,by omega,⟨[(0,0)],rfl,⟨rfl,rfl,trivial⟩,rfl,trivial⟩⟩
  ·exact fin_f hK (topB_false fun hn=>h (hn.edge k r hr).2)
  ·exact fin_f hK (topB_false fun hn=>by rw[edgeB_true (hn.edge k r hr).1]at h;cases h)
 have hedge:=before_all hkl hinv
 have hfl:=fixed_len t.edges
 iterate 20 (all_goals((conv=>whnf);first|(with_reducible refine cuFixed t (by omega) ?_)|refine zG ?_|apply zA|(apply zI;intro h)|exact zT|skip))
 refine Lp.intro Nat (fun k=>⟨1,[(0,boxT t)],[(1,.op 0 0),(6,.lst ((fixed t.edges).map encP)),(7,.v (.int .i64 k))]⟩)
  (fun k=>k<=(fixed t.edges).length/\∀(i:Nat) p,i<k->(fixed t.edges)[i]? =some p->∀(j:Nat) q,j<i->(fixed t.edges)[j]? =some q->p.meet q=false) (fun k=>(fixed t.edges).length-k) 0 ?_ ?_ ?_
 ·exact⟨Nat.zero_le _,fun i y hi=>absurd hi (Nat.not_lt_zero _)⟩
 ·exact⟨[(0,0)],rfl,⟨rfl,rfl,rfl,trivial⟩,rfl,trivial⟩
 intro k ⟨hk,hinv⟩
 rcases Nat.lt_or_ge k (fixed t.edges).length with hkl|hkl
 ·obtain⟨r,hr⟩:∃r,(fixed t.edges)[k]? =some r:=⟨_,List.getElem?_eq_getElem hkl⟩
  have hlen:((fixed t.edges).take k).length=k:=by simp;omega
  iterate 40 (all_goals((conv=>whnf);first|(with_reducible first|refine in_map hkl ?_|refine ix_map hr ?_|refine sb_take (by omega) ?_|refine cuMeets r _ (by omega) ?_)|refine zG ?_|apply zA|(apply zI;intro h)|exact zT|skip))
  ·refine fin_f hK (topB_false fun hn=>?_)
   obtain⟨q,hq1,hq2⟩:=List.any_eq_true.1 h
   obtain⟨j,hj⟩:=List.mem_iff_getElem?.1 hq1
   have hj2:=take_get.1 hj
   rw[fixed_apart.2 hn.apart k r hr j q hj2.1 hj2.2]at hq2;cases hq2
  ·refine⟨k+1,⟨by omega,all_succ hr (fun j q h1 h2=>?_) hinv⟩,by omega,⟨[(0,0)],rfl,⟨rfl,rfl,rfl,trivial⟩,rfl,trivial⟩⟩
   rw[List.any_eq_false]at h
   have:=h q (List.mem_of_getElem? (take_get.2 ⟨h1,h2⟩))
   simpa using this
 have hfix:=fixed_apart.1 (before_all hkl hinv)
 iterate 20 (all_goals((conv=>whnf);first|refine zG ?_|apply zA|(apply zI;intro h)|exact zT|skip))
 refine Lp.intro Nat (fun k=>⟨1,[(0,boxT t)],[(1,.op 0 0),(8,.v (.int .i64 k))]⟩)
  (fun k=>k<=t.pools.length/\∀(i:Nat) p,i<k->t.pools[i]? =some p->p.okP/\∀(j:Nat) q,j<i->t.pools[j]? =some q->p.meet q=false) (fun k=>t.pools.length-k) 0 ?_ ?_ ?_
 ·exact⟨Nat.zero_le _,fun i y hi=>absurd hi (Nat.not_lt_zero _)⟩
 ·exact⟨[(0,0)],rfl,⟨rfl,rfl,trivial⟩,rfl,trivial⟩
 intro k ⟨hk,hinv⟩
 rcases Nat.lt_or_ge k t.pools.length with hkl|hkl
 ·obtain⟨r,hr⟩:=gex hkl
  have hlen:(t.pools.take k).length=k:=by simp;omega
  iterate 40 (all_goals((conv=>whnf);first|(with_reducible first|refine in_map hkl ?_|refine ix_map hr ?_|refine crVal r ?_|refine sb_take (by omega) ?_|refine cuMeets r _ (by omega) ?_)|refine zG ?_|apply zA|(apply zI;intro h)|exact zT|skip))
  ·refine fin_f hK (topB_false fun hn=>?_)
   obtain⟨q,hq1,hq2⟩:=List.any_eq_true.1 h
   obtain⟨j,hj⟩:=List.mem_iff_getElem?.1 hq1
   have hj2:=take_get.1 hj
   rw[(hn.pool k r hr).2 j q hj2.1 hj2.2]at hq2;cases hq2
  ·refine⟨k+1,⟨by omega,all_succ hr ⟨by assumption,fun j q h1 h2=>?_⟩ hinv⟩,by omega,⟨[(0,0)],rfl,⟨rfl,rfl,trivial⟩,rfl,trivial⟩⟩
   rw[List.any_eq_false]at h
   have:=h q (List.mem_of_getElem? (take_get.2 ⟨h1,h2⟩))
   simpa using this
  ·exact fin_f hK (topB_false fun hn=>h (hn.pool k r hr).1)
 have hpool:=before_all hkl hinv
 iterate 20 (all_goals((conv=>whnf);first|refine zG ?_|apply zA|(apply zI;intro h)|exact zT|skip))
 exact fin_t hK (topB_true ⟨hdb'.1.1,hdb'.1.2,l1,e1,p1,t0,t1,hdb'.2,hlink,hedge,hfix,hpool⟩)
noncomputable def gnSub:Ctx:={N:=14}
noncomputable def bnSub:Code:=bdy Tryz.f32
abbrev ofnSub:=@ofC Tryz.prog gnSub 32 Tryz.f32 bnSub Tryz.func32 (by kernel_rfl) (by kernel_rfl) (by kernel_rfl) (by kernel_rfl)
noncomputable def gnTop:Ctx:={N:=154,np:=1,own:=at1 13 (true) (fun _=>false),plan:=at1 6 (some (.one 1 true (.one 5 true (.alt 0 (.one 2 true (.wch 3 (.alt 4 (.alt 6 (.one 7 true (.one 8 true (.one 9 true (.one 10 false (.one 11 false (.done)))))) (.alt 10 (.one 6 false (.one 7 true (.one 8 true (.one 9 true (.one 11 false (.done)))))) (.stop))) (.alt 6 (.alt 4 (.one 7 true (.one 8 true (.one 9 true (.one 10 false (.one 11 false (.done)))))) (.alt 10 (.one 4 false (.one 7 true (.one 8 true (.one 9 true (.one 11 false (.done)))))) (.stop))) (.alt 10 (.alt 4 (.one 6 false (.one 7 true (.one 8 true (.one 9 true (.one 11 false (.done)))))) (.alt 6 (.one 4 false (.one 7 true (.one 8 true (.one 9 true (.one 11 false (.done)))))) (.stop))) (.stop)))))) (.alt 4 (.alt 0 (.one 2 true (.wch 3 (.alt 6 (.one 7 true (.one 8 true (.one 9 true (.one 10 false (.one 11 false (.done)))))) (.alt 10 (.one 6 false (.one 7 true (.one 8 true (.one 9 true (.one 11 false (.done)))))) (.stop))))) (.alt 6 (.one 7 true (.one 8 true (.alt 0 (.one 2 true (.one 3 true (.one 9 true (.one 10 false (.one 11 false (.done)))))) (.alt 10 (.one 0 false (.one 2 true (.one 3 true (.one 9 true (.one 11 false (.done)))))) (.stop))))) (.alt 10 (.alt 0 (.one 2 true (.wch 3 (.one 6 false (.one 7 true (.one 8 true (.one 9 true (.one 11 false (.done)))))))) (.alt 6 (.one 7 true (.one 8 true (.one 0 false (.one 2 true (.one 3 true (.one 9 true (.one 11 false (.done)))))))) (.stop))) (.stop)))) (.alt 6 (.alt 0 (.one 2 true (.one 3 true (.alt 4 (.one 7 true (.one 8 true (.one 9 true (.one 10 false (.one 11 false (.done)))))) (.alt 10 (.one 4 false (.one 7 true (.one 8 true (.one 9 true (.one 11 false (.done)))))) (.stop))))) (.alt 4 (.one 7 true (.one 8 true (.alt 0 (.one 2 true (.one 3 true (.one 9 true (.one 10 false (.one 11 false (.done)))))) (.alt 10 (.one 0 false (.one 2 true (.one 3 true (.one 9 true (.one 11 false (.done)))))) (.stop))))) (.alt 10 (.alt 0 (.one 2 true (.one 3 true (.one 4 false (.one 7 true (.one 8 true (.one 9 true (.one 11 false (.done)))))))) (.alt 4 (.one 7 true (.one 8 true (.one 0 false (.one 2 true (.one 3 true (.one 9 true (.one 11 false (.done)))))))) (.stop))) (.stop)))) (.alt 10 (.alt 0 (.one 2 true (.wch 3 (.alt 4 (.one 6 false (.one 7 true (.one 8 true (.one 9 true (.one 11 false (.done)))))) (.alt 6 (.one 4 false (.one 7 true (.one 8 true (.one 9 true (.one 11 false (.done)))))) (.stop))))) (.alt 4 (.alt 0 (.one 2 true (.wch 3 (.one 6 false (.one 7 true (.one 8 true (.one 9 true (.one 11 false (.done)))))))) (.alt 6 (.one 7 true (.one 8 true (.one 0 false (.one 2 true (.one 3 true (.one 9 true (.one 11 false (.done)))))))) (.stop))) (.alt 6 (.alt 0 (.one 2 true (.one 3 true (.one 4 false (.one 7 true (.one 8 true (.one 9 true (.one 11 false (.done)))))))) (.alt 4 (.one 7 true (.one 8 true (.one 0 false (.one 2 true (.one 3 true (.one 9 true (.one 11 false (.done)))))))) (.stop))) (.stop)))) (.stop)))))))) (at1 11 (some (.one 0 true (.one 2 true (.one 3 true (.one 5 true (.one 7 true (.wch 1 (.alt 4 (.alt 6 (.one 8 false (.one 9 true (.one 10 true (.one 11 true (.one 12 false (.one 13 false (.one 14 true (.one 15 false (.done))))))))) (.alt 8 (.one 6 false (.one 9 true (.one 10 true (.one 11 true (.one 12 false (.one 13 false (.one 14 true (.one 15 false (.done))))))))) (.stop))) (.alt 6 (.one 4 false (.one 8 false (.one 9 true (.one 10 true (.one 11 true (.one 12 false (.one 13 false (.one 14 true (.one 15 false (.done)))))))))) (.stop)))))))))) (at1 16 (some (.one 0 true (.one 2 true (.one 3 true (.one 5 true (.one 7 true (.wch 1 (.alt 4 (.alt 6 (.one 8 false (.one 9 true (.one 10 true (.one 11 true (.one 12 false (.one 13 false (.one 14 true (.one 15 false (.done))))))))) (.alt 8 (.one 6 false (.one 9 true (.one 10 true (.one 11 true (.one 12 false (.one 13 false (.one 14 true (.one 15 false (.done))))))))) (.stop))) (.alt 6 (.one 4 false (.one 8 false (.one 9 true (.one 10 true (.one 11 true (.one 12 false (.one 13 false (.one 14 true (.one 15 false (.done)))))))))) (.stop)))))))))) (at1 21 (some (.one 0 true (.one 3 true (.one 6 true (.one 7 true (.one 10 true (.one 14 true (.wch 1 (.alt 2 (.one 4 true (.wch 5 (.alt 8 (.alt 9 (.one 11 false (.one 12 true (.one 13 true (.one 15 false (.one 16 true (.one 17 false (.one 18 false (.one 19 true (.one 20 false (.done)))))))))) (.alt 11 (.alt 9 (.one 12 true (.one 13 true (.one 15 false (.one 16 true (.one 17 false (.one 18 false (.one 19 true (.one 20 false (.done))))))))) (.alt 15 (.one 9 false (.one 12 true (.one 13 true (.one 16 true (.one 17 false (.one 18 false (.one 19 true (.one 20 false (.done))))))))) (.stop))) (.stop))) (.alt 9 (.one 8 false (.one 11 false (.one 12 true (.one 13 true (.one 15 false (.one 16 true (.one 17 false (.one 18 false (.one 19 true (.one 20 false (.done))))))))))) (.stop))))) (.alt 8 (.alt 2 (.one 4 true (.wch 5 (.alt 9 (.one 11 false (.one 12 true (.one 13 true (.one 15 false (.one 16 true (.one 17 false (.one 18 false (.one 19 true (.one 20 false (.done)))))))))) (.alt 11 (.alt 9 (.one 12 true (.one 13 true (.one 15 false (.one 16 true (.one 17 false (.one 18 false (.one 19 true (.one 20 false (.done))))))))) (.alt 15 (.one 9 false (.one 12 true (.one 13 true (.one 16 true (.one 17 false (.one 18 false (.one 19 true (.one 20 false (.done))))))))) (.stop))) (.stop))))) (.alt 9 (.alt 2 (.one 4 true (.wch 5 (.one 11 false (.one 12 true (.one 13 true (.one 15 false (.one 16 true (.one 17 false (.one 18 false (.one 19 true (.one 20 false (.done)))))))))))) (.alt 11 (.one 12 true (.one 13 true (.alt 2 (.one 4 true (.one 5 true (.one 15 false (.one 16 true (.one 17 false (.one 18 false (.one 19 true (.one 20 false (.done))))))))) (.alt 15 (.one 2 false (.one 4 true (.one 5 true (.one 16 true (.one 17 false (.one 18 false (.one 19 true (.one 20 false (.done))))))))) (.stop))))) (.stop))) (.alt 11 (.alt 2 (.one 4 true (.one 5 true (.alt 9 (.one 12 true (.one 13 true (.one 15 false (.one 16 true (.one 17 false (.one 18 false (.one 19 true (.one 20 false (.done))))))))) (.alt 15 (.one 9 false (.one 12 true (.one 13 true (.one 16 true (.one 17 false (.one 18 false (.one 19 true (.one 20 false (.done))))))))) (.stop))))) (.alt 9 (.one 12 true (.one 13 true (.alt 2 (.one 4 true (.one 5 true (.one 15 false (.one 16 true (.one 17 false (.one 18 false (.one 19 true (.one 20 false (.done))))))))) (.alt 15 (.one 2 false (.one 4 true (.one 5 true (.one 16 true (.one 17 false (.one 18 false (.one 19 true (.one 20 false (.done))))))))) (.stop))))) (.alt 15 (.alt 2 (.one 4 true (.one 5 true (.one 9 false (.one 12 true (.one 13 true (.one 16 true (.one 17 false (.one 18 false (.one 19 true (.one 20 false (.done))))))))))) (.alt 9 (.one 12 true (.one 13 true (.one 2 false (.one 4 true (.one 5 true (.one 16 true (.one 17 false (.one 18 false (.one 19 true (.one 20 false (.done))))))))))) (.stop))) (.stop)))) (.stop)))) (.alt 9 (.alt 2 (.one 4 true (.wch 5 (.one 8 false (.one 11 false (.one 12 true (.one 13 true (.one 15 false (.one 16 true (.one 17 false (.one 18 false (.one 19 true (.one 20 false (.done))))))))))))) (.alt 8 (.alt 2 (.one 4 true (.wch 5 (.one 11 false (.one 12 true (.one 13 true (.one 15 false (.one 16 true (.one 17 false (.one 18 false (.one 19 true (.one 20 false (.done)))))))))))) (.alt 11 (.one 12 true (.one 13 true (.alt 2 (.one 4 true (.one 5 true (.one 15 false (.one 16 true (.one 17 false (.one 18 false (.one 19 true (.one 20 false (.done))))))))) (.alt 15 (.one 2 false (.one 4 true (.one 5 true (.one 16 true (.one 17 false (.one 18 false (.one 19 true (.one 20 false (.done))))))))) (.stop))))) (.stop))) (.stop))) (.stop)))))))))))) (fun _=>none)))),hints:=at1 2 ([.virtB 5 0 5,.virtB 5 1 3,.virtB 5 2 6,.virtB 5 3 2]) (fun _=>[]),cut:=at1 7 (true) (at1 17 (true) (at1 20 (true) (fun _=>false))),res:=true}
noncomputable def bnTop:Code:=bdy Tryz.f10
abbrev ofnTop:=@ofC Tryz.prog gnTop 10 Tryz.f10 bnTop Tryz.func10 (by kernel_rfl) (by kernel_rfl) (by kernel_rfl) (by kernel_rfl)
theorem nNext(raw:List Int)(pos:Nat)(n:Int)(hn2:n<=9223372036854775807)(hp:pos<=raw.length)(hr:raw.length<=9223372036854775807){K:KT}
  (hK:∀(m pos':Nat),(m=0\/m<n)->pos'<=raw.length->K (.v (.int .i64 m)) [tapeO raw pos']):ACall Tryz.prog 13 [.op 0 0,.v (.int .i64 n)] [tapeO raw pos] K:=
 c13 raw pos n hn2 hp hr fun m pos' m0 m1 hp'=>by
  obtain⟨k,rfl⟩:=Int.eq_ofNat_of_zero_le m0
  exact hK k pos' (by omega) hp'
theorem ix_ints{xs:List AV}{i:Nat}{K:AV->Prop}(L:List Int)(n:Nat)(h:xs=L.map fun c=>.v (.int .i64 c))(hn:L.length=n)(hi:i<n)(hk:∀c,c∈L->K (.v (.int .i64 c))):Ix xs i K:=by
 subst h;subst hn
 exact ix_map (List.getElem?_eq_getElem hi) (hk _ (List.getElem_mem hi))
theorem ix_strs{xs:List AV}{i:Nat}{K:AV->Prop}(L:List ByteArray)(n:Nat)(h:xs=L.map fun c=>.v (.string c))(hn:L.length=n)(hi:i<n)(hk:∀c,c∈L->K (.v (.string c))):Ix xs i K:=by
 subst h;subst hn
 exact ix_map (List.getElem?_eq_getElem hi) (hk _ (List.getElem_mem hi))
theorem ix_strAt{xs:List AV}{i:Nat}{K:AV->Prop}(L:List ByteArray)(n:Nat)(h:xs=L.map fun c=>.v (.string c))(hn:L.length=n)(hi:i<n)(hk:K (.v (.string (L.getD i default)))):Ix xs i K:=by
 subst h;subst hn
 exact ix_map (List.getElem?_eq_getElem hi) (by rw[List.getD_eq_getElem?_getD,List.getElem?_eq_getElem hi]at hk;exact hk)
def subL:List Pf:=[⟨167772160,24,by decide,by decide⟩,⟨167772416,24,by decide,by decide⟩,⟨167772672,25,by decide,by decide⟩,⟨167772800,26,by decide,by decide⟩,⟨2886729728,16,by decide,by decide⟩,⟨3232237321,32,by decide,by decide⟩]
def noPf:Pf:=⟨0,0,by decide,by decide⟩
theorem ix_pfs{xs:List AV}{i:Nat}{K:AV->Prop}(L:List Pf)(n:Nat)(h:xs=L.map encP)(hn:L.length=n)(hi:i<n)(hk:K (encP (L.getD i noPf))):Ix xs i K:=by
 subst h;subst hn
 exact ix_map (List.getElem?_eq_getElem hi) (by rw[List.getD_eq_getElem?_getD,List.getElem?_eq_getElem hi]at hk;exact hk)
theorem nMod(x:Nat)(n:Int)(hx:x<n)(hn2:n<=9223372036854775807){K:KT}(hK:K (.v (.int .i64 x)) []):ACall Tryz.prog 42 [.v (.int .i64 x),.v (.int .i64 n)] [] K:=by
 refine of37 rfl rfl ?_
 (conv=>whnf)
 refine wr_u64 rfl (by omega) (by omega) ?_
 have m1:(x:Int).tmod n=x:=Int.tmod_eq_of_lt (by omega) (by omega)
 iterate 10 (all_goals((conv=>whnf);first|refine zG ?_|apply zA|(apply zI;intro h)|exact zT|skip))
 rw[m1]
 exact hK
theorem cnSub(n:Nat)(hn:n<6){K:KT}(hK:K (encP (subL.getD n noPf)) []):ACall Tryz.prog 32 [.v (.int .i64 n)] [] K:=by
 refine ofnSub rfl rfl ?_
 iterate 30 (all_goals((conv=>whnf);first|(with_reducible first|refine nMod n 6 (by omega) (by decide) ?_|refine in_nat hn ?_|refine ix_pfs subL 6 rfl rfl (by omega) ?_)|refine zG ?_|apply zA|(apply zI;intro h)|exact zT|skip))
 rw[Nat.zero_add]
 exact hK
def rnL:List ByteArray:=[⟨#[114,49]⟩,⟨#[114,50]⟩,⟨#[114,51]⟩,⟨#[114,52]⟩,⟨#[114,53]⟩,⟨#[114,54]⟩]
def enL:List ByteArray:=[⟨#[101,49]⟩,⟨#[101,50]⟩,⟨#[101,51]⟩,⟨#[101,52]⟩,⟨#[101,53]⟩]
def clL:List ByteArray:=[⟨#[]⟩,⟨#[105,112,115]⟩,⟨#[100,108,112]⟩]
def zoL:List ByteArray:=[⟨#[108,97,110]⟩,⟨#[100,109,122]⟩,⟨#[110,101,116]⟩]
structure GDv (i:Nat) (d:Dv):Prop where
 name:d.name=rnL.getD i default
 cap:d.cap∈[4096,400,60,20,5,0]
 cls:d.cls∈clL
structure GLk (n:Nat) (l:Lk):Prop where
 a0:0<=l.a
 ab:l.a<l.b
 bn:l.b<n
 cost:l.cost∈[1,2,3,1000]
theorem GLk.mono{n k:Nat}{l:Lk}(h:GLk n l)(hk:n<=k):GLk k l:=⟨h.a0,h.ab,by have:=h.bn;omega,h.cost⟩
structure GEd (n i:Nat) (e:Ed):Prop where
 name:e.name=enL.getD i default
 d0:0<=e.dev
 d1:e.dev<n
 zone:e.zone∈zoL
 pf:e.pf=subL.getD i noPf
 pl:e.pl=false
def pool1:Pf:=⟨168296448,22,by decide,by decide⟩
def pool2:Pf:=⟨167772672,24,by decide,by decide⟩
structure GTop (t:Tp):Prop where
 d1:1<=t.devs.length
 d6:t.devs.length<=6
 dv:∀(i:Nat) d,t.devs[i]? =some d->GDv i d
 l9:t.links.length<=8
 lk:∀l,l∈t.links->GLk t.devs.length l
 e5:t.edges.length<=5
 ed:∀(i:Nat) e,t.edges[i]? =some e->GEd t.devs.length i e
 pools:t.pools=[]\/t.pools=[pool1]\/t.pools=[pool2]\/t.pools=[pool1,pool2]
 tol:t.tol∈[0,1,0,1,2]
theorem get_snoc{α:Type}{P:Nat->α->Prop}{l:List α}{x:α}(h:∀(i:Nat) y,l[i]? =some y->P i y)(hx:P l.length x):∀(i:Nat) y,(l++[x])[i]? =some y->P i y:=by
 intro i y hy
 rw[List.getElem?_append]at hy
 split at hy
 ·exact h i y hy
 ·rename_i hl
  have:i-l.length=0:=by
   rcases Nat.lt_or_ge (i-l.length) 1 with h1|h1
   ·omega
   ·rw[List.getElem?_eq_none (by simpa using h1)]at hy;cases hy
  rw[this]at hy
  simp at hy
  subst hy
  rw[show i=l.length by omega]
  exact hx
noncomputable abbrev boxX(d l e p:Nat)(tol:Int):Vm.Obj:=.box [.os 3 5 0 d,.os 4 3 0 l,.os 5 6 0 e,.os 6 2 0 p,.v (.int .i64 tol)]
noncomputable abbrev boxN:Vm.Obj:=.box [.nils,.nils,.nils,.nils,.v (.int .i64 0)]
noncomputable abbrev hpX(raw:List Int)(pos:Nat)(d:List Dv)(l:List Lk)(e:List Ed)(p:List Pf)(tol:Int):Hp:=
 [(0,tapeO raw pos),(1,boxN),(2,boxX d.length l.length e.length p.length tol),(3,.arr 5 (d.map encD)),(4,.arr 3 (l.map encL)),(5,.arr 6 (e.map encE)),(6,.arr 2 (p.map encP))]
theorem cnTop(raw:List Int)(pos:Nat)(n0:Nat)(hn0:n0<=6)(hp:pos<=raw.length)(hr:raw.length<=9223372036854775807){K:KT}
  (hK:∀(t:Tp) (pos':Nat),GTop t->t.devs.length<=max n0 1->pos'<=raw.length->K (.agg [.os 1 5 0 t.devs.length,.os 2 3 0 t.links.length,.os 3 6 0 t.edges.length,.os 4 2 0 t.pools.length,.v (.int .i64 t.tol)]) [tapeO raw pos',.arr 5 (t.devs.map encD),.arr 3 (t.links.map encL),.arr 6 (t.edges.map encE),.arr 2 (t.pools.map encP)]):
  ACall Tryz.prog 10 [.op 0 0,.v (.int .i64 n0)] [tapeO raw pos] K:=by
 refine ofnTop rfl rfl ?_
 iterate 20 (all_goals((conv=>whnf);first|(with_reducible refine nNext raw _ _ (by omega) (by assumption) hr fun m p1 hm hp1=>?_)|refine zG ?_|apply zA|(apply zI;intro h)|exact zT|skip))
 have hm5:m<=5/\(m:Int)+1<=max n0 1:=by omega
 refine Lp.intro (Nat×List Dv×List Lk) (fun g=>⟨7,hpX raw g.1 g.2.1 g.2.2 [] [] 0,[(0,.op 0 0),(1,.v (.int .i64 (1+(m:Int)))),(4,.op 1 0),(5,.op 2 0),(6,.v (.int .i64 g.2.1.length))]⟩)
  (fun g=>g.1<=raw.length/\g.2.1.length<=1+m/\(∀(i:Nat) d,g.2.1[i]? =some d->GDv i d)/\g.2.2.length<=g.2.1.length-1/\∀l,l∈g.2.2->GLk g.2.1.length l) (fun g=>1+m-g.2.1.length) (p1,[],[]) ?_ ?_ ?_
 ·exact⟨hp1,Nat.zero_le _,fun i d h=>by simp at h,Nat.zero_le _,fun l h=>by simp at h⟩
 ·(exact leA)
 ·rintro⟨p1,devs,links⟩ ⟨hp1,i1,i2,i3,i4⟩
  simp only at hp1 i1 i2 i3 i4⊢
  rcases Nat.lt_or_ge devs.length (1+m)with hlt|hge
  ·iterate 8 (all_goals((conv=>whnf);first|refine zG ?_|apply zA|(apply zI;intro h)|exact zT|skip))
   refine Jn.intro (Nat×Int) (fun g=>⟨8,(7,.box [.v (.string (rnL.getD (0+devs.length) default)),.v (.int .i64 g.2),.sb false,.sb false,.v (.string ⟨#[]⟩)])::hpX raw g.1 devs links [] [] 0,[(0,.op 0 0),(1,.v (.int .i64 (1+(m:Int)))),(4,.op 1 0),(5,.op 2 0),(6,.v (.int .i64 devs.length)),(7,.op 7 0)]⟩)
    (fun g=>g.1<=raw.length/\g.2∈[4096,400,60,20,5,0]) ?_ ?_
   ·(repeat' ((conv=>whnf);first|(with_reducible first|refine nNext raw _ _ (by omega) (by assumption) hr fun m1 p1 hm1 hp1=>?_|refine in_nat (by omega) ?_|refine ix_strAt rnL 6 rfl rfl (by omega) ?_|refine ix_ints [4096,400,60,20,5,0] 6 rfl rfl (by omega) fun cap hcap=>?_)|refine zG ?_|apply zA|(apply zI;intro h)|exact zT));(all_goals conv=>whnf)
    all_goals
     refine⟨(p1,cap),⟨hp1,hcap⟩,?_⟩
     (exact leA)
   ·rintro⟨p1,cap⟩ ⟨hp1,hcap⟩
    simp only at hp1 hcap⊢
    (repeat' ((conv=>whnf);first|(with_reducible first|refine nNext raw _ _ (by omega) (by assumption) hr fun m1 p1 hm1 hp1=>?_|refine in_nat (by omega) ?_|refine ix_strs clL 3 rfl rfl (by omega) fun cls hcls=>?_|refine ix_ints [1,2,3,1000] 4 rfl rfl (by omega) fun cost hcost=>?_)|refine zG ?_|apply zA|(apply zI;intro h)|exact zT));(all_goals conv=>whnf)
    all_goals first
     |(rename_i x1 y1 z1 w1 x2 y2 z2 w2 x3 y3 z3 w3 x4 y4 z4 w4
       refine⟨(p1,devs++[⟨rnL.getD (0+devs.length) default,cap,decide ((x1:Int)=1),decide ((x2:Int)=1),cls⟩],links++[⟨x4,devs.length,cost⟩]),⟨hp1,?_,?_,?_,?_⟩,?_,?_⟩
       ·simp only[List.length_append,List.length_cons,List.length_nil];omega
       ·exact get_snoc i2 ⟨by rw[Nat.zero_add],hcap,hcls⟩
       ·simp only[List.length_append,List.length_cons,List.length_nil];omega
       ·intro l hl
        simp only[List.length_append,List.length_cons,List.length_nil]
        rcases List.mem_append.1 hl with hl|hl
        ·exact(i4 l hl).mono (by omega)
        ·simp only[List.mem_singleton]at hl
         subst hl
         exact⟨by simp only;omega,by simp only;omega,by simp only;omega,hcost⟩
       ·simp only[List.length_append,List.length_cons,List.length_nil];omega
       ·simp only[hpX,List.map_append,List.length_append,List.map_cons,List.map_nil,List.length_cons,List.length_nil]
        (exact leA))
     |(rename_i x1 y1 z1 w1 x2 y2 z2 w2
       refine⟨(p1,devs++[⟨rnL.getD (0+devs.length) default,cap,decide ((x1:Int)=1),decide ((x2:Int)=1),cls⟩],links),⟨hp1,?_,?_,?_,?_⟩,?_,?_⟩
       ·simp only[List.length_append,List.length_cons,List.length_nil];omega
       ·exact get_snoc i2 ⟨by rw[Nat.zero_add],hcap,hcls⟩
       ·simp only[List.length_append,List.length_cons,List.length_nil];omega
       ·intro l hl
        simp only[List.length_append,List.length_cons,List.length_nil]
        exact(i4 l hl).mono (by omega)
       ·simp only[List.length_append,List.length_cons,List.length_nil];omega
       ·simp only[hpX,List.map_append,List.length_append,List.map_cons,List.map_nil,List.length_cons,List.length_nil]
        (exact leA))
  ·have hD:devs.length=1+m:=by omega
   (repeat' ((conv=>whnf);first|refine zG ?_|apply zA|(apply zI;intro h)|exact zT));(all_goals conv=>whnf)
   refine Jn.intro (Nat×List Lk) (fun g=>⟨7,hpX raw g.1 devs g.2 [] [] 0,[(0,.op 0 0),(1,.v (.int .i64 (1+(m:Int)))),(4,.op 1 0),(5,.op 2 0)]⟩) (fun g=>g.1<=raw.length/\g.2.length<=8/\∀l,l∈g.2->GLk devs.length l) ?_ ?_
   ·(repeat' ((conv=>whnf);first|(with_reducible refine nNext raw _ _ (by omega) (by assumption) hr fun m2 p2 hm2 hp2=>?_)|refine zG ?_|apply zA|(apply zI;intro h)|exact zT));(all_goals conv=>whnf)
    have hm2':m2<=3:=by omega
    refine Lp.intro (Nat×Nat×List Lk) (fun g=>⟨7,hpX raw g.1 devs g.2.2 [] [] 0,[(0,.op 0 0),(1,.v (.int .i64 (1+(m:Int)))),(4,.op 1 0),(5,.op 2 0),(8,.v (.int .i64 g.2.1))]⟩)
     (fun g=>g.1<=raw.length/\g.2.1<=3/\g.2.2.length+g.2.1<=8/\∀l,l∈g.2.2->GLk devs.length l) (fun g=>g.2.1) (p2,m2,links) ?_ ?_ ?_
    ·exact⟨hp2,hm2',by simp only;omega,i4⟩
    ·(exact leA)
    rintro⟨p2,i,links⟩ ⟨hp2,k1,k2,k3⟩
    simp only at hp2 k1 k2 k3⊢
    rcases Nat.lt_or_ge 0 i with hi|hi
    ·obtain⟨i',rfl⟩:∃i',i=i'+1:=⟨i-1,by omega⟩
     have hi1:((i'+1:Nat):Int)-1=(i':Int):=by omega
     (repeat' ((conv=>whnf);first|(with_reducible first|refine wr_i64 hi1 (by omega) (by omega) ?_|refine nNext raw _ _ (by omega) (by assumption) hr fun m1 p1 hm1 hp1=>?_|refine in_nat (by omega) ?_|refine ix_ints [1,2,3,1000] 4 rfl rfl (by omega) fun cost hcost=>?_)|refine zG ?_|apply zA|(apply zI;intro h)|exact zT));(all_goals conv=>whnf)
     all_goals first
      |(rename_i x1 y1 z1 w1 x2 y2 z2 w2
        refine⟨(p1,i',links++[⟨x2,1+(x1:Int),cost⟩]),⟨hp1,by simp only;omega,?_,?_⟩,by simp only;omega,?_⟩
        ·simp only[List.length_append,List.length_cons,List.length_nil];omega
        ·intro l hl
         rcases List.mem_append.1 hl with hl|hl
         ·exact k3 l hl
         ·simp only[List.mem_singleton]at hl
          subst hl
          exact⟨by simp only;omega,by simp only;omega,by simp only;omega,hcost⟩
        ·simp only[hpX,List.map_append,List.length_append,List.map_cons,List.map_nil,List.length_cons,List.length_nil]
         (exact leA))
      |(refine⟨(p2,links),⟨hp2,by simp only;omega,k3⟩,?_⟩
        (exact leA))
    ·have hi0:i=0:=by omega
     subst hi0
     (repeat' ((conv=>whnf);first|refine zG ?_|apply zA|(apply zI;intro h)|exact zT));(all_goals conv=>whnf)
     refine⟨(p2,links),⟨hp2,by simp only;omega,k3⟩,?_⟩
     (exact leA)
   rintro⟨p2,links⟩ ⟨hp2,k2,k3⟩
   simp only at hp2 k2 k3⊢
   (repeat' ((conv=>whnf);first|(with_reducible first|refine nNext raw _ _ (by omega) (by assumption) hr fun m3 p3 hm3 hp3=>?_|refine in_nat (by omega) ?_|refine ix_ints [2,3,4,1,5,0] 6 rfl rfl (by omega) fun cnt hcnt=>?_)|refine zG ?_|apply zA|(apply zI;intro h)|exact zT));(all_goals conv=>whnf)
   have hcnt5:0<=cnt/\cnt<=5:=by
    simp only[List.mem_cons,List.not_mem_nil,or_false]at hcnt
    omega
   refine Lp.intro (Nat×List Ed) (fun g=>⟨7,hpX raw g.1 devs links g.2 [] 0,[(0,.op 0 0),(1,.v (.int .i64 (1+(m:Int)))),(4,.op 1 0),(5,.op 2 0),(10,.v (.int .i64 cnt)),(11,.v (.int .i64 g.2.length))]⟩)
    (fun g=>g.1<=raw.length/\(g.2.length:Int)<=cnt/\∀(i:Nat) e,g.2[i]? =some e->GEd devs.length i e) (fun g=>5-g.2.length) (p3,[]) ?_ ?_ ?_
   ·exact⟨hp3,by simp only[List.length_nil];omega,fun i e h=>by simp at h⟩
   ·(exact leA)
   rintro⟨p3,edges⟩ ⟨hp3,j1,j2⟩
   simp only at hp3 j1 j2⊢
   rcases(by omega:(edges.length:Int)<cnt\/cnt<=(edges.length:Int))with hlt|hge
   ·(repeat' ((conv=>whnf);first|refine zG ?_|apply zA|(apply zI;intro h)|exact zT));(all_goals conv=>whnf)
    refine Jn.intro (Nat×Ed) (fun g=>⟨7,hpX raw g.1 devs links (edges++[g.2]) [] 0,[(0,.op 0 0),(1,.v (.int .i64 (1+(m:Int)))),(4,.op 1 0),(5,.op 2 0),(10,.v (.int .i64 cnt)),(11,.v (.int .i64 edges.length))]⟩)
     (fun g=>g.1<=raw.length/\GEd devs.length edges.length g.2) ?_ ?_
    ·(repeat' ((conv=>whnf);first|(with_reducible first|refine nNext raw _ _ (by omega) (by assumption) hr fun m1 p1 hm1 hp1=>?_|refine in_nat (by omega) ?_|refine ix_strAt enL 5 rfl rfl (by omega) ?_|refine ix_strs zoL 3 rfl rfl (by omega) fun zone hzone=>?_|refine cnSub _ (by omega) ?_)|refine zG ?_|apply zA|(apply zI;intro h)|exact zT));(all_goals conv=>whnf)
     all_goals
      rename_i x1 y1 z1 w1
      refine⟨(p1,⟨enL.getD (0+edges.length) default,x1,zone,subL.getD edges.length noPf,false⟩),⟨hp1,⟨by rw[Nat.zero_add],by simp only;omega,by simp only;omega,hzone,rfl,rfl⟩⟩,?_⟩
      simp only[hpX,List.map_append,List.length_append,List.map_cons,List.map_nil,List.length_cons,List.length_nil]
      (exact leA)
    ·rintro⟨p4,e⟩ ⟨hp4,he⟩
     simp only at hp4 he⊢
     (repeat' ((conv=>whnf);first|refine zG ?_|apply zA|(apply zI;intro h)|exact zT));(all_goals conv=>whnf)
     refine⟨(p4,edges++[e]),⟨hp4,?_,get_snoc j2 he⟩,?_,?_⟩
     ·simp only[List.length_append,List.length_cons,List.length_nil];omega
     ·simp only[List.length_append,List.length_cons,List.length_nil];omega
     ·simp only[List.length_append,List.length_cons,List.length_nil]
      (exact leA)
   ·(repeat' ((conv=>whnf);first|(with_reducible first|refine nNext raw _ _ (by omega) (by assumption) hr fun m1 p1 hm1 hp1=>?_|refine in_nat (by omega) ?_|refine ix_ints [0,1,0,1,2] 5 rfl rfl (by omega) fun tol htol=>?_)|refine zG ?_|apply zA|(apply zI;intro h)|exact zT));(all_goals conv=>whnf)
    all_goals
     have he5:edges.length<=5:=by omega
     have gt:∀pools,(pools=[]\/pools=[pool1]\/pools=[pool2]\/pools=[pool1,pool2])->GTop ⟨devs,links,edges,pools,tol⟩:=fun pools h=>⟨by simp only;omega,by simp only;omega,i2,k2,k3,he5,j2,h,htol⟩
     have hdm:devs.length<=max n0 1:=by omega
    ·exact hK ⟨devs,links,edges,[pool1,pool2],tol⟩ p1 (gt _ (.inr (.inr (.inr rfl)))) hdm hp1
    ·exact hK ⟨devs,links,edges,[pool1],tol⟩ p1 (gt _ (.inr (.inl rfl))) hdm hp1
    ·exact hK ⟨devs,links,edges,[pool2],tol⟩ p1 (gt _ (.inr (.inr (.inl rfl)))) hdm hp1
    ·exact hK ⟨devs,links,edges,[],tol⟩ p1 (gt _ (.inl rfl)) hdm hp1
theorem cnCopy(t:Tp)(ht:t.devs.length<1000000/\t.links.length<1000000/\t.edges.length<1000000/\t.pools.length<1000000){K:KT}
  (hK:K (.agg [.os 0 5 0 t.devs.length,.os 1 3 0 t.links.length,.os 2 6 0 t.edges.length,.os 3 2 0 t.pools.length,.v (.int .i64 t.tol)]) [.arr 5 (t.devs.map encD),.arr 3 (t.links.map encL),.arr 6 (t.edges.map encE),.arr 2 (t.pools.map encP)]):
  ACall Tryz.prog 26 [encT t] [] K:=by
 obtain⟨t1,t2,t3,t4⟩:=ht
 refine ofnCopy rfl rfl ?_
 (repeat' ((conv=>whnf);first|refine zG ?_|apply zA|(apply zI;intro h)|exact zT));(all_goals conv=>whnf)
 simp only[Nat.zero_add,List.length_map,List.nil_append]
 exact hK
theorem cnAddr(raw:List Int)(pos:Nat)(hp:pos<=raw.length)(hr:raw.length<=9223372036854775807){K:KT}
  (hK:∀(a:Int) (pos':Nat),0<=a->a<=4294967295->pos'<=raw.length->K (.v (.int .u32 a)) [tapeO raw pos']):ACall Tryz.prog 68 [.op 0 0] [tapeO raw pos] K:=by
 refine ofnAddr rfl rfl ?_
 (repeat' ((conv=>whnf);first|(with_reducible first|refine nNext raw _ _ (by omega) (by assumption) hr fun m1 p1 hm1 hp1=>?_|refine in_nat (by omega) ?_|refine cnSub _ (by omega) ?_|refine crOf _ ?_|refine wr_u32_any fun r r0 r1=>?_)|refine zG ?_|apply zA|(apply zI;intro h)|exact zT));(all_goals conv=>whnf)
 all_goals refine ix_all IsU32 ?_ (by simp only[List.length_cons,List.length_nil];omega) ?_
 all_goals first
  |(rintro _ ⟨y,rfl,y0,y1⟩
    (repeat' ((conv=>whnf);first|refine zG ?_|apply zA|(apply zI;intro h)|exact zT));(all_goals conv=>whnf)
    exact hK y _ y0 y1 (by assumption))
  |(simp only[List.forall_mem_cons]
    (repeat' apply And.intro)<;>first|exact⟨_,rfl,by assumption,by assumption⟩|exact⟨_,rfl,Rg.l0 _,Rg.l1 _⟩|exact⟨_,rfl,Rg.h0 _,Rg.h1 _⟩|exact⟨_,rfl,by decide,by decide⟩|(intro _ h;cases h))
noncomputable def compB(t:Tp):Bool:=topB t&& !(t.edges.any fun e=>e.pl)
theorem fixed_len_iff(l:List Ed):(fixed l).length=l.length↔(l.any fun e=>e.pl)=false:=by
 rw[fixed,List.length_map,List.length_filter_eq_length_iff,List.any_eq_false]
 exact⟨fun h e he=>by simpa using h e he,fun h e he=>by simpa using h e he⟩
theorem compB_iff{t:Tp}:compB t=true↔TopOk t/\∀e,e∈t.edges->e.pl=false:=by
 unfold compB
 rw[Bool.and_eq_true,topB_iff,Bool.not_eq_true',List.any_eq_false]
 exact⟨fun h=>⟨h.1,fun e he=>by simpa using h.2 e he⟩,fun h=>⟨h.1,fun e he=>by simpa using h.2 e he⟩⟩
theorem cuCompB(t:Tp)(hl:t.edges.length<1000000){K:KT}(hK:K (.sb (compB t)) []):ACall Tryz.prog 61 [encT t] [] K:=by
 have hf:=fixed_len_iff t.edges
 refine ACall.bool (ofuComp rfl rfl ?_)
 unfold compB at hK
 (repeat' ((conv=>whnf);first|(with_reducible first|refine cuVal t ?_|refine cuFixed t hl ?_)|refine zG ?_|apply zA|(apply zI;intro h)|exact zT));(all_goals conv=>whnf)
 ·refine fin_s hK ?_
  rw[h,Bool.true_and,List.length_map,List.length_map]
  cases hp:t.edges.any fun e=>e.pl with
  |false=>rw[decide_eq_true (by rw[hf.2 hp])];rfl
  |true=>rw[decide_eq_false (fun e=>by have:=hf.1 (by omega);rw[hp]at this;cases this)];rfl
 ·exact fin_f hK (by rw[h];rfl)
theorem cixEdge0(l:List Ed)(f:FuncId)(p:Ed->Bool)(hF:∀(x:Ed) (K:AV->List Vm.Obj->Prop),K (.sb (p x)) []->ACall Tryz.prog f [encE x] [] K)(hl:l.length<1000000){K:KT}(hK:K (.v (.int .i64 (firstIx p l))) []):
  ACall Tryz.prog 153 [.lst (l.map encE),.fn (.func f) [] []] [] K:=by
 refine ofixEdge rfl rfl ?_
 (repeat' ((conv=>whnf);first|refine zG ?_|apply zA|(apply zI;intro h)|exact zT));(all_goals conv=>whnf)
 refine Lp.intro Nat (fun k=>⟨0,[],[(0,.lst (l.map encE)),(1,.fn (.func f) [] []),(7,.v (.int .i64 (l.map encE).length)),(8,.v (.int .i64 k))]⟩) (fun k=>k<=l.length/\∀(i:Nat) y,i<k->l[i]? =some y->p y=false) (fun k=>l.length-k) 0 ?_ ?_ ?_
 ·exact⟨Nat.zero_le _,fun i y hi=>absurd hi (Nat.not_lt_zero _)⟩
 ·(exact leA)
 ·intro k ⟨hk,hinv⟩
  rcases Nat.lt_or_ge k l.length with hkl|hkl
  ·obtain⟨r,hr⟩:=gex hkl
   (repeat' ((conv=>whnf);first|(with_reducible first|refine in_map hkl ?_|refine ix_map hr ?_|refine hF r _ ?_)|refine zG ?_|apply zA|(apply zI;intro h)|exact zT));(all_goals conv=>whnf)
   ·rw[firstIx_at hr h hinv]at hK;exact hK
   ·refine⟨k+1,⟨by omega,before_succ hr h hinv⟩,by omega,?_⟩
    rw[Int.natCast_add,Int.natCast_one]
    (exact leA)
  ·(repeat' ((conv=>whnf);first|refine zG ?_|apply zA|(apply zI;intro h)|exact zT));(all_goals conv=>whnf)
   rw[firstIx_none (before_all hkl hinv)]at hK
   exact hK
theorem firstIx_any{α:Type}(p:α->Bool)(l:List α):decide (0<=firstIx p l)=l.any p:=by
 rw[Bool.eq_iff_iff,List.any_eq_true,decide_eq_true_eq]
 constructor
 ·intro h
  unfold firstIx at h
  split at h
  ·rename_i i hi
   rw[List.findIdx?_eq_some_iff_getElem]at hi
   obtain⟨h1,h2,_⟩:=hi
   exact⟨_,List.getElem_mem h1,h2⟩
  ·omega
 ·rintro⟨x,hx,hp⟩
  unfold firstIx
  split
  ·omega
  ·rename_i hn
   rw[List.findIdx?_eq_none_iff]at hn
   have:=hn x hx
   simp_all
theorem ctCom1(e:Ed){K:KT}(hK:K (.sb e.pl) []):ACall Tryz.prog 107 [encE e] [] K:=by
 refine oftCom1 rfl rfl ?_
 (repeat' ((conv=>whnf);first|refine zG ?_|apply zA|(apply zI;intro h)|exact zT));(all_goals conv=>whnf)
 exact hK
theorem canyEdge(l:List Ed)(hl:l.length<1000000){K:KT}(hK:K (.sb (l.any fun e=>e.pl)) []):
  ACall Tryz.prog 106 [.lst (l.map encE),.fn (.func 107) [] []] [] K:=by
 refine ACall.bool (ofanyEdge rfl rfl ?_)
 (repeat' ((conv=>whnf);first|(with_reducible refine cixEdge0 _ _ (fun e=>e.pl) (fun x K h=>ctCom1 x h) hl ?_)|refine zG ?_|apply zA|(apply zI;intro h)|exact zT));(all_goals conv=>whnf)
 exact fin_s hK (firstIx_any _ _).symm
theorem ctComp(t:Tp)(hl:t.edges.length<1000000){K:KT}(hK:K (.sb (compB t)) []):ACall Tryz.prog 57 [encT t] [] K:=by
 refine ACall.bool (oftComp rfl rfl ?_)
 unfold compB at hK
 (repeat' ((conv=>whnf);first|(with_reducible first|refine ctVal t ?_|refine canyEdge t.edges hl ?_)|refine zG ?_|apply zA|(apply zI;intro h)|exact zT));(all_goals conv=>whnf)
 ·exact fin_s hK (by rw[h];rfl)
 ·exact fin_f hK (by rw[h];rfl)
structure Insp where
 cls:ByteArray
 set:List Bx
structure Pol where
 allow:List Bx
 insp:List Insp
noncomputable abbrev encIn(x:Insp):AV:=.agg [.v (.string x.cls),encXs x.set]
noncomputable abbrev encPol(p:Pol):AV:=.agg [encXs p.allow,.lst (p.insp.map encIn)]
noncomputable abbrev boxPol(p:Pol):Vm.Obj:=.box [encXs p.allow,.lst (p.insp.map encIn)]
def whoB(p q:Pf):Bx:=⟨p.rg,q.rg,fullB.r2,fullB.r3,fullB.r4⟩
def pairsAt(es:List Ed)(a:Nat)(ea:Ed)(n:Nat):List Bx:=((es.take n).zipIdx.filter fun q=>decide (a≠q.2)).map fun q=>whoB ea.pf q.1.pf
def pairsTo(es:List Ed)(n:Nat):List Bx:=((es.take n).zipIdx).flatMap fun q=>pairsAt es q.2 q.1 es.length
def pairsB(es:List Ed):List Bx:=pairsTo es es.length
theorem zip_succ{α:Type}{l:List α}{k:Nat}{x:α}(h:l[k]? =some x):(l.take (k+1)).zipIdx=(l.take k).zipIdx++[(x,k)]:=by
 have hk:=(List.getElem?_eq_some_iff.1 h).1
 rw[List.take_add_one,h,List.zipIdx_append]
 simp[Nat.min_eq_left (Nat.le_of_lt hk)]
theorem pairsAt_succ{es:List Ed}{a n:Nat}{ea e:Ed}(h:es[n]? =some e):pairsAt es a ea (n+1)=pairsAt es a ea n++(if a=n then []else [whoB ea.pf e.pf]):=by
 rw[pairsAt,zip_succ h,List.filter_append,List.map_append,pairsAt]
 congr 1
 by_cases hc:a=n
 ·simp[hc]
 ·simp[hc]
theorem pairsTo_succ{es:List Ed}{a:Nat}{ea:Ed}(h:es[a]? =some ea):pairsTo es (a+1)=pairsTo es a++pairsAt es a ea es.length:=by
 rw[pairsTo,zip_succ h,List.flatMap_append,pairsTo]
 simp
theorem pairsAt_len(es:List Ed)(a:Nat)(ea:Ed)(n:Nat):(pairsAt es a ea n).length<=n:=by
 rw[pairsAt,List.length_map]
 refine Nat.le_trans (List.length_filter_le ..) ?_
 rw[List.length_zipIdx,List.length_take];omega
theorem pairsTo_len(es:List Ed):∀n,(pairsTo es n).length<=n*es.length
 |0=>by simp[pairsTo]
 |n+1=>by
  rcases Nat.lt_or_ge n es.length with h|h
  ·rw[pairsTo_succ (List.getElem?_eq_getElem h),List.length_append,Nat.succ_mul]
   have:=pairsAt_len es n (es[n]) es.length
   have:=pairsTo_len es n
   omega
  ·have e:pairsTo es (n+1)=pairsTo es n:=by rw[pairsTo,pairsTo,List.take_of_length_le (by omega),List.take_of_length_le h]
   rw[e]
   have:=pairsTo_len es n
   rw[Nat.succ_mul];omega
def subB(a b:List Bx):Bool:=(cano woB 5 (vldB a) (vldB b)).isEmpty
noncomputable def pairP(t:Tp)(p:Pol)(a b:Int):List Bx×Int:=
 if compB t=false then([],1)else if a<0\/(t.edges.length:Int)<=a\/b<0\/(t.edges.length:Int)<=b then([],2)else if a=b then([],0)else
  match t.edges[a.toNat]?,t.edges[b.toNat]? with
  |some ea,some eb=>combP anB p.allow [whoB ea.pf eb.pf]
  |_,_=>([],0)
theorem combP_len(op:Bool->Bool->Bool)(a b:List Bx):(combP op a b).1.length<=4096:=by
 unfold combP
 split
 ·exact Nat.zero_le _
 ·split
  ·exact Nat.zero_le _
  ·simp only[limP]
   split
   ·exact Nat.zero_le _
   ·omega
def leS(s t:ByteArray):Bool:=Op.bytesLess s.toList t.toList||s.toList==t.toList
def disjS(a b:List Bx):Prop:=∀x,x∈a->∀y,y∈b->¬meetX x y
structure InOk (p:Pol) (n:Nat) (x:Insp):Prop where
 name:nameOk x.cls
 ord:∀k y,n=k+1->p.insp[k]? =some y->leS x.cls y.cls=false
 ne:x.set≠[]
 set:setB x.set=true
 sub:subB x.set p.allow=true
 disj:∀k y,k<n->p.insp[k]? =some y->disjS x.set y.set
structure PolOk (t:Tp) (p:Pol):Prop where
 comp:compB t=true
 set:setB p.allow=true
 sub:subB p.allow (pairsB t.edges)=true
 init:subB p.allow initS=true
 insp:∀n x,p.insp[n]? =some x->InOk p n x
open Classical in
noncomputable def polB(t:Tp)(p:Pol):Bool:=decide (PolOk t p)
theorem polB_true{t:Tp}{p:Pol}(h:PolOk t p):polB t p=true:=by simp[polB,h]
theorem polB_false{t:Tp}{p:Pol}(h:¬PolOk t p):polB t p=false:=by simp[polB,h]
theorem polB_iff{t:Tp}{p:Pol}:polB t p=true↔PolOk t p:=by simp[polB]
theorem combP_set{op:Bool->Bool->Bool}{a b:List Bx}(ha:setB a=true)(hb:setB b=true):combP op a b=(limP (cano op 5 a b),limE (cano op 5 a b)):=by
 unfold combP givP
 simp[ha,hb]
theorem lim_empty(c:List Bx):(limE c≠0\/0<(limP c).length)↔c≠[]:=by
 unfold limE limP
 by_cases h:4096<c.length
 ·simp only[h,if_true]
  constructor
  ·intro _ e;rw[e]at h;simp at h
  ·intro _;left;decide
 ·simp only[h,if_false]
  cases c with
  |nil=>simp
  |cons x l=>simp
theorem disj_iff{a b:List Bx}(ha:setB a=true)(hb:setB b=true):cano anB 5 a b=[]↔disjS a b:=cano_disj (okL_set ha) (okL_set hb)
theorem filter_two{α:Type}(p:α->Bool):∀l:List α,(l.filter p).length+(l.filter fun q=> !p q).length=l.length
 |[]=>rfl
 |x::l=>by
  have:=filter_two p l
  cases hp:p x<;>simp[hp]<;>omega
theorem pairs_len5{es:List Ed}(h:es.length<=5):(pairsTo es es.length).length<=20:=by
 have hat:∀(a:Nat) (ea:Ed),a<es.length->(pairsAt es a ea es.length).length+1<=es.length:=by
  intro a ea ha
  rw[pairsAt,List.length_map,List.take_length]
  have h1:((es.zipIdx.filter fun q=>decide (a≠q.2)).length:Nat)+(es.zipIdx.filter fun q=> !decide (a≠q.2)).length=es.zipIdx.length:=by
   exact filter_two _ _
  have h2:1<=(es.zipIdx.filter fun q=> !decide (a≠q.2)).length:=by
   refine List.length_pos_iff.2 fun e=>?_
   have:(es[a],a)∈es.zipIdx.filter fun q=> !decide (a≠q.2):=List.mem_filter.2 ⟨List.mem_zipIdx_iff_getElem?.2 (by simp),by simp⟩
   rw[e]at this;cases this
  rw[List.length_zipIdx]at h1
  omega
 have go:∀n,n<=es.length->(pairsTo es n).length<=n*(es.length-1):=by
  intro n
  induction n with
  |zero=>intro _;simp[pairsTo]
  |succ n ih=>
   intro hn
   rw[pairsTo_succ (List.getElem?_eq_getElem (show n<es.length by omega)),List.length_append,Nat.succ_mul]
   have:=hat n (es[n]) (by omega)
   have:=ih (by omega)
   omega
 have h1:=go es.length (Nat.le_refl _)
 have h2:es.length*(es.length-1)<=5*4:=Nat.mul_le_mul h (by omega)
 omega
abbrev isecR(r s:Rg):Rg:=⟨max r.lo s.lo,min r.hi s.hi,by have:=r.l0;omega,by have:=r.l1;have:=s.l1;omega,by have:=r.h0;have:=s.h0;omega,by have:=r.h1;omega⟩
abbrev isecX(x y:Bx):Bx:=⟨isecR x.r0 y.r0,isecR x.r1 y.r1,isecR x.r2 y.r2,isecR x.r3 y.r3,isecR x.r4 y.r4⟩
theorem cr3Isec(x y:Bx){K:KT}(hK:K (.tup [encX (if x.ok/\y.ok/\(isecX x y).ok then isecX x y else zB),.sb (decide (x.ok/\y.ok/\(isecX x y).ok))]) []):ACall Tryz.prog 138 [encX x,encX y] [] K:=by
 refine ACall.weak (ofr3Isec rfl rfl ?_)
 (repeat' ((conv=>whnf);first|(with_reducible refine Lp.times 6 ?_)|(refine in_c (by decide) ?_)|(with_reducible first|refine cr3Val x ?_|refine cr3Val y ?_)|(refine cr3Val (isecX x y) ?_)|refine zG ?_|apply zA|(apply zI;intro h)|exact zT));(all_goals conv=>whnf)
 ·rename_i h1 h2
  rw[if_pos ⟨h1,h2,h⟩,decide_eq_true ⟨h1,h2,h⟩]at hK
  exact⟨_,Weak.tup2 Weak.refl Weak.bool,hK⟩
 all_goals
  rw[if_neg (by simp_all),decide_eq_false (by simp_all)]at hK
  exact⟨_,Weak.tup2 Weak.refl Weak.bool,hK⟩
theorem meet_ok{x y:Bx}(hx:x.ok)(hy:y.ok):(x.ok/\y.ok/\(isecX x y).ok)↔meetX x y:=by
 have h1:=ok_get hx
 have h2:=ok_get hy
 have x0:=h1 0 (by omega);have x1:=h1 1 (by omega);have x2:=h1 2 (by omega);have x3:=h1 3 (by omega);have x4:=h1 4 (by omega)
 have y0:=h2 0 (by omega);have y1:=h2 1 (by omega);have y2:=h2 2 (by omega);have y3:=h2 3 (by omega);have y4:=h2 4 (by omega)
 simp only[Bx.get,topF]at x0 x1 x2 x3 x4 y0 y1 y2 y3 y4
 have e:(isecX x y).ok↔((max x.r0.lo y.r0.lo<=min x.r0.hi y.r0.hi/\min x.r0.hi y.r0.hi<=4294967295)/\(max x.r1.lo y.r1.lo<=min x.r1.hi y.r1.hi/\min x.r1.hi y.r1.hi<=4294967295)/\(max x.r2.lo y.r2.lo<=min x.r2.hi y.r2.hi/\min x.r2.hi y.r2.hi<=255)/\(max x.r3.lo y.r3.lo<=min x.r3.hi y.r3.hi/\min x.r3.hi y.r3.hi<=65535)/\(max x.r4.lo y.r4.lo<=min x.r4.hi y.r4.hi/\min x.r4.hi y.r4.hi<=65535)):=Iff.rfl
 constructor
 ·rintro⟨_,_,h⟩
  rw[e]at h
  intro f hf
  obtain rfl|rfl|rfl|rfl|rfl:f=0\/f=1\/f=2\/f=3\/f=4:=by omega
  all_goals(simp only[Bx.get];omega)
 ·intro h
  have z0:=h 0 (by omega);have z1:=h 1 (by omega);have z2:=h 2 (by omega);have z3:=h 3 (by omega);have z4:=h 4 (by omega)
  simp only[Bx.get]at z0 z1 z2 z3 z4
  exact⟨hx,hy,e.2 (by omega)⟩
theorem okL_ok{l:List Bx}(h:okL l){x:Bx}(hx:x∈l):x.ok:=by
 have h0:=h x hx 0 (by omega);have h1:=h x hx 1 (by omega);have h2:=h x hx 2 (by omega);have h3:=h x hx 3 (by omega);have h4:=h x hx 4 (by omega)
 exact⟨h0,h1,h2,h3,h4⟩
open Classical in
theorem cvDisj(a b:List Bx)(hoa:okL a)(hob:okL b)(ha:a.length<1000000000)(hb:b.length<1000000000){K:KT}(hK:K (.sb (decide (disjS a b))) []):ACall Tryz.prog 94 [encXs a,encXs b] [] K:=by
 refine ACall.bool (ofvDisj rfl rfl ?_)
 (repeat' ((conv=>whnf);first|refine zG ?_|apply zA|(apply zI;intro h)|exact zT));(all_goals conv=>whnf)
 refine Lp.intro Nat (fun i=>⟨0,[],[(0,encXs a),(1,encXs b),(5,.v (.int .i64 i))]⟩) (fun i=>i<=a.length/\∀(j:Nat) x,j<i->a[j]? =some x->∀y,y∈b->¬meetX x y) (fun i=>a.length-i) 0 ⟨Nat.zero_le _,fun j x h=>absurd h (Nat.not_lt_zero _)⟩ ?_ ?_
 ·(exact leA)
 intro i ⟨hi,hinv⟩
 rcases Nat.lt_or_ge i a.length with hil|hil
 ·obtain⟨x,hx⟩:=gex hil
  have hxo:=okL_ok hoa (List.mem_of_getElem? hx)
  (repeat' ((conv=>whnf);first|refine zG ?_|apply zA|(apply zI;intro h)|exact zT));(all_goals conv=>whnf)
  refine Lp.intro Nat (fun k=>⟨0,[],[(0,encXs a),(1,encXs b),(5,.v (.int .i64 i)),(6,.v (.int .i64 k))]⟩) (fun k=>k<=b.length/\∀(j:Nat) y,j<k->b[j]? =some y->¬meetX x y) (fun k=>b.length-k) 0 ⟨Nat.zero_le _,fun j x h=>absurd h (Nat.not_lt_zero _)⟩ ?_ ?_
  ·(exact leA)
  intro k ⟨hk,hinv2⟩
  rcases Nat.lt_or_ge k b.length with hkl|hkl
  ·obtain⟨y,hy⟩:=gex hkl
   have hyo:=okL_ok hob (List.mem_of_getElem? hy)
   have hm:=meet_ok hxo hyo
   (repeat' ((conv=>whnf);first|(with_reducible first|refine in_map hil ?_|refine in_map hkl ?_|refine ix_map hx ?_|refine ix_map hy ?_|refine cr3Isec x y ?_)|refine zG ?_|apply zA|(apply zI;intro h)|exact zT));(all_goals conv=>whnf)
   all_goals first
    |exact fin_f hK (decide_eq_false fun hd=>hd x (List.mem_of_getElem? hx) y (List.mem_of_getElem? hy) (hm.1 h))
    |(refine⟨k+1,⟨hkl,all_succ hy (fun hc=>h (hm.2 hc)) hinv2⟩,by omega,?_⟩
      rw[Int.natCast_add,Int.natCast_one]
      (exact leA))
  ·(repeat' ((conv=>whnf);first|refine zG ?_|apply zA|(apply zI;intro h)|exact zT));(all_goals conv=>whnf)
   refine⟨i+1,⟨hil,all_succ hx (fun y hy=>?_) hinv⟩,by omega,?_⟩
   ·obtain⟨j,hj⟩:=List.mem_iff_getElem?.1 hy
    exact before_all hkl hinv2 j y hj
   ·rw[Int.natCast_add,Int.natCast_one]
    (exact leA)
 ·(repeat' ((conv=>whnf);first|refine zG ?_|apply zA|(apply zI;intro h)|exact zT));(all_goals conv=>whnf)
  refine fin_t hK (decide_eq_true fun x hx y hy=>?_)
  obtain⟨j,hj⟩:=List.mem_iff_getElem?.1 hx
  exact before_all hil hinv j x hj y hy
theorem cvWho(t:Tp)(a b:Nat)(ea eb:Ed)(ha:t.edges[a]? =some ea)(hb:t.edges[b]? =some eb){K:KT}(hK:K (encX (whoB ea.pf eb.pf)) []):ACall Tryz.prog 62 [encT t,.v (.int .i64 a),.v (.int .i64 b)] [] K:=by
 have hal:=(List.getElem?_eq_some_iff.1 ha).1
 have hbl:=(List.getElem?_eq_some_iff.1 hb).1
 refine ofvWho rfl rfl ?_
 (repeat' ((conv=>whnf);first|(with_reducible first|refine cr3Full ?_|refine in_map hal ?_|refine in_map hbl ?_|refine ix_map ha ?_|refine ix_map hb ?_|refine crOf _ ?_)|(refine in_c (by decide) ?_)|refine zG ?_|apply zA|(apply zI;intro h)|exact zT));(all_goals conv=>whnf)
 exact hK
theorem cvReal(t:Tp)(l:List Bx)(hl:t.edges.length<=5)(hs:setB l=true){K:KT}(hK:K (.sb (subB l (pairsB t.edges)&&subB l initS)) []):ACall Tryz.prog 91 [encT t,encXs l] [] K:=by
 have hps:=setB_pset hs
 have hvl:vldB l=l:=List.filter_eq_self.2 fun x hx=>by simpa using okL_ok (okL_set hs) hx
 have hpl:(pairsB t.edges).length<=20:=by
  rw[pairsB]
  have:=pairs_len5 hl
  exact this
 have hll:=hps.len
 have hi8:initS.length=8:=rfl
 have hsub1:∀{K:KT},K (.sb (subB l (pairsB t.edges))) []->ACall Tryz.prog 93 [encXs l,encXs (pairsTo t.edges t.edges.length)] [] K:=fun h=>cr4Subs l (pairsB t.edges) (by omega) (by rw[hvl];exact room1 _ hps (Nat.le_trans (vldB_len _) hpl)) h
 have hsub2:∀{K:KT},K (.sb (subB l initS)) []->ACall Tryz.prog 93 [encXs l,encXs initS] [] K:=fun h=>cr4Subs _ _ (by omega) (by rw[hvl];exact room1 _ hps (Nat.le_trans (vldB_len _) (by decide))) h
 refine ACall.bool (ofvReal rfl rfl ?_)
 (repeat' ((conv=>whnf);first|refine zG ?_|apply zA|(apply zI;intro h)|exact zT));(all_goals conv=>whnf)
 refine Lp.intro Nat (fun a=>⟨2,[(1,.arr 10 ((pairsTo t.edges a).map encX)),(0,boxT t)],[(1,encXs l),(2,.op 0 0),(5,.os 1 10 0 (pairsTo t.edges a).length),(6,.v (.int .i64 a))]⟩) (fun a=>a<=t.edges.length) (fun a=>t.edges.length-a) 0 (Nat.zero_le _) ?_ ?_
 ·(exact leA)
 intro a ha
 have hl1:=pairsTo_len t.edges a
 have hl2:a*t.edges.length<=5*5:=Nat.mul_le_mul (by omega) (by omega)
 rcases Nat.lt_or_ge a t.edges.length with hal|hal
 ·obtain⟨ea,hea⟩:=gex hal
  (repeat' ((conv=>whnf);first|refine zG ?_|apply zA|(apply zI;intro h)|exact zT));(all_goals conv=>whnf)
  refine Lp.intro Nat (fun b=>⟨2,[(1,.arr 10 ((pairsTo t.edges a++pairsAt t.edges a ea b).map encX)),(0,boxT t)],[(1,encXs l),(2,.op 0 0),(5,.os 1 10 0 (pairsTo t.edges a++pairsAt t.edges a ea b).length),(6,.v (.int .i64 a)),(7,.v (.int .i64 b))]⟩) (fun b=>b<=t.edges.length) (fun b=>t.edges.length-b) 0 (Nat.zero_le _) ?_ ?_
  ·rw[show pairsAt t.edges a ea 0=[]from rfl,List.append_nil]
   (exact leA)
  intro b hb
  have hl3:=pairsAt_len t.edges a ea b
  rcases Nat.lt_or_ge b t.edges.length with hbl|hbl
  ·obtain⟨eb,heb⟩:=gex hbl
   have hs:=pairsAt_succ (a:=a) (ea:=ea) heb
   have hlen:(pairsTo t.edges a++pairsAt t.edges a ea b).length<=100:=by rw[List.length_append];omega
   have hap:pairsTo t.edges a++pairsAt t.edges a ea (b+1)=(pairsTo t.edges a++pairsAt t.edges a ea b)++(if a=b then []else [whoB ea.pf eb.pf]):=by rw[hs,List.append_assoc]
   generalize hA:pairsTo t.edges a++pairsAt t.edges a ea b=A at*
   generalize hB:pairsTo t.edges a++pairsAt t.edges a ea (b+1)=B at*
   (repeat' ((conv=>whnf);first|(with_reducible refine cvWho t a b ea eb hea heb ?_)|refine zG ?_|apply zA|(apply zI;intro h)|exact zT));(all_goals conv=>whnf)
   all_goals
    refine⟨b+1,hbl,by omega,?_⟩
    first
     |(rw[if_neg (by omega)]at hap
       rw[hB,hap,List.map_append,List.length_append,Int.natCast_add b,Int.natCast_one]
       (exact leA)
       done)
     |(rw[if_pos (by omega),List.append_nil]at hap
       rw[hB,hap,Int.natCast_add b,Int.natCast_one]
       (exact leA)
       done)
  ·(repeat' ((conv=>whnf);first|refine zG ?_|apply zA|(apply zI;intro h)|exact zT));(all_goals conv=>whnf)
   have hbe:b=t.edges.length:=by omega
   rw[hbe,<-pairsTo_succ hea]
   refine⟨a+1,hal,by omega,?_⟩
   rw[Int.natCast_add a,Int.natCast_one]
   (exact leA)
 ·have hae:a=t.edges.length:=by omega
  rw[hae]
  have hfull:((pairsTo t.edges t.edges.length).map encX).length=(pairsTo t.edges t.edges.length).length:=List.length_map ..
  (repeat' ((conv=>whnf);first|(with_reducible first|refine sl_full hfull ?_|refine hsub1 ?_|refine cr4Init ?_|refine hsub2 ?_)|refine zG ?_|apply zA|(apply zI;intro h)|exact zT));(all_goals conv=>whnf)
  all_goals first
   |exact fin_s hK (by simp_all)
   |exact fin_f hK (by simp_all)
   |exact fin_t hK (by simp_all)
theorem cvPair(t:Tp)(p:Pol)(a b:Int)(hl:t.edges.length<1000000)(hal:p.allow.length<1000000000){K:KT}(hK:K (.tup [encXs (pairP t p a b).1,.v (.int .i64 (pairP t p a b).2)]) []):ACall Tryz.prog 24 [encT t,encPol p,.v (.int .i64 a),.v (.int .i64 b)] [] K:=by
 refine ACall.weak (ofvPair rfl rfl ?_)
 unfold pairP at hK
 by_cases hc:compB t=false
 ·rw[if_pos hc]at hK
  (repeat' ((conv=>whnf);first|(with_reducible refine cuCompB t hl ?_)|refine zG ?_|apply zA|(apply zI;intro h)|exact zT));(all_goals conv=>whnf)
  all_goals first
   |exact⟨_,Weak.tup2 Weak.nils Weak.refl,hK⟩
   |(exfalso;simp_all;done)
 rw[if_neg hc]at hK
 have hct:compB t=true:=by simpa using hc
 by_cases hr:a<0\/(t.edges.length:Int)<=a\/b<0\/(t.edges.length:Int)<=b
 ·rw[if_pos hr]at hK
  (repeat' ((conv=>whnf);first|(with_reducible refine cuCompB t hl ?_)|refine zG ?_|apply zA|(apply zI;intro h)|exact zT));(all_goals conv=>whnf)
  all_goals first
   |exact⟨_,Weak.tup2 Weak.nils Weak.refl,hK⟩
   |(exfalso;simp only[List.length_map]at*;simp_all;done)
   |(exfalso;simp only[List.length_map]at*;omega)
 rw[if_neg hr]at hK
 by_cases he:a=b
 ·rw[if_pos he]at hK
  (repeat' ((conv=>whnf);first|(with_reducible refine cuCompB t hl ?_)|refine zG ?_|apply zA|(apply zI;intro h)|exact zT));(all_goals conv=>whnf)
  all_goals first
   |exact⟨_,Weak.tup2 Weak.nils Weak.refl,hK⟩
   |(exfalso;simp only[List.length_map]at*;simp_all;done)
   |(exfalso;simp only[List.length_map]at*;omega)
 rw[if_neg he]at hK
 obtain⟨i,rfl⟩:=Int.eq_ofNat_of_zero_le (show 0<=a by omega)
 obtain⟨j,rfl⟩:=Int.eq_ofNat_of_zero_le (show 0<=b by omega)
 have hil:i<t.edges.length:=by omega
 have hjl:j<t.edges.length:=by omega
 obtain⟨ea,hea⟩:=gex hil
 obtain⟨eb,heb⟩:=gex hjl
 simp only[Int.toNat_natCast,hea,heb]at hK
 have hint:∀{K:KT},K (.tup [encXs (combP anB p.allow [whoB ea.pf eb.pf]).1,.v (.int .i64 (combP anB p.allow [whoB ea.pf eb.pf]).2)]) []->ACall Tryz.prog 39 [encXs p.allow,.lst [encX (whoB ea.pf eb.pf)]] [] K:=fun h=>cr4Int p.allow [whoB ea.pf eb.pf] hal (by simp) h
 (repeat' ((conv=>whnf);first|(with_reducible first|refine cuCompB t hl ?_|refine cvWho t i j ea eb hea heb ?_|refine hint ?_)|refine zG ?_|apply zA|(apply zI;intro h)|exact zT));(all_goals conv=>whnf)
 all_goals first
  |exact⟨_,Weak.refl,hK⟩
  |(exfalso;simp only[List.length_map]at*;simp_all;done)
  |(exfalso;simp only[List.length_map]at*;omega)
theorem cvVal(t:Tp)(p:Pol)(hl:t.edges.length<1000)(h5:compB t=true->t.edges.length<=5)(hal:p.allow.length<1000000000)(hil:p.insp.length<1000000000)(hsl:∀x,x∈p.insp->x.set.length<1000000000){K:KT}(hK:K (.sb (polB t p)) []):ACall Tryz.prog 45 [encT t,encPol p] [] K:=by
 refine ACall.bool (ofvVal rfl rfl ?_)
 by_cases hcs:compB t=true/\setB p.allow=true
 case neg=>
  have hf:polB t p=false:=polB_false fun hp=>hcs ⟨hp.comp,hp.set⟩
  (repeat' ((conv=>whnf);first|(with_reducible first|refine cuCompB t (by omega) ?_|refine cr4Vald p.allow hal ?_)|refine zG ?_|apply zA|(apply zI;intro h)|exact zT));(all_goals conv=>whnf)
  all_goals first
   |exact fin_f hK hf
   |(exfalso;exact hcs ⟨by assumption,by assumption⟩)
 obtain⟨hc1,hc2⟩:=hcs
 have hps:=setB_pset hc2
 have hva:vldB p.allow=p.allow:=List.filter_eq_self.2 fun x hx=>by simpa using okL_ok (okL_set hc2) hx
 have hreal:∀{K:KT},K (.sb (subB p.allow (pairsB t.edges)&&subB p.allow initS)) []->ACall Tryz.prog 91 [encT t,encXs p.allow] [] K:=fun h=>cvReal t p.allow (h5 hc1) hc2 h
 (repeat' ((conv=>whnf);first|(with_reducible first|refine cuCompB t (by omega) ?_|refine cr4Vald p.allow hal ?_|refine hreal ?_)|refine zG ?_|apply zA|(apply zI;intro h)|exact zT));(all_goals conv=>whnf)
 all_goals first
  |exact fin_f hK (polB_false fun hp=>by have h1:=hp.comp;have h2:=hp.set;have h3:=hp.sub;have h4:=hp.init;simp_all)
  |skip
 obtain⟨hc3,hc4⟩:=Bool.and_eq_true_iff.1 h
 clear h
 have hbad:∀{n:Nat} {x:Insp},p.insp[n]? =some x->¬InOk p n x->polB t p=false:=fun hx hb=>polB_false fun hp=>hb (hp.insp _ _ hx)
 clear hreal
 refine Lp.intro Nat (fun n=>⟨1,[(0,boxPol p)],[(3,.op 0 0),(5,.v (.int .i64 n))]⟩) (fun n=>n<=p.insp.length/\∀(i:Nat) x,i<n->p.insp[i]? =some x->InOk p i x) (fun n=>p.insp.length-n) 0 ⟨Nat.zero_le _,fun i x h=>absurd h (Nat.not_lt_zero _)⟩ ?_ ?_
 ·(exact leA)
 intro n ⟨hn,hinv⟩
 rcases Nat.lt_or_ge n p.insp.length with hnl|hnl
 ·obtain⟨x,hx⟩:=gex hnl
  have hxl:=hsl x (List.mem_of_getElem? hx)
  have hsubx:setB x.set=true->∀{K:KT},K (.sb (subB x.set p.allow)) []->ACall Tryz.prog 93 [encXs x.set,encXs p.allow] [] K:=fun hx {K} h=>cr4Subs _ _ (by have:=hps.len;have:=(setB_pset hx).len;omega) (by
   rw[hva,show vldB x.set=x.set from List.filter_eq_self.2 fun y hy=>by simpa using okL_ok (okL_set hx) hy]
   exact room2 _ (setB_pset hx) hps) h
  have hprev:n=0\/∃k y,n=k+1/\p.insp[k]? =some y:=by
   cases n with
   |zero=>exact .inl rfl
   |succ k=>exact .inr ⟨k,_,rfl,List.getElem?_eq_getElem (by omega)⟩
  have hbx:=fun h=>hbad hx h
  (repeat' ((conv=>whnf);first|(with_reducible first|refine in_map hnl ?_|refine in_nat hnl ?_|refine ix_map hx ?_)|refine zG ?_|apply zA|(apply zI;intro h)|exact zT));(all_goals conv=>whnf)
  refine Jn.intro Unit (fun _=>⟨2,[(1,.box [.v (.string x.cls),encXs x.set]),(0,boxPol p)],[(3,.op 0 0),(6,.op 1 0),(5,.v (.int .i64 n))]⟩)
   (fun _=>nameOk x.cls/\(∀k y,n=k+1->p.insp[k]? =some y->leS x.cls y.cls=false)/\x.set≠[]/\setB x.set=true/\subB x.set p.allow=true) ?_ ?_
  ·have hemp:∀{l:List Bx},¬(((l.map encX).length:Nat):Int)=0->l≠[]:=fun h e=>h (by rw[e];rfl)
   rcases hprev with rfl|⟨k,y,rfl,hy⟩
   ·(repeat' ((conv=>whnf);first|(with_reducible first|refine in_map hnl ?_|refine in_nat hnl ?_|refine ix_map hx ?_|refine crName _ ?_|refine cr4Vald x.set hxl ?_|refine hsubx (by assumption) ?_)|refine zG ?_|apply zA|(apply zI;intro h)|exact zT));(all_goals conv=>whnf)
    all_goals first
     |(exact fin_f hK (hbx fun ho=>by first
        |exact absurd h (by rw[nameB_true ho.name];decide)
        |exact absurd h (by rw[ho.set];decide)
        |exact absurd h (by rw[ho.sub];decide)
        |exact ho.ne (List.length_eq_zero_iff.1 (by rw[List.length_map]at h;omega))))
     |(refine⟨(),⟨nameB_iff.1 (by assumption),fun k y h=>by omega,hemp (by assumption),by assumption,by assumption⟩,?_⟩
       (exact leA)
       done)
   ·have hkl:k<p.insp.length:=by omega
    have hordk:(Op.bytesLess x.cls.toList y.cls.toList||x.cls.toList==y.cls.toList)=false->∀k' y',k+1=k'+1->p.insp[k']? =some y'->leS x.cls y'.cls=false:=fun h k' y' h1 h2=>by
     obtain rfl:k=k':=by omega
     rw[hy]at h2;cases h2;exact h
    (repeat' ((conv=>whnf);first|(with_reducible first|refine in_map hnl ?_|refine in_nat hnl ?_|refine In.intro k (by omega) (by rw[List.length_map];exact hkl) ?_|refine ix_map hx ?_|refine ix_map hy ?_|refine crName _ ?_|refine cr4Vald x.set hxl ?_|refine hsubx (by assumption) ?_)|refine zG ?_|apply zA|(apply zI;intro h)|exact zT));(all_goals conv=>whnf)
    all_goals first
     |(exact fin_f hK (hbx fun ho=>by first
        |exact absurd h (by rw[nameB_true ho.name];decide)
        |exact absurd h (by rw[ho.set];decide)
        |exact absurd h (by rw[ho.sub];decide)
        |exact ho.ne (List.length_eq_zero_iff.1 (by rw[List.length_map]at h;omega))
        |exact absurd (show leS x.cls y.cls=true from h) (by rw[ho.ord k y rfl hy];decide)))
     |(refine⟨(),⟨nameB_iff.1 (by assumption),hordk (by assumption),hemp (by assumption),by assumption,by assumption⟩,?_⟩
       (exact leA)
       done)
  ·rintro⟨⟩ ⟨f1,f2,f3,f4,f5⟩
   (repeat' ((conv=>whnf);first|refine zG ?_|apply zA|(apply zI;intro h)|exact zT));(all_goals conv=>whnf)
   refine Lp.intro Nat (fun k=>⟨2,[(1,.box [.v (.string x.cls),encXs x.set]),(0,boxPol p)],[(3,.op 0 0),(5,.v (.int .i64 n)),(6,.op 1 0),(7,.v (.int .i64 k))]⟩) (fun k=>k<=n/\∀(i:Nat) y,i<k->p.insp[i]? =some y->disjS x.set y.set) (fun k=>n-k) 0 ⟨Nat.zero_le _,fun i y h=>absurd h (Nat.not_lt_zero _)⟩ ?_ ?_
   ·(exact leA)
   intro k ⟨hk,hdis⟩
   rcases Nat.lt_or_ge k n with hkn|hkn
   ·obtain⟨y,hy⟩:∃y,p.insp[k]? =some y:=⟨_,List.getElem?_eq_getElem (by omega)⟩
    have hkl:k<p.insp.length:=by omega
    have hyl:=hsl y (List.mem_of_getElem? hy)
    have hys:=(hinv k y hkn hy).set
    (repeat' ((conv=>whnf);first|(with_reducible first|refine in_map hkl ?_|refine ix_map hy ?_|refine cvDisj x.set y.set (okL_set f4) (okL_set hys) hxl hyl ?_)|refine zG ?_|apply zA|(apply zI;intro h)|exact zT));(all_goals conv=>whnf)
    all_goals first
     |(refine⟨k+1,⟨hkn,all_succ hy (by assumption) hdis⟩,by omega,?_⟩
       rw[Int.natCast_add,Int.natCast_one]
       (exact leA)
       done)
     |exact fin_f hK (hbx fun ho=>h (ho.disj k y hkn hy))
   ·have hke:k=n:=by omega
    subst hke
    (repeat' ((conv=>whnf);first|refine zG ?_|apply zA|(apply zI;intro h)|exact zT));(all_goals conv=>whnf)
    refine⟨k+1,⟨hnl,all_succ hx ⟨f1,f2,f3,f4,f5,fun j y hj hy=>hdis j y hj hy⟩ hinv⟩,by omega,?_⟩
    rw[Int.natCast_add,Int.natCast_one]
    (exact leA)
 ·(repeat' ((conv=>whnf);first|refine zG ?_|apply zA|(apply zI;intro h)|exact zT));(all_goals conv=>whnf)
  exact fin_t hK (polB_true ⟨hc1,hc2,hc3,hc4,before_all hnl hinv⟩)
theorem cvNum(raw:List Int)(pos:Nat)(top:Int)(t0:0<=top)(t1:top<=4294967295)(hp:pos<=raw.length)(hr:raw.length<=9223372036854775807){K:KT}
  (hK:∀(a:Int) (pos':Nat),0<=a->a<=4294967295->pos'<=raw.length->K (.v (.int .u32 a)) [tapeO raw pos']):ACall Tryz.prog 69 [.op 0 0,.v (.int .u32 top)] [tapeO raw pos] K:=by
 refine ofvNum rfl rfl ?_
 (repeat' ((conv=>whnf);first|(with_reducible first|refine nNext raw _ _ (by omega) (by assumption) hr fun m1 p1 hm1 hp1=>?_|refine in_nat (by omega) ?_|refine wr_u32_any fun r r0 r1=>?_)|refine zG ?_|apply zA|(apply zI;intro h)|exact zT));(all_goals conv=>whnf)
 refine ix_all IsU32 ?_ (by simp only[List.length_cons,List.length_nil];omega) ?_
 ·simp only[List.forall_mem_cons]
  (repeat' apply And.intro)<;>first|exact⟨_,rfl,by assumption,by assumption⟩|exact⟨_,rfl,by decide,by decide⟩|(intro _ h;cases h)
 ·rintro _ ⟨y,rfl,y0,y1⟩
  (repeat' ((conv=>whnf);first|refine zG ?_|apply zA|(apply zI;intro h)|exact zT));(all_goals conv=>whnf)
  all_goals exact hK _ _ (by omega) (by omega) (by assumption)
def IsLen(x n:Nat):Prop:=x<2^n/\(n=0\/2^(n-1)<=x)
instance (x n:Nat):Decidable (IsLen x n):=by unfold IsLen;infer_instance
theorem isLen_shift{x n s:Nat}(h:IsLen (x/2^s) n)(hx:2^s<=x):IsLen x (n+s):=by
 obtain⟨h1,h2⟩:=h
 have hp:=Nat.two_pow_pos s
 have hn:n≠0:=by
  rintro rfl
  have:=(Nat.div_lt_iff_lt_mul hp).1 h1
  omega
 refine⟨by rw[Nat.pow_add];exact(Nat.div_lt_iff_lt_mul hp).1 h1,.inr ?_⟩
 rw[show n+s-1=(n-1)+s by omega,Nat.pow_add]
 exact(Nat.le_div_iff_mul_le hp).1 (h2.resolve_left hn)
theorem wr_u8{e:Int}{K:Int->Prop}(j:Nat)(h:e=j)(hj:j<256)(hk:K j):Wr .u8 e K:=by
 subst h
 refine Wr.intro ?_ hk
 simp only[IntKind.wrap,IntKind.signed,IntKind.bits];simp;omega
def chkTab(s:ByteArray):Bool:=Nat.beq s.data.size 256&&(List.range 256).all fun j=>match s.data[j]? with
 |some b=>decide (IsLen j b.toNat)
 |none=>false
theorem tab_in{s:ByteArray}{j:Nat}{K:UInt8->Prop}(hc:chkTab s=true)(hj:j<256)(hk:∀b:UInt8,IsLen j b.toNat->b.toNat<256->K b):In (j:Int) s.size fun j'=>∃b,s[j']? =some b/\K b:=by
 simp only[chkTab,Bool.and_eq_true,List.all_eq_true,List.mem_range]at hc
 obtain⟨h1,h2⟩:=hc
 have h1:s.size=256:=Nat.eq_of_beq_eq_true h1
 have hlt:j<s.size:=by omega
 refine In.intro j rfl hlt ⟨s[j],by simp[hlt],hk _ ?_ (UInt8.toNat_lt _)⟩
 have:=h2 j hj
 have e:s.data[j]? =some s[j]:=by rw[Array.getElem?_eq_getElem (show j<s.data.size from hlt)];rfl
 rw[e]at this
 simpa using this
noncomputable def gpBlocks:Ctx:={N:=72,plan:=at1 4 (some (ln [1,3,5,7,9,11,13,15,17])) (fun _=>none),hints:=at1 4 ([.virt 5 2]) (fun _=>[])}
noncomputable def bpBlocks:Code:=bdy Tryz.f187
abbrev ofpBlocks:=@ofC Tryz.prog gpBlocks 187 Tryz.f187 bpBlocks Tryz.func187 (by kernel_rfl) (by kernel_rfl) (by kernel_rfl) (by kernel_rfl)
noncomputable def grBlocks:Ctx:={N:=71,plan:=at1 4 (some (ln [1,3,5,7,9,11,13,15,17])) (fun _=>none),hints:=at1 4 ([.virt 5 2]) (fun _=>[])}
noncomputable def brBlocks:Code:=bdy Tryz.f184
abbrev ofrBlocks:=@ofC Tryz.prog grBlocks 184 Tryz.f184 brBlocks Tryz.func184 (by kernel_rfl) (by kernel_rfl) (by kernel_rfl) (by kernel_rfl)
end Go.Proofs.YtokmdghjgegclaaGreatDoor
