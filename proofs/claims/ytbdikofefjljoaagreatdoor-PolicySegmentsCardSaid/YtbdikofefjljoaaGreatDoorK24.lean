/- The program's policies. -/
import Derived.Test.YtbdikofefjljoaaGreatDoorProg
import Derived.Test.YtbdikofefjljoaaGreatDoorK23
set_option linter.unusedVariables false
set_option linter.unusedSimpArgs false
set_option maxRecDepth 100000
set_option maxHeartbeats 4000000
namespace Go.Proofs.YtbdikofefjljoaaGreatDoor
open Go Go.Vm
theorem cyWho(t:Tp)(a b:Nat)(ea eb:Ed)(ha:t.edges[a]? =some ea)(hb:t.edges[b]? =some eb){K:KT}(hK:K (encX (whoB ea.pf eb.pf)) []):ACall Tryz.prog 91 [encT t,.v (.int .i64 a),.v (.int .i64 b)] [] K:=by
 have hal:=(List.getElem?_eq_some_iff.1 ha).1
 have hbl:=(List.getElem?_eq_some_iff.1 hb).1
 refine ofyWho rfl rfl ?_
 (repeat' ((conv=>whnf);first|(with_reducible first|refine cxFull ?_|refine in_map hal ?_|refine in_map hbl ?_|refine ix_map ha ?_|refine ix_map hb ?_|refine cpOf _ ?_)|(refine in_c zd ?_)|refine zG ?_|apply zA|(apply zI;intro h)|exact zT));(all_goals conv=>whnf)
 exact hK
theorem cyPairs(t:Tp)(hl:t.edges.length<10000){K:KT}(hK:K (encXs (pairsB t.edges)) []):ACall Tryz.prog 74 [encT t] [] K:=by
 refine ofyPairs rfl rfl ?_
 (repeat' ((conv=>whnf);first|refine zG ?_|apply zA|(apply zI;intro h)|exact zT));(all_goals conv=>whnf)
 refine Lp.intro Nat (fun a=>⟨2,[(1,.arr 10 ((pairsTo t.edges a).map encX)),(0,boxT t)],[(1,.op 0 0),(3,.os 1 10 0 (pairsTo t.edges a).length),(8,.v (.int .i64 ((t.edges.map encE).length:Nat))),(9,.v (.int .i64 a))]⟩) (fun a=>a<=t.edges.length) (fun a=>t.edges.length-a) 0 (Nat.zero_le _) ?_ ?_
 ·(exact leA)
 intro a ha
 have hl1:=pairsTo_len t.edges a
 have hl2:a*t.edges.length<=10000*10000:=Nat.mul_le_mul zo zo
 rcases Nat.lt_or_ge a t.edges.length with hal|hal
 ·obtain⟨ea,hea⟩:=gex hal
  (repeat' ((conv=>whnf);first|refine zG ?_|apply zA|(apply zI;intro h)|exact zT));(all_goals conv=>whnf)
  refine Lp.intro Nat (fun b=>⟨2,[(1,.arr 10 ((pairsTo t.edges a++pairsAt t.edges a ea b).map encX)),(0,boxT t)],[(1,.op 0 0),(3,.os 1 10 0 (pairsTo t.edges a++pairsAt t.edges a ea b).length),(4,.v (.int .i64 a)),(8,.v (.int .i64 ((t.edges.map encE).length:Nat))),(9,.v (.int .i64 a)),(14,.v (.int .i64 ((t.edges.map encE).length:Nat))),(15,.v (.int .i64 b))]⟩) (fun b=>b<=t.edges.length) (fun b=>t.edges.length-b) 0 (Nat.zero_le _) ?_ ?_
  ·rw[show pairsAt t.edges a ea 0=[]from rfl,List.append_nil]
   (exact leA)
  intro b hb
  have hl3:=pairsAt_len t.edges a ea b
  rcases Nat.lt_or_ge b t.edges.length with hbl|hbl
  ·obtain⟨eb,heb⟩:=gex hbl
   have hs:=pairsAt_succ (a:=a) (ea:=ea) heb
   have hlen:(pairsTo t.edges a++pairsAt t.edges a ea b).length<=100010000:=by rw[List.length_append];omega
   have hap:pairsTo t.edges a++pairsAt t.edges a ea (b+1)=(pairsTo t.edges a++pairsAt t.edges a ea b)++(if a=b then []else [whoB ea.pf eb.pf]):=by rw[hs,List.append_assoc]
   generalize hA:pairsTo t.edges a++pairsAt t.edges a ea b=A at*
   generalize hB:pairsTo t.edges a++pairsAt t.edges a ea (b+1)=B at*
   (repeat' ((conv=>whnf);first|(with_reducible refine cyWho t a b ea eb hea heb ?_)|refine zG ?_|apply zA|(apply zI;intro h)|exact zT));(all_goals conv=>whnf)
   all_goals
    refine⟨b+1,hbl,by omega,?_⟩
    first
     |(rw[if_neg zo]at hap
       rw[hB,hap,List.map_append,List.length_append,Int.natCast_add b,Int.natCast_one]
       (exact leA)
       done)
     |(rw[if_pos zo,List.append_nil]at hap
       rw[hB,hap,Int.natCast_add b,Int.natCast_one]
       (exact leA)
       done)
  ·(repeat' ((conv=>whnf);first|refine zG ?_|apply zA|(apply zI;intro h)|exact zT));(all_goals conv=>whnf)
   have hbe:b=t.edges.length:=by omega
   rw[hbe,<-pairsTo_succ hea]
   refine⟨a+1,hal,by omega,?_⟩
   rw[Int.natCast_add a,Int.natCast_one]
   (exact leA)
 ·(repeat' ((conv=>whnf);first|refine zG ?_|apply zA|(apply zI;intro h)|exact zT));(all_goals conv=>whnf)
  have hae:a=t.edges.length:=by omega
  rw[hae]
  exact hK
theorem cyVal(t:Tp)(p:Pol)(hl:t.edges.length<1000)(hal:p.allow.length<1000000000)(hil:p.insp.length<1000000000)(hsl:∀x,x∈p.insp->x.set.length<1000000000){K:KT}(hK:K (.sb (polB t p)) []):ACall Tryz.prog 23 [encT t,encPol p] [] K:=by
 have hpl:=pairsTo_len t.edges t.edges.length
 have hpl2:t.edges.length*t.edges.length<=1000*1000:=Nat.mul_le_mul zo zo
 have hinit:initS.length<1000000000:=by decide
 have hsub1:∀{K:KT},K (.sb (subB p.allow (pairsB t.edges))) []->ACall Tryz.prog 73 [encXs p.allow,encXs (pairsB t.edges)] [] K:=fun h=>cxSubs _ _ hal (by rw[pairsB];omega) h
 have hsub2:∀{K:KT},K (.sb (subB p.allow initS)) []->ACall Tryz.prog 73 [encXs p.allow,encXs initS] [] K:=fun h=>cxSubs _ _ hal hinit h
 refine ACall.bool (ofyVal rfl rfl ?_)
 (repeat' ((conv=>whnf);first|(with_reducible first|refine ctComp t zo ?_|refine cxVald p.allow hal ?_|refine cyPairs t zo ?_|refine hsub1 ?_|refine cxInit ?_|refine hsub2 ?_)|refine zG ?_|apply zA|(apply zI;intro h)|exact zT));(all_goals conv=>whnf)
 all_goals first
  |exact fin_f hK (polB_false fun hp=>by have h1:=hp.comp;have h2:=hp.set;have h3:=hp.sub;have h4:=hp.init;simp_all)
  |skip
 have hc4:=h
 rename_i hc1 hc2 hc3
 have hbad:∀{n:Nat} {x:Insp},p.insp[n]? =some x->¬InOk p n x->polB t p=false:=fun hx hb=>polB_false fun hp=>hb (hp.insp _ _ hx)
 clear hsub1 hsub2
 refine Lp.intro Nat (fun n=>⟨1,[(0,boxPol p)],[(3,.op 0 0),(36,.lst (p.insp.map encIn)),(37,.v (.int .i64 ((p.insp.map encIn).length:Nat))),(38,.v (.int .i64 n))]⟩) (fun n=>n<=p.insp.length/\∀(i:Nat) x,i<n->p.insp[i]? =some x->InOk p i x) (fun n=>p.insp.length-n) 0 ⟨Nat.zero_le _,fun i x h=>absurd h (Nat.not_lt_zero _)⟩ ?_ ?_
 ·(exact leA)
 intro n ⟨hn,hinv⟩
 rcases Nat.lt_or_ge n p.insp.length with hnl|hnl
 ·obtain⟨x,hx⟩:=gex hnl
  have hxl:=hsl x (List.mem_of_getElem? hx)
  have hsubx:∀{K:KT},K (.sb (subB x.set p.allow)) []->ACall Tryz.prog 73 [encXs x.set,encXs p.allow] [] K:=fun h=>cxSubs _ _ hxl hal h
  have hprev:n=0\/∃k y,n=k+1/\p.insp[k]? =some y:=by
   cases n with
   |zero=>exact .inl rfl
   |succ k=>exact .inr ⟨k,_,rfl,List.getElem?_eq_getElem zo⟩
  have hbx:=fun h=>hbad hx h
  have hslice:∀{K:List AV->Prop},K ((p.insp.take n).map encIn)->Sl (p.insp.map encIn) 0 (n-0) K:=fun {K} h=>sl_map zo (by rw[List.drop_zero,Nat.sub_zero];exact h)
  (repeat' ((conv=>whnf);first|(with_reducible first|refine in_map hnl ?_|refine in_nat hnl ?_|refine ix_map hx ?_)|refine zG ?_|apply zA|(apply zI;intro h)|exact zT));(all_goals conv=>whnf)
  refine Jn.intro Unit (fun _=>⟨2,[(1,.box [.v (.string x.cls),encXs x.set]),(0,boxPol p)],[(3,.op 0 0),(6,.op 1 0),(36,.lst (p.insp.map encIn)),(37,.v (.int .i64 ((p.insp.map encIn).length:Nat))),(38,.v (.int .i64 n)),(5,.v (.int .i64 n))]⟩)
   (fun _=>nameOk x.cls/\(∀k y,n=k+1->p.insp[k]? =some y->leS x.cls y.cls=false)/\x.set≠[]/\setB x.set=true/\subB x.set p.allow=true) ?_ ?_
  ·have hemp:∀{l:List Bx},¬(((l.map encX).length:Nat):Int)=0->l≠[]:=fun h e=>h (by rw[e];rfl)
   rcases hprev with rfl|⟨k,y,rfl,hy⟩
   ·(repeat' ((conv=>whnf);first|(with_reducible first|refine in_map hnl ?_|refine in_nat hnl ?_|refine ix_map hx ?_|refine csName _ ?_|refine cxVald x.set hxl ?_|refine hsubx ?_)|refine zG ?_|apply zA|(apply zI;intro h)|exact zT));(all_goals conv=>whnf)
    all_goals first
     |(exact fin_f hK (hbx fun ho=>by first
        |exact absurd h (by rw[nameB_true ho.name];decide)
        |exact absurd h (by rw[ho.set];decide)
        |exact absurd h (by rw[ho.sub];decide)
        |exact ho.ne (List.length_eq_zero_iff.1 (by rw[List.length_map]at h;omega))))
     |(refine⟨(),⟨nameB_iff.1 zp,fun k y h=>by omega,hemp zp,by assumption,by assumption⟩,?_⟩
       (exact leA)
       done)
   ·have hkl:k<p.insp.length:=by omega
    have hordk:(Op.bytesLess x.cls.toList y.cls.toList||x.cls.toList==y.cls.toList)=false->∀k' y',k+1=k'+1->p.insp[k']? =some y'->leS x.cls y'.cls=false:=fun h k' y' h1 h2=>by
     obtain rfl:k=k':=by omega
     rw[hy]at h2;cases h2;exact h
    (repeat' ((conv=>whnf);first|(with_reducible first|refine in_map hnl ?_|refine in_nat hnl ?_|refine In.intro k zo (by rw[List.length_map];exact hkl) ?_|refine ix_map hx ?_|refine ix_map hy ?_|refine csName _ ?_|refine cxVald x.set hxl ?_|refine hsubx ?_)|refine zG ?_|apply zA|(apply zI;intro h)|exact zT));(all_goals conv=>whnf)
    all_goals first
     |(exact fin_f hK (hbx fun ho=>by first
        |exact absurd h (by rw[nameB_true ho.name];decide)
        |exact absurd h (by rw[ho.set];decide)
        |exact absurd h (by rw[ho.sub];decide)
        |exact ho.ne (List.length_eq_zero_iff.1 (by rw[List.length_map]at h;omega))
        |exact absurd (show leS x.cls y.cls=true from h) (by rw[ho.ord k y rfl hy];decide)))
     |(refine⟨(),⟨nameB_iff.1 zp,hordk zp,hemp zp,by assumption,by assumption⟩,?_⟩
       (exact leA)
       done)
  ·rintro⟨⟩ ⟨f1,f2,f3,f4,f5⟩
   (repeat' ((conv=>whnf);first|(with_reducible first|refine Sb.intro 0 n rfl rfl zo (by rw[List.length_map];omega) ?_|refine hslice ?_)|refine zG ?_|apply zA|(apply zI;intro h)|exact zT));(all_goals conv=>whnf)
   have htl:(p.insp.take n).length=n:=by rw[List.length_take];omega
   refine Lp.intro Nat (fun k=>⟨2,[(1,.box [.v (.string x.cls),encXs x.set]),(0,boxPol p)],[(3,.op 0 0),(6,.op 1 0),(36,.lst (p.insp.map encIn)),(37,.v (.int .i64 ((p.insp.map encIn).length:Nat))),(38,.v (.int .i64 n)),(86,.lst ((p.insp.take n).map encIn)),(87,.v (.int .i64 (((p.insp.take n).map encIn).length:Nat))),(88,.v (.int .i64 k))]⟩) (fun k=>k<=n/\∀(i:Nat) y,i<k->p.insp[i]? =some y->disjS x.set y.set) (fun k=>n-k) 0 ⟨Nat.zero_le _,fun i y h=>absurd h (Nat.not_lt_zero _)⟩ ?_ ?_
   ·(exact leA)
   intro k ⟨hk,hdis⟩
   rcases Nat.lt_or_ge k n with hkn|hkn
   ·obtain⟨y,hy⟩:∃y,p.insp[k]? =some y:=⟨_,List.getElem?_eq_getElem zo⟩
    have hyt:(p.insp.take n)[k]? =some y:=by rw[List.getElem?_take,if_pos hkn];exact hy
    have hkt:k<(p.insp.take n).length:=by omega
    have hyl:=hsl y (List.mem_of_getElem? hy)
    have hys:=(hinv k y hkn hy).set
    have hdi:=disj_iff f4 hys
    have hle:=lim_empty (cano anB 5 x.set y.set)
    have hint:∀{K:KT},K (.tup [encXs (limP (cano anB 5 x.set y.set)),.v (.int .i64 (limE (cano anB 5 x.set y.set)))]) []->ACall Tryz.prog 76 [encXs x.set,encXs y.set] [] K:=fun h=>cxInt x.set y.set hxl hyl (by rw[combP_set f4 hys];exact h)
    generalize cano anB 5 x.set y.set=c at*
    (repeat' ((conv=>whnf);first|(with_reducible first|refine in_map hkt ?_|refine in_nat hkt ?_|refine ix_map hyt ?_|refine hint ?_)|refine zG ?_|apply zA|(apply zI;intro h)|exact zT));(all_goals conv=>whnf)
    all_goals first
     |(refine⟨k+1,⟨hkn,all_succ hy (hdi.1 (Decidable.byContradiction fun hc=>?_)) hdis⟩,by omega,?_⟩
       ·rcases hle.2 hc with h1|h1
        ·exact h1 zp
        ·simp only[List.length_map]at*
         omega
       ·rw[Int.natCast_add,Int.natCast_one]
        (exact leA))
     |(refine fin_f hK (hbx fun ho=>?_)
       have hc:=hdi.2 (ho.disj k y hkn hy)
       refine absurd hc (hle.1 ?_)
       first
        |(right;rw[List.length_map]at h;omega)
        |(left;assumption))
   ·have hke:k=n:=by omega
    subst hke
    (repeat' ((conv=>whnf);first|refine zG ?_|apply zA|(apply zI;intro h)|exact zT));(all_goals conv=>whnf)
    refine⟨k+1,⟨hnl,all_succ hx ⟨f1,f2,f3,f4,f5,fun j y hj hy=>hdis j y hj hy⟩ hinv⟩,by omega,?_⟩
    rw[Int.natCast_add,Int.natCast_one]
    (exact leA)
 ·(repeat' ((conv=>whnf);first|refine zG ?_|apply zA|(apply zI;intro h)|exact zT));(all_goals conv=>whnf)
  exact fin_t hK (polB_true ⟨hc1,hc2,hc3,hc4,before_all hnl hinv⟩)
noncomputable def gnCont:Ctx:={N:=18,plan:=at1 4 (some (ln [1,3,5,7,9,10])) (fun _=>none)}
noncomputable def bnCont:Code:=bdy Tryz.f22
abbrev ofnCont:=@ofC Tryz.prog gnCont 22 Tryz.f22 bnCont Tryz.func22 zk zk zk zk
noncomputable def gnStm:Ctx:={N:=92,np:=2,own:=at1 16 (true) (at1 190 (true) (fun _=>false)),plan:=at1 1 (some (.one 0 true (.one 3 true (.one 4 true (.one 7 true (.one 8 true (.one 11 true (.one 12 true (.wch 5 (.wch 9 (.wch 13 (.alt 1 (.one 2 true (.alt 6 (.alt 10 (.alt 14 (ln [31,32,34]) (.alt 16 (ln [28,31,34]) (.stop))) (.alt 16 (ln [20,28,31,34]) (.stop))) (.alt 16 (ln [12,20,28,31,34]) (.stop)))) (.alt 16 (ln [2,5,12,20,28,31,34]) (.stop)))))))))))))) (at1 3 (some (.one 0 true (.one 1 true (.one 2 true (.one 4 true (.one 5 true (.one 8 true (.wch 6 (ln [6,14,18,21,22,25,26]))))))))) (at1 8 (some (.one 0 true (.one 2 true (.one 3 true (.one 4 true (.one 5 true (.wch 1 (ln [12,15,17,19,21,22])))))))) (fun _=>none))),cut:=at1 4 (true) (at1 7 (true) (at1 9 (true) (fun _=>false)))}
noncomputable def bnStm:Code:=bdy Tryz.f108
abbrev ofnStm:=@ofC Tryz.prog gnStm 108 Tryz.f108 bnStm Tryz.func108 zk zk zk zk
noncomputable def gnInt:Ctx:={N:=260,np:=1,own:=at1 16 (true) (at1 90 (true) (at1 106 (true) (at1 107 (true) (at1 108 (true) (at1 65 (true) (fun _=>false)))))),plan:=at1 36 (some (.one 0 true (.one 2 true (.wch 1 (ln [6,9,10,12,15,16]))))) (at1 40 (some (.one 0 true (.one 2 true (.one 3 true (.one 4 true (.wch 1 (ln [10,12,14,17,18]))))))) (at1 43 (some (.one 0 true (.one 3 true (.one 7 true (.one 10 true (.one 15 true (.one 17 true (.wch 1 (.wch 11 (.one 12 true (.one 13 true (.wch 14 (.wch 16 (.alt 2 (.one 4 false (.one 5 true (.wch 6 (ln [16,19,36,39,41,42,44,47,48])))) (.alt 4 (.alt 2 (.one 5 true (.wch 6 (ln [16,19,36,39,41,42,44,47,48]))) (.alt 8 (.one 9 true (.alt 2 (.one 5 true (.wch 6 (ln [36,39,41,42,44,47,48]))) (.alt 18 (ln [39,4,11,13,41,42,44,47,48]) (.stop)))) (.stop))) (.stop)))))))))))))))) (at1 46 (some (.one 0 true (.one 2 true (.one 4 true (.one 8 true (.wch 1 (.wch 3 (.one 5 true (.one 6 true (.wch 7 (ln [18,21,23,25,27,28,30,33,34]))))))))))) (fun _=>none)))),hints:=at1 2 ([.virtB 7 0 2,.virtB 7 1 2,.virtB 7 2 2]) (at1 6 ([.virtB 9 1 7]) (at1 16 ([.freezeB 9]) (at1 21 ([.virtB 14 1 7]) (at1 34 ([.freezeB 14]) (at1 37 ([.freezeB 7,.virtB 7 3 10]) (at1 41 ([.virtB 7 4 6,.virtB 7 5 5]) (fun _=>[]))))))),cut:=at1 13 (true) (at1 15 (true) (at1 31 (true) (at1 33 (true) (at1 37 (true) (at1 44 (true) (at1 47 (true) (fun _=>false)))))))}
noncomputable def bnInt:Code:=bdy Tryz.f44
abbrev ofnInt:=@ofC Tryz.prog gnInt 44 Tryz.f44 bnInt Tryz.func44 zk zk zk zk
theorem topOk_top{t:Tp}(g:GTop t):TopOk t:=by
 have h:GPla {t with pools:=[pool1]}:=⟨g.d1,g.d6,g.dv,g.l9,g.lk,g.e5,fun i e hi=>by
  obtain⟨h1,h2,h3,h4,h5,h6⟩:=g.ed i e hi
  exact⟨h1,h2,h3,h4,.inl ⟨h6,h5⟩⟩,.inl rfl,g.tol⟩
 have k:=topOk_pla h
 rcases g.pools with hp|hp|hp|hp
 ·exact⟨k.d0,k.d1,k.l1,k.e1,by rw[hp];decide,k.t0,k.t1,k.dev,k.link,k.edge,k.apart,fun i p hi=>by rw[hp]at hi;cases hi⟩
 all_goals exact topOk_pla ⟨g.d1,g.d6,g.dv,g.l9,g.lk,g.e5,h.ed,by simp[hp],g.tol⟩
theorem comp_top{t:Tp}(g:GTop t):compB t=true:=by
 simp only[compB,topB_true (topOk_top g),Bool.true_and,Bool.not_eq_true']
 rw[List.any_eq_false]
 intro e he
 obtain⟨i,hi⟩:=List.mem_iff_getElem?.1 he
 rw[(g.ed i e hi).pl];decide
end Go.Proofs.YtbdikofefjljoaaGreatDoor
