/- The program's policies. -/
import Derived.Test.YtbdikofefjljoaaGreatDoorProg
import Derived.Test.YtbdikofefjljoaaGreatDoorM16
set_option linter.unusedVariables false
set_option linter.unusedSimpArgs false
set_option maxRecDepth 100000
set_option maxHeartbeats 4000000
namespace Go.Proofs.YtbdikofefjljoaaGreatDoor
open Go Go.Vm
theorem cyWho(t:Tp)(a b:Nat)(ea eb:Ed)(ha:t.edges[a]? =some ea)(hb:t.edges[b]? =some eb){K:KT}(hK:K (encX (whoB ea.pf eb.pf)) []):ACall Tryz.prog 91 [encT t,.v (.int .i64 a),.v (.int .i64 b)] [] K:=by
 have hal:=(aP.1 ha).1
 have hbl:=(aP.1 hb).1
 refine ofyWho rfl rfl ?_
 (repeat' ((conv=>whnf);first|(with_reducible first|refine cxFull ?_|refine in_map hal ?_|refine in_map hbl ?_|refine ix_map ha ?_|refine ix_map hb ?_|refine cpOf _ ?_)|(refine in_c zd ?_)|refine zG ?_|apply zA|(apply zI;intro h)|exact zT));(all_goals conv=>whnf)
 exact hK
theorem cyPairs(t:Tp)(hl:t.edges.length<10000){K:KT}(hK:K (encXs (pairsB t.edges)) []):ACall Tryz.prog 74 [encT t] [] K:=by
 refine ofyPairs rfl rfl ?_
 (repeat' ((conv=>whnf);first|refine zG ?_|apply zA|(apply zI;intro h)|exact zT));(all_goals conv=>whnf)
 refine Lp.intro Nat (fun a=>⟨2,[(1,.arr 10 ((pairsTo t.edges a).map encX)),(0,boxT t)],[(1,.op 0 0),(3,.os 1 10 0 (pairsTo t.edges a).length),(8,.v (.int .i64 ((t.edges.map encE).length:Nat))),(9,.v (.int .i64 a))]⟩) (fun a=>a<=t.edges.length) (fun a=>t.edges.length-a) 0 (aH _) ?_ ?_
 ·(exact leA)
 intro a ha
 have hl1:=pairsTo_len t.edges a
 have hl2:a*t.edges.length<=10000*10000:=dQ zo zo
 rcases aB a t.edges.length with hal|hal
 ·obtain⟨ea,hea⟩:=gex hal
  (repeat' ((conv=>whnf);first|refine zG ?_|apply zA|(apply zI;intro h)|exact zT));(all_goals conv=>whnf)
  refine Lp.intro Nat (fun b=>⟨2,[(1,.arr 10 ((pairsTo t.edges a++pairsAt t.edges a ea b).map encX)),(0,boxT t)],[(1,.op 0 0),(3,.os 1 10 0 (pairsTo t.edges a++pairsAt t.edges a ea b).length),(4,.v (.int .i64 a)),(8,.v (.int .i64 ((t.edges.map encE).length:Nat))),(9,.v (.int .i64 a)),(14,.v (.int .i64 ((t.edges.map encE).length:Nat))),(15,.v (.int .i64 b))]⟩) (fun b=>b<=t.edges.length) (fun b=>t.edges.length-b) 0 (aH _) ?_ ?_
  ·rw[show pairsAt t.edges a ea 0=[]from rfl,bD]
   (exact leA)
  intro b hb
  have hl3:=pairsAt_len t.edges a ea b
  rcases aB b t.edges.length with hbl|hbl
  ·obtain⟨eb,heb⟩:=gex hbl
   have hs:=pairsAt_succ (a:=a) (ea:=ea) heb
   have hlen:(pairsTo t.edges a++pairsAt t.edges a ea b).length<=100010000:=by rw[aC];omega
   have hap:pairsTo t.edges a++pairsAt t.edges a ea (b+1)=(pairsTo t.edges a++pairsAt t.edges a ea b)++(if a=b then []else [whoB ea.pf eb.pf]):=by rw[hs,cJ]
   generalize hA:pairsTo t.edges a++pairsAt t.edges a ea b=A at*
   generalize hB:pairsTo t.edges a++pairsAt t.edges a ea (b+1)=B at*
   (repeat' ((conv=>whnf);first|(with_reducible refine cyWho t a b ea eb hea heb ?_)|refine zG ?_|apply zA|(apply zI;intro h)|exact zT));(all_goals conv=>whnf)
   all_goals
    refine⟨b+1,hbl,by omega,?_⟩
    first
     |(rw[aE zo]at hap
       rw[hB,hap,aQ,aC,aN b,aL]
       (exact leA)
       done)
     |(rw[aG zo,bD]at hap
       rw[hB,hap,aN b,aL]
       (exact leA)
       done)
  ·(repeat' ((conv=>whnf);first|refine zG ?_|apply zA|(apply zI;intro h)|exact zT));(all_goals conv=>whnf)
   have hbe:b=t.edges.length:=by omega
   rw[hbe,<-pairsTo_succ hea]
   refine⟨a+1,hal,by omega,?_⟩
   rw[aN a,aL]
   (exact leA)
 ·(repeat' ((conv=>whnf);first|refine zG ?_|apply zA|(apply zI;intro h)|exact zT));(all_goals conv=>whnf)
  have hae:a=t.edges.length:=by omega
  rw[hae]
  exact hK
theorem cyPair(t:Tp)(p:Pol)(a b:Int)(hl:t.edges.length<1000000)(hal:p.allow.length<1000000000){K:KT}(hK:K (.tup [encXs (pairP t p a b).1,.v (.int .i64 (pairP t p a b).2)]) []):ACall Tryz.prog 32 [encT t,encPol p,.v (.int .i64 a),.v (.int .i64 b)] [] K:=by
 refine ACall.weak (ofyPair rfl rfl ?_)
 unfold pairP at hK
 by_cases hc:compB t=false
 ·rw[aG hc]at hK
  (repeat' ((conv=>whnf);first|(with_reducible refine ctComp t hl ?_)|refine zG ?_|apply zA|(apply zI;intro h)|exact zT));(all_goals conv=>whnf)
  all_goals first
   |exact⟨_,Weak.tup2 Weak.nils Weak.refl,hK⟩
   |(exfalso;simp_all;done)
 rw[aE hc]at hK
 have hct:compB t=true:=by simpa using hc
 by_cases hr:a<0\/(t.edges.length:Int)<=a\/b<0\/(t.edges.length:Int)<=b
 ·rw[aG hr]at hK
  (repeat' ((conv=>whnf);first|(with_reducible refine ctComp t hl ?_)|refine zG ?_|apply zA|(apply zI;intro h)|exact zT));(all_goals conv=>whnf)
  all_goals first
   |exact⟨_,Weak.tup2 Weak.nils Weak.refl,hK⟩
   |(exfalso;simp only[aA]at*;simp_all;done)
   |(exfalso;simp only[aA]at*;omega)
 rw[aE hr]at hK
 by_cases he:a=b
 ·rw[aG he]at hK
  (repeat' ((conv=>whnf);first|(with_reducible refine ctComp t hl ?_)|refine zG ?_|apply zA|(apply zI;intro h)|exact zT));(all_goals conv=>whnf)
  all_goals first
   |exact⟨_,Weak.tup2 Weak.nils Weak.refl,hK⟩
   |(exfalso;simp only[aA]at*;simp_all;done)
   |(exfalso;simp only[aA]at*;omega)
 rw[aE he]at hK
 obtain⟨i,rfl⟩:=cP (show 0<=a by omega)
 obtain⟨j,rfl⟩:=cP (show 0<=b by omega)
 have hil:i<t.edges.length:=by omega
 have hjl:j<t.edges.length:=by omega
 obtain⟨ea,hea⟩:=gex hil
 obtain⟨eb,heb⟩:=gex hjl
 simp only[fB,hea,heb]at hK
 have hint:∀{K:KT},K (.tup [encXs (combP anB p.allow [whoB ea.pf eb.pf]).1,.v (.int .i64 (combP anB p.allow [whoB ea.pf eb.pf]).2)]) []->ACall Tryz.prog 76 [encXs p.allow,.lst [encX (whoB ea.pf eb.pf)]] [] K:=fun h=>cxInt p.allow [whoB ea.pf eb.pf] hal zx h
 (repeat' ((conv=>whnf);first|(with_reducible first|refine ctComp t hl ?_|refine cyWho t i j ea eb hea heb ?_|refine hint ?_)|refine zG ?_|apply zA|(apply zI;intro h)|exact zT));(all_goals conv=>whnf)
 all_goals first
  |exact⟨_,Weak.refl,hK⟩
  |(exfalso;simp only[aA]at*;simp_all;done)
  |(exfalso;simp only[aA]at*;omega)
theorem cyVal(t:Tp)(p:Pol)(hl:t.edges.length<1000)(hal:p.allow.length<1000000000)(hil:p.insp.length<1000000000)(hsl:∀x,x∈p.insp->x.set.length<1000000000){K:KT}(hK:K (.sb (polB t p)) []):ACall Tryz.prog 23 [encT t,encPol p] [] K:=by
 have hpl:=pairsTo_len t.edges t.edges.length
 have hpl2:t.edges.length*t.edges.length<=1000*1000:=dQ zo zo
 have hinit:initS.length<1000000000:=by decide
 have hsub1:∀{K:KT},K (.sb (subB p.allow (pairsB t.edges))) []->ACall Tryz.prog 73 [encXs p.allow,encXs (pairsB t.edges)] [] K:=fun h=>cxSubs _ _ hal (by rw[pairsB];omega) h
 have hsub2:∀{K:KT},K (.sb (subB p.allow initS)) []->ACall Tryz.prog 73 [encXs p.allow,encXs initS] [] K:=fun h=>cxSubs _ _ hal hinit h
 refine ACall.bool (ofyVal rfl rfl ?_)
 (repeat' ((conv=>whnf);first|(with_reducible first|refine ctComp t zo ?_|refine cxVald p.allow hal ?_|refine cyPairs t zo ?_|refine hsub1 ?_|refine cxInit ?_|refine hsub2 ?_)|refine zG ?_|apply zA|(apply zI;intro h)|exact zT));(all_goals conv=>whnf)
 all_goals first
  |exact fin_f hK (polB_false fun hp=>by have h1:=hp.comp;have h2:=hp.set;have h3:=hp.sub;have h4:=hp.init;simp_all)
  |skip
 have hc4:=h
 rename_i hc1 hc2 hc3
 have hbad:∀{n:Nat} {x:Insp},p.insp[n]? =some x->¬InOk p n x->polB t p=false:=fun hx hb=>polB_false fun hp=>hb (hp.insp _ _ hx)
 clear hsub1 hsub2
 refine Lp.intro Nat (fun n=>⟨1,[(0,boxPol p)],[(3,.op 0 0),(36,.lst (p.insp.map encIn)),(37,.v (.int .i64 ((p.insp.map encIn).length:Nat))),(38,.v (.int .i64 n))]⟩) (fun n=>n<=p.insp.length/\∀(i:Nat) x,i<n->p.insp[i]? =some x->InOk p i x) (fun n=>p.insp.length-n) 0 ⟨aH _,fun i x h=>absurd h (aZ _)⟩ ?_ ?_
 ·(exact leA)
 intro n ⟨hn,hinv⟩
 rcases aB n p.insp.length with hnl|hnl
 ·obtain⟨x,hx⟩:=gex hnl
  have hxl:=hsl x (aF hx)
  have hsubx:∀{K:KT},K (.sb (subB x.set p.allow)) []->ACall Tryz.prog 73 [encXs x.set,encXs p.allow] [] K:=fun h=>cxSubs _ _ hxl hal h
  have hprev:n=0\/∃k y,n=k+1/\p.insp[k]? =some y:=by
   cases n with
   |zero=>exact .inl rfl
   |succ k=>exact .inr ⟨k,_,rfl,aD zo⟩
  have hbx:=fun h=>hbad hx h
  have hslice:∀{K:List AV->Prop},K ((p.insp.take n).map encIn)->Sl (p.insp.map encIn) 0 (n-0) K:=fun {K} h=>sl_map zo (by rw[cD,eN];exact h)
  (repeat' ((conv=>whnf);first|(with_reducible first|refine in_map hnl ?_|refine in_nat hnl ?_|refine ix_map hx ?_)|refine zG ?_|apply zA|(apply zI;intro h)|exact zT));(all_goals conv=>whnf)
  refine Jn.intro Unit (fun _=>⟨2,[(1,.box [.v (.string x.cls),encXs x.set]),(0,boxPol p)],[(3,.op 0 0),(6,.op 1 0),(36,.lst (p.insp.map encIn)),(37,.v (.int .i64 ((p.insp.map encIn).length:Nat))),(38,.v (.int .i64 n)),(5,.v (.int .i64 n))]⟩)
   (fun _=>nameOk x.cls/\(∀k y,n=k+1->p.insp[k]? =some y->leS x.cls y.cls=false)/\x.set≠[]/\setB x.set=true/\subB x.set p.allow=true) ?_ ?_
  ·have hemp:∀{l:List Bx},¬(((l.map encX).length:Nat):Int)=0->l≠[]:=fun h e=>h (by rw[e];rfl)
   rcases hprev with rfl|⟨k,y,rfl,hy⟩
   ·(repeat' ((conv=>whnf);first|(with_reducible first|refine in_map hnl ?_|refine in_nat hnl ?_|refine ix_map hx ?_|refine csName _ ?_|refine cxVald x.set hxl ?_|refine hsubx ?_)|refine zG ?_|apply zA|(apply zI;intro h)|exact zT));(all_goals conv=>whnf)
    all_goals first
     |(exact fin_f hK (hbx fun ho=>by first
        |exact absurd h (by rw[nameB_true ho.name];decide)
        |exact absurd h (by rw[ho.set];decide)
        |exact absurd h (by rw[ho.sub];decide)
        |exact ho.ne (bS.1 (by rw[aA]at h;omega))))
     |(refine⟨(),⟨nameB_iff.1 zp,fun k y h=>by omega,hemp zp,by assumption,by assumption⟩,?_⟩
       (exact leA)
       done)
   ·have hkl:k<p.insp.length:=by omega
    have hordk:(Op.bytesLess x.cls.toList y.cls.toList||x.cls.toList==y.cls.toList)=false->∀k' y',k+1=k'+1->p.insp[k']? =some y'->leS x.cls y'.cls=false:=fun h k' y' h1 h2=>by
     obtain rfl:k=k':=by omega
     rw[hy]at h2;cases h2;exact h
    (repeat' ((conv=>whnf);first|(with_reducible first|refine in_map hnl ?_|refine in_nat hnl ?_|refine In.intro k zo (by rw[aA];exact hkl) ?_|refine ix_map hx ?_|refine ix_map hy ?_|refine csName _ ?_|refine cxVald x.set hxl ?_|refine hsubx ?_)|refine zG ?_|apply zA|(apply zI;intro h)|exact zT));(all_goals conv=>whnf)
    all_goals first
     |(exact fin_f hK (hbx fun ho=>by first
        |exact absurd h (by rw[nameB_true ho.name];decide)
        |exact absurd h (by rw[ho.set];decide)
        |exact absurd h (by rw[ho.sub];decide)
        |exact ho.ne (bS.1 (by rw[aA]at h;omega))
        |exact absurd (show leS x.cls y.cls=true from h) (by rw[ho.ord k y rfl hy];decide)))
     |(refine⟨(),⟨nameB_iff.1 zp,hordk zp,hemp zp,by assumption,by assumption⟩,?_⟩
       (exact leA)
       done)
  ·rintro⟨⟩ ⟨f1,f2,f3,f4,f5⟩
   (repeat' ((conv=>whnf);first|(with_reducible first|refine Sb.intro 0 n rfl rfl zo (by rw[aA];omega) ?_|refine hslice ?_)|refine zG ?_|apply zA|(apply zI;intro h)|exact zT));(all_goals conv=>whnf)
   have htl:(p.insp.take n).length=n:=by rw[bI];omega
   refine Lp.intro Nat (fun k=>⟨2,[(1,.box [.v (.string x.cls),encXs x.set]),(0,boxPol p)],[(3,.op 0 0),(6,.op 1 0),(36,.lst (p.insp.map encIn)),(37,.v (.int .i64 ((p.insp.map encIn).length:Nat))),(38,.v (.int .i64 n)),(86,.lst ((p.insp.take n).map encIn)),(87,.v (.int .i64 (((p.insp.take n).map encIn).length:Nat))),(88,.v (.int .i64 k))]⟩) (fun k=>k<=n/\∀(i:Nat) y,i<k->p.insp[i]? =some y->disjS x.set y.set) (fun k=>n-k) 0 ⟨aH _,fun i y h=>absurd h (aZ _)⟩ ?_ ?_
   ·(exact leA)
   intro k ⟨hk,hdis⟩
   rcases aB k n with hkn|hkn
   ·obtain⟨y,hy⟩:∃y,p.insp[k]? =some y:=⟨_,aD zo⟩
    have hyt:(p.insp.take n)[k]? =some y:=by rw[cS,aG hkn];exact hy
    have hkt:k<(p.insp.take n).length:=by omega
    have hyl:=hsl y (aF hy)
    have hys:=(hinv k y hkn hy).set
    have hdi:=disj_iff f4 hys
    have hle:=lim_empty (cano anB 5 x.set y.set)
    have hint:∀{K:KT},K (.tup [encXs (limP (cano anB 5 x.set y.set)),.v (.int .i64 (limE (cano anB 5 x.set y.set)))]) []->ACall Tryz.prog 76 [encXs x.set,encXs y.set] [] K:=fun h=>cxInt x.set y.set hxl hyl (by rw[combP_set f4 hys];exact h)
    generalize cano anB 5 x.set y.set=c at*
    (repeat' ((conv=>whnf);first|(with_reducible first|refine in_map hkt ?_|refine in_nat hkt ?_|refine ix_map hyt ?_|refine hint ?_)|refine zG ?_|apply zA|(apply zI;intro h)|exact zT));(all_goals conv=>whnf)
    all_goals first
     |(refine⟨k+1,⟨hkn,all_succ hy (hdi.1 (Decidable.byContradiction fun hc=>?_)) hdis⟩,by omega,?_⟩
       ·rcases hle.2 hc with h1|h1
        ·exact h1 zp
        ·simp only[aA]at*
         omega
       ·rw[aN,aL]
        (exact leA))
     |(refine fin_f hK (hbx fun ho=>?_)
       have hc:=hdi.2 (ho.disj k y hkn hy)
       refine absurd hc (hle.1 ?_)
       first
        |(right;rw[aA]at h;omega)
        |(left;assumption))
   ·have hke:k=n:=by omega
    subst hke
    (repeat' ((conv=>whnf);first|refine zG ?_|apply zA|(apply zI;intro h)|exact zT));(all_goals conv=>whnf)
    refine⟨k+1,⟨hnl,all_succ hx ⟨f1,f2,f3,f4,f5,fun j y hj hy=>hdis j y hj hy⟩ hinv⟩,by omega,?_⟩
    rw[aN,aL]
    (exact leA)
 ·(repeat' ((conv=>whnf);first|refine zG ?_|apply zA|(apply zI;intro h)|exact zT));(all_goals conv=>whnf)
  exact fin_t hK (polB_true ⟨hc1,hc2,hc3,hc4,before_all hnl hinv⟩)
noncomputable def gnCont:Ctx:={N:=18,plan:=at1 4 (some (ln [1,3,5,7,9,10])) (fun _=>none)}
noncomputable def bnCont:Code:=bdy Tryz.f22
abbrev ofnCont:=@ofC Tryz.prog gnCont 22 Tryz.f22 bnCont Tryz.func22 zk zk zk zk
noncomputable def gnStm:Ctx:={N:=92,np:=2,own:=at1 16 (true) (at1 190 (true) (fun _=>false)),plan:=at1 1 (some (.one 0 true (.one 3 true (.one 4 true (.one 7 true (.one 8 true (.one 11 true (.one 12 true (.wch 5 (.wch 9 (.wch 13 (.alt 1 (.one 2 true (.alt 6 (.alt 10 (.alt 14 (ln [31,32,34]) (.alt 16 (ln [28,31,34]) (.stop))) (.alt 16 (ln [20,28,31,34]) (.stop))) (.alt 16 (ln [12,20,28,31,34]) (.stop)))) (.alt 16 (ln [2,5,12,20,28,31,34]) (.stop)))))))))))))) (at1 3 (some (.one 0 true (.one 1 true (.one 2 true (.one 4 true (.one 5 true (.one 8 true (.wch 6 (ln [6,14,18,21,22,25,26]))))))))) (at1 8 (some (.one 0 true (.one 2 true (.one 3 true (.one 4 true (.one 5 true (.wch 1 (ln [12,15,17,19,21,22])))))))) (fun _=>none))),cut:=at1 4 (true) (at1 7 (true) (at1 9 (true) (fun _=>false)))}
noncomputable def bnStm:Code:=bdy Tryz.f108
abbrev ofnStm:=@ofC Tryz.prog gnStm 108 Tryz.f108 bnStm Tryz.func108 zk zk zk zk
noncomputable def gnInt:Ctx:={N:=260,np:=1,own:=at1 16 (true) (at1 90 (true) (at1 106 (true) (at1 107 (true) (at1 108 (true) (at1 65 (true) (fun _=>false)))))),plan:=at1 36 (some (.one 0 true (.one 2 true (.wch 1 (ln [6,9,10,12,15,16]))))) (at1 40 (some (.one 0 true (.one 2 true (.one 3 true (.one 4 true (.wch 1 (ln [10,12,14,17,18]))))))) (at1 43 (some (.one 0 true (.one 3 true (.one 7 true (.one 10 true (.one 15 true (.one 17 true (.wch 1 (.wch 11 (.one 12 true (.one 13 true (.wch 14 (.wch 16 (.alt 2 (.one 4 false (.one 5 true (.wch 6 (ln [16,19,36,39,41,42,44,47,48])))) (.alt 4 (.alt 2 (.one 5 true (.wch 6 (ln [16,19,36,39,41,42,44,47,48]))) (.alt 8 (.one 9 true (.alt 2 (.one 5 true (.wch 6 (ln [36,39,41,42,44,47,48]))) (.alt 18 (ln [39,4,11,13,41,42,44,47,48]) (.stop)))) (.stop))) (.stop)))))))))))))))) (at1 46 (some (.one 0 true (.one 2 true (.one 4 true (.one 8 true (.wch 1 (.wch 3 (.one 5 true (.one 6 true (.wch 7 (ln [18,21,23,25,27,28,30,33,34]))))))))))) (fun _=>none)))),hints:=at1 2 ([.virtB 7 0 2,.virtB 7 1 2,.virtB 7 2 2]) (at1 6 ([.virtB 9 1 7]) (at1 16 ([.freezeB 9]) (at1 21 ([.virtB 14 1 7]) (at1 34 ([.freezeB 14]) (at1 37 ([.freezeB 7,.virtB 7 3 10]) (at1 41 ([.virtB 7 4 6,.virtB 7 5 5]) (fun _=>[]))))))),cut:=at1 13 (true) (at1 15 (true) (at1 31 (true) (at1 33 (true) (at1 37 (true) (at1 44 (true) (at1 47 (true) (fun _=>false)))))))}
noncomputable def bnInt:Code:=bdy Tryz.f44
abbrev ofnInt:=@ofC Tryz.prog gnInt 44 Tryz.f44 bnInt Tryz.func44 zk zk zk zk
noncomputable def gh18Real:Ctx:={N:=49,hints:=at1 4 ([.virt 4 10]) (fun _=>[])}
noncomputable def bh18Real:Code:=bdy Tryz.f55
abbrev ofh18Real:=@ofC Tryz.prog gh18Real 55 Tryz.f55 bh18Real Tryz.func55 zk zk zk zk
noncomputable def gh18Act:Ctx:={N:=35}
noncomputable def bh18Act:Code:=bdy Tryz.f102
abbrev ofh18Act:=@ofC Tryz.prog gh18Act 102 Tryz.f102 bh18Act Tryz.func102 zk zk zk zk
noncomputable def gh18Ord:Ctx:={N:=49,hints:=at1 4 ([.virt 5 1]) (fun _=>[])}
noncomputable def bh18Ord:Code:=bdy Tryz.f38
abbrev ofh18Ord:=@ofC Tryz.prog gh18Ord 38 Tryz.f38 bh18Ord Tryz.func38 zk zk zk zk
noncomputable def gh18Put:Ctx:={N:=82,plan:=at1 7 (some (.one 1 true (.one 2 true (.one 3 true (.one 5 true (.one 6 true (.one 7 true (.one 10 true (.one 11 true (.one 12 true (.alt 0 (.alt 4 (ln [16,18,26,29,31]) (.alt 8 (ln [8,18,26,29,31]) (.stop))) (.alt 8 (ln [0,8,18,26,29,31]) (.stop))))))))))))) (fun _=>none)}
noncomputable def bh18Put:Code:=bdy Tryz.f60
abbrev ofh18Put:=@ofC Tryz.prog gh18Put 60 Tryz.f60 bh18Put Tryz.func60 zk zk zk zk
noncomputable def gh18At:Ctx:={N:=129,plan:=at1 16 (some (ln [1,3,5,7,9,11,13,15,16,18])) (at1 17 (some (ln [1,3,5,7,9,11,12,15,17,19,21,23])) (fun _=>none)),cut:=at1 24 (true) (at1 26 (true) (fun _=>false))}
noncomputable def bh18At:Code:=bdy Tryz.f13
abbrev ofh18At:=@ofC Tryz.prog gh18At 13 Tryz.f13 bh18At Tryz.func13 zk zk zk zk
theorem Weak.agg{xs ys:List AV}(h:WeakL xs ys):Weak (.agg xs) (.agg ys):=fun E w ι v hv=>by
 cases hv with
 |agg _ c hs hh=>
  have:=WeakL.rel h (show RL E w ι xs c from⟨hs,hh⟩)
  exact .agg _ c this.1 this.2
theorem WeakL.refl:∀{xs:List AV},WeakL xs xs
 |[]=>trivial
 |_::_=>⟨Weak.refl,WeakL.refl⟩
theorem nodup_len{l:List Nat}{m:Nat}(h:l.Nodup)(hb:∀x,x∈l->x<m):l.length<=m:=by
 have:=nodup_sub (l:=l.map fun n:Nat=>(n:Int)) (m:=(List.range m).map fun n:Nat=>(n:Int)) (by
  unfold List.Nodup at*
  rw[fA]
  exact h.imp fun hab e=>hab zo) (fun x hx=>by
  obtain⟨n,hn,rfl⟩:=bU.1 hx
  exact bU.2 ⟨n,dJ.2 (hb n hn),rfl⟩)
 simpa using this
noncomputable abbrev walkO(l:List Df)(a b nd ni:Nat):Vm.Obj:=.box [.lst (l.map encDf),.os a 1 0 nd,.os b 7 0 ni]
def Lf(l:List Df)(y:It):Prop:=y.kind≠3/\∃d,d∈l/\y∈d.items
structure FolR (l:List Df) (a b:Nat) (B:Nat) (done:List Nat) (its:List It):Prop where
 d:done.length<=a+B
 i:its.length<=b+B
 lf:∀y,y∈its->Lf l y
noncomputable abbrev pthV(path:List Nat)(n:Nat):AV:=.lst ([]++path.map vN++[.v (.int .i64 (n:Int))])
theorem chFol(t:Tp)(ht:t.edges.length<=5)(l:List Df)(hl:l.length<=100)(hi:∀d,d∈l->d.items.length<=2):∀(k:Nat) (path:List Nat) (n:Nat) (done:List Nat) (its:List It),l.length<=path.length+k->path.Nodup->(∀x,x∈path->x<l.length)->n<l.length->
  done.length+4^k<=100000->its.length+4^k<=100000->(∀y,y∈its->Lf l y)->∀{K:KT},
  (∀(e:Int) (done':List Nat) (its':List It),FolR l done.length its.length (4^k) done' its'->K (.v (.int .i64 e)) [walkO l 3 4 done'.length its'.length,.box [],.box [],.arr 1 (done'.map vN),.arr 7 (its'.map encIt)])->
  ACall Tryz.prog 242 [.op 0 0,encT t,.v (.int .i64 n),.lst (path.map vN)] [walkO l 1 2 done.length its.length,.arr 1 (done.map vN),.arr 7 (its.map encIt)] K:=by
 intro k
 induction k with
 |zero=>
  intro path n done its hk hnd hb hn hd hit hlf K hK
  have hm:n∈path:=Classical.byContradiction fun h=>by
   have:=nodup_len (l:=n::path) (m:=l.length) (List.nodup_cons.2 ⟨h,hnd⟩) (fun x hx=>by
    rcases aW.1 hx with rfl|hx
    ·exact hn
    ·exact hb x hx)
   simp only[aJ]at this
   omega
  have hpl:=nodup_len hnd hb
  refine ofh17Fol rfl rfl ?_
  (repeat' ((conv=>whnf);first|(with_reducible refine chHas path n zo ?_)|refine zG ?_|apply zA|(apply zI;intro h)|exact zT));(all_goals conv=>whnf)
  all_goals first
   |exact hK _ done its ⟨by omega,by omega,hlf⟩
   |(exfalso;simp_all;done)
 |succ k ih=>
  intro path n done its hk hnd hb hn hd hit hlf K hK
  have hpl:=nodup_len hnd hb
  have hp4:4^(k+1)=4*4^k:=by rw[Nat.pow_succ];omega
  have hp1:1<=4^k:=Nat.one_le_pow _ _ zd
  obtain⟨x,hx⟩:=gex hn
  have hx2:=hi x (aF hx)
  by_cases hm:n∈path
  ·refine ofh17Fol rfl rfl ?_
   (repeat' ((conv=>whnf);first|(with_reducible refine chHas path n zo ?_)|refine zG ?_|apply zA|(apply zI;intro h)|exact zT));(all_goals conv=>whnf)
   all_goals first
    |exact hK _ done its ⟨by omega,by omega,hlf⟩
    |(exfalso;simp_all;done)
  have hrec:∀(r:Int),0<=r->r<l.length->∀(d':List Nat) (i':List It),d'.length+4^k<=100000->i'.length+4^k<=100000->(∀y,y∈i'->Lf l y)->∀{K:KT},
   (∀(e:Int) (done':List Nat) (its':List It),FolR l d'.length i'.length (4^k) done' its'->K (.v (.int .i64 e)) [walkO l 3 4 done'.length its'.length,.box [],.box [],.arr 1 (done'.map vN),.arr 7 (its'.map encIt)])->
   ACall Tryz.prog 242 [.op 0 0,encT t,.v (.int .i64 r),pthV path n] [walkO l 1 2 d'.length i'.length,.arr 1 (d'.map vN),.arr 7 (i'.map encIt)] K:=fun r r0 r1 d' i' b1 b2 b3 K h=>by
   obtain⟨m,rfl⟩:=cP r0
   have e:pthV path n=.lst ((path++[n]).map vN):=by simp[pthV]
   rw[e]
   refine ih (path++[n]) m d' i' (by simp only[aC,aJ,aO];omega) ?_ ?_ zo b1 b2 b3 h
   ·rw[dZ]
    exact⟨hnd,by simp,fun a ha b hb=>by rw[aR.1 hb];exact fun e=>hm (e▸ha)⟩
   ·intro y hy
    rcases aS.1 hy with hy|hy
    ·exact hb y hy
    ·rw[aR.1 hy];exact hn
  clear ih
  refine ofh17Fol rfl rfl ?_
  (repeat' ((conv=>whnf);first|(with_reducible first|refine chHas path n zo ?_|refine chHas done n zo ?_|refine sl_full (by simp only[aA,aC,aJ,aO]) ?_)|refine zG ?_|apply zA|(apply zI;intro h)|exact zT));(all_goals conv=>whnf)
  all_goals first
   |exact hK _ done its ⟨by omega,by omega,hlf⟩
   |skip
  refine Lp.intro (Nat×List Nat×List It) (fun g=>⟨6,[(0,walkO l 3 4 g.2.1.length g.2.2.length),(3,.arr 1 (g.2.1.map vN)),(4,.arr 7 (g.2.2.map encIt)),(5,boxT t)],[(0,.op 0 0),(2,.v (.int .i64 n)),(3,pthV path n),(5,.op 5 0),(9,.v (.int .i64 g.1))]⟩)
   (fun g=>g.1<=x.items.length/\g.2.1.length<=done.length+g.1*4^k/\g.2.2.length<=its.length+g.1*4^k/\∀y,y∈g.2.2->Lf l y) (fun g=>x.items.length-g.1) (0,done,its) ⟨aH _,by simp only;omega,by simp only;omega,hlf⟩ ?_ ?_
  ·(exact leA)
  rintro⟨i,dn,im⟩ ⟨h1,h2,h3,h4⟩
  simp only at h1 h2 h3 h4⊢
  have hik:i*4^k<=2*4^k:=bT _ zo
  have his:(i+1)*4^k=i*4^k+4^k:=fI ..
  rcases aB i x.items.length with hil|hil
  ·have hik1:i*4^k<=1*4^k:=bT _ zo
   obtain⟨y,hy⟩:=gex hil
   have hyl:∀y',y'∈im++[y]->y.kind≠3->Lf l y':=fun y' h h3=>by
    rcases aS.1 h with h|h
    ·exact h4 y' h
    ·rw[aR.1 h];exact⟨h3,x,aF hx,aF hy⟩
   (repeat' ((conv=>whnf);first|(with_reducible first|refine in_map hn ?_|refine ix_map hx ?_|refine in_map hil ?_|refine ix_map hy ?_|refine cjFind l _ zo fun r r0 r1=>?_|refine hrec _ zo zp dn im zo zo h4 fun e dn2 im2 hf=>?_)|refine zG ?_|apply zA|(apply zI;intro h)|exact zT));(all_goals conv=>whnf)
   ·exact hK _ dn im ⟨by omega,by omega,h4⟩
   ·refine⟨(i+1,dn2,im2),⟨hil,by have:=hf.d;simp only;omega,by have:=hf.i;simp only;omega,hf.lf⟩,by simp only;omega,?_⟩
    simp only[aN,aL]
    (exact leA)
   ·exact hK _ dn2 im2 ⟨by have:=hf.d;omega,by have:=hf.i;omega,hf.lf⟩
   ·refine Jn.at ⟨7,[(6,.box [.v (.int .i64 y.kind),.v (.string y.name),.v (.int .u32 y.pf.addr),.v (.int .i64 y.pf.bits),.v (.int .i64 y.proto),.v (.int .u32 y.ports.lo),.v (.int .u32 y.ports.hi)]),(0,walkO l 3 4 dn.length im.length),(3,.arr 1 (dn.map vN)),(4,.arr 7 (im.map encIt)),(5,boxT t)],[(0,.op 0 0),(2,.v (.int .i64 n)),(3,pthV path n),(5,.op 5 0),(9,.v (.int .i64 i)),(10,.op 6 0)]⟩ ?_ ?_
    ·(repeat' ((conv=>whnf);first|(with_reducible refine chZone t _ ht fun z hz hzb=>?_)|refine zG ?_|apply zA|(apply zI;intro h)|exact zT));(all_goals conv=>whnf)
     all_goals first
      |exact hK _ dn im ⟨by omega,by omega,h4⟩
      |(refine⟨(),trivial,?_⟩
        (exact leA)
        done)
    ·(repeat' ((conv=>whnf);first|refine zG ?_|apply zA|(apply zI;intro h)|exact zT));(all_goals conv=>whnf)
     refine⟨(i+1,dn,im++[y]),⟨hil,by simp only;omega,by simp only[aC,aJ,aO];omega,fun y' h=>hyl y' h zp⟩,by simp only;omega,?_⟩
     simp only[aQ,aC,aU,bF,aJ,aO,aN,aL]
     (exact leA)
  ·(repeat' ((conv=>whnf);first|(with_reducible first|refine in_map hn ?_|refine ix_map hx ?_)|refine zG ?_|apply zA|(apply zI;intro h)|exact zT));(all_goals conv=>whnf)
   have hnew:FolR l done.length its.length (4^(k+1)) (dn++[n]) im:=⟨by simp only[aC,aJ,aO];omega,by omega,h4⟩
   have:=hK 0 (dn++[n]) im hnew
   simp only[aQ,aC,aU,bF,aJ,aO]at this
   exact this
structure Few (i:Nt):Prop where
 sml:Sml i
 g3:i.grps.length<=3
 s3:i.svcs.length<=3
 gi:∀d,d∈i.grps->d.items.length<=2
 si:∀d,d∈i.svcs->d.items.length<=2
theorem pow4{n:Nat}(h:n<=3):4^n<=64:=eY zd h
theorem nodup_nil':([]:List Nat).Nodup:=List.Pairwise.nil
theorem chFind(t:Tp)(ht:t.edges.length<=5)(l:List Df)(hl:l.length<=3)(hi:∀d,d∈l->d.items.length<=2)(s:ByteArray){K:KT}(hK:∀(its:List It) (e:Int),its.length<=64->(∀y,y∈its->Lf l y)->K (.tup [.lst (its.map encIt),.v (.int .i64 e)]) []):
  ACall Tryz.prog 158 [encT t,.lst (l.map encDf),.v (.string s)] [] K:=by
 have h4:=pow4 hl
 have hf:∀(r:Int),0<=r->r<l.length->∀{K:KT},(∀(e:Int) (done':List Nat) (its':List It),FolR l 0 0 (4^l.length) done' its'->K (.v (.int .i64 e)) [walkO l 3 4 done'.length its'.length,.box [],.box [],.arr 1 (done'.map vN),.arr 7 (its'.map encIt)])->
  ACall Tryz.prog 242 [.op 0 0,encT t,.v (.int .i64 r),.nils] [walkO l 1 2 0 0,.arr 1 [],.arr 7 []] K:=fun r r0 r1 K h=>by
  obtain⟨m,rfl⟩:=cP r0
  exact ACall.args (ys:=[.op 0 0,encT t,.v (.int .i64 m),.lst (([]:List Nat).map vN)]) ⟨Weak.refl,Weak.refl,Weak.refl,Weak.nils,trivial⟩
   (chFol t ht l zo hi l.length [] m [] [] zx nodup_nil' (fun x hx=>by simp at hx) zo (by simp;omega) (by simp;omega) (fun y hy=>by simp at hy) h)
 refine ACall.weak (ofh17Find rfl rfl ?_)
 (repeat' ((conv=>whnf);first|(with_reducible first|refine cjFind l s zo fun r r0 r1=>?_|refine hf _ zo zp fun e dn im hfr=>?_)|refine zG ?_|apply zA|(apply zI;intro h)|exact zT));(all_goals conv=>whnf)
 ·exact⟨_,Weak.tup2 Weak.nils Weak.refl,hK [] _ zx zx⟩
 ·exact⟨_,Weak.refl,hK im e (by have:=hfr.i;omega) hfr.lf⟩
theorem lf_rg{t:Tp}{i:Nt}{y:It}(h:Lf i.grps y):y.pf.rg∈rgsI t i:=by
 obtain⟨_,d,hd,hy⟩:=h
 exact List.mem_append_right _ (dT.2 ⟨d,hd,bU.2 ⟨y,hy,rfl⟩⟩)
theorem ed_rg{t:Tp}{i:Nt}{r:Rg}(h:∃e,e∈t.edges/\r=e.pf.rg):r∈rgsI t i:=by
 obtain⟨e,he,rfl⟩:=h
 exact dO _ (bU.2 ⟨e,he,rfl⟩)
theorem c14z(a:List Rg)(ha:a.length<10000){K:KT}(hK:∀out,(∀v,has out v=has a v)->out.length<=2*a.length+1->K (encRs out) []):ACall Tryz.prog 155 [encRs a,.lst []] [] K:=
 c14 a [] ha zx fun out h1 h2 h3=>hK out (fun v=>by rw[h2];simp[has_nil]) (by simpa using h3)
theorem chGrp(t:Tp)(ht:t.edges.length<=5)(i:Nt)(hf:Few i)(s:ByteArray){K:KT}(hK:∀(rs:List Rg) (e:Int),rs.length<=700->RespR t i rs->K (.tup [encRs rs,.v (.int .i64 e)]) []):
  ACall Tryz.prog 78 [encT t,encNt i,.v (.string s)] [] K:=by
 refine ACall.weak (ofh17Grp rfl rfl ?_)
 (repeat' ((conv=>whnf);first|(with_reducible first|refine cuCompB t zo ?_|refine cjVal i hf.sml fun b hb=>?_|refine chAll t ht fun l hl hb=>?_|refine chEdg t _ zp zp fun rs hrs he=>?_|refine c14z _ zo fun out ho1 ho2=>?_|refine chFind t ht i.grps hf.g3 hf.gi s fun its e hits hlf=>?_)|refine zG ?_|apply zA|(apply zI;intro h)|exact zT));(all_goals conv=>whnf)
 all_goals first
  |exact⟨_,Weak.tup2 Weak.nils Weak.refl,hK [] _ zx RespR.nil⟩
  |exact⟨_,Weak.refl,hK out _ zo ((RespR.of fun r hr=>ed_rg (he r hr)).has ho1)⟩
  |skip
 refine Lp.intro (Nat×List Rg) (fun g=>⟨2,[(0,boxT t),(1,.arr 2 (g.2.map encR))],[(3,.op 0 0),(8,.lst (its.map encIt)),(10,.os 1 2 0 g.2.length),(11,.v (.int .i64 g.1))]⟩)
  (fun g=>g.1<=its.length/\g.2.length<=5*g.1/\∀r,r∈g.2->r∈rgsI t i) (fun g=>its.length-g.1) (0,[]) ⟨aH _,aH _,fun r h=>by simp at h⟩ ?_ ?_
 ·(exact leA)
 rintro⟨k,out⟩ ⟨h1,h2,h3⟩
 simp only at h1 h2 h3⊢
 rcases aB k its.length with hkl|hkl
 ·obtain⟨y,hy⟩:=gex hkl
  have hyl:=hlf y (aF hy)
  (repeat' ((conv=>whnf);first|(with_reducible first|refine in_map hkl ?_|refine ix_map hy ?_|refine chZone t _ ht fun z hz hzb=>?_|refine chEdg t _ zp zp fun rs hrs he=>?_|refine crOf _ ?_)|refine zG ?_|apply zA|(apply zI;intro h)|exact zT));(all_goals conv=>whnf)
  ·refine⟨(k+1,out++rs),⟨hkl,by simp only[aC];omega,fun r hr=>by
    rcases aS.1 hr with hr|hr
    ·exact h3 r hr
    ·exact ed_rg (he r hr)⟩,by simp only;omega,?_⟩
   simp only[aQ,aC,aA,aN,aL]
   (exact leA)
  ·refine⟨(k+1,out++[y.pf.rg]),⟨hkl,by simp only[aC,aJ,aO];omega,fun r hr=>by
    rcases aS.1 hr with hr|hr
    ·exact h3 r hr
    ·rw[aR.1 hr];exact lf_rg hyl⟩,by simp only;omega,?_⟩
   simp only[aQ,aC,aU,bF,aJ,aO,aN,aL]
   (exact leA)
 ·(repeat' ((conv=>whnf);first|(with_reducible first|refine sl_full (aA ..) ?_|refine c14z out zo fun o ho1 ho2=>?_)|refine zG ?_|apply zA|(apply zI;intro h)|exact zT));(all_goals conv=>whnf)
  exact⟨_,Weak.refl,hK o _ zo ((RespR.of h3).has ho1)⟩
def tp0:Tp:=⟨[],[],[],[],0⟩
theorem chSvc(t:Tp)(i:Nt)(hf:Few i)(s:ByteArray){K:KT}(hK:∀(l:List Bx) (e:Int),setB l=true->Resp t i l->K (.tup [encXs l,.v (.int .i64 e)]) []):
  ACall Tryz.prog 79 [encNt i,.v (.string s)] [] K:=by
 have hfz:∀{K:KT},(∀(its:List It) (e:Int),its.length<=64->(∀y,y∈its->Lf i.svcs y)->K (.tup [.lst (its.map encIt),.v (.int .i64 e)]) [])->
  ACall Tryz.prog 158 [.agg [.lst [],.lst [],.lst [],.lst [],.v (.int .i64 0)],.lst (i.svcs.map encDf),.v (.string s)] [] K:=fun h=>
  (chFind tp0 (by simp[tp0]) i.svcs hf.s3 hf.si s h)
 refine ACall.weak (ofh17Svc rfl rfl ?_)
 (repeat' ((conv=>whnf);first|(with_reducible first|refine cjVal i hf.sml fun b hb=>?_|refine cr4Init ?_|refine hfz fun its e hits hlf=>?_)|refine zG ?_|apply zA|(apply zI;intro h)|exact zT));(all_goals conv=>whnf)
 all_goals first
  |exact⟨_,Weak.tup2 Weak.nils Weak.refl,hK [] _ setB_nil Resp.nil⟩
  |exact⟨_,Weak.refl,hK initS _ init_set Resp.init⟩
  |skip
 refine Lp.intro (Nat×List Bx) (fun g=>⟨0,[],[(6,.lst (its.map encIt)),(8,encXs g.2),(9,.v (.int .i64 g.1))]⟩)
  (fun g=>g.1<=its.length/\setB g.2=true/\Resp t i g.2) (fun g=>its.length-g.1) (0,[]) ⟨aH _,setB_nil,Resp.nil⟩ ?_ ?_
 ·(exact leA)
 rintro⟨k,l⟩ ⟨h1,h2,h3⟩
 simp only at h1 h2 h3⊢
 have hll:=(setB_pset h2).len
 rcases aB k its.length with hkl|hkl
 ·obtain⟨y,hy⟩:=gex hkl
  obtain⟨_,hyl⟩:=hlf y (aF hy)
  have hhl:=(setB_pset (setB_combP anB initS [hdrX y])).len
  (repeat' ((conv=>whnf);first|(with_reducible first|refine in_map hkl ?_|refine ix_map hy ?_|refine chHdr y ?_|refine cr4Un l (combP anB initS [hdrX y]).1 zo zo ?_)|refine zG ?_|apply zA|(apply zI;intro h)|exact zT));(all_goals conv=>whnf)
  all_goals first
   |exact⟨_,Weak.tup2 Weak.nils Weak.refl,hK [] _ setB_nil Resp.nil⟩
   |(refine⟨(k+1,(combP orB l (combP anB initS [hdrX y]).1).1),⟨hkl,setB_combP ..,Resp.comb h3 (Resp.hdr hyl) h2 (setB_combP ..)⟩,by simp only;omega,?_⟩
     simp only[aN,aL]
     (exact leA)
     done)
 ·(repeat' ((conv=>whnf);first|refine zG ?_|apply zA|(apply zI;intro h)|exact zT));(all_goals conv=>whnf)
  exact⟨_,Weak.refl,hK l _ h2 h3⟩
theorem btwB_nil(b:List Rg):btwB [] b=[]:=rfl
theorem btwB_snoc(a:List Rg)(r:Rg)(b:List Rg):btwB (a++[r]) b=btwB a b++b.map fun s=>btwX r s:=by simp[btwB]
theorem btwB_len(b:List Rg):∀a:List Rg,(btwB a b).length=a.length*b.length
 |[]=>by simp[btwB]
 |r::a=>by
  have:=btwB_len b a
  simp only[btwB,cR,aC,aA,aJ,fI]at*
  omega
theorem chBtw(a b:List Rg)(ha:a.length<=700)(hb:b.length<=700){K:KT}(hK:K (.tup [encXs (makeP (btwB a b)).1,.v (.int .i64 (makeP (btwB a b)).2)]) []):ACall Tryz.prog 129 [encRs a,encRs b] [] K:=by
 refine ofh17Btw rfl rfl ?_
 (repeat' ((conv=>whnf);first|refine zG ?_|apply zA|(apply zI;intro h)|exact zT));(all_goals conv=>whnf)
 refine Lp.intro Nat (fun i=>⟨1,[(0,.arr 10 ((btwB (a.take i) b).map encX))],[(0,encRs a),(1,encRs b),(6,.os 0 10 0 (btwB (a.take i) b).length),(7,.v (.int .i64 i))]⟩) (fun i=>i<=a.length) (fun i=>a.length-i) 0 (aH _) ?_ ?_
 ·rw[cW,btwB_nil]
  (exact leA)
 intro i hi
 have hl:=btwB_len b (a.take i)
 have hm:(a.take i).length*b.length<=700*700:=dQ (by rw[bI];omega) hb
 rcases aB i a.length with hil|hil
 ·obtain⟨r,hr⟩:=gex hil
  have hs:btwB (a.take (i+1)) b=btwB (a.take i) b++b.map fun s=>btwX r s:=by rw[bJ,hr];exact btwB_snoc ..
  generalize btwB (a.take i) b=A at*
  (repeat' ((conv=>whnf);first|refine zG ?_|apply zA|(apply zI;intro h)|exact zT));(all_goals conv=>whnf)
  refine Lp.intro Nat (fun k=>⟨1,[(0,.arr 10 ((A++(b.take k).map fun s=>btwX r s).map encX))],[(0,encRs a),(1,encRs b),(6,.os 0 10 0 (A++(b.take k).map fun s=>btwX r s).length),(7,.v (.int .i64 i)),(8,.v (.int .i64 k))]⟩) (fun k=>k<=b.length) (fun k=>b.length-k) 0 (aH _) ?_ ?_
  ·rw[cW,bF,bD]
   (exact leA)
  intro k hk
  rcases aB k b.length with hkl|hkl
  ·obtain⟨s,hs2⟩:=gex hkl
   have hap:(A++(b.take (k+1)).map fun s=>btwX r s)=(A++(b.take k).map fun s=>btwX r s)++[btwX r s]:=by rw[bJ,hs2];simp
   have hlen:(A++(b.take k).map fun s=>btwX r s).length<=1000000:=by rw[aC,aA,bI];omega
   generalize hB:(A++(b.take (k+1)).map fun s=>btwX r s)=B at*
   generalize (A++(b.take k).map fun s=>btwX r s)=C at*
   (repeat' ((conv=>whnf);first|(with_reducible first|refine cr3Full ?_|refine in_map hil ?_|refine in_map hkl ?_|refine ix_map hr ?_|refine ix_map hs2 ?_)|(refine in_c zd ?_)|refine zG ?_|apply zA|(apply zI;intro h)|exact zT));(all_goals conv=>whnf)
   all_goals
    refine⟨k+1,hkl,by omega,?_⟩
    rw[hB,hap,aQ,aC,aN k,aL]
    (exact leA)
  ·(repeat' ((conv=>whnf);first|refine zG ?_|apply zA|(apply zI;intro h)|exact zT));(all_goals conv=>whnf)
   have hke:k=b.length:=by omega
   rw[hke,cU,<-hs]
   refine⟨i+1,hil,by omega,?_⟩
   rw[aN i,aL]
   (exact leA)
 ·have hie:i=a.length:=by omega
  have hbl:(btwB a b).length<1000000000:=by
   have:=dQ ha hb
   rw[btwB_len];omega
  rw[hie,cU]
  have hfull:((btwB a b).map encX).length=(btwB a b).length:=aA ..
  (repeat' ((conv=>whnf);first|(with_reducible first|refine sl_full hfull ?_|refine cr4Make (btwB a b) hbl ?_)|refine zG ?_|apply zA|(apply zI;intro h)|exact zT));(all_goals conv=>whnf)
  exact hK
theorem setB_len{s:List Bx}(h:setB s=true):s.length<1000000000:=by have:=(setB_pset h).len;omega
theorem makeP_len(l:List Bx):(makeP l).1.length<1000000000:=by have:=(makeP_pset l).len;omega
theorem chStm(t:Tp)(ht:t.edges.length<=5)(i:Nt)(hf:Few i)(n:Nat)(hn:n<i.sts.length){K:KT}(hK:∀(s:List Bx) (e:Int),setB s=true->Resp t i s->K (.tup [encXs s,.v (.int .i64 e)]) []):
  ACall Tryz.prog 56 [encT t,encNt i,.v (.int .i64 n)] [] K:=by
 have hst:=hf.sml.t
 obtain⟨x,hx⟩:=gex hn
 refine ACall.weak (ofh17Stm rfl rfl ?_)
 (repeat' ((conv=>whnf);first|(with_reducible first|refine cuCompB t zo ?_|refine cjVal i hf.sml fun b hb=>?_|refine in_map hn ?_|refine ix_map hx ?_|refine chGrp t ht i hf _ fun rs e hl hr=>?_|refine chSvc t i hf _ fun s e hs hr=>?_|refine chBtw _ _ zp zp ?_|refine cr4Int _ _ (makeP_len _) (setB_len zp) ?_|refine cr4Sub _ _ (setB_len (setB_combP ..)) (makeP_len _) ?_)|refine zG ?_|apply zA|(apply zI;intro h)|exact zT));(all_goals conv=>whnf)
 all_goals first
  |exact⟨_,Weak.tup2 Weak.nils Weak.refl,hK [] _ setB_nil Resp.nil⟩
  |exact⟨_,Weak.refl,hK _ _ (setB_combP ..) (Resp.comb (Resp.btw zp zp) zp (setB_makeP _) zp)⟩
  |exact⟨_,Weak.refl,hK _ _ (setB_combP ..) (Resp.comb (Resp.comb (Resp.btw zp zp) zp (setB_makeP _) zp) (Resp.btw zp zp) (setB_combP ..) (setB_makeP _))⟩
theorem chCls(t:Tp)(s:ByteArray)(hd:t.devs.length<=100){K:KT}(hK:∀b,K (.sb b) []):ACall Tryz.prog 80 [encT t,.v (.string s)] [] K:=by
 refine ACall.bool (ofh17Cls rfl rfl ?_)
 (repeat' ((conv=>whnf);first|refine zG ?_|apply zA|(apply zI;intro h)|exact zT));(all_goals conv=>whnf)
 refine Lp.intro Nat (fun k=>⟨1,[(0,boxT t)],[(1,.v (.string s)),(2,.op 0 0),(5,.v (.int .i64 k))]⟩) (fun k=>k<=t.devs.length) (fun k=>t.devs.length-k) 0 (aH _) ?_ ?_
 ·(exact leA)
 intro k hk
 rcases aB k t.devs.length with hkl|hkl
 ·obtain⟨x,hx⟩:=gex hkl
  (repeat' ((conv=>whnf);first|(with_reducible first|refine in_map hkl ?_|refine ix_map hx ?_)|refine zG ?_|apply zA|(apply zI;intro h)|exact zT));(all_goals conv=>whnf)
  all_goals first
   |exact .inl ⟨_,rfl,hK _⟩
   |exact .inr ⟨_,rfl,hK _⟩
   |(refine⟨k+1,hkl,by omega,?_⟩
     rw[aN,aL]
     (exact leA)
     done)
 ·(repeat' ((conv=>whnf);first|refine zG ?_|apply zA|(apply zI;intro h)|exact zT));(all_goals conv=>whnf)
  all_goals first
   |exact .inl ⟨_,rfl,hK _⟩
   |exact .inr ⟨_,rfl,hK _⟩
theorem chReal(t:Tp)(hl:t.edges.length<=5)(hc:compB t=true){K:KT}(hK:K (.tup [encXs (realP t).1,.v (.int .i64 (realP t).2)]) []):ACall Tryz.prog 55 [encT t] [] K:=by
 have hpl:(pairsTo t.edges t.edges.length).length<=20:=pairs_len5 hl
 refine ACall.weak (ofh18Real rfl rfl ?_)
 unfold realP at hK
 (repeat' ((conv=>whnf);first|(with_reducible refine cuCompB t zo ?_)|refine zG ?_|apply zA|(apply zI;intro h)|exact zT));(all_goals conv=>whnf)
 all_goals first
  |(exfalso;simp_all;done)
  |skip
 refine Lp.intro Nat (fun a=>⟨2,[(1,.arr 10 ((pairsTo t.edges a).map encX)),(0,boxT t)],[(1,.op 0 0),(4,.os 1 10 0 (pairsTo t.edges a).length),(5,.v (.int .i64 a))]⟩) (fun a=>a<=t.edges.length) (fun a=>t.edges.length-a) 0 (aH _) ?_ ?_
 ·(exact leA)
 intro a ha
 have hl1:=pairsTo_len t.edges a
 have hl2:a*t.edges.length<=5*5:=dQ zo zo
 rcases aB a t.edges.length with hal|hal
 ·obtain⟨ea,hea⟩:=gex hal
  (repeat' ((conv=>whnf);first|refine zG ?_|apply zA|(apply zI;intro h)|exact zT));(all_goals conv=>whnf)
  refine Lp.intro Nat (fun b=>⟨2,[(1,.arr 10 ((pairsTo t.edges a++pairsAt t.edges a ea b).map encX)),(0,boxT t)],[(1,.op 0 0),(4,.os 1 10 0 (pairsTo t.edges a++pairsAt t.edges a ea b).length),(5,.v (.int .i64 a)),(6,.v (.int .i64 b))]⟩) (fun b=>b<=t.edges.length) (fun b=>t.edges.length-b) 0 (aH _) ?_ ?_
  ·rw[show pairsAt t.edges a ea 0=[]from rfl,bD]
   (exact leA)
  intro b hb
  have hl3:=pairsAt_len t.edges a ea b
  rcases aB b t.edges.length with hbl|hbl
  ·obtain⟨eb,heb⟩:=gex hbl
   have hs:=pairsAt_succ (a:=a) (ea:=ea) heb
   have hlen:(pairsTo t.edges a++pairsAt t.edges a ea b).length<=100:=by rw[aC];omega
   have hap:pairsTo t.edges a++pairsAt t.edges a ea (b+1)=(pairsTo t.edges a++pairsAt t.edges a ea b)++(if a=b then []else [whoB ea.pf eb.pf]):=by rw[hs,cJ]
   generalize hA:pairsTo t.edges a++pairsAt t.edges a ea b=A at*
   generalize hB:pairsTo t.edges a++pairsAt t.edges a ea (b+1)=B at*
   (repeat' ((conv=>whnf);first|(with_reducible refine cvWho t a b ea eb hea heb ?_)|refine zG ?_|apply zA|(apply zI;intro h)|exact zT));(all_goals conv=>whnf)
   all_goals
    refine⟨b+1,hbl,by omega,?_⟩
    first
     |(rw[aE zo]at hap
       rw[hB,hap,aQ,aC,aN b,aL]
       (exact leA)
       done)
     |(rw[aG zo,bD]at hap
       rw[hB,hap,aN b,aL]
       (exact leA)
       done)
  ·(repeat' ((conv=>whnf);first|refine zG ?_|apply zA|(apply zI;intro h)|exact zT));(all_goals conv=>whnf)
   have hbe:b=t.edges.length:=by omega
   rw[hbe,<-pairsTo_succ hea]
   refine⟨a+1,hal,by omega,?_⟩
   rw[aN a,aL]
   (exact leA)
 ·have hae:a=t.edges.length:=by omega
  rw[hae]
  have hfull:((pairsTo t.edges t.edges.length).map encX).length=(pairsTo t.edges t.edges.length).length:=aA ..
  have hmk:∀{K:KT},K (.tup [encXs (makeP (pairsB t.edges)).1,.v (.int .i64 (makeP (pairsB t.edges)).2)]) []->ACall Tryz.prog 127 [encXs (pairsTo t.edges t.edges.length)] [] K:=fun h=>cr4Make (pairsB t.edges) (by rw[pairsB];omega) h
  (repeat' ((conv=>whnf);first|(with_reducible first|refine sl_full hfull ?_|refine hmk ?_|refine cr4Init ?_|refine cr4Int _ _ (makeP_len _) zd ?_)|refine zG ?_|apply zA|(apply zI;intro h)|exact zT));(all_goals conv=>whnf)
  all_goals first
   |(rw[aE (by simp_all)]at hK
     exact⟨_,Weak.refl,hK⟩)
   |(rw[aG (by simp_all)]at hK
     exact⟨_,Weak.tup2 Weak.nils Weak.refl,hK⟩)
theorem cqAct(l:List Rg)(hl:l.length<=4000)(m:Int){K:KT}(hK:∀b,K (.sb b) []):ACall Tryz.prog 185 [encRs l,.v (.int .i64 m)] [] K:=by
 refine ACall.bool (ofq9Act rfl rfl ?_)
 (repeat' ((conv=>whnf);first|(with_reducible first|refine wr_u32_any fun r r0 r1=>?_|refine c34 l _ zo ?_)|refine zG ?_|apply zA|(apply zI;intro h)|exact zT));(all_goals conv=>whnf)
 all_goals first
  |exact .inl ⟨_,rfl,hK _⟩
  |exact .inr ⟨_,rfl,hK _⟩
theorem chAct(i:Nt)(hf:Sml i)(n:Nat)(hn:n<i.sts.length)(m:Int){K:KT}(hK:∀b,K (.sb b) []):ACall Tryz.prog 102 [encNt i,.v (.int .i64 n),.v (.int .i64 m)] [] K:=by
 have hw:=hf.w
 obtain⟨x,hx⟩:=gex hn
 have hq:∀(r:Int),0<=r->r<i.wins.length->∀{K:AV->Prop},(∀y:Wn,y.act.length<=4000->K (encWn y))->In r (i.wins.map encWn).length fun j=>Ix (i.wins.map encWn) j K:=fun r r0 r1 K h=>by
  refine In.intro r.toNat zo (by rw[aA];omega) ?_
  have hl:r.toNat<i.wins.length:=by omega
  exact ix_map (aD hl) (h _ (hf.wi _ (dD hl)))
 refine ACall.bool (ofh18Act rfl rfl ?_)
 (repeat' ((conv=>whnf);first|(with_reducible first|refine in_map hn ?_|refine ix_map hx ?_|refine cjFindW _ _ hf.w fun r r0 r1=>?_|refine hq _ zo zp fun y hy=>?_|refine cqAct _ zp _ fun b=>?_)|refine zG ?_|apply zA|(apply zI;intro h)|exact zT));(all_goals conv=>whnf)
 all_goals first
  |exact .inl ⟨_,rfl,hK _⟩
  |exact .inr ⟨_,rfl,hK _⟩
theorem chOrd(i:Nt)(hf:Sml i)(m:Int){K:KT}(hK:∀l:List Nat,(∀n,n∈l->n<i.sts.length)->l.length<=2000000->K (.lst (l.map vN)) []):ACall Tryz.prog 38 [encNt i,.v (.int .i64 m)] [] K:=by
 have ht:=hf.t
 refine ACall.weak (ofh18Ord rfl rfl ?_)
 (repeat' ((conv=>whnf);first|(with_reducible refine cjVal i hf fun b hb=>?_)|refine zG ?_|apply zA|(apply zI;intro h)|exact zT));(all_goals conv=>whnf)
 all_goals first
  |exact⟨_,Weak.nils,hK [] zx zx⟩
  |skip
 all_goals
  refine Lp.intro (Nat×List Nat) (fun g=>⟨2,[(0,boxNt i),(1,.arr 1 (g.2.map vN))],[(1,.v (.int .i64 m)),(2,.op 0 0),(5,.os 1 1 0 g.2.length),(6,.v (.int .i64 ((g.1:Int)-1)))]⟩)
   (fun g=>g.1<=1001/\g.2.length+g.1*1000<=1001000/\∀n,n∈g.2->n<i.sts.length) (fun g=>g.1) (1001,[]) ⟨aM _,by simp,fun n h=>by simp at h⟩ ?_ ?_
  ·(exact leA)
  rintro⟨p,l⟩ ⟨h1,h2,h3⟩
  simp only at h1 h2 h3⊢
  rcases aB 0 p with hp|hp
  ·(repeat' ((conv=>whnf);first|refine zG ?_|apply zA|(apply zI;intro h)|exact zT));(all_goals conv=>whnf)
   refine Lp.intro (Nat×List Nat) (fun g=>⟨2,[(0,boxNt i),(1,.arr 1 (g.2.map vN))],[(1,.v (.int .i64 m)),(2,.op 0 0),(5,.os 1 1 0 g.2.length),(6,.v (.int .i64 ((p:Int)-1))),(7,.v (.int .i64 g.1))]⟩)
    (fun g=>g.1<=i.sts.length/\g.2.length<=l.length+g.1/\∀n,n∈g.2->n<i.sts.length) (fun g=>i.sts.length-g.1) (0,l) ⟨aH _,by simp,h3⟩ ?_ ?_
   ·(exact leA)
   rintro⟨n,o⟩ ⟨k1,k2,k3⟩
   simp only at k1 k2 k3⊢
   rcases aB n i.sts.length with hnl|hnl
   ·obtain⟨x,hx⟩:=gex hnl
    (repeat' ((conv=>whnf);first|(with_reducible first|refine in_map hnl ?_|refine ix_map hx ?_|refine chAct i hf n hnl m fun b=>?_)|refine zG ?_|apply zA|(apply zI;intro h)|exact zT));(all_goals conv=>whnf)
    all_goals first
     |(refine⟨(n+1,o),⟨hnl,by simp only;omega,k3⟩,by simp only;omega,?_⟩
       simp only[aN,aL]
       (exact leA)
       done)
     |(refine⟨(n+1,o++[n]),⟨hnl,by simp only[aC,aJ,aO];omega,fun j hj=>by
        rcases aS.1 hj with hj|hj
        ·exact k3 j hj
        ·rw[aR.1 hj];exact hnl⟩,by simp only;omega,?_⟩
       simp only[aQ,aC,aU,bF,aJ,aO,aN,aL]
       (exact leA)
       done)
   ·(repeat' ((conv=>whnf);first|refine zG ?_|apply zA|(apply zI;intro h)|exact zT));(all_goals conv=>whnf)
    obtain⟨p',rfl⟩:∃p',p=p'+1:=⟨p-1,by omega⟩
    refine⟨(p',o),⟨by simp only;omega,by simp only;omega,k3⟩,by simp only;omega,?_⟩
    simp only[show((p'+1:Nat):Int)-1-1=(p':Int)-1 from by omega]
    (exact leA)
  ·obtain rfl:p=0:=by omega
   (repeat' ((conv=>whnf);first|(with_reducible refine sl_full (aA ..) ?_)|refine zG ?_|apply zA|(apply zI;intro h)|exact zT));(all_goals conv=>whnf)
   exact⟨_,Weak.refl,hK l h3 zo⟩
theorem chPut(l:List Insp)(c:ByteArray)(s:List Bx)(hl:l.length<3000000)(hs:setB s=true)(hsl:∀x,x∈l->setB x.set=true){K:KT}(hK:∀(l':List Insp) (e:Int),PutR l c s l' e->K (.tup [.lst (l'.map encIn),.v (.int .i64 e)]) []):
  ACall Tryz.prog 60 [.lst (l.map encIn),.v (.string c),encXs s] [] K:=by
 refine ACall.weak (ofh18Put rfl rfl ?_)
 (repeat' ((conv=>whnf);first|refine zG ?_|apply zA|(apply zI;intro h)|exact zT));(all_goals conv=>whnf)
 ·exact⟨_,Weak.refl,hK l 0 (.skip (.inl (by simpa using h)))⟩
 ·exact⟨_,Weak.refl,hK l 0 (.skip (.inr (bS.1 (by simp only[aA]at h;omega))))⟩
 rename_i hc0
 have hc1:c.toList≠[]:=fun e=>by simp[e]at hc0
 have hn1:s≠[]:=fun e=>h (by rw[e];rfl)
 clear hc0 h
 refine Lp.intro Nat (fun k=>⟨0,[],[(0,.lst (l.map encIn)),(1,.v (.string c)),(2,encXs s),(8,.v (.int .i64 k))]⟩) (fun k=>k<=l.length/\∀(j:Nat) y,j<k->l[j]? =some y->ltS y.cls c=true) (fun k=>l.length-k) 0 ⟨aH _,fun j y h=>absurd h (aZ _)⟩ ?_ ?_
 ·(exact leA)
 intro k ⟨hk,hin⟩
 have hI:(∀y,l[k]? =some y->ltS y.cls c=false/\(y.cls.toList==c.toList)=false)->K (.tup [.lst ([]++(List.take (k-0) (List.drop 0 l)).map encIn++[.agg [.v (.string c),encXs s]]++(List.take (l.length-k) (List.drop k l)).map encIn),.v (.int .i64 0)]) []:=fun h=>by
  have:=hK _ 0 (PutR.ins k hc1 hn1 hk hin h)
  have e:List.take (l.length-k) (List.drop k l)=List.drop k l:=aX (by rw[eC];exact aM _)
  rw[e,cD,eN,cZ]
  simpa using this
 rcases aB k l.length with hkl|hkl
 ·obtain⟨y,hy⟩:=gex hkl
  have hget:([]++l.map encIn)[0+k]? =some (encIn y):=by rw[cZ,bL,bP,hy];rfl
  (repeat' ((conv=>whnf);first|(with_reducible first|refine in_map hkl ?_|refine ix_map hy ?_|refine Sb.intro 0 k rfl rfl (aH _) (by rw[aA];omega) ?_|refine Sb.intro k l.length rfl (by rw[aA]) zo (by rw[aA];exact aM _) ?_|refine sl_map zo ?_|refine cr4Un y.set s (setB_len (hsl y (aF hy))) (setB_len hs) ?_|refine In.intro k rfl (by rw[bL,aA];exact hkl) ?_|refine Ix.intro hget ?_)|refine zG ?_|apply zA|(apply zI;intro h)|exact zT));(all_goals conv=>whnf)
  ·refine⟨k+1,⟨hkl,all_succ hy h hin⟩,by omega,?_⟩
   rw[aN,aL]
   (exact leA)
  all_goals first
   |exact⟨_,Weak.refl,hI fun z hz=>by rw[hy]at hz;cases hz;simp_all[ltS]⟩
   |(refine⟨_,Weak.refl,?_⟩
     have:=hK _ _ (PutR.uni k y hc1 hn1 hy h)
     rw[bL,cZ]
     rw[eQ]at this
     exact this)
 ·have hnone:l[k]? =none:=bN hkl
  (repeat' ((conv=>whnf);first|(with_reducible first|refine in_map hkl ?_|refine Sb.intro 0 k rfl rfl (aH _) (by rw[aA];omega) ?_|refine Sb.intro k l.length rfl (by rw[aA]) zo (by rw[aA];exact aM _) ?_|refine sl_map zo ?_)|refine zG ?_|apply zA|(apply zI;intro h)|exact zT));(all_goals conv=>whnf)
  all_goals first
   |exact⟨_,Weak.refl,hI fun z hz=>by rw[hnone]at hz;cases hz⟩
theorem chChk(t:Tp)(ht:t.edges.length<=5)(hd:t.devs.length<=100)(i:Nt)(hf:Few i){K:KT}(hK:∀e:Int,K (.v (.int .i64 e)) []):
  ACall Tryz.prog 25 [encT t,encNt i] [] K:=by
 have hw:=hf.sml.w;have hs:=hf.sml.t;have hp:=hf.sml.p;have hh:=hf.sml.h
 have hg:=hf.g3;have hv:=hf.s3
 refine ofh17Chk rfl rfl ?_
 (repeat' ((conv=>whnf);first|(with_reducible first|refine cuCompB t zo ?_|refine cjVal i hf.sml fun b hb=>?_)|refine zG ?_|apply zA|(apply zI;intro h)|exact zT));(all_goals conv=>whnf)
 all_goals first
  |exact hK _
  |skip
 refine Lp.intro Nat (fun n=>⟨2,[(0,boxT t),(1,boxNt i)],[(2,.op 0 0),(3,.op 1 0),(5,.v (.int .i64 n))]⟩) (fun n=>n<=i.grps.length) (fun n=>i.grps.length-n) 0 (aH _) ?_ ?_
 ·(exact leA)
 intro n hn
 rcases aB n i.grps.length with hnl|hnl
 ·obtain⟨x,hx⟩:=gex hnl
  (repeat' ((conv=>whnf);first|(with_reducible first|refine in_map hnl ?_|refine ix_map hx ?_|refine chGrp t ht i hf _ fun rs e hl hr=>?_)|refine zG ?_|apply zA|(apply zI;intro h)|exact zT));(all_goals conv=>whnf)
  all_goals first
   |exact hK _
   |(refine⟨n+1,hnl,by omega,?_⟩
     rw[aN,aL]
     (exact leA)
     done)
 (repeat' ((conv=>whnf);first|refine zG ?_|apply zA|(apply zI;intro h)|exact zT));(all_goals conv=>whnf)
 refine Lp.intro Nat (fun n=>⟨2,[(0,boxT t),(1,boxNt i)],[(2,.op 0 0),(3,.op 1 0),(8,.v (.int .i64 n))]⟩) (fun n=>n<=i.svcs.length) (fun n=>i.svcs.length-n) 0 (aH _) ?_ ?_
 ·(exact leA)
 clear hnl hn n
 intro n hn
 rcases aB n i.svcs.length with hnl|hnl
 ·obtain⟨x,hx⟩:=gex hnl
  (repeat' ((conv=>whnf);first|(with_reducible first|refine in_map hnl ?_|refine ix_map hx ?_|refine chSvc t i hf _ fun rs e hl hr=>?_)|refine zG ?_|apply zA|(apply zI;intro h)|exact zT));(all_goals conv=>whnf)
  all_goals first
   |exact hK _
   |(refine⟨n+1,hnl,by omega,?_⟩
     rw[aN,aL]
     (exact leA)
     done)
 (repeat' ((conv=>whnf);first|refine zG ?_|apply zA|(apply zI;intro h)|exact zT));(all_goals conv=>whnf)
 refine Lp.intro Nat (fun n=>⟨2,[(0,boxT t),(1,boxNt i)],[(2,.op 0 0),(3,.op 1 0),(11,.v (.int .i64 n))]⟩) (fun n=>n<=i.sts.length) (fun n=>i.sts.length-n) 0 (aH _) ?_ ?_
 ·(exact leA)
 clear hnl hn n
 intro n hn
 rcases aB n i.sts.length with hnl|hnl
 ·obtain⟨x,hx⟩:=gex hnl
  (repeat' ((conv=>whnf);first|(with_reducible first|refine in_map hnl ?_|refine ix_map hx ?_|refine chStm t ht i hf n hnl fun s e hs hr=>?_|refine chCls t _ hd fun b=>?_|refine cjFindW _ _ hf.sml.w fun r r0 r1=>?_)|refine zG ?_|apply zA|(apply zI;intro h)|exact zT));(all_goals conv=>whnf)
  all_goals first
   |exact hK _
   |(refine⟨n+1,hnl,by omega,?_⟩
     rw[aN,aL]
     (exact leA)
     done)
 (repeat' ((conv=>whnf);first|refine zG ?_|apply zA|(apply zI;intro h)|exact zT));(all_goals conv=>whnf)
 refine Lp.intro Nat (fun n=>⟨2,[(0,boxT t),(1,boxNt i)],[(2,.op 0 0),(3,.op 1 0),(15,.v (.int .i64 n))]⟩) (fun n=>n<=i.pubs.length) (fun n=>i.pubs.length-n) 0 (aH _) ?_ ?_
 ·(exact leA)
 clear hnl hn n
 intro n hn
 rcases aB n i.pubs.length with hnl|hnl
 ·obtain⟨x,hx⟩:=gex hnl
  (repeat' ((conv=>whnf);first|(with_reducible first|refine in_map hnl ?_|refine ix_map hx ?_|refine cuEdge t _ zo ?_)|refine zG ?_|apply zA|(apply zI;intro h)|exact zT));(all_goals conv=>whnf)
  all_goals first
   |exact hK _
   |(refine⟨n+1,hnl,by omega,?_⟩
     rw[aN,aL]
     (exact leA)
     done)
 (repeat' ((conv=>whnf);first|refine zG ?_|apply zA|(apply zI;intro h)|exact zT));(all_goals conv=>whnf)
 refine Lp.intro Nat (fun n=>⟨2,[(0,boxT t),(1,boxNt i)],[(2,.op 0 0),(3,.op 1 0),(16,.v (.int .i64 n))]⟩) (fun n=>n<=i.hids.length) (fun n=>i.hids.length-n) 0 (aH _) ?_ ?_
 ·(exact leA)
 clear hnl hn n
 intro n hn
 rcases aB n i.hids.length with hnl|hnl
 ·obtain⟨x,hx⟩:=gex hnl
  (repeat' ((conv=>whnf);first|(with_reducible first|refine in_map hnl ?_|refine ix_map hx ?_|refine cuEdge t _ zo ?_|refine chGrp t ht i hf _ fun rs e hl hr=>?_)|refine zG ?_|apply zA|(apply zI;intro h)|exact zT));(all_goals conv=>whnf)
  all_goals first
   |exact hK _
   |(refine⟨n+1,hnl,by omega,?_⟩
     rw[aN,aL]
     (exact leA)
     done)
 (repeat' ((conv=>whnf);first|refine zG ?_|apply zA|(apply zI;intro h)|exact zT));(all_goals conv=>whnf)
 exact hK _
theorem chPut0(c:ByteArray)(s:List Bx)(hs:setB s=true){K:KT}(hK:∀(l':List Insp) (e:Int),PutR [] c s l' e->K (.tup [.lst (l'.map encIn),.v (.int .i64 e)]) []):
  ACall Tryz.prog 60 [.lst [],.v (.string c),encXs s] [] K:=chPut [] c s zx hs (fun x h=>by simp at h) hK
theorem cr4Un0(b:List Bx)(hb:b.length<1000000000){K:KT}(hK:K (.tup [encXs (combP orB [] b).1,.v (.int .i64 (combP orB [] b).2)]) []):ACall Tryz.prog 59 [.lst [],encXs b] [] K:=cr4Un [] b zx hb hK
noncomputable abbrev celPol(fl:Bool)(p:Pol):List AV:=match fl with
 |true=>[.nils,.nils]
 |false=>[encXs p.allow,.lst (p.insp.map encIn)]
noncomputable abbrev celSm(x:Sm):List AV:=[.sb x.permit,.v (.string x.frm),.v (.string x.to),.v (.string x.svc),.sb x.exc,.v (.string x.exF),.v (.string x.exT),.v (.string x.cls),.v (.string x.dur),.v (.int .i64 x.pri)]
structure AtG (t:Tp) (i:Nt) (n k:Nat) (fl:Bool) (rest:List Bx) (p:Pol):Prop where
 kn:k<=n
 inv:AtInv t rest p
 rr:Resp t i rest
 ra:Resp t i p.allow
 il:p.insp.length<=k
 z:fl=true->p=⟨[],[]⟩
theorem putR_len{l l':List Insp}{c:ByteArray}{s:List Bx}{e:Int}(h:PutR l c s l' e):l'.length<=l.length+1:=by
 cases h with
 |skip=>omega
 |ins k _ _ hk=>rw[aC,aJ,bI,eC];omega
 |uni=>rw[dR];omega
theorem chAtZ(t:Tp)(ht:t.edges.length<=5)(hd:t.devs.length<=100)(i:Nt)(hf:Few i)(m:Int){K:KT}(hK:∀(p:Pol) (e:Int),(e=0->PolOk t p/\Resp t i p.allow/\p.insp.length<=2000000)->(e≠0->p=⟨[],[]⟩)->K (.tup [encPol p,.v (.int .i64 e)]) []):
  ACall Tryz.prog 13 [encT t,encNt i,.v (.int .i64 m)] [] K:=by
 have hts:=hf.sml.t
 have hKz:∀e:Int,e≠0->∃y,Weak (.tup [.agg [.nils,.nils],.v (.int .i64 e)]) y/\K y []:=fun e he=>
  ⟨_,Weak.tup2 (Weak.agg (ys:=[.lst [],.lst []]) ⟨Weak.nils,Weak.nils,trivial⟩) Weak.refl,hK ⟨[],[]⟩ e (fun h=>absurd h he) fun _=>rfl⟩
 refine ACall.weak (ofh18At rfl rfl ?_)
 by_cases hc:compB t=true
 case neg=>
  have hc':compB t=false:=by simpa using hc
  (repeat' ((conv=>whnf);first|(with_reducible refine cuCompB t zo ?_)|refine zG ?_|apply zA|(apply zI;intro h)|exact zT));(all_goals conv=>whnf)
  all_goals first
   |exact hKz _ zd
   |(exfalso;simp_all;done)
 (repeat' ((conv=>whnf);first|(with_reducible first|refine cuCompB t zo ?_|refine cjVal i hf.sml fun b hb=>?_|refine chChk t ht hd i hf fun e=>?_|refine chReal t ht hc ?_|refine chOrd i hf.sml m fun ord hor hol=>?_)|refine zG ?_|apply zA|(apply zI;intro h)|exact zT));(all_goals conv=>whnf)
 all_goals first
  |exact hKz _ zd
  |exact hKz _ zp
  |(exfalso;simp_all;done)
  |skip
 have hcl:=hb zw
 refine Lp.intro (Nat×Bool×List Bx×Pol) (fun g=>⟨4,[(0,boxT t),(1,boxNt i),(2,.box [.nils,.nils]),(3,.box (celPol g.2.1 g.2.2.2))],[(3,.op 0 0),(4,.op 1 0),(6,.op 2 0),(9,encXs g.2.2.1),(11,.op 3 0),(12,.lst (ord.map vN)),(13,.v (.int .i64 g.1))]⟩)
  (fun g=>AtG t i ord.length g.1 g.2.1 g.2.2.1 g.2.2.2) (fun g=>ord.length-g.1) (0,true,(realP t).1,⟨[],[]⟩) ⟨aH _,atInv_start t,Resp.real,Resp.nil,aH _,fun _=>rfl⟩ ?_ ?_
 ·(exact leA)
 rintro⟨k,fl,rest,p⟩ hg
 simp only at hg⊢
 have hkn:=hg.kn
 have hrl:=setB_len hg.inv.rs
 have hpl:=setB_len hg.inv.al
 have hil:=hg.il
 rcases aB k ord.length with hkl|hkl
 ·obtain⟨n,hn⟩:=gex hkl
  have hnl:=hor n (aF hn)
  obtain⟨x,hx⟩:=gex hnl
  have hxc:=hcl x (aF hx)
  have hfin:∀{s:List Bx} {l':List Insp} {e:Int},setB s=true->Resp t i s->(combP anB rest s).2=0->(combP woB rest s).2=0->(combP orB p.allow (combP anB rest s).1).2=0->PutR p.insp x.cls (combP anB rest s).1 l' e->e=0->
   AtG t i ord.length (k+1) false (combP woB rest s).1 ⟨(combP orB p.allow (combP anB rest s).1).1,l'⟩:=fun hs hr e1 e2 e3 hp he=>
   ⟨hkl,hg.inv.permit hs hxc e1 e2 e3 hp he,Resp.comb hg.rr hr hg.inv.rs hs,Resp.comb hg.ra (Resp.comb hg.rr hr hg.inv.rs hs) hg.inv.al (setB_combP ..),by have:=putR_len hp;simp only;omega,fun h=>by cases h⟩
  have hden:∀{s:List Bx},setB s=true->Resp t i s->AtG t i ord.length (k+1) fl (combP woB rest s).1 p:=fun hs hr=>⟨hkl,hg.inv.deny hs,Resp.comb hg.rr hr hg.inv.rs hs,hg.ra,by omega,hg.z⟩
  have hsl:=hg.inv.st
  have hz:=hg.z
  clear hg hb hcl hor
  cases fl with
  |true=>
   obtain rfl:=hz rfl
   (repeat' ((conv=>whnf);first|(with_reducible first|refine in_map hkl ?_|refine ix_map hn ?_|refine in_map hnl ?_|refine ix_map hx ?_|refine chStm t ht i hf n hnl fun s e hs hr=>?_|refine cr4Int rest _ hrl (setB_len zp) ?_|refine cr4Sub rest _ hrl (setB_len zp) ?_)|refine zG ?_|apply zA|(apply zI;intro h)|exact zT));(all_goals conv=>whnf)
   all_goals first
    |exact hKz _ zw
    |skip
   refine Jn.intro Bool (fun b=>match b with
    |true=>⟨5,[(0,boxT t),(1,boxNt i),(2,.box [.nils,.nils]),(3,.box [encXs (combP orB [] (combP anB rest s).1).1,.nils]),(4,.box (celSm x))],[(3,.op 0 0),(4,.op 1 0),(6,.op 2 0),(9,encXs (combP woB rest s).1),(11,.op 3 0),(12,.lst (ord.map vN)),(13,.v (.int .i64 k)),(14,.op 4 0),(17,encXs (combP anB rest s).1),(18,.v (.int .i64 (combP orB [] (combP anB rest s).1).2))]⟩
    |false=>⟨5,[(0,boxT t),(1,boxNt i),(2,.box [.nils,.nils]),(3,.box [.nils,.nils]),(4,.box (celSm x))],[(3,.op 0 0),(4,.op 1 0),(6,.op 2 0),(9,encXs (combP woB rest s).1),(11,.op 3 0),(12,.lst (ord.map vN)),(13,.v (.int .i64 k)),(14,.op 4 0),(17,encXs (combP anB rest s).1),(18,.v (.int .i64 (combP woB rest s).2))]⟩) (fun b=>b=true↔((combP woB rest s).2=0/\x.permit=true)) ?_ ?_
   ·(repeat' ((conv=>whnf);first|(with_reducible refine cr4Un0 _ (setB_len (setB_combP ..)) ?_)|refine zG ?_|apply zA|(apply zI;intro h)|exact zT));(all_goals conv=>whnf)
    ·refine⟨true,⟨fun _=>⟨by with_reducible assumption,by with_reducible assumption⟩,fun _=>rfl⟩,?_⟩
     (exact leA)
    all_goals
     refine⟨false,⟨fun h=>(by cases h),fun h=>(by simp_all)⟩,?_⟩
     (exact leA)
   intro b hb
   cases b with
   |true=>
    obtain⟨he2,hpm⟩:=hb.1 rfl
    refine Jn.intro (Option (List Insp×Int)) (fun g=>match g with
     |some q=>⟨4,[(0,boxT t),(1,boxNt i),(2,.box [.nils,.nils]),(3,.box [encXs (combP orB [] (combP anB rest s).1).1,.lst (q.1.map encIn)])],[(3,.op 0 0),(4,.op 1 0),(6,.op 2 0),(9,encXs (combP woB rest s).1),(11,.op 3 0),(12,.lst (ord.map vN)),(13,.v (.int .i64 k)),(18,.v (.int .i64 q.2))]⟩
     |none=>⟨4,[(0,boxT t),(1,boxNt i),(2,.box [.nils,.nils]),(3,.box [encXs (combP orB [] (combP anB rest s).1).1,.nils])],[(3,.op 0 0),(4,.op 1 0),(6,.op 2 0),(9,encXs (combP woB rest s).1),(11,.op 3 0),(12,.lst (ord.map vN)),(13,.v (.int .i64 k)),(18,.v (.int .i64 (combP orB [] (combP anB rest s).1).2))]⟩) (fun g=>match g with
     |some q=>PutR [] x.cls (combP anB rest s).1 q.1 q.2/\(combP orB [] (combP anB rest s).1).2=0
     |none=>(combP orB [] (combP anB rest s).1).2≠0) ?_ ?_
    ·(repeat' ((conv=>whnf);first|(with_reducible refine chPut0 _ _ (setB_combP ..) fun l' e hp=>?_)|refine zG ?_|apply zA|(apply zI;intro h)|exact zT));(all_goals conv=>whnf)
     all_goals first
      |(refine⟨some (l',e),⟨hp,by with_reducible assumption⟩,?_⟩
        (exact leA)
        done)
      |(refine⟨none,by with_reducible assumption,?_⟩
        (exact leA)
        done)
      |(exfalso;simp_all;done)
    rintro(_|⟨l',e⟩) hg
    ·(repeat' ((conv=>whnf);first|refine zG ?_|apply zA|(apply zI;intro h)|exact zT));(all_goals conv=>whnf)
     all_goals first
      |exact hKz _ zw
      |(exfalso;simp_all;done)
    ·obtain⟨hp,he3⟩:=hg
     (repeat' ((conv=>whnf);first|refine zG ?_|apply zA|(apply zI;intro h)|exact zT));(all_goals conv=>whnf)
     all_goals first
      |exact hKz _ zw
      |(refine⟨(k+1,false,(combP woB rest s).1,⟨(combP orB [] (combP anB rest s).1).1,l'⟩),hfin zw zw zw he2 he3 hp zw,by simp only;omega,?_⟩
        simp only[aN,aL]
        (exact leA)
        done)
   |false=>
    have hb':¬((combP woB rest s).2=0/\x.permit=true):=fun h=>by have:=hb.2 h;cases this
    refine Jn.at ⟨4,[(0,boxT t),(1,boxNt i),(2,.box [.nils,.nils]),(3,.box [.nils,.nils])],[(3,.op 0 0),(4,.op 1 0),(6,.op 2 0),(9,encXs (combP woB rest s).1),(11,.op 3 0),(12,.lst (ord.map vN)),(13,.v (.int .i64 k)),(18,.v (.int .i64 (combP woB rest s).2))]⟩ ?_ ?_
    ·(repeat' ((conv=>whnf);first|refine zG ?_|apply zA|(apply zI;intro h)|exact zT));(all_goals conv=>whnf)
     all_goals first
      |(exfalso;exact hb' ⟨by with_reducible assumption,by with_reducible assumption⟩)
      |(refine⟨(),trivial,?_⟩
        (exact leA)
        done)
    ·(repeat' ((conv=>whnf);first|refine zG ?_|apply zA|(apply zI;intro h)|exact zT));(all_goals conv=>whnf)
     all_goals first
      |exact hKz _ zw
      |(refine⟨(k+1,true,(combP woB rest s).1,⟨[],[]⟩),hden zw zw,by simp only;omega,?_⟩
        simp only[aN,aL]
        (exact leA)
        done)
  |false=>
   (repeat' ((conv=>whnf);first|(with_reducible first|refine in_map hkl ?_|refine ix_map hn ?_|refine in_map hnl ?_|refine ix_map hx ?_|refine chStm t ht i hf n hnl fun s e hs hr=>?_|refine cr4Int rest _ hrl (setB_len zp) ?_|refine cr4Sub rest _ hrl (setB_len zp) ?_)|refine zG ?_|apply zA|(apply zI;intro h)|exact zT));(all_goals conv=>whnf)
   all_goals first
    |exact hKz _ zw
    |skip
   refine Jn.intro Bool (fun b=>match b with
    |true=>⟨5,[(0,boxT t),(1,boxNt i),(2,.box [.nils,.nils]),(3,.box [encXs (combP orB p.allow (combP anB rest s).1).1,.lst (p.insp.map encIn)]),(4,.box (celSm x))],[(3,.op 0 0),(4,.op 1 0),(6,.op 2 0),(9,encXs (combP woB rest s).1),(11,.op 3 0),(12,.lst (ord.map vN)),(13,.v (.int .i64 k)),(14,.op 4 0),(17,encXs (combP anB rest s).1),(18,.v (.int .i64 (combP orB p.allow (combP anB rest s).1).2))]⟩
    |false=>⟨5,[(0,boxT t),(1,boxNt i),(2,.box [.nils,.nils]),(3,.box [encXs p.allow,.lst (p.insp.map encIn)]),(4,.box (celSm x))],[(3,.op 0 0),(4,.op 1 0),(6,.op 2 0),(9,encXs (combP woB rest s).1),(11,.op 3 0),(12,.lst (ord.map vN)),(13,.v (.int .i64 k)),(14,.op 4 0),(17,encXs (combP anB rest s).1),(18,.v (.int .i64 (combP woB rest s).2))]⟩) (fun b=>b=true↔((combP woB rest s).2=0/\x.permit=true)) ?_ ?_
   ·(repeat' ((conv=>whnf);first|(with_reducible refine cr4Un p.allow _ hpl (setB_len (setB_combP ..)) ?_)|refine zG ?_|apply zA|(apply zI;intro h)|exact zT));(all_goals conv=>whnf)
    ·refine⟨true,⟨fun _=>⟨by with_reducible assumption,by with_reducible assumption⟩,fun _=>rfl⟩,?_⟩
     (exact leA)
    all_goals
     refine⟨false,⟨fun h=>(by cases h),fun h=>(by simp_all)⟩,?_⟩
     (exact leA)
   intro b hb
   cases b with
   |true=>
    obtain⟨he2,hpm⟩:=hb.1 rfl
    refine Jn.intro (Option (List Insp×Int)) (fun g=>match g with
     |some q=>⟨4,[(0,boxT t),(1,boxNt i),(2,.box [.nils,.nils]),(3,.box [encXs (combP orB p.allow (combP anB rest s).1).1,.lst (q.1.map encIn)])],[(3,.op 0 0),(4,.op 1 0),(6,.op 2 0),(9,encXs (combP woB rest s).1),(11,.op 3 0),(12,.lst (ord.map vN)),(13,.v (.int .i64 k)),(18,.v (.int .i64 q.2))]⟩
     |none=>⟨4,[(0,boxT t),(1,boxNt i),(2,.box [.nils,.nils]),(3,.box [encXs (combP orB p.allow (combP anB rest s).1).1,.lst (p.insp.map encIn)])],[(3,.op 0 0),(4,.op 1 0),(6,.op 2 0),(9,encXs (combP woB rest s).1),(11,.op 3 0),(12,.lst (ord.map vN)),(13,.v (.int .i64 k)),(18,.v (.int .i64 (combP orB p.allow (combP anB rest s).1).2))]⟩) (fun g=>match g with
     |some q=>PutR p.insp x.cls (combP anB rest s).1 q.1 q.2/\(combP orB p.allow (combP anB rest s).1).2=0
     |none=>(combP orB p.allow (combP anB rest s).1).2≠0) ?_ ?_
    ·(repeat' ((conv=>whnf);first|(with_reducible refine chPut p.insp _ _ zo (setB_combP ..) hsl fun l' e hp=>?_)|refine zG ?_|apply zA|(apply zI;intro h)|exact zT));(all_goals conv=>whnf)
     all_goals first
      |(refine⟨some (l',e),⟨hp,by with_reducible assumption⟩,?_⟩
        (exact leA)
        done)
      |(refine⟨none,by with_reducible assumption,?_⟩
        (exact leA)
        done)
      |(exfalso;simp_all;done)
    rintro(_|⟨l',e⟩) hg
    ·(repeat' ((conv=>whnf);first|refine zG ?_|apply zA|(apply zI;intro h)|exact zT));(all_goals conv=>whnf)
     all_goals first
      |exact hKz _ zw
      |(exfalso;simp_all;done)
    ·obtain⟨hp,he3⟩:=hg
     (repeat' ((conv=>whnf);first|refine zG ?_|apply zA|(apply zI;intro h)|exact zT));(all_goals conv=>whnf)
     all_goals first
      |exact hKz _ zw
      |(refine⟨(k+1,false,(combP woB rest s).1,⟨(combP orB p.allow (combP anB rest s).1).1,l'⟩),hfin zw zw zw he2 he3 hp zw,by simp only;omega,?_⟩
        simp only[aN,aL]
        (exact leA)
        done)
   |false=>
    have hb':¬((combP woB rest s).2=0/\x.permit=true):=fun h=>by have:=hb.2 h;cases this
    refine Jn.at ⟨4,[(0,boxT t),(1,boxNt i),(2,.box [.nils,.nils]),(3,.box [encXs p.allow,.lst (p.insp.map encIn)])],[(3,.op 0 0),(4,.op 1 0),(6,.op 2 0),(9,encXs (combP woB rest s).1),(11,.op 3 0),(12,.lst (ord.map vN)),(13,.v (.int .i64 k)),(18,.v (.int .i64 (combP woB rest s).2))]⟩ ?_ ?_
    ·(repeat' ((conv=>whnf);first|refine zG ?_|apply zA|(apply zI;intro h)|exact zT));(all_goals conv=>whnf)
     all_goals first
      |(exfalso;exact hb' ⟨by with_reducible assumption,by with_reducible assumption⟩)
      |(refine⟨(),trivial,?_⟩
        (exact leA)
        done)
    ·(repeat' ((conv=>whnf);first|refine zG ?_|apply zA|(apply zI;intro h)|exact zT));(all_goals conv=>whnf)
     all_goals first
      |exact hKz _ zw
      |(refine⟨(k+1,false,(combP woB rest s).1,p),hden zw zw,by simp only;omega,?_⟩
        simp only[aN,aL]
        (exact leA)
        done)
 ·have hpol:PolOk t p/\Resp t i p.allow/\p.insp.length<=2000000:=⟨hg.inv.pol hc,hg.ra,by omega⟩
  have hz:=hg.z
  cases fl with
  |true=>
   obtain rfl:=hz rfl
   (repeat' ((conv=>whnf);first|refine zG ?_|apply zA|(apply zI;intro h)|exact zT));(all_goals conv=>whnf)
   exact⟨_,Weak.tup2 (Weak.agg (ys:=[.lst [],.lst []]) ⟨Weak.nils,Weak.nils,trivial⟩) Weak.refl,hK ⟨[],[]⟩ 0 (fun _=>hpol) fun h=>absurd rfl h⟩
  |false=>
   (repeat' ((conv=>whnf);first|refine zG ?_|apply zA|(apply zI;intro h)|exact zT));(all_goals conv=>whnf)
   exact⟨_,Weak.refl,hK p 0 (fun _=>hpol) fun h=>absurd rfl h⟩
noncomputable def gnSpP:Ctx:={N:=36,np:=1,own:=at1 16 (true) (fun _=>false),plan:=at1 2 (some (.one 0 true (.one 2 true (.wch 1 (ln [6,9,11,13,15,16]))))) (fun _=>none)}
noncomputable def bnSpP:Code:=bdy Tryz.f89
abbrev ofnSpP:=@ofC Tryz.prog gnSpP 89 Tryz.f89 bnSpP Tryz.func89 zk zk zk zk
noncomputable def gnPref:Ctx:={N:=34,np:=1,own:=at1 16 (true) (at1 64 (true) (fun _=>false))}
noncomputable def bnPref:Code:=bdy Tryz.f90
abbrev ofnPref:=@ofC Tryz.prog gnPref 90 Tryz.f90 bnPref Tryz.func90 zk zk zk zk
noncomputable def gnSpT:Ctx:={N:=206,np:=1,own:=at1 16 (true) (at1 89 (true) (at1 90 (true) (at1 88 (true) (fun _=>false)))),plan:=at1 6 (some (.one 0 true (.one 3 true (.one 7 true (.wch 1 (.alt 2 (.one 4 false (.one 5 true (.wch 6 (ln [16,19,21,22,24,27,28])))) (.alt 4 (.alt 2 (.one 5 true (.wch 6 (ln [16,19,21,22,24,27,28]))) (.alt 8 (ln [19,4,11,13,21,22,24,27,28]) (.stop))) (.stop)))))))) (at1 9 (some (.one 0 true (.one 3 true (.wch 1 (.alt 2 (ln [8,11,13,15,17,18]) (.alt 4 (ln [4,11,13,15,17,18]) (.stop))))))) (at1 11 (some (.one 0 true (.one 2 true (.one 5 true (.one 7 true (.wch 1 (ln [6,9,12,16,19,20,22,25,26]))))))) (at1 14 (some (.one 0 true (.one 3 true (.wch 1 (.alt 2 (ln [8,11,13,15,17,18]) (.alt 4 (ln [4,11,13,15,17,18]) (.stop))))))) (at1 17 (some (.one 0 true (.one 2 true (.wch 1 (ln [6,9,11,13,14]))))) (at1 20 (some (.one 0 true (.one 2 true (.one 6 true (.one 7 true (.one 8 true (.one 9 true (.one 10 true (.one 11 true (.one 12 true (.one 13 true (.one 14 true (.one 15 true (.wch 1 (.wch 3 (ln [9,11,32,35,37,38])))))))))))))))) (at1 23 (some (ln [1,3,5,7,9,11,13,15,17,19,20])) (at1 26 (some (ln [1,3,5,7,9,11,12,14,17,18])) (at1 29 (some (.one 0 true (.one 3 true (.wch 1 (.alt 2 (ln [8,11,13,15,17,18]) (.alt 4 (ln [4,11,13,15,17,18]) (.stop))))))) (at1 31 (some (.one 0 true (.one 2 true (.wch 1 (ln [6,8,10,13,14]))))) (at1 39 (some (.one 0 true (.one 3 true (.wch 1 (.alt 2 (ln [8,11,13,15,17,18]) (.alt 4 (ln [4,11,13,15,17,18]) (.stop))))))) (fun _=>none)))))))))))}
noncomputable def bnSpT:Code:=bdy Tryz.f29
abbrev ofnSpT:=@ofC Tryz.prog gnSpT 29 Tryz.f29 bnSpT Tryz.func29 zk zk zk zk
end Go.Proofs.YtbdikofefjljoaaGreatDoor
