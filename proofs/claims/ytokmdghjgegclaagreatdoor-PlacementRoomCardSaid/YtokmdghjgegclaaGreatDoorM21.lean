/- The program's policies: Pair, Valid. -/
import Derived.Test.YtokmdghjgegclaaGreatDoorProg
import Derived.Test.YtokmdghjgegclaaGreatDoorM20
set_option linter.unusedVariables false
set_option linter.unusedSimpArgs false
set_option maxRecDepth 100000
set_option maxHeartbeats 4000000
namespace Go.Proofs.YtokmdghjgegclaaGreatDoor
open Go Go.Vm
theorem cyPair(t:Tp)(p:Pol)(a b:Int)(hl:t.edges.length<1000000)(hal:p.allow.length<1000000000){K:KT}(hK:K (.tup [encXs (pairP t p a b).1,.v (.int .i64 (pairP t p a b).2)]) []):ACall Tryz.prog 54 [encT t,encPol p,.v (.int .i64 a),.v (.int .i64 b)] [] K:=by
 refine ACall.weak (ofyPair rfl rfl ?_)
 unfold pairP at hK
 by_cases hc:compB t=false
 ·rw[if_pos hc]at hK
  (repeat' ((conv=>whnf);first|(with_reducible refine ctComp t hl ?_)|refine zG ?_|apply zA|(apply zI;intro h)|exact zT));(all_goals conv=>whnf)
  all_goals first
   |exact⟨_,Weak.tup2 Weak.nils Weak.refl,hK⟩
   |(exfalso;simp_all;done)
 rw[if_neg hc]at hK
 have hct:compB t=true:=by simpa using hc
 by_cases hr:a<0\/(t.edges.length:Int)<=a\/b<0\/(t.edges.length:Int)<=b
 ·rw[if_pos hr]at hK
  (repeat' ((conv=>whnf);first|(with_reducible refine ctComp t hl ?_)|refine zG ?_|apply zA|(apply zI;intro h)|exact zT));(all_goals conv=>whnf)
  all_goals first
   |exact⟨_,Weak.tup2 Weak.nils Weak.refl,hK⟩
   |(exfalso;simp only[List.length_map]at*;simp_all;done)
   |(exfalso;simp only[List.length_map]at*;omega)
 rw[if_neg hr]at hK
 by_cases he:a=b
 ·rw[if_pos he]at hK
  (repeat' ((conv=>whnf);first|(with_reducible refine ctComp t hl ?_)|refine zG ?_|apply zA|(apply zI;intro h)|exact zT));(all_goals conv=>whnf)
  all_goals first
   |exact⟨_,Weak.tup2 Weak.nils Weak.refl,hK⟩
   |(exfalso;simp only[List.length_map]at*;simp_all;done)
   |(exfalso;simp only[List.length_map]at*;omega)
 rw[if_neg he]at hK
 obtain⟨i,rfl⟩:=Int.eq_ofNat_of_zero_le (show 0<=a by omega)
 obtain⟨j,rfl⟩:=Int.eq_ofNat_of_zero_le (show 0<=b by omega)
 have hil:i<t.edges.length:=by omega
 have hjl:j<t.edges.length:=by omega
 obtain⟨ea,hea⟩:=gex hil
 obtain⟨eb,heb⟩:=gex hjl
 simp only[Int.toNat_natCast,hea,heb]at hK
 have hint:∀{K:KT},K (.tup [encXs (combP anB p.allow [whoB ea.pf eb.pf]).1,.v (.int .i64 (combP anB p.allow [whoB ea.pf eb.pf]).2)]) []->ACall Tryz.prog 101 [encXs p.allow,.lst [encX (whoB ea.pf eb.pf)]] [] K:=fun h=>cxInt p.allow [whoB ea.pf eb.pf] hal (by simp) h
 (repeat' ((conv=>whnf);first|(with_reducible first|refine ctComp t hl ?_|refine cyWho t i j ea eb hea heb ?_|refine hint ?_)|refine zG ?_|apply zA|(apply zI;intro h)|exact zT));(all_goals conv=>whnf)
 all_goals first
  |exact⟨_,Weak.refl,hK⟩
  |(exfalso;simp only[List.length_map]at*;simp_all;done)
  |(exfalso;simp only[List.length_map]at*;omega)
theorem cyVal(t:Tp)(p:Pol)(hl:t.edges.length<1000)(hal:p.allow.length<1000000000)(hil:p.insp.length<1000000000)(hsl:∀x,x∈p.insp->x.set.length<1000000000){K:KT}(hK:K (.sb (polB t p)) []):ACall Tryz.prog 53 [encT t,encPol p] [] K:=by
 have hpl:=pairsTo_len t.edges t.edges.length
 have hpl2:t.edges.length*t.edges.length<=1000*1000:=Nat.mul_le_mul (by omega) (by omega)
 have hinit:initS.length<1000000000:=by decide
 have hsub1:∀{K:KT},K (.sb (subB p.allow (pairsB t.edges))) []->ACall Tryz.prog 60 [encXs p.allow,encXs (pairsB t.edges)] [] K:=fun h=>cxSubs _ _ hal (by rw[pairsB];omega) h
 have hsub2:∀{K:KT},K (.sb (subB p.allow initS)) []->ACall Tryz.prog 60 [encXs p.allow,encXs initS] [] K:=fun h=>cxSubs _ _ hal hinit h
 refine ACall.bool (ofyVal rfl rfl ?_)
 (repeat' ((conv=>whnf);first|(with_reducible first|refine ctComp t (by omega) ?_|refine cxVald p.allow hal ?_|refine cyPairs t (by omega) ?_|refine hsub1 ?_|refine cxInit ?_|refine hsub2 ?_)|refine zG ?_|apply zA|(apply zI;intro h)|exact zT));(all_goals conv=>whnf)
 all_goals first
  |exact fin_f hK (polB_false fun hp=>by have h1:=hp.comp;have h2:=hp.set;have h3:=hp.sub;have h4:=hp.init;simp_all)
  |skip
 have hc4:=h
 rename_i hc1 hc2 hc3
 have hbad:∀{n:Nat} {x:Insp},p.insp[n]? =some x->¬InOk p n x->polB t p=false:=fun hx hb=>polB_false fun hp=>hb (hp.insp _ _ hx)
 clear hsub1 hsub2
 refine Lp.intro Nat (fun n=>⟨1,[(0,boxPol p)],[(3,.op 0 0),(36,.lst (p.insp.map encIn)),(37,.v (.int .i64 ((p.insp.map encIn).length:Nat))),(38,.v (.int .i64 n))]⟩) (fun n=>n<=p.insp.length/\∀(i:Nat) x,i<n->p.insp[i]? =some x->InOk p i x) (fun n=>p.insp.length-n) 0 ⟨Nat.zero_le _,fun i x h=>absurd h (Nat.not_lt_zero _)⟩ ?_ ?_
 ·(exact leA)
 intro n ⟨hn,hinv⟩
 rcases Nat.lt_or_ge n p.insp.length with hnl|hnl
 ·obtain⟨x,hx⟩:=gex hnl
  have hxl:=hsl x (List.mem_of_getElem? hx)
  have hsubx:∀{K:KT},K (.sb (subB x.set p.allow)) []->ACall Tryz.prog 60 [encXs x.set,encXs p.allow] [] K:=fun h=>cxSubs _ _ hxl hal h
  have hprev:n=0\/∃k y,n=k+1/\p.insp[k]? =some y:=by
   cases n with
   |zero=>exact .inl rfl
   |succ k=>exact .inr ⟨k,_,rfl,List.getElem?_eq_getElem (by omega)⟩
  have hbx:=fun h=>hbad hx h
  have hslice:∀{K:List AV->Prop},K ((p.insp.take n).map encIn)->Sl (p.insp.map encIn) 0 (n-0) K:=fun {K} h=>sl_map (by omega) (by rw[List.drop_zero,Nat.sub_zero];exact h)
  (repeat' ((conv=>whnf);first|(with_reducible first|refine in_map hnl ?_|refine in_nat hnl ?_|refine ix_map hx ?_)|refine zG ?_|apply zA|(apply zI;intro h)|exact zT));(all_goals conv=>whnf)
  refine Jn.intro Unit (fun _=>⟨2,[(1,.box [.v (.string x.cls),encXs x.set]),(0,boxPol p)],[(3,.op 0 0),(6,.op 1 0),(36,.lst (p.insp.map encIn)),(37,.v (.int .i64 ((p.insp.map encIn).length:Nat))),(38,.v (.int .i64 n)),(5,.v (.int .i64 n))]⟩)
   (fun _=>nameOk x.cls/\(∀k y,n=k+1->p.insp[k]? =some y->leS x.cls y.cls=false)/\x.set≠[]/\setB x.set=true/\subB x.set p.allow=true) ?_ ?_
  ·have hemp:∀{l:List Bx},¬(((l.map encX).length:Nat):Int)=0->l≠[]:=fun h e=>h (by rw[e];rfl)
   rcases hprev with rfl|⟨k,y,rfl,hy⟩
   ·(repeat' ((conv=>whnf);first|(with_reducible first|refine in_map hnl ?_|refine in_nat hnl ?_|refine ix_map hx ?_|refine csName _ ?_|refine cxVald x.set hxl ?_|refine hsubx ?_)|refine zG ?_|apply zA|(apply zI;intro h)|exact zT));(all_goals conv=>whnf)
    all_goals first
     |(exact fin_f hK (hbx fun ho=>by first
        |exact absurd h (by rw[nameB_true ho.name];decide)
        |exact absurd h (by rw[ho.set];decide)
        |exact absurd h (by rw[ho.sub];decide)
        |exact ho.ne (List.length_eq_zero_iff.1 (by rw[List.length_map]at h;omega))))
     |(refine⟨(),⟨nameB_iff.1 (by assumption),fun k y h=>by omega,hemp (by assumption),by assumption,by assumption⟩,?_⟩
       (exact leA)
       done)
   ·have hkl:k<p.insp.length:=by omega
    have hordk:(Op.bytesLess x.cls.toList y.cls.toList||x.cls.toList==y.cls.toList)=false->∀k' y',k+1=k'+1->p.insp[k']? =some y'->leS x.cls y'.cls=false:=fun h k' y' h1 h2=>by
     obtain rfl:k=k':=by omega
     rw[hy]at h2;cases h2;exact h
    (repeat' ((conv=>whnf);first|(with_reducible first|refine in_map hnl ?_|refine in_nat hnl ?_|refine In.intro k (by omega) (by rw[List.length_map];exact hkl) ?_|refine ix_map hx ?_|refine ix_map hy ?_|refine csName _ ?_|refine cxVald x.set hxl ?_|refine hsubx ?_)|refine zG ?_|apply zA|(apply zI;intro h)|exact zT));(all_goals conv=>whnf)
    all_goals first
     |(exact fin_f hK (hbx fun ho=>by first
        |exact absurd h (by rw[nameB_true ho.name];decide)
        |exact absurd h (by rw[ho.set];decide)
        |exact absurd h (by rw[ho.sub];decide)
        |exact ho.ne (List.length_eq_zero_iff.1 (by rw[List.length_map]at h;omega))
        |exact absurd (show leS x.cls y.cls=true from h) (by rw[ho.ord k y rfl hy];decide)))
     |(refine⟨(),⟨nameB_iff.1 (by assumption),hordk (by assumption),hemp (by assumption),by assumption,by assumption⟩,?_⟩
       (exact leA)
       done)
  ·rintro⟨⟩ ⟨f1,f2,f3,f4,f5⟩
   (repeat' ((conv=>whnf);first|(with_reducible first|refine Sb.intro 0 n rfl rfl (by omega) (by rw[List.length_map];omega) ?_|refine hslice ?_)|refine zG ?_|apply zA|(apply zI;intro h)|exact zT));(all_goals conv=>whnf)
   have htl:(p.insp.take n).length=n:=by rw[List.length_take];omega
   refine Lp.intro Nat (fun k=>⟨2,[(1,.box [.v (.string x.cls),encXs x.set]),(0,boxPol p)],[(3,.op 0 0),(6,.op 1 0),(36,.lst (p.insp.map encIn)),(37,.v (.int .i64 ((p.insp.map encIn).length:Nat))),(38,.v (.int .i64 n)),(86,.lst ((p.insp.take n).map encIn)),(87,.v (.int .i64 (((p.insp.take n).map encIn).length:Nat))),(88,.v (.int .i64 k))]⟩) (fun k=>k<=n/\∀(i:Nat) y,i<k->p.insp[i]? =some y->disjS x.set y.set) (fun k=>n-k) 0 ⟨Nat.zero_le _,fun i y h=>absurd h (Nat.not_lt_zero _)⟩ ?_ ?_
   ·(exact leA)
   intro k ⟨hk,hdis⟩
   rcases Nat.lt_or_ge k n with hkn|hkn
   ·obtain⟨y,hy⟩:∃y,p.insp[k]? =some y:=⟨_,List.getElem?_eq_getElem (by omega)⟩
    have hyt:(p.insp.take n)[k]? =some y:=by rw[List.getElem?_take,if_pos hkn];exact hy
    have hkt:k<(p.insp.take n).length:=by omega
    have hyl:=hsl y (List.mem_of_getElem? hy)
    have hys:=(hinv k y hkn hy).set
    have hdi:=disj_iff f4 hys
    have hle:=lim_empty (cano anB 5 x.set y.set)
    have hint:∀{K:KT},K (.tup [encXs (limP (cano anB 5 x.set y.set)),.v (.int .i64 (limE (cano anB 5 x.set y.set)))]) []->ACall Tryz.prog 101 [encXs x.set,encXs y.set] [] K:=fun h=>cxInt x.set y.set hxl hyl (by rw[combP_set f4 hys];exact h)
    generalize cano anB 5 x.set y.set=c at*
    (repeat' ((conv=>whnf);first|(with_reducible first|refine in_map hkt ?_|refine in_nat hkt ?_|refine ix_map hyt ?_|refine hint ?_)|refine zG ?_|apply zA|(apply zI;intro h)|exact zT));(all_goals conv=>whnf)
    all_goals first
     |(refine⟨k+1,⟨hkn,all_succ hy (hdi.1 (Decidable.byContradiction fun hc=>?_)) hdis⟩,by omega,?_⟩
       ·rcases hle.2 hc with h1|h1
        ·exact h1 (by assumption)
        ·simp only[List.length_map]at*
         omega
       ·rw[Int.natCast_add,Int.natCast_one]
        (exact leA))
     |(refine fin_f hK (hbx fun ho=>?_)
       have hc:=hdi.2 (ho.disj k y hkn hy)
       refine absurd hc (hle.1 ?_)
       first
        |(right;rw[List.length_map]at h;omega)
        |(left;assumption))
   ·have hke:k=n:=by omega
    subst hke
    (repeat' ((conv=>whnf);first|refine zG ?_|apply zA|(apply zI;intro h)|exact zT));(all_goals conv=>whnf)
    refine⟨k+1,⟨hnl,all_succ hx ⟨f1,f2,f3,f4,f5,fun j y hj hy=>hdis j y hj hy⟩ hinv⟩,by omega,?_⟩
    rw[Int.natCast_add,Int.natCast_one]
    (exact leA)
 ·(repeat' ((conv=>whnf);first|refine zG ?_|apply zA|(apply zI;intro h)|exact zT));(all_goals conv=>whnf)
  exact fin_t hK (polB_true ⟨hc1,hc2,hc3,hc4,before_all hnl hinv⟩)
noncomputable def geBlk:Ctx:={N:=20,plan:=at1 5 (some (ln [1,3,5,7,9,10,13,14])) (fun _=>none)}
noncomputable def beBlk:Code:=bdy Tryz.f145
abbrev ofeBlk:=@ofC Tryz.prog geBlk 145 Tryz.f145 beBlk Tryz.func145 (by kernel_rfl) (by kernel_rfl) (by kernel_rfl) (by kernel_rfl)
noncomputable def geCost:Ctx:={N:=25}
noncomputable def beCost:Code:=bdy Tryz.f104
abbrev ofeCost:=@ofC Tryz.prog geCost 104 Tryz.f104 beCost Tryz.func104 (by kernel_rfl) (by kernel_rfl) (by kernel_rfl) (by kernel_rfl)
noncomputable def geSum:Ctx:={N:=21}
noncomputable def beSum:Code:=bdy Tryz.f103
abbrev ofeSum:=@ofC Tryz.prog geSum 103 Tryz.f103 beSum Tryz.func103 (by kernel_rfl) (by kernel_rfl) (by kernel_rfl) (by kernel_rfl)
noncomputable def gfBlk:Ctx:={N:=14,plan:=at1 2 (some (ln [1,3,5,7,9,11,12,15])) (fun _=>none)}
noncomputable def bfBlk:Code:=bdy Tryz.f139
abbrev offBlk:=@ofC Tryz.prog gfBlk 139 Tryz.f139 bfBlk Tryz.func139 (by kernel_rfl) (by kernel_rfl) (by kernel_rfl) (by kernel_rfl)
noncomputable def gfCost:Ctx:={N:=25}
noncomputable def bfCost:Code:=bdy Tryz.f96
abbrev offCost:=@ofC Tryz.prog gfCost 96 Tryz.f96 bfCost Tryz.func96 (by kernel_rfl) (by kernel_rfl) (by kernel_rfl) (by kernel_rfl)
noncomputable def gfSum:Ctx:={N:=22}
noncomputable def bfSum:Code:=bdy Tryz.f95
abbrev offSum:=@ofC Tryz.prog gfSum 95 Tryz.f95 bfSum Tryz.func95 (by kernel_rfl) (by kernel_rfl) (by kernel_rfl) (by kernel_rfl)
theorem blkLen(r:Rg):(((blkL r).map encB).length:Int)=(blkN r:Int):=by rw[List.length_map];rfl
theorem ceBlk(b:Bx)(hb:b.ok){K:KT}(hK:K (.agg [.lst ((blkL b.r0).map encB),.lst ((blkL b.r1).map encB),.lst ((blkL b.r2).map encB),.lst ((blkL b.r3).map encB),.lst ((blkL b.r4).map encB)]) []):
  ACall Tryz.prog 145 [encX b] [] K:=by
 obtain⟨⟨a0,b0⟩,⟨a1,b1⟩,⟨a2,b2⟩,⟨a3,b3⟩,⟨a4,b4⟩⟩:=hb
 simp only[topF]at b0 b1 b2 b3 b4
 have h0:∀{K:KT},K (.lst ((blkL b.r0).map encB)) []->ACall Tryz.prog 187 [.agg [.v (.int .u32 b.r0.lo),.v (.int .u32 b.r0.hi)],.v (.int .i64 32)] [] K:=fun h=>cpBlkR 32 (by decide) b.r0 a0 (by omega) h
 have h1:∀{K:KT},K (.lst ((blkL b.r1).map encB)) []->ACall Tryz.prog 187 [.agg [.v (.int .u32 b.r1.lo),.v (.int .u32 b.r1.hi)],.v (.int .i64 32)] [] K:=fun h=>cpBlkR 32 (by decide) b.r1 a1 (by omega) h
 have h2:∀{K:KT},K (.lst ((blkL b.r2).map encB)) []->ACall Tryz.prog 187 [.agg [.v (.int .u32 b.r2.lo),.v (.int .u32 b.r2.hi)],.v (.int .i64 8)] [] K:=fun h=>cpBlkR 8 (by decide) b.r2 a2 (by omega) h
 have h3:∀{K:KT},K (.lst ((blkL b.r3).map encB)) []->ACall Tryz.prog 187 [.agg [.v (.int .u32 b.r3.lo),.v (.int .u32 b.r3.hi)],.v (.int .i64 16)] [] K:=fun h=>cpBlkR 16 (by decide) b.r3 a3 (by omega) h
 have h4:∀{K:KT},K (.lst ((blkL b.r4).map encB)) []->ACall Tryz.prog 187 [.agg [.v (.int .u32 b.r4.lo),.v (.int .u32 b.r4.hi)],.v (.int .i64 16)] [] K:=fun h=>cpBlkR 16 (by decide) b.r4 a4 (by omega) h
 refine ofeBlk rfl rfl ?_
 (repeat' ((conv=>whnf);first|(with_reducible refine Lp.times 6 ?_)|(refine in_c (by decide) ?_)|(with_reducible first|refine h0 ?_|refine h1 ?_|refine h2 ?_|refine h3 ?_|refine h4 ?_)|refine zG ?_|apply zA|(apply zI;intro h)|exact zT));(all_goals conv=>whnf)
 exact hK
theorem prod_int(b:Bx):((((1*(blkN b.r0:Int))*blkN b.r1)*blkN b.r2)*blkN b.r3)*blkN b.r4=(prodB b:Int):=by
 rw[prodB];push_cast;rw[Int.one_mul]
theorem mul_bnd{x y:Int}{m:Int}(x0:0<=x)(x1:x<=m)(y0:0<=y)(y1:y<=66):0<=x*y/\x*y<=m*66:=⟨Int.mul_nonneg x0 y0,Int.mul_le_mul x1 y1 y0 (by omega)⟩
theorem ceCost(b:Bx)(rg:Bool){K:KT}(hK:K (.v (.int .i64 (costB b rg))) []):ACall Tryz.prog 104 [encX b,.sb rg] [] K:=by
 refine ofeCost rfl rfl ?_
 unfold costB at hK
 by_cases hb:b.ok
 ·have n0:=blkN_le b.r0;have n1:=blkN_le b.r1;have n2:=blkN_le b.r2;have n3:=blkN_le b.r3;have n4:=blkN_le b.r4
  have m1:=mul_bnd (x:=1*(blkN b.r0:Int)) (y:=blkN b.r1) (m:=66) (by omega) (by omega) (by omega) (by omega)
  have m2:=mul_bnd (y:=blkN b.r2) m1.1 m1.2 (by omega) (by omega)
  have m3:=mul_bnd (y:=blkN b.r3) m2.1 m2.2 (by omega) (by omega)
  have m4:=mul_bnd (y:=blkN b.r4) m3.1 m3.2 (by omega) (by omega)
  rw[if_pos hb]at hK
  (repeat' ((conv=>whnf);first|(with_reducible first|refine cxBVal b ?_|refine ceBlk b hb ?_)|refine zG ?_|apply zA|(apply zI;intro h)|exact zT));(all_goals conv=>whnf)
  all_goals first
   |(rename_i hb2;exact absurd hb (by assumption))
   |skip
  ·rw[if_pos h]at hK
   exact hK
  ·rw[if_neg (by rw[h];decide)]at hK
   refine Lp.times 6 ?_
   (repeat' ((conv=>whnf);first|(refine in_c (by decide) ?_)|(with_reducible refine wr_i64 (by rw[blkLen]) (by omega) (by omega) ?_)|refine zG ?_|apply zA|(apply zI;intro h)|exact zT));(all_goals conv=>whnf)
   rw[prod_int]
   exact hK
 ·rw[if_neg hb]at hK
  (repeat' ((conv=>whnf);first|(with_reducible refine cxBVal b ?_)|refine zG ?_|apply zA|(apply zI;intro h)|exact zT));(all_goals conv=>whnf)
  all_goals first
   |exact hK
   |(exact absurd (by assumption) hb)
theorem ceSum(l:List Bx)(rg:Bool)(hl:l.length<1000000000){K:KT}(hK:K (.v (.int .i64 (sumB l rg))) []):ACall Tryz.prog 103 [encXs l,.sb rg] [] K:=by
 refine ofeSum rfl rfl ?_
 (repeat' ((conv=>whnf);first|refine zG ?_|apply zA|(apply zI;intro h)|exact zT));(all_goals conv=>whnf)
 refine Lp.intro Nat (fun k=>⟨0,[],[(1,.sb rg),(5,.v (.int .i64 (sumB (l.take k) rg))),(8,encXs l),(9,.v (.int .i64 ((l.map encX).length:Nat))),(10,.v (.int .i64 k))]⟩) (fun k=>k<=l.length) (fun k=>l.length-k) 0 (Nat.zero_le _) ?_ ?_
 ·(exact leA)
 intro k hk
 have hb:=sumB_le rg (l.take k)
 have htl:(l.take k).length<=k:=by rw[List.length_take];omega
 rcases Nat.lt_or_ge k l.length with hkl|hkl
 ·obtain⟨x,hx⟩:=gex hkl
  have hc:=costB_le x rg
  have hs:=sumB_succ (rg:=rg) hx
  have hadd:(sumB (l.take k) rg:Int)+(costB x rg:Int)=((sumB (l.take (k+1)) rg:Nat):Int):=by omega
  (repeat' ((conv=>whnf);first|(with_reducible first|refine in_map hkl ?_|refine in_nat hkl ?_|refine ix_map hx ?_|refine ceCost x rg ?_|refine wr_i64 hadd (by omega) (by omega) ?_)|refine zG ?_|apply zA|(apply zI;intro h)|exact zT));(all_goals conv=>whnf)
  refine⟨k+1,hkl,by omega,?_⟩
  rw[Int.natCast_add,Int.natCast_one]
  (exact leA)
 ·(repeat' ((conv=>whnf);first|refine zG ?_|apply zA|(apply zI;intro h)|exact zT));(all_goals conv=>whnf)
  rw[List.take_of_length_le hkl]
  exact hK
theorem cfBlk(b:Bx)(hb:b.ok)(f:Nat)(hf:f<=4){K:KT}(hK:K (.lst ((blkL (b.get f)).map encB)) []):ACall Tryz.prog 139 [encX b,.v (.int .i64 f)] [] K:=by
 obtain⟨⟨a0,b0⟩,⟨a1,b1⟩,⟨a2,b2⟩,⟨a3,b3⟩,⟨a4,b4⟩⟩:=hb
 simp only[topF]at b0 b1 b2 b3 b4
 have h0:∀{K:KT},K (.lst ((blkL b.r0).map encB)) []->ACall Tryz.prog 184 [.agg [.v (.int .u32 b.r0.lo),.v (.int .u32 b.r0.hi)],.v (.int .i64 32)] [] K:=fun h=>crBlkR 32 (by decide) b.r0 a0 (by omega) h
 have h1:∀{K:KT},K (.lst ((blkL b.r1).map encB)) []->ACall Tryz.prog 184 [.agg [.v (.int .u32 b.r1.lo),.v (.int .u32 b.r1.hi)],.v (.int .i64 32)] [] K:=fun h=>crBlkR 32 (by decide) b.r1 a1 (by omega) h
 have h2:∀{K:KT},K (.lst ((blkL b.r2).map encB)) []->ACall Tryz.prog 184 [.agg [.v (.int .u32 b.r2.lo),.v (.int .u32 b.r2.hi)],.v (.int .i64 8)] [] K:=fun h=>crBlkR 8 (by decide) b.r2 a2 (by omega) h
 have h3:∀{K:KT},K (.lst ((blkL b.r3).map encB)) []->ACall Tryz.prog 184 [.agg [.v (.int .u32 b.r3.lo),.v (.int .u32 b.r3.hi)],.v (.int .i64 16)] [] K:=fun h=>crBlkR 16 (by decide) b.r3 a3 (by omega) h
 have h4:∀{K:KT},K (.lst ((blkL b.r4).map encB)) []->ACall Tryz.prog 184 [.agg [.v (.int .u32 b.r4.lo),.v (.int .u32 b.r4.hi)],.v (.int .i64 16)] [] K:=fun h=>crBlkR 16 (by decide) b.r4 a4 (by omega) h
 refine offBlk rfl rfl ?_
 obtain rfl|rfl|rfl|rfl|rfl:f=0\/f=1\/f=2\/f=3\/f=4:=by omega
 all_goals
  simp only[Bx.get]at hK
  (repeat' ((conv=>whnf);first|(refine in_c (by decide) ?_)|(with_reducible first|refine h0 ?_|refine h1 ?_|refine h2 ?_|refine h3 ?_|refine h4 ?_)|refine zG ?_|apply zA|(apply zI;intro h)|exact zT));(all_goals conv=>whnf)
  all_goals exact hK
theorem cfCost(b:Bx)(rg:Bool){K:KT}(hK:K (.v (.int .i64 (costB b rg))) []):ACall Tryz.prog 96 [encX b,.sb rg] [] K:=by
 refine offCost rfl rfl ?_
 unfold costB at hK
 by_cases hb:b.ok
 ·have n0:=blkN_le b.r0;have n1:=blkN_le b.r1;have n2:=blkN_le b.r2;have n3:=blkN_le b.r3;have n4:=blkN_le b.r4
  have m1:=mul_bnd (x:=1*(blkN b.r0:Int)) (y:=blkN b.r1) (m:=66) (by omega) (by omega) (by omega) (by omega)
  have m2:=mul_bnd (y:=blkN b.r2) m1.1 m1.2 (by omega) (by omega)
  have m3:=mul_bnd (y:=blkN b.r3) m2.1 m2.2 (by omega) (by omega)
  have m4:=mul_bnd (y:=blkN b.r4) m3.1 m3.2 (by omega) (by omega)
  have g0:∀{K:KT},K (.lst ((blkL b.r0).map encB)) []->ACall Tryz.prog 139 [encX b,.v (.int .i64 0)] [] K:=fun h=>cfBlk b hb 0 (by omega) h
  have g1:∀{K:KT},K (.lst ((blkL b.r1).map encB)) []->ACall Tryz.prog 139 [encX b,.v (.int .i64 (0+1))] [] K:=fun h=>cfBlk b hb 1 (by omega) h
  have g2:∀{K:KT},K (.lst ((blkL b.r2).map encB)) []->ACall Tryz.prog 139 [encX b,.v (.int .i64 (0+1+1))] [] K:=fun h=>cfBlk b hb 2 (by omega) h
  have g3:∀{K:KT},K (.lst ((blkL b.r3).map encB)) []->ACall Tryz.prog 139 [encX b,.v (.int .i64 (0+1+1+1))] [] K:=fun h=>cfBlk b hb 3 (by omega) h
  have g4:∀{K:KT},K (.lst ((blkL b.r4).map encB)) []->ACall Tryz.prog 139 [encX b,.v (.int .i64 (0+1+1+1+1))] [] K:=fun h=>cfBlk b hb 4 (by omega) h
  rw[if_pos hb]at hK
  cases rg with
  |true=>
   rw[if_pos rfl]at hK
   (repeat' ((conv=>whnf);first|(with_reducible refine cr3Val b ?_)|refine zG ?_|apply zA|(apply zI;intro h)|exact zT));(all_goals conv=>whnf)
   all_goals first
    |exact absurd hb (by assumption)
    |skip
   refine Lp.times 1 ?_
   (repeat' ((conv=>whnf);first|refine zG ?_|apply zA|(apply zI;intro h)|exact zT));(all_goals conv=>whnf)
   exact hK
  |false=>
   rw[if_neg (by decide)]at hK
   (repeat' ((conv=>whnf);first|(with_reducible refine cr3Val b ?_)|refine zG ?_|apply zA|(apply zI;intro h)|exact zT));(all_goals conv=>whnf)
   all_goals first
    |exact absurd hb (by assumption)
    |skip
   refine Lp.times 6 ?_
   (repeat' ((conv=>whnf);first|(refine in_c (by decide) ?_)|(with_reducible first|refine g0 ?_|refine g1 ?_|refine g2 ?_|refine g3 ?_|refine g4 ?_|refine wr_i64 (by rw[blkLen]) (by omega) (by omega) ?_)|refine zG ?_|apply zA|(apply zI;intro h)|exact zT));(all_goals conv=>whnf)
   rw[prod_int]
   exact hK
 ·rw[if_neg hb]at hK
  (repeat' ((conv=>whnf);first|(with_reducible refine cr3Val b ?_)|refine zG ?_|apply zA|(apply zI;intro h)|exact zT));(all_goals conv=>whnf)
  all_goals first
   |exact hK
   |(exact absurd (by assumption) hb)
theorem cfSum(l:List Bx)(rg:Bool)(hl:l.length<1000000000){K:KT}(hK:K (.v (.int .i64 (sumB l rg))) []):ACall Tryz.prog 95 [encXs l,.sb rg] [] K:=by
 refine offSum rfl rfl ?_
 (repeat' ((conv=>whnf);first|refine zG ?_|apply zA|(apply zI;intro h)|exact zT));(all_goals conv=>whnf)
 refine Lp.intro Nat (fun k=>⟨0,[],[(0,encXs l),(1,.sb rg),(5,.v (.int .i64 (sumB (l.take k) rg))),(6,.v (.int .i64 k))]⟩) (fun k=>k<=l.length) (fun k=>l.length-k) 0 (Nat.zero_le _) ?_ ?_
 ·(exact leA)
 intro k hk
 have hb:=sumB_le rg (l.take k)
 have htl:(l.take k).length<=k:=by rw[List.length_take];omega
 rcases Nat.lt_or_ge k l.length with hkl|hkl
 ·obtain⟨x,hx⟩:=gex hkl
  have hc:=costB_le x rg
  have hs:=sumB_succ (rg:=rg) hx
  have hadd:(sumB (l.take k) rg:Int)+(costB x rg:Int)=((sumB (l.take (k+1)) rg:Nat):Int):=by omega
  (repeat' ((conv=>whnf);first|(with_reducible first|refine in_map hkl ?_|refine ix_map hx ?_|refine cfCost x rg ?_|refine wr_i64 hadd (by omega) (by omega) ?_)|refine zG ?_|apply zA|(apply zI;intro h)|exact zT));(all_goals conv=>whnf)
  refine⟨k+1,hkl,by omega,?_⟩
  rw[Int.natCast_add,Int.natCast_one]
  (exact leA)
 ·(repeat' ((conv=>whnf);first|refine zG ?_|apply zA|(apply zI;intro h)|exact zT));(all_goals conv=>whnf)
  rw[List.take_of_length_le hkl]
  exact hK
theorem czEdge(t:Tp)(i:Int){K:KT}(hK:K (.sb (hasE t i)) []):ACall Tryz.prog 58 [encT t,.v (.int .i64 i)] [] K:=by
 refine ACall.bool (ofzEdge rfl rfl ?_)
 unfold hasE at hK
 have e:(t.edges.map encE).length=t.edges.length:=List.length_map ..
 (repeat' ((conv=>whnf);first|refine zG ?_|apply zA|(apply zI;intro h)|exact zT));(all_goals conv=>whnf)
 all_goals first
  |exact fin_s hK (by rw[e,decide_eq_true (by assumption),Bool.true_and])
  |exact fin_f hK (by rw[decide_eq_false (by assumption)];rfl)
theorem czWho(t:Tp)(a b:Int)(hl:t.edges.length<1000000){K:KT}(hK:K (encX (wholeZ t a b)) []):ACall Tryz.prog 27 [encT t,.v (.int .i64 a),.v (.int .i64 b)] [] K:=by
 refine ofzWho rfl rfl ?_
 unfold wholeZ at hK
 by_cases hc:compB t=true/\hasE t a=true/\hasE t b=true
 ·rw[if_pos hc]at hK
  obtain⟨h1,h2,h3⟩:=hc
  obtain⟨i,ea,rfl,hea⟩:=hasE_get h2
  obtain⟨j,eb,rfl,heb⟩:=hasE_get h3
  have hil:=(List.getElem?_eq_some_iff.1 hea).1
  have hjl:=(List.getElem?_eq_some_iff.1 heb).1
  simp only[whoT,Int.toNat_natCast,hea,heb]at hK
  (repeat' ((conv=>whnf);first|(with_reducible first|refine ctComp t hl ?_|refine czEdge t _ ?_|refine cxFull ?_|refine in_map hil ?_|refine in_map hjl ?_|refine ix_map hea ?_|refine ix_map heb ?_|refine cpOf _ ?_)|(refine in_c (by decide) ?_)|refine zG ?_|apply zA|(apply zI;intro h)|exact zT));(all_goals conv=>whnf)
  all_goals first
   |exact hK
   |(exfalso;simp_all;done)
 ·rw[if_neg hc]at hK
  (repeat' ((conv=>whnf);first|(with_reducible first|refine ctComp t hl ?_|refine czEdge t _ ?_)|refine zG ?_|apply zA|(apply zI;intro h)|exact zT));(all_goals conv=>whnf)
  all_goals first
   |exact hK
   |(exact absurd ⟨by assumption,by assumption,by assumption⟩ hc)
noncomputable abbrev encLd(x0 x1 x2 x3 x4 x5 x6 x7 x8 x9 x10 x11:Nat):AV:=.agg [.v (.int .i64 (x0:Nat)),.v (.int .i64 (x1:Nat)),.v (.int .i64 (x2:Nat)),.v (.int .i64 (x3:Nat)),.v (.int .i64 (x4:Nat)),.v (.int .i64 (x5:Nat)),.v (.int .i64 (x6:Nat)),.v (.int .i64 (x7:Nat)),.v (.int .i64 (x8:Nat)),.v (.int .i64 (x9:Nat)),.v (.int .i64 (x10:Nat)),.v (.int .i64 (x11:Nat))]
theorem len12{l:List Nat}(h:l.length=12):∃x0 x1 x2 x3 x4 x5 x6 x7 x8 x9 x10 x11,l=[x0,x1,x2,x3,x4,x5,x6,x7,x8,x9,x10,x11]:=by
 match l,h with
 |[x0,x1,x2,x3,x4,x5,x6,x7,x8,x9,x10,x11],_=>exact⟨x0,x1,x2,x3,x4,x5,x6,x7,x8,x9,x10,x11,rfl⟩
theorem czWith(t:Tp)(x:Pl)(hc:compB t=true)(hx:PlIn t x)(ht:DevIn t)(hnd:t.devs.length<=12)(hel:t.edges.length<1000000)(m:Nat)(hm:m<500000)(x0 x1 x2 x3 x4 x5 x6 x7 x8 x9 x10 x11:Nat)(hs:Small m [x0,x1,x2,x3,x4,x5,x6,x7,x8,x9,x10,x11]){K:KT}
  (hK:∀y0 y1 y2 y3 y4 y5 y6 y7 y8 y9 y10 y11,[y0,y1,y2,y3,y4,y5,y6,y7,y8,y9,y10,y11]=costP t [x0,x1,x2,x3,x4,x5,x6,x7,x8,x9,x10,x11] x->K (encLd y0 y1 y2 y3 y4 y5 y6 y7 y8 y9 y10 y11) []):
  ACall Tryz.prog 55 [encLd x0 x1 x2 x3 x4 x5 x6 x7 x8 x9 x10 x11,encT t,encPl x] [] K:=by
 obtain⟨a,b,eg,allow⟩:=x
 obtain⟨a0,a1,b0,b1,hal⟩:=hx
 simp only at a0 a1 b0 b1 hal
 obtain⟨i,rfl⟩:=Int.eq_ofNat_of_zero_le a0
 obtain⟨j,rfl⟩:=Int.eq_ofNat_of_zero_le b0
 have hil:i<t.edges.length:=by omega
 have hjl:j<t.edges.length:=by omega
 obtain⟨ea,hea⟩:=gex hil
 obtain⟨eb,heb⟩:=gex hjl
 have hda:=ht ea (List.mem_of_getElem? hea)
 have hdb:=ht eb (List.mem_of_getElem? heb)
 obtain⟨p,hp⟩:=Int.eq_ofNat_of_zero_le hda.1
 obtain⟨q,hq⟩:=Int.eq_ofNat_of_zero_le hdb.1
 have hpl:p<t.devs.length:=by omega
 have hql:q<t.devs.length:=by omega
 have hdp:devOf t.edges (i:Int)=p:=by simp[devOf,hea,hp]
 have hdq:devOf t.edges (j:Int)=q:=by simp[devOf,heb,hq]
 have hwho:whoT t (i:Int) (j:Int)=whoB ea.pf eb.pf:=by simp[whoT,hea,heb]
 have hwz:wholeZ t (i:Int) (j:Int)=whoB ea.pf eb.pf:=by
  rw[wholeZ,if_pos ⟨hc,by simp[hasE];omega,by simp[hasE];omega⟩,hwho]
 have hwc:∀{K:KT},K (encX (whoB ea.pf eb.pf)) []->ACall Tryz.prog 27 [encT t,.v (.int .i64 (i:Nat)),.v (.int .i64 (j:Nat))] [] K:=fun h=>czWho t i j hel (by rw[hwz];exact h)
 obtain⟨d,hd⟩:∃d,d=enfD t ⟨i,j,eg,allow⟩:=⟨_,rfl⟩
 obtain⟨o,ho⟩:∃o,o=othD t ⟨i,j,eg,allow⟩:=⟨_,rfl⟩
 have hdo:(eg=false/\d=p/\o=q)\/(eg=true/\d=q/\o=p):=by
  rw[hd,ho,enfD,othD]
  cases eg
  ·left;exact⟨rfl,hdp,hdq⟩
  ·right;exact⟨rfl,hdq,hdp⟩
 have hdl:d<t.devs.length:=by omega
 have hol:o<t.devs.length:=by omega
 obtain⟨dd,hdd⟩:=gex hdl
 obtain⟨oo,hoo⟩:=gex hol
 have hrd:rgD t.devs d=dd.rg:=by simp[rgD,hdd]
 have hro:rgD t.devs o=oo.rg:=by simp[rgD,hoo]
 have hcost:costP t [x0,x1,x2,x3,x4,x5,x6,x7,x8,x9,x10,x11] ⟨i,j,eg,allow⟩=addAt (addAt [x0,x1,x2,x3,x4,x5,x6,x7,x8,x9,x10,x11] d (sumB allow dd.rg)) o (costB (whoB ea.pf eb.pf) oo.rg):=by
  rw[costP,<-hd,<-ho,hrd,hro,hwho]
 have hsum:=sumB_le dd.rg allow
 have hcb:=costB_le (whoB ea.pf eb.pf) oo.rg
 have hs1:∀v,v∈addAt [x0,x1,x2,x3,x4,x5,x6,x7,x8,x9,x10,x11] d (sumB allow dd.rg)->v<=(m+1)*5130807563872:=fun v hv=>by
  have:=addAt_small hs v hv
  omega
 rw[hcost]at hK
 clear hcost hd ho hdp hdq hwho hwz hda hdb ht
 dsimp only[encPl]
 refine ofzWith rfl rfl ?_
 (repeat' ((conv=>whnf);first|(with_reducible first|refine in_map hil ?_|refine in_map hjl ?_|refine ix_map hea ?_|refine ix_map heb ?_)|refine zG ?_|apply zA|(apply zI;intro h)|exact zT));(all_goals conv=>whnf)
 refine Jn.at ⟨4,[(3,.box [.v (.int .i64 0),.v (.int .i64 0),.v (.int .i64 0),.v (.int .i64 0),.v (.int .i64 0),.v (.int .i64 0),.v (.int .i64 0),.v (.int .i64 0),.v (.int .i64 0),.v (.int .i64 0),.v (.int .i64 0),.v (.int .i64 0)]),(2,.box [.v (.int .i64 (i:Nat)),.v (.int .i64 (j:Nat)),.sb eg,encXs allow]),(1,boxT t),(0,.box [.v (.int .i64 (x0:Nat)),.v (.int .i64 (x1:Nat)),.v (.int .i64 (x2:Nat)),.v (.int .i64 (x3:Nat)),.v (.int .i64 (x4:Nat)),.v (.int .i64 (x5:Nat)),.v (.int .i64 (x6:Nat)),.v (.int .i64 (x7:Nat)),.v (.int .i64 (x8:Nat)),.v (.int .i64 (x9:Nat)),.v (.int .i64 (x10:Nat)),.v (.int .i64 (x11:Nat))])],[(3,.op 0 0),(4,.op 1 0),(5,.op 2 0),(6,.op 3 0),(7,.v (.int .i64 (d:Nat))),(8,.v (.int .i64 (o:Nat)))]⟩ ?_ ?_
 ·(repeat' ((conv=>whnf);first|refine zG ?_|apply zA|(apply zI;intro h)|exact zT));(all_goals conv=>whnf)
  all_goals
   rcases hdo with⟨h1,h2,h3⟩|⟨h1,h2,h3⟩
   all_goals first
    |(exfalso;rw[h1]at h;cases h;done)
    |(subst h2;subst h3
      refine⟨(),trivial,?_⟩
      simp only[hp,hq]
      (exact leA))
 refine Jn.intro (List Nat) (fun l=>⟨4,[(3,.box [.v (.int .i64 0),.v (.int .i64 0),.v (.int .i64 0),.v (.int .i64 0),.v (.int .i64 0),.v (.int .i64 0),.v (.int .i64 0),.v (.int .i64 0),.v (.int .i64 0),.v (.int .i64 0),.v (.int .i64 0),.v (.int .i64 0)]),(2,.box [.v (.int .i64 (i:Nat)),.v (.int .i64 (j:Nat)),.sb eg,encXs allow]),(1,boxT t),(0,.box (l.map cI))],[(3,.op 0 0),(4,.op 1 0),(5,.op 2 0),(6,.op 3 0),(7,.v (.int .i64 (d:Nat))),(8,.v (.int .i64 (o:Nat)))]⟩) (fun l=>l=addAt [x0,x1,x2,x3,x4,x5,x6,x7,x8,x9,x10,x11] d (sumB allow dd.rg)) ?_ ?_
 ·clear hK hs1 hdo hoo hol
  have bx0:=hs x0 (by simp)
  have bx1:=hs x1 (by simp)
  have bx2:=hs x2 (by simp)
  have bx3:=hs x3 (by simp)
  have bx4:=hs x4 (by simp)
  have bx5:=hs x5 (by simp)
  have bx6:=hs x6 (by simp)
  have bx7:=hs x7 (by simp)
  have bx8:=hs x8 (by simp)
  have bx9:=hs x9 (by simp)
  have bx10:=hs x10 (by simp)
  have bx11:=hs x11 (by simp)
  obtain rfl|rfl|rfl|rfl|rfl|rfl|rfl|rfl|rfl|rfl|rfl|rfl:d=0\/d=1\/d=2\/d=3\/d=4\/d=5\/d=6\/d=7\/d=8\/d=9\/d=10\/d=11:=by omega
  all_goals
   (repeat' ((conv=>whnf);first|(with_reducible first|refine in_map hdl ?_|refine ix_map hdd ?_)|(refine in_c (by decide) ?_)|(with_reducible first|refine ceSum allow dd.rg (by omega) ?_|refine wr_i64 (Int.natCast_add _ _).symm (by omega) (by omega) ?_)|refine zG ?_|apply zA|(apply zI;intro h)|exact zT));(all_goals conv=>whnf)
   all_goals
    refine⟨_,rfl,?_⟩
    (exact leA)
 ·intro l hl
  obtain⟨w0,w1,w2,w3,w4,w5,w6,w7,w8,w9,w10,w11,hlw⟩:=len12 (l:=l) (by rw[hl,addAt_len];rfl)
  rw[hlw]at hl⊢
  rw[<-hl]at hK hs1
  clear hlw hs hl hdo hdd hdl
  have bw0:=hs1 w0 (by simp)
  have bw1:=hs1 w1 (by simp)
  have bw2:=hs1 w2 (by simp)
  have bw3:=hs1 w3 (by simp)
  have bw4:=hs1 w4 (by simp)
  have bw5:=hs1 w5 (by simp)
  have bw6:=hs1 w6 (by simp)
  have bw7:=hs1 w7 (by simp)
  have bw8:=hs1 w8 (by simp)
  have bw9:=hs1 w9 (by simp)
  have bw10:=hs1 w10 (by simp)
  have bw11:=hs1 w11 (by simp)
  obtain rfl|rfl|rfl|rfl|rfl|rfl|rfl|rfl|rfl|rfl|rfl|rfl:o=0\/o=1\/o=2\/o=3\/o=4\/o=5\/o=6\/o=7\/o=8\/o=9\/o=10\/o=11:=by omega
  all_goals
   (repeat' ((conv=>whnf);first|(with_reducible first|refine in_map hol ?_|refine ix_map hoo ?_)|(refine in_c (by decide) ?_)|(with_reducible first|refine hwc ?_|refine ceCost (whoB ea.pf eb.pf) oo.rg ?_|refine wr_i64 (Int.natCast_add _ _).symm (by omega) (by omega) ?_)|refine zG ?_|apply zA|(apply zI;intro h)|exact zT));(all_goals conv=>whnf)
   all_goals exact hK _ _ _ _ _ _ _ _ _ _ _ _ rfl
theorem czFits(t:Tp)(hnd:t.devs.length<=12)(x0 x1 x2 x3 x4 x5 x6 x7 x8 x9 x10 x11:Nat){K:KT}(hK:K (.sb (fitsP t [x0,x1,x2,x3,x4,x5,x6,x7,x8,x9,x10,x11])) []):ACall Tryz.prog 56 [encLd x0 x1 x2 x3 x4 x5 x6 x7 x8 x9 x10 x11,encT t] [] K:=by
 refine ACall.bool (ofzFits rfl rfl ?_)
 (repeat' ((conv=>whnf);first|refine zG ?_|apply zA|(apply zI;intro h)|exact zT));(all_goals conv=>whnf)
 refine Lp.intro Nat (fun k=>⟨1,[(0,.box [.v (.int .i64 (x0:Nat)),.v (.int .i64 (x1:Nat)),.v (.int .i64 (x2:Nat)),.v (.int .i64 (x3:Nat)),.v (.int .i64 (x4:Nat)),.v (.int .i64 (x5:Nat)),.v (.int .i64 (x6:Nat)),.v (.int .i64 (x7:Nat)),.v (.int .i64 (x8:Nat)),.v (.int .i64 (x9:Nat)),.v (.int .i64 (x10:Nat)),.v (.int .i64 (x11:Nat))])],[(2,.op 0 0),(8,.lst (t.devs.map encD)),(9,.v (.int .i64 ((t.devs.map encD).length:Nat))),(10,.v (.int .i64 k))]⟩) (fun k=>k<=t.devs.length/\∀(i:Nat) d,i<k->t.devs[i]? =some d->∀v,[x0,x1,x2,x3,x4,x5,x6,x7,x8,x9,x10,x11][i]? =some v->(v:Int)<=d.cap) (fun k=>t.devs.length-k) 0 ⟨Nat.zero_le _,fun i d h=>absurd h (Nat.not_lt_zero _)⟩ ?_ ?_
 ·(exact leA)
 intro k ⟨hk,hinv⟩
 rcases Nat.lt_or_ge k t.devs.length with hkl|hkl
 ·obtain⟨d,hd⟩:=gex hkl
  have hbad:∀v,[x0,x1,x2,x3,x4,x5,x6,x7,x8,x9,x10,x11][k]? =some v->d.cap<(v:Int)->fitsP t [x0,x1,x2,x3,x4,x5,x6,x7,x8,x9,x10,x11]=false:=fun v hv hlt=>by
   rw[Bool.eq_false_iff,ne_eq,fitsP_iff]
   intro hh
   have:=hh k d v hd hv
   omega
  have hgood:∀v,[x0,x1,x2,x3,x4,x5,x6,x7,x8,x9,x10,x11][k]? =some v->¬d.cap<(v:Int)->∀(i:Nat) d,i<k+1->t.devs[i]? =some d->∀v,[x0,x1,x2,x3,x4,x5,x6,x7,x8,x9,x10,x11][i]? =some v->(v:Int)<=d.cap:=fun v hv hle=>all_succ hd (fun w hw=>by rw[hv]at hw;cases hw;omega) hinv
  clear hinv
  obtain⟨kk,hkk⟩:∃kk,k=kk:=⟨k,rfl⟩
  obtain rfl|rfl|rfl|rfl|rfl|rfl|rfl|rfl|rfl|rfl|rfl|rfl:k=0\/k=1\/k=2\/k=3\/k=4\/k=5\/k=6\/k=7\/k=8\/k=9\/k=10\/k=11:=by omega
  all_goals
   (repeat' ((conv=>whnf);first|(with_reducible first|refine in_map hkl ?_|refine in_nat hkl ?_|refine ix_map hd ?_)|(refine in_c (by decide) ?_)|refine zG ?_|apply zA|(apply zI;intro h)|exact zT));(all_goals conv=>whnf)
   all_goals first
    |exact fin_f hK (hbad _ rfl h)
    |(refine⟨_,⟨hkl,hgood _ rfl h⟩,by omega,?_⟩
      (exact leA))
 ·(repeat' ((conv=>whnf);first|refine zG ?_|apply zA|(apply zI;intro h)|exact zT));(all_goals conv=>whnf)
  exact fin_t hK (fitsP_iff.2 fun i d v hd hv=>before_all hkl hinv i d hd v hv)
theorem czPlace(t:Tp)(p:Pol)(hl:t.edges.length<1000)(hal:p.allow.length<1000000000)(hil:p.insp.length<1000000000)(hsl:∀x,x∈p.insp->x.set.length<1000000000){K:KT}(hK:K (.tup [.lst ((placeP t p).1.map encPl),.v (.int .i64 (placeP t p).2)]) []):ACall Tryz.prog 21 [encT t,encPol p] [] K:=by
 refine ACall.weak (ofzPlace rfl rfl ?_)
 unfold placeP at hK
 by_cases hp:polB t p=false
 case pos=>
  rw[if_pos hp]at hK
  (repeat' ((conv=>whnf);first|(with_reducible refine cyVal t p hl hal hil hsl ?_)|refine zG ?_|apply zA|(apply zI;intro h)|exact zT));(all_goals conv=>whnf)
  all_goals first
   |exact⟨_,Weak.tup2 Weak.nils Weak.refl,hK⟩
   |(exfalso;simp_all;done)
 rw[if_neg hp]at hK
 have hpt:polB t p=true:=by simpa using hp
 have hok:=polB_iff.1 hpt
 obtain⟨hdi,hnd,hne,hnd1⟩:=comp_dev hok.comp
 have hpair:∀(a b:Nat) {K:KT},K (.tup [encXs (pairP t p a b).1,.v (.int .i64 (pairP t p a b).2)]) []->ACall Tryz.prog 54 [encT t,encPol p,.v (.int .i64 (a:Nat)),.v (.int .i64 (b:Nat))] [] K:=fun a b K h=>cyPair t p a b (by omega) hal h
 (repeat' ((conv=>whnf);first|(with_reducible refine cyVal t p hl hal hil hsl ?_)|refine zG ?_|apply zA|(apply zI;intro h)|exact zT));(all_goals conv=>whnf)
 all_goals first
  |(exfalso;simp_all;done)
  |skip
 refine Lp.intro Nat (fun a=>⟨3,[(2,.arr 4 ((pairsOf t p (preI t.edges.length a 0)).map encPl)),(1,boxPol p),(0,boxT t)],[(2,.op 0 0),(3,.op 1 0),(6,.os 2 4 0 (pairsOf t p (preI t.edges.length a 0)).length),(20,.v (.int .i64 ((t.edges.map encE).length:Nat))),(21,.v (.int .i64 a))]⟩) (fun a=>a<=t.edges.length/\errOf t p (preI t.edges.length a 0)=0) (fun a=>t.edges.length-a) 0 ⟨Nat.zero_le _,rfl⟩ ?_ ?_
 ·(exact leA)
 intro a ⟨ha,herr⟩
 rcases Nat.lt_or_ge a t.edges.length with hal2|hal2
 ·(repeat' ((conv=>whnf);first|refine zG ?_|apply zA|(apply zI;intro h)|exact zT));(all_goals conv=>whnf)
  refine Lp.intro Nat (fun b=>⟨3,[(2,.arr 4 ((pairsOf t p (preI t.edges.length a b)).map encPl)),(1,boxPol p),(0,boxT t)],[(2,.op 0 0),(3,.op 1 0),(6,.os 2 4 0 (pairsOf t p (preI t.edges.length a b)).length),(7,.v (.int .i64 a)),(20,.v (.int .i64 ((t.edges.map encE).length:Nat))),(21,.v (.int .i64 a)),(26,.v (.int .i64 ((t.edges.map encE).length:Nat))),(27,.v (.int .i64 b))]⟩) (fun b=>b<=t.edges.length/\errOf t p (preI t.edges.length a b)=0) (fun b=>t.edges.length-b) 0 ⟨Nat.zero_le _,herr⟩ ?_ ?_
  ·(exact leA)
  intro b ⟨hb,herr2⟩
  rcases Nat.lt_or_ge b t.edges.length with hbl|hbl
  ·have hsn:=pairsOf_snoc t p (preI t.edges.length a b) (a,b)
   have hen:=errOf_app t p (preI t.edges.length a b) [(a,b)] herr2
   rw[<-preI_succ]at hsn hen
   have hplen:=pairsOf_len t p (preI t.edges.length a b)
   have hpil:=preI_len t.edges.length a b
   have hmul:a*t.edges.length<=12*12:=Nat.mul_le_mul (by omega) hne
   have hpl4:=pairP_len t p a b
   simp only[errOf]at hen hsn
   obtain⟨more,hmore⟩:=preI_pre (n:=t.edges.length) (a:=a) (b:=b+1) hal2 hbl
   have hbad:(pairP t p (a:Nat) (b:Nat)).2≠0->∃y,Weak (.tup [.nils,.v (.int .i64 (pairP t p (a:Nat) (b:Nat)).2)]) y/\K y []:=fun h=>by
    rw[if_pos h]at hen
    have e1:errOf t p (idxI t.edges.length)=(pairP t p (a:Nat) (b:Nat)).2:=by rw[hmore,errOf_pre _ _ _ _ (by rw[hen];exact h),hen]
    rw[if_pos (by rw[e1];exact h),e1]at hK
    exact⟨_,Weak.tup2 Weak.nils Weak.refl,hK⟩
   have hgood:(pairP t p (a:Nat) (b:Nat)).2=0->errOf t p (preI t.edges.length a (b+1))=0:=fun h=>by rw[hen,if_neg (fun hn=>hn h)]
   clear hK hen hmore
   generalize hA:pairsOf t p (preI t.edges.length a b)=A at*
   generalize hB:pairsOf t p (preI t.edges.length a (b+1))=B at*
   have hpr:=fun {K} h=>@hpair a b K h
   clear hpair
   generalize pairP t p (a:Nat) (b:Nat)=r at*
   obtain⟨rs,re⟩:=r
   simp only at*
   (repeat' ((conv=>whnf);first|(with_reducible refine hpr ?_)|refine zG ?_|apply zA|(apply zI;intro h)|exact zT));(all_goals conv=>whnf)
   all_goals first
    |exact hbad (by assumption)
    |(refine⟨b+1,⟨hbl,hgood (by assumption)⟩,by omega,?_⟩
      first
       |(rw[if_pos (List.length_eq_zero_iff.1 (by simp only[List.length_map]at h;omega)),List.append_nil]at hsn
         rw[hB,hsn,Int.natCast_add b,Int.natCast_one]
         (exact leA)
         done)
       |(rw[if_neg (fun e=>by rw[e]at h;simp at h)]at hsn
         rw[hB,hsn,List.map_append,List.length_append,Int.natCast_add b,Int.natCast_one]
         (exact leA)
         done))
  ·have hbe:b=t.edges.length:=by omega
   rw[hbe,preI_row]at herr2⊢
   (repeat' ((conv=>whnf);first|refine zG ?_|apply zA|(apply zI;intro h)|exact zT));(all_goals conv=>whnf)
   refine⟨a+1,⟨hal2,herr2⟩,by omega,?_⟩
   rw[Int.natCast_add a,Int.natCast_one]
   (exact leA)
 ·have hae:a=t.edges.length:=by omega
  rw[hae]at herr⊢
  rw[show preI t.edges.length t.edges.length 0=idxI t.edges.length from rfl]at herr⊢
  rw[if_neg (fun hn=>hn herr)]at hK
  have hin:=pairsOf_in (t:=t) (p:=p) (l:=idxI t.edges.length) (fun q hq=>preI_mem (Nat.le_refl _) (Nat.zero_le _) (.inl rfl) q hq)
  have hplen:=pairsOf_len t p (idxI t.edges.length)
  have hpil:=preI_len t.edges.length t.edges.length 0
  have hmul:t.edges.length*t.edges.length<=12*12:=Nat.mul_le_mul hne hne
  have hidl:(idxI t.edges.length).length<=144:=by rw[idxI,hpil];omega
  clear hpair herr hal2 ha hpil
  generalize pairsOf t p (idxI t.edges.length)=pl at*
  have hz:zeros t.devs.length=(zeros 12).take t.devs.length:=by rw[zeros,zeros,List.take_replicate,Nat.min_eq_left hnd]
  rw[hz,placeGo_take hdi _ _ _ (fun x hx=>(hin x hx).1)]at hK
  (repeat' ((conv=>whnf);first|refine zG ?_|apply zA|(apply zI;intro h)|exact zT));(all_goals conv=>whnf)
  refine Lp.intro (Nat×List Pl×List Nat) (fun g=>⟨3,[(2,.arr 4 ((g.2.1++pl.drop g.1).map encPl)),(1,.box (g.2.2.map cI)),(0,boxT t)],[(2,.op 0 0),(6,.os 2 4 0 pl.length),(11,.op 1 0),(54,.v (.int .i64 (pl.length:Nat))),(55,.v (.int .i64 g.1))]⟩)
   (fun g=>g.1<=pl.length/\g.2.1.length=g.1/\g.2.2.length=12/\placeGo t (pl.take g.1) ([],zeros 12)=some (g.2.1,g.2.2)/\Small g.1 g.2.2) (fun g=>pl.length-g.1) (0,[],zeros 12) ⟨Nat.zero_le _,rfl,rfl,rfl,small_zero 12⟩ ?_ ?_
  ·(exact leA)
  rintro⟨k,out,l⟩ ⟨hk,hol,hll,hgo,hsm⟩
  simp only at hk hol hll hgo hsm⊢
  rcases Nat.lt_or_ge k pl.length with hkl|hkl
  ·obtain⟨x,hx⟩:=gex hkl
   obtain⟨hxi,hxe⟩:=hin x (List.mem_of_getElem? hx)
   have hd:pl.drop k=x::pl.drop (k+1):=by
    rw[List.getElem?_eq_getElem hkl]at hx
    rw[<-Option.some.inj hx,<-List.drop_eq_getElem_cons hkl]
   have hget:(out++pl.drop k)[0+k]? =some x:=by rw[Nat.zero_add,List.getElem?_append_right (by omega),hol,Nat.sub_self,hd];rfl
   have hlen:0+k<((out++pl.drop k).map encPl).length:=by rw[List.length_map,List.length_append,List.length_drop];omega
   have hset:((out++pl.drop k).map encPl).set (0+k) (.agg [.v (.int .i64 x.a),.v (.int .i64 x.b),.sb true,encXs x.allow])=((out++[{x with eg:=true}])++pl.drop (k+1)).map encPl:=by
    rw[Nat.zero_add,List.map_append,List.set_append_right _ _ (by rw[List.length_map];omega),List.length_map,hol,Nat.sub_self,hd]
    simp
   have hstep:placeGo t (pl.take (k+1)) ([],zeros 12)=placeStep t (out,l) x:=by
    rw[List.take_add_one,hx,placeGo_app,hgo]
    simp only[Option.toList_some,placeGo]
    cases placeStep t (out,l) x<;>rfl
   have hfull:∀s,placeGo t (pl.take (k+1)) ([],zeros 12)=none->placeGo t pl ([],zeros 12)=s->s=none:=fun s h1 h2=>by
    rw[<-List.take_append_drop (k+1) pl,placeGo_app,h1]at h2
    exact h2.symm
   have hsame:out++pl.drop k=(out++[x])++pl.drop (k+1):=by rw[hd,List.append_assoc];rfl
   obtain⟨x0,x1,x2,x3,x4,x5,x6,x7,x8,x9,x10,x11,rfl⟩:=len12 hll
   have hw1:=fun {K} h=>@czWith t x hok.comp hxi hdi hnd (by omega) k (by omega) x0 x1 x2 x3 x4 x5 x6 x7 x8 x9 x10 x11 hsm K h
   have hw2:=fun {K} h=>@czWith t {x with eg:=true} hok.comp (hxi.eg true) hdi hnd (by omega) k (by omega) x0 x1 x2 x3 x4 x5 x6 x7 x8 x9 x10 x11 hsm K h
   rw[placeStep]at hstep
   simp only at hstep
   have hsm1:=costP_small (t:=t) hxi.len hsm
   have hsm2:=costP_small (t:=t) (x:={x with eg:=true}) hxi.len hsm
   have hl1:=costP_len t [x0,x1,x2,x3,x4,x5,x6,x7,x8,x9,x10,x11] x
   have hl2:=costP_len t [x0,x1,x2,x3,x4,x5,x6,x7,x8,x9,x10,x11] {x with eg:=true}
   have hge:∀(o':List Pl) (l':List Nat),placeGo t (pl.take (k+1)) ([],zeros 12)=some (o',l')->o'.length=k+1->l'.length=12->Small (k+1) l'->∃g':Nat×List Pl×List Nat,(g'.1<=pl.length/\g'.2.1.length=g'.1/\g'.2.2.length=12/\placeGo t (pl.take g'.1) ([],zeros 12)=some (g'.2.1,g'.2.2)/\Small g'.1 g'.2.2)/\g'=(k+1,o',l'):=fun o' l' h1 h2 h3 h4=>⟨(k+1,o',l'),⟨hkl,h2,h3,h1,h4⟩,rfl⟩
   (repeat' ((conv=>whnf);first|(with_reducible first|refine in_nat hkl ?_|refine ix_map hget ?_)|(refine hw1 fun y0 y1 y2 y3 y4 y5 y6 y7 y8 y9 y10 y11 hy=>?_)|refine zG ?_|apply zA|(apply zI;intro h)|exact zT));(all_goals conv=>whnf)
   all_goals
    (repeat' ((conv=>whnf);first|(with_reducible first|refine ix_map hget ?_|refine ix_set hlen ?_|refine in_nat hkl ?_|refine czFits t hnd y0 y1 y2 y3 y4 y5 y6 y7 y8 y9 y10 y11 ?_)|(refine hw2 fun z0 z1 z2 z3 z4 z5 z6 z7 z8 z9 z10 z11 hz=>?_)|refine zG ?_|apply zA|(apply zI;intro h)|exact zT));(all_goals conv=>whnf)
    all_goals first
     |(refine⟨(k+1,out++[x],[y0,y1,y2,y3,y4,y5,y6,y7,y8,y9,y10,y11]),⟨hkl,by simp[hol],rfl,by rw[hstep,<-hy,if_pos (by assumption)],by rw[hy];exact hsm1⟩,by simp only;omega,?_⟩
       simp only
       rw[<-hsame,Int.natCast_add,Int.natCast_one]
       (exact leA)
       done)
     |((repeat' ((conv=>whnf);first|(with_reducible refine czFits t hnd z0 z1 z2 z3 z4 z5 z6 z7 z8 z9 z10 z11 ?_)|refine zG ?_|apply zA|(apply zI;intro h)|exact zT));(all_goals conv=>whnf)
       all_goals first
        |(refine⟨(k+1,out++[{x with eg:=true}],[z0,z1,z2,z3,z4,z5,z6,z7,z8,z9,z10,z11]),⟨hkl,by simp[hol],rfl,by rw[hstep,<-hy,if_neg (by simp_all),<-hz,if_pos (by assumption)],by rw[hz];exact hsm2⟩,by simp only;omega,?_⟩
          simp only
          rw[<-hset,Int.natCast_add,Int.natCast_one]
          (exact leA)
          done)
        |(rw[hfull _ (by rw[hstep,<-hy,if_neg (by simp_all),<-hz,if_neg (by simp_all)]) rfl]at hK
          exact⟨_,Weak.tup2 Weak.nils Weak.refl,hK⟩))
  ·have hke:k=pl.length:=by omega
   rw[hke,List.take_length]at hgo
   rw[hgo]at hK
   rw[hke,List.drop_length,List.append_nil]
   rw[hke]at hol
   (repeat' ((conv=>whnf);first|(with_reducible refine sl_full (by rw[List.length_map,hol]) ?_)|refine zG ?_|apply zA|(apply zI;intro h)|exact zT));(all_goals conv=>whnf)
   exact⟨_,Weak.refl,hK⟩
theorem czVal(t:Tp)(l:List Pl)(hl:t.edges.length<1000)(hll:l.length<1000000000)(hsl:∀x,x∈l->x.allow.length<1000000000){K:KT}(hK:K (.sb (plsB t l)) []):ACall Tryz.prog 23 [encT t,.lst (l.map encPl)] [] K:=by
 refine ACall.bool (ofzVal rfl rfl ?_)
 by_cases hc:compB t=false
 case pos=>
  have hf:plsB t l=false:=plsB_false fun hp=>by rw[hp.comp]at hc;cases hc
  (repeat' ((conv=>whnf);first|(with_reducible refine ctComp t (by omega) ?_)|refine zG ?_|apply zA|(apply zI;intro h)|exact zT));(all_goals conv=>whnf)
  all_goals first
   |exact fin_f hK hf
   |(exfalso;simp_all;done)
 have hct:compB t=true:=by simpa using hc
 (repeat' ((conv=>whnf);first|(with_reducible refine ctComp t (by omega) ?_)|refine zG ?_|apply zA|(apply zI;intro h)|exact zT));(all_goals conv=>whnf)
 all_goals first
  |(exfalso;simp_all;done)
  |skip
 refine Lp.intro Nat (fun n=>⟨1,[(0,boxT t)],[(1,.lst (l.map encPl)),(2,.op 0 0),(10,.lst (l.map encPl)),(11,.v (.int .i64 ((l.map encPl).length:Nat))),(12,.v (.int .i64 n))]⟩) (fun n=>n<=l.length/\∀(i:Nat) x,i<n->l[i]? =some x->PlOk1 t l i x) (fun n=>l.length-n) 0 ⟨Nat.zero_le _,fun i x h=>absurd h (Nat.not_lt_zero _)⟩ ?_ ?_
 ·(exact leA)
 intro n ⟨hn,hinv⟩
 rcases Nat.lt_or_ge n l.length with hnl|hnl
 ·obtain⟨x,hx⟩:=gex hnl
  have hxl:=hsl x (List.mem_of_getElem? hx)
  have hbx:¬PlOk1 t l n x->plsB t l=false:=fun hb=>plsB_false fun hp=>hb (hp.all _ _ hx)
  have hsub:∀{K:KT},K (.sb (subB x.allow [wholeZ t x.a x.b])) []->ACall Tryz.prog 60 [encXs x.allow,.lst [encX (wholeZ t x.a x.b)]] [] K:=fun h=>cxSubs x.allow [wholeZ t x.a x.b] hxl (by simp) h
  have hE:∀{i:Int},hasE t i=true↔0<=i/\i<t.edges.length:=fun {i}=>by simp[hasE]
  have hW:hasE t x.a=true->hasE t x.b=true->wholeZ t x.a x.b=whoT t x.a x.b:=fun h1 h2=>by rw[wholeZ,if_pos ⟨hct,h1,h2⟩]
  have hemp:∀{l:List Bx},¬(((l.map encX).length:Nat):Int)=0->l≠[]:=fun h e=>h (by rw[e];rfl)
  have hprev:n=0\/∃k y,n=k+1/\l[k]? =some y:=by
   cases n with
   |zero=>exact .inl rfl
   |succ k=>exact .inr ⟨k,_,rfl,List.getElem?_eq_getElem (by omega)⟩
  rcases hprev with rfl|⟨k,y,rfl,hy⟩
  ·(repeat' ((conv=>whnf);first|(with_reducible first|refine in_map hnl ?_|refine in_nat hnl ?_|refine ix_map hx ?_|refine czEdge t _ ?_|refine cxVald x.allow hxl ?_|refine czWho t _ _ (by omega) ?_|refine hsub ?_)|refine zG ?_|apply zA|(apply zI;intro h)|exact zT));(all_goals conv=>whnf)
   all_goals first
    |(exact fin_f hK (hbx fun ho=>by first
       |exact absurd h (by rw[(hE (i:=x.a)).2 ⟨ho.a0,ho.a1⟩];decide)
       |exact absurd h (by rw[(hE (i:=x.b)).2 ⟨ho.b0,ho.b1⟩];decide)
       |exact ho.ne h
       |exact absurd h (by rw[ho.set];decide)
       |exact absurd h (by rw[hW ((hE (i:=x.a)).2 ⟨ho.a0,ho.a1⟩) ((hE (i:=x.b)).2 ⟨ho.b0,ho.b1⟩),ho.sub];decide)
       |exact ho.al (List.length_eq_zero_iff.1 (by rw[List.length_map]at h;omega))))
    |(rename_i h1 h2 h3 h4 h5
      refine⟨0+1,⟨hnl,all_succ hx ⟨(hE.1 h1).1,(hE.1 h1).2,(hE.1 h2).1,(hE.1 h2).2,h3,hemp h4,h5,fun k y h=>by omega,by rw[<-hW h1 h2];exact h⟩ hinv⟩,by omega,?_⟩
      (exact leA)
      done)
  ·have hkl:k<l.length:=by omega
   have hordk:∀{q:Prop},(¬(y.a<x.a\/(y.a=x.a/\y.b<x.b))->q)->(y.a<x.a\/(y.a=x.a/\y.b<x.b))\/q:=fun hq=>by
    rcases Decidable.em (y.a<x.a\/(y.a=x.a/\y.b<x.b))with h|h
    ·exact .inl h
    ·exact .inr (hq h)
   (repeat' ((conv=>whnf);first|(with_reducible first|refine in_map hnl ?_|refine in_nat hnl ?_|refine In.intro k (by omega) (by rw[List.length_map];exact hkl) ?_|refine ix_map hx ?_|refine ix_map hy ?_|refine czEdge t _ ?_|refine cxVald x.allow hxl ?_|refine czWho t _ _ (by omega) ?_|refine hsub ?_)|refine zG ?_|apply zA|(apply zI;intro h)|exact zT));(all_goals conv=>whnf)
   all_goals first
    |(exact fin_f hK (hbx fun ho=>by first
       |exact absurd h (by rw[(hE (i:=x.a)).2 ⟨ho.a0,ho.a1⟩];decide)
       |exact absurd h (by rw[(hE (i:=x.b)).2 ⟨ho.b0,ho.b1⟩];decide)
       |exact ho.ne h
       |exact absurd h (by rw[ho.set];decide)
       |exact absurd h (by rw[hW ((hE (i:=x.a)).2 ⟨ho.a0,ho.a1⟩) ((hE (i:=x.b)).2 ⟨ho.b0,ho.b1⟩),ho.sub];decide)
       |(have:=ho.ord k y rfl hy;omega)
       |exact ho.al (List.length_eq_zero_iff.1 (by rw[List.length_map]at h;omega))))
    |(refine⟨k+1+1,⟨hnl,all_succ hx ⟨(hE.1 (by assumption)).1,(hE.1 (by assumption)).2,(hE.1 (by assumption)).1,(hE.1 (by assumption)).2,(by assumption),hemp (by assumption),by assumption,fun k' y' h1 h2=>?_,by rw[<-hW (by assumption) (by assumption)];exact h⟩ hinv⟩,by omega,?_⟩
      ·obtain rfl:k=k':=by omega
       rw[hy]at h2;cases h2
       omega
      ·(exact leA)
       done)
 ·(repeat' ((conv=>whnf);first|refine zG ?_|apply zA|(apply zI;intro h)|exact zT));(all_goals conv=>whnf)
  exact fin_t hK (plsB_true ⟨hct,before_all hnl hinv⟩)
theorem czCosts(t:Tp)(l:List Pl)(hl:t.edges.length<1000)(hll:l.length<400000)(hsl:∀x,x∈l->x.allow.length<1000000000){K:KT}(hK:K (.lst ((costsP t l).map cI)) []):ACall Tryz.prog 22 [encT t,.lst (l.map encPl)] [] K:=by
 refine ACall.weak (ofzCosts rfl rfl ?_)
 unfold costsP at hK
 by_cases hp:plsB t l=true
 case neg=>
  rw[if_neg hp]at hK
  (repeat' ((conv=>whnf);first|(with_reducible refine czVal t l hl (by omega) hsl ?_)|refine zG ?_|apply zA|(apply zI;intro h)|exact zT));(all_goals conv=>whnf)
  all_goals first
   |exact⟨_,Weak.nils,hK⟩
   |(exfalso;simp_all;done)
 rw[if_pos hp]at hK
 have hok:=plsB_iff.1 hp
 obtain⟨hdi,hnd,hne,hnd1⟩:=comp_dev hok.comp
 have hin:∀x,x∈l->PlIn t x:=fun x hx=>by
  obtain⟨i,hi⟩:=List.mem_iff_getElem?.1 hx
  exact(hok.all i x hi).inn
 have hz:zeros t.devs.length=(zeros 12).take t.devs.length:=by rw[zeros,zeros,List.take_replicate,Nat.min_eq_left hnd]
 rw[hz,costsGo_take hdi _ _ hin]at hK
 (repeat' ((conv=>whnf);first|(with_reducible refine czVal t l hl (by omega) hsl ?_)|refine zG ?_|apply zA|(apply zI;intro h)|exact zT));(all_goals conv=>whnf)
 all_goals first
  |(exfalso;simp_all;done)
  |skip
 refine Lp.intro (Nat×List Nat) (fun g=>⟨2,[(1,.box (g.2.map cI)),(0,boxT t)],[(2,.op 0 0),(5,.op 1 0),(12,.lst (l.map encPl)),(13,.v (.int .i64 ((l.map encPl).length:Nat))),(14,.v (.int .i64 g.1))]⟩) (fun g=>g.1<=l.length/\g.2.length=12/\g.2=costsGo t (l.take g.1) (zeros 12)/\Small g.1 g.2) (fun g=>l.length-g.1) (0,zeros 12) ⟨Nat.zero_le _,rfl,rfl,small_zero 12⟩ ?_ ?_
 ·(exact leA)
 rintro⟨k,s⟩ ⟨hk,hsl12,hsg,hsm⟩
 simp only at hk hsl12 hsg hsm⊢
 obtain⟨x0,x1,x2,x3,x4,x5,x6,x7,x8,x9,x10,x11,rfl⟩:=len12 hsl12
 rcases Nat.lt_or_ge k l.length with hkl|hkl
 ·obtain⟨x,hx⟩:=gex hkl
  have hxi:=hin x (List.mem_of_getElem? hx)
  have hw1:=fun {K} h=>@czWith t x hok.comp hxi hdi hnd (by omega) k (by omega) x0 x1 x2 x3 x4 x5 x6 x7 x8 x9 x10 x11 hsm K h
  have hsm1:=costP_small (t:=t) hxi.len hsm
  have hnx:=costsGo_succ (t:=t) (s:=zeros 12) hx
  rw[<-hsg]at hnx
  (repeat' ((conv=>whnf);first|(with_reducible first|refine in_map hkl ?_|refine in_nat hkl ?_|refine ix_map hx ?_)|(refine hw1 fun y0 y1 y2 y3 y4 y5 y6 y7 y8 y9 y10 y11 hy=>?_)|refine zG ?_|apply zA|(apply zI;intro h)|exact zT));(all_goals conv=>whnf)
  all_goals
   refine⟨(k+1,[y0,y1,y2,y3,y4,y5,y6,y7,y8,y9,y10,y11]),⟨hkl,rfl,by rw[hnx,hy],by rw[hy];exact hsm1⟩,by simp only;omega,?_⟩
   simp only
   rw[Int.natCast_add,Int.natCast_one]
   (exact leA)
 ·have hke:k=l.length:=by omega
  rw[hke,List.take_length]at hsg
  rw[<-hsg]at hK
  have hlst:(([x0,x1,x2,x3,x4,x5,x6,x7,x8,x9,x10,x11]:List Nat).map cI).length=12:=rfl
  have hsl2:∀{K:List AV->Prop},K ((([x0,x1,x2,x3,x4,x5,x6,x7,x8,x9,x10,x11]:List Nat).take t.devs.length).map cI)->Sl (([x0,x1,x2,x3,x4,x5,x6,x7,x8,x9,x10,x11]:List Nat).map cI) 0 (t.devs.length-0) K:=fun {K} h=>sl_map (by simp;omega) (by rw[List.drop_zero,Nat.sub_zero];exact h)
  (repeat' ((conv=>whnf);first|(with_reducible refine Sb.intro 0 t.devs.length rfl (by rw[List.length_map]) (Nat.zero_le _) hnd ?_)|(refine hsl2 ?_)|refine zG ?_|apply zA|(apply zI;intro h)|exact zT));(all_goals conv=>whnf)
  exact⟨_,Weak.refl,hK⟩
theorem sub_0{K:KT}(hK:K (encP pfA) []):ACall Tryz.prog 32 [.v (.int .i64 0)] [] K:=cnSub 0 (by decide) hK
theorem sub_4{K:KT}(hK:K (encP pfB) []):ACall Tryz.prog 32 [.v (.int .i64 4)] [] K:=cnSub 4 (by decide) hK
theorem Weak.agg{xs ys:List AV}(h:WeakL xs ys):Weak (.agg xs) (.agg ys):=fun E w ι v hv=>by
 cases hv with
 |agg _ c hs hh=>
  have:=WeakL.rel h (show RL E w ι xs c from⟨hs,hh⟩)
  exact .agg _ c this.1 this.2
theorem WeakL.refl:∀{xs:List AV},WeakL xs xs
 |[]=>trivial
 |_::_=>⟨Weak.refl,WeakL.refl⟩
theorem cvNet(a b:Int){K:KT}(hK:K (encT (netT a b)) []):ACall Tryz.prog 17 [.v (.int .i64 a),.v (.int .i64 b)] [] K:=by
 refine ACall.weak (ofvNet rfl rfl ?_)
 (repeat' ((conv=>whnf);first|(refine sub_0 ?_)|(refine sub_4 ?_)|refine zG ?_|apply zA|(apply zI;intro h)|exact zT));(all_goals conv=>whnf)
 exact⟨encT (netT a b),Weak.agg (ys:=[_,_,_,.lst [],_]) ⟨Weak.refl,Weak.refl,Weak.refl,Weak.nils,Weak.refl,trivial⟩,hK⟩
noncomputable abbrev w10(c d p:Int):AV:=.agg [.v (.int .u32 167772160),.v (.int .u32 167772415),.v (.int .u32 2886729728),.v (.int .u32 2886795263),.v (.int .u32 c),.v (.int .u32 d),.v (.int .u32 0),.v (.int .u32 65535),.v (.int .u32 p),.v (.int .u32 p)]
theorem encX_eq{x:Bx}{a b c d e f g h i j:Int}(h1:x.r0.lo=a)(h2:x.r0.hi=b)(h3:x.r1.lo=c)(h4:x.r1.hi=d)(h5:x.r2.lo=e)(h6:x.r2.hi=f)(h7:x.r3.lo=g)(h8:x.r3.hi=h)(h9:x.r4.lo=i)(h10:x.r4.hi=j):
  encX x=.agg [.v (.int .u32 a),.v (.int .u32 b),.v (.int .u32 c),.v (.int .u32 d),.v (.int .u32 e),.v (.int .u32 f),.v (.int .u32 g),.v (.int .u32 h),.v (.int .u32 i),.v (.int .u32 j)]:=by
 subst h1 h2 h3 h4 h5 h6 h7 h8 h9 h10;rfl
theorem enc_80:encX (sanB 80)=w10 6 6 80:=encX_eq (by decide+kernel) (by decide+kernel) (by decide+kernel) (by decide+kernel) (by decide+kernel) (by decide+kernel) (by decide+kernel) (by decide+kernel) (by decide+kernel) (by decide+kernel)
theorem enc_443:encX (sanB 443)=w10 6 6 443:=encX_eq (by decide+kernel) (by decide+kernel) (by decide+kernel) (by decide+kernel) (by decide+kernel) (by decide+kernel) (by decide+kernel) (by decide+kernel) (by decide+kernel) (by decide+kernel)
theorem enc_who:encX (whoB pfA pfB)=.agg [.v (.int .u32 167772160),.v (.int .u32 167772415),.v (.int .u32 2886729728),.v (.int .u32 2886795263),.v (.int .u32 0),.v (.int .u32 255),.v (.int .u32 0),.v (.int .u32 65535),.v (.int .u32 0),.v (.int .u32 65535)]:=encX_eq (by decide+kernel) (by decide+kernel) (by decide+kernel) (by decide+kernel) (by decide+kernel) (by decide+kernel) (by decide+kernel) (by decide+kernel) (by decide+kernel) (by decide+kernel)
noncomputable abbrev sanV:AV:=.lst [w10 6 6 80,w10 6 6 443]
theorem enc_al:encXs sanP.allow=sanV:=by
 show AV.lst [encX (sanB 80),encX (sanB 443)]=_
 rw[enc_80,enc_443]
theorem pl_san(a b:Int){K:KT}(hK:K (.tup [.lst ((placeP (netT a b) sanP).1.map encPl),.v (.int .i64 (placeP (netT a b) sanP).2)]) []):ACall Tryz.prog 21 [encT (netT a b),.agg [sanV,.lst []]] [] K:=by
 rw[<-enc_al]
 exact czPlace (netT a b) sanP (by simp[netT]) (by decide) (by decide) (fun x h=>by simp[sanP]at h) hK
noncomputable abbrev sanQ(eg:Bool):AV:=.agg [.v (.int .i64 0),.v (.int .i64 1),.sb eg,sanV]
theorem enc_sanL(eg:Bool):encPl (sanL eg)=sanQ eg:=by
 show AV.agg [.v (.int .i64 0),.v (.int .i64 1),.sb eg,encXs sanP.allow]=_
 rw[enc_al]
theorem pl_1{K:KT}(hK:K (.tup [.lst [sanQ true],.v (.int .i64 0)]) []):ACall Tryz.prog 21 [encT (netT 1 9),.agg [sanV,.lst []]] [] K:=pl_san 1 9 (by rw[san_1,List.map_cons,List.map_nil,enc_sanL];exact hK)
theorem pl_2{K:KT}(hK:K (.tup [.lst [sanQ false],.v (.int .i64 0)]) []):ACall Tryz.prog 21 [encT (netT 9 9),.agg [sanV,.lst []]] [] K:=pl_san 9 9 (by rw[san_2,List.map_cons,List.map_nil,enc_sanL];exact hK)
theorem pl_3{K:KT}(hK:K (.tup [.lst [],.v (.int .i64 9)]) []):ACall Tryz.prog 21 [encT (netT 0 9),.agg [sanV,.lst []]] [] K:=pl_san 0 9 (by rw[san_3];exact hK)
theorem pl_4{K:KT}(hK:K (.lst [.v (.int .i64 1),.v (.int .i64 2)]) []):ACall Tryz.prog 22 [encT (netT 1 9),.lst [sanQ true]] [] K:=by
 rw[<-enc_sanL,show [encPl (sanL true)]=[sanL true].map encPl from rfl]
 exact czCosts (netT 1 9) [sanL true] (by decide) (by decide) (fun x h=>by simp at h;subst h;simp[sanL]) (by rw[san_costs];exact hK)
theorem wh_1{K:KT}(hK:K (.agg [.v (.int .u32 167772160),.v (.int .u32 167772415),.v (.int .u32 2886729728),.v (.int .u32 2886795263),.v (.int .u32 0),.v (.int .u32 255),.v (.int .u32 0),.v (.int .u32 65535),.v (.int .u32 0),.v (.int .u32 65535)]) []):ACall Tryz.prog 27 [encT (netT 1 1),.v (.int .i64 0),.v (.int .i64 1)] [] K:=czWho _ _ _ (by decide) (by rw[san_who,enc_who];exact hK)
theorem cvSane{K:KT}(hK:K (.sb true) []):ACall Tryz.prog 16 [] [] K:=by
 refine ACall.bool (ofvSane rfl rfl ?_)
 (repeat' ((conv=>whnf);first|(with_reducible refine cvNet _ _ ?_)|(refine wh_1 ?_)|(refine in_c (by decide) ?_)|(refine Ix.intro rfl ?_)|(refine pl_1 ?_)|(refine pl_2 ?_)|(refine pl_3 ?_)|(refine pl_4 ?_)|refine zG ?_|apply zA|(apply zI;intro h)|exact zT));(all_goals conv=>whnf)
 all_goals first
  |exact fin_s hK rfl
  |trace_state
theorem nodup_len{l:List Nat}{m:Nat}(h:l.Nodup)(hb:∀x,x∈l->x<m):l.length<=m:=by
 have:=nodup_sub (l:=l.map fun n:Nat=>(n:Int)) (m:=(List.range m).map fun n:Nat=>(n:Int)) (by
  unfold List.Nodup at*
  rw[List.pairwise_map]
  exact h.imp fun hab e=>hab (by omega)) (fun x hx=>by
  obtain⟨n,hn,rfl⟩:=List.mem_map.1 hx
  exact List.mem_map.2 ⟨n,List.mem_range.2 (hb n hn),rfl⟩)
 simpa using this
noncomputable abbrev walkO(l:List Df)(a b nd ni:Nat):Vm.Obj:=.box [.lst (l.map encDf),.os a 1 0 nd,.os b 7 0 ni]
def Lf(l:List Df)(y:It):Prop:=y.kind≠3/\∃d,d∈l/\y∈d.items
structure FolR (l:List Df) (a b:Nat) (B:Nat) (done:List Nat) (its:List It):Prop where
 d:done.length<=a+B
 i:its.length<=b+B
 lf:∀y,y∈its->Lf l y
noncomputable abbrev pthV(path:List Nat)(n:Nat):AV:=.lst ([]++path.map vN++[.v (.int .i64 (n:Int))])
theorem chFol(t:Tp)(ht:t.edges.length<=5)(l:List Df)(hl:l.length<=100)(hi:∀d,d∈l->d.items.length<=2):∀(k:Nat) (path:List Nat) (n:Nat) (done:List Nat) (its:List It),l.length<=path.length+k->path.Nodup->(∀x,x∈path->x<l.length)->n<l.length->
  done.length+4^k<=100000->its.length+4^k<=100000->(∀y,y∈its->Lf l y)->∀{K:KT},
  (∀(e:Int) (done':List Nat) (its':List It),FolR l done.length its.length (4^k) done' its'->K (.v (.int .i64 e)) [walkO l 3 4 done'.length its'.length,.box [],.box [],.arr 1 (done'.map vN),.arr 7 (its'.map encIt)])->
  ACall Tryz.prog 205 [.op 0 0,encT t,.v (.int .i64 n),.lst (path.map vN)] [walkO l 1 2 done.length its.length,.arr 1 (done.map vN),.arr 7 (its.map encIt)] K:=by
 intro k
 induction k with
 |zero=>
  intro path n done its hk hnd hb hn hd hit hlf K hK
  have hm:n∈path:=Classical.byContradiction fun h=>by
   have:=nodup_len (l:=n::path) (m:=l.length) (List.nodup_cons.2 ⟨h,hnd⟩) (fun x hx=>by
    rcases List.mem_cons.1 hx with rfl|hx
    ·exact hn
    ·exact hb x hx)
   simp only[List.length_cons]at this
   omega
  have hpl:=nodup_len hnd hb
  refine ofh17Fol rfl rfl ?_
  (repeat' ((conv=>whnf);first|(with_reducible refine chHas path n (by omega) ?_)|refine zG ?_|apply zA|(apply zI;intro h)|exact zT));(all_goals conv=>whnf)
  all_goals first
   |exact hK _ done its ⟨by omega,by omega,hlf⟩
   |(exfalso;simp_all;done)
 |succ k ih=>
  intro path n done its hk hnd hb hn hd hit hlf K hK
  have hpl:=nodup_len hnd hb
  have hp4:4^(k+1)=4*4^k:=by rw[Nat.pow_succ];omega
  have hp1:1<=4^k:=Nat.one_le_pow _ _ (by decide)
  obtain⟨x,hx⟩:=gex hn
  have hx2:=hi x (List.mem_of_getElem? hx)
  by_cases hm:n∈path
  ·refine ofh17Fol rfl rfl ?_
   (repeat' ((conv=>whnf);first|(with_reducible refine chHas path n (by omega) ?_)|refine zG ?_|apply zA|(apply zI;intro h)|exact zT));(all_goals conv=>whnf)
   all_goals first
    |exact hK _ done its ⟨by omega,by omega,hlf⟩
    |(exfalso;simp_all;done)
  have hrec:∀(r:Int),0<=r->r<l.length->∀(d':List Nat) (i':List It),d'.length+4^k<=100000->i'.length+4^k<=100000->(∀y,y∈i'->Lf l y)->∀{K:KT},
   (∀(e:Int) (done':List Nat) (its':List It),FolR l d'.length i'.length (4^k) done' its'->K (.v (.int .i64 e)) [walkO l 3 4 done'.length its'.length,.box [],.box [],.arr 1 (done'.map vN),.arr 7 (its'.map encIt)])->
   ACall Tryz.prog 205 [.op 0 0,encT t,.v (.int .i64 r),pthV path n] [walkO l 1 2 d'.length i'.length,.arr 1 (d'.map vN),.arr 7 (i'.map encIt)] K:=fun r r0 r1 d' i' b1 b2 b3 K h=>by
   obtain⟨m,rfl⟩:=Int.eq_ofNat_of_zero_le r0
   have e:pthV path n=.lst ((path++[n]).map vN):=by simp[pthV]
   rw[e]
   refine ih (path++[n]) m d' i' (by simp only[List.length_append,List.length_cons,List.length_nil];omega) ?_ ?_ (by omega) b1 b2 b3 h
   ·rw[List.nodup_append]
    exact⟨hnd,by simp,fun a ha b hb=>by rw[List.mem_singleton.1 hb];exact fun e=>hm (e▸ha)⟩
   ·intro y hy
    rcases List.mem_append.1 hy with hy|hy
    ·exact hb y hy
    ·rw[List.mem_singleton.1 hy];exact hn
  clear ih
  refine ofh17Fol rfl rfl ?_
  (repeat' ((conv=>whnf);first|(with_reducible first|refine chHas path n (by omega) ?_|refine chHas done n (by omega) ?_|refine sl_full (by simp only[List.length_map,List.length_append,List.length_cons,List.length_nil]) ?_)|refine zG ?_|apply zA|(apply zI;intro h)|exact zT));(all_goals conv=>whnf)
  all_goals first
   |exact hK _ done its ⟨by omega,by omega,hlf⟩
   |skip
  refine Lp.intro (Nat×List Nat×List It) (fun g=>⟨6,[(0,walkO l 3 4 g.2.1.length g.2.2.length),(3,.arr 1 (g.2.1.map vN)),(4,.arr 7 (g.2.2.map encIt)),(5,boxT t)],[(0,.op 0 0),(2,.v (.int .i64 n)),(3,pthV path n),(5,.op 5 0),(9,.v (.int .i64 g.1))]⟩)
   (fun g=>g.1<=x.items.length/\g.2.1.length<=done.length+g.1*4^k/\g.2.2.length<=its.length+g.1*4^k/\∀y,y∈g.2.2->Lf l y) (fun g=>x.items.length-g.1) (0,done,its) ⟨Nat.zero_le _,by simp only;omega,by simp only;omega,hlf⟩ ?_ ?_
  ·(exact leA)
  rintro⟨i,dn,im⟩ ⟨h1,h2,h3,h4⟩
  simp only at h1 h2 h3 h4⊢
  have hik:i*4^k<=2*4^k:=Nat.mul_le_mul_right _ (by omega)
  have his:(i+1)*4^k=i*4^k+4^k:=Nat.succ_mul ..
  rcases Nat.lt_or_ge i x.items.length with hil|hil
  ·have hik1:i*4^k<=1*4^k:=Nat.mul_le_mul_right _ (by omega)
   obtain⟨y,hy⟩:=gex hil
   have hyl:∀y',y'∈im++[y]->y.kind≠3->Lf l y':=fun y' h h3=>by
    rcases List.mem_append.1 h with h|h
    ·exact h4 y' h
    ·rw[List.mem_singleton.1 h];exact⟨h3,x,List.mem_of_getElem? hx,List.mem_of_getElem? hy⟩
   (repeat' ((conv=>whnf);first|(with_reducible first|refine in_map hn ?_|refine ix_map hx ?_|refine in_map hil ?_|refine ix_map hy ?_|refine cjFind l _ (by omega) fun r r0 r1=>?_|refine hrec _ (by omega) (by assumption) dn im (by omega) (by omega) h4 fun e dn2 im2 hf=>?_)|refine zG ?_|apply zA|(apply zI;intro h)|exact zT));(all_goals conv=>whnf)
   ·exact hK _ dn im ⟨by omega,by omega,h4⟩
   ·refine⟨(i+1,dn2,im2),⟨hil,by have:=hf.d;simp only;omega,by have:=hf.i;simp only;omega,hf.lf⟩,by simp only;omega,?_⟩
    simp only[Int.natCast_add,Int.natCast_one]
    (exact leA)
   ·exact hK _ dn2 im2 ⟨by have:=hf.d;omega,by have:=hf.i;omega,hf.lf⟩
   ·refine Jn.at ⟨7,[(6,.box [.v (.int .i64 y.kind),.v (.string y.name),.v (.int .u32 y.pf.addr),.v (.int .i64 y.pf.bits),.v (.int .i64 y.proto),.v (.int .u32 y.ports.lo),.v (.int .u32 y.ports.hi)]),(0,walkO l 3 4 dn.length im.length),(3,.arr 1 (dn.map vN)),(4,.arr 7 (im.map encIt)),(5,boxT t)],[(0,.op 0 0),(2,.v (.int .i64 n)),(3,pthV path n),(5,.op 5 0),(9,.v (.int .i64 i)),(10,.op 6 0)]⟩ ?_ ?_
    ·(repeat' ((conv=>whnf);first|(with_reducible refine chZone t _ ht fun z hz hzb=>?_)|refine zG ?_|apply zA|(apply zI;intro h)|exact zT));(all_goals conv=>whnf)
     all_goals first
      |exact hK _ dn im ⟨by omega,by omega,h4⟩
      |(refine⟨(),trivial,?_⟩
        (exact leA)
        done)
    ·(repeat' ((conv=>whnf);first|refine zG ?_|apply zA|(apply zI;intro h)|exact zT));(all_goals conv=>whnf)
     refine⟨(i+1,dn,im++[y]),⟨hil,by simp only;omega,by simp only[List.length_append,List.length_cons,List.length_nil];omega,fun y' h=>hyl y' h (by assumption)⟩,by simp only;omega,?_⟩
     simp only[List.map_append,List.length_append,List.map_cons,List.map_nil,List.length_cons,List.length_nil,Int.natCast_add,Int.natCast_one]
     (exact leA)
  ·(repeat' ((conv=>whnf);first|(with_reducible first|refine in_map hn ?_|refine ix_map hx ?_)|refine zG ?_|apply zA|(apply zI;intro h)|exact zT));(all_goals conv=>whnf)
   have hnew:FolR l done.length its.length (4^(k+1)) (dn++[n]) im:=⟨by simp only[List.length_append,List.length_cons,List.length_nil];omega,by omega,h4⟩
   have:=hK 0 (dn++[n]) im hnew
   simp only[List.map_append,List.length_append,List.map_cons,List.map_nil,List.length_cons,List.length_nil]at this
   exact this
end Go.Proofs.YtokmdghjgegclaaGreatDoor
