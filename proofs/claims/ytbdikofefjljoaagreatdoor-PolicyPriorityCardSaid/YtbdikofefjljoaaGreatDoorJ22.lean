/- The program's policies: Pair, Valid. -/
import Derived.Test.YtbdikofefjljoaaGreatDoorProg
import Derived.Test.YtbdikofefjljoaaGreatDoorJ21
set_option linter.unusedVariables false
set_option linter.unusedSimpArgs false
set_option maxRecDepth 100000
set_option maxHeartbeats 4000000
namespace Go.Proofs.YtbdikofefjljoaaGreatDoor
open Go Go.Vm
theorem cyVal(t:Tp)(p:Pol)(hl:t.edges.length<1000)(hal:p.allow.length<1000000000)(hil:p.insp.length<1000000000)(hsl:∀x,x∈p.insp->x.set.length<1000000000){K:KT}(hK:K (.sb (polB t p)) []):AC 23 [encT t,encPol p] [] K:=by
 have hpl:=pairsTo_len t.edges t.edges.length
 have hpl2:t.edges.length*t.edges.length<=1000*1000:=dR zo zo
 have hinit:initS.length<1000000000:=by decide
 have hsub1:∀{K:KT},K (.sb (subB p.allow (pairsB t.edges))) []->AC 73 [encXs p.allow,encXs (pairsB t.edges)] [] K:=fun h=>cxSubs _ _ hal (by rw[pairsB];omega) h
 have hsub2:∀{K:KT},K (.sb (subB p.allow initS)) []->AC 73 [encXs p.allow,encXs initS] [] K:=fun h=>cxSubs _ _ hal hinit h
 refine gO (ofyVal rfl rfl ?_)
 (repeat' ((conv=>whnf);first|(with_reducible first|refine ctComp t zo ?_|refine cxVald p.allow hal ?_|refine cyPairs t zo ?_|refine hsub1 ?_|refine cxInit ?_|refine hsub2 ?_)|refine zG ?_|apply zA|intro h|exact zT));all_goals conv=>whnf
 all_goals first
  |exact fin_f hK (polB_false fun hp=>by have h1:=hp.comp;have h2:=hp.set;have h3:=hp.sub;have h4:=hp.init;simp_all)
  |skip
 have hc4:=h
 rename_i hc1 hc2 hc3
 have hbad:∀{n:Nat} {x:Insp},p.insp[n]? =some x->¬InOk p n x->polB t p=false:=fun hx hb=>polB_false fun hp=>hb (hp.insp _ _ hx)
 clear hsub1 hsub2
 refine gL Nat (fun n=>⟨1,[(0,boxPol p)],[(3,.op 0 0),(36,.lst (p.insp.map encIn)),(37,.v (.int .i64 ((p.insp.map encIn).length:Nat))),(38,.v (.int .i64 n))]⟩) (fun n=>n<=p.insp.length/\∀(i:Nat) x,i<n->p.insp[i]? =some x->InOk p i x) (fun n=>p.insp.length-n) 0 ⟨aL _,fun i x h=>absurd h (aY _)⟩ ?_ ?_
 ·(exact leA)
 intro n ⟨hn,hinv⟩
 rcases aD n p.insp.length with hnl|hnl
 ·obtain⟨x,hx⟩:=gex hnl
  have hxl:=hsl x (aG hx)
  have hsubx:∀{K:KT},K (.sb (subB x.set p.allow)) []->AC 73 [encXs x.set,encXs p.allow] [] K:=fun h=>cxSubs _ _ hxl hal h
  have hprev:n=0\/∃k y,n=k+1/\p.insp[k]? =some y:=by
   cases n with
   |zero=>exact .inl rfl
   |succ k=>exact .inr ⟨k,_,rfl,aB zo⟩
  have hbx:=fun h=>hbad hx h
  have hslice:∀{K:List AV->Prop},K ((p.insp.take n).map encIn)->Sl (p.insp.map encIn) 0 (n-0) K:=fun {K} h=>sl_map zo (by rw[cA,dZ];exact h)
  (repeat' ((conv=>whnf);first|(with_reducible first|refine hJ hnl ?_|refine hU hnl ?_|refine gZ hx ?_)|refine zG ?_|apply zA|intro h|exact zT));all_goals conv=>whnf
  refine gU Unit (fun _=>⟨2,[(1,.box [.v (.string x.cls),encXs x.set]),(0,boxPol p)],[(3,.op 0 0),(6,.op 1 0),(36,.lst (p.insp.map encIn)),(37,.v (.int .i64 ((p.insp.map encIn).length:Nat))),(38,.v (.int .i64 n)),(5,.v (.int .i64 n))]⟩)
   (fun _=>nameOk x.cls/\(∀k y,n=k+1->p.insp[k]? =some y->leS x.cls y.cls=false)/\x.set≠[]/\setB x.set=true/\subB x.set p.allow=true) ?_ ?_
  ·have hemp:∀{l:List Bx},¬(((l.map encX).length:Nat):Int)=0->l≠[]:=fun h e=>h (by rw[e];rfl)
   rcases hprev with rfl|⟨k,y,rfl,hy⟩
   ·(repeat' ((conv=>whnf);first|(with_reducible first|refine hJ hnl ?_|refine hU hnl ?_|refine gZ hx ?_|refine csName _ ?_|refine cxVald x.set hxl ?_|refine hsubx ?_)|refine zG ?_|apply zA|intro h|exact zT));all_goals conv=>whnf
    all_goals first
     |(exact fin_f hK (hbx fun ho=>by first
        |exact absurd h (by rw[nameB_true ho.name];decide)
        |exact absurd h (by rw[ho.set];decide)
        |exact absurd h (by rw[ho.sub];decide)
        |exact ho.ne (cE.1 (by rw[aA]at h;omega))))
     |(refine⟨(),⟨nameB_iff.1 zp,fun k y h=>by omega,hemp zp,by assumption,by assumption⟩,?_⟩
       (exact leA)
       done)
   ·have hkl:k<p.insp.length:=by omega
    have hordk:(Op.bytesLess x.cls.toList y.cls.toList||x.cls.toList==y.cls.toList)=false->∀k' y',k+1=k'+1->p.insp[k']? =some y'->leS x.cls y'.cls=false:=fun h k' y' h1 h2=>by
     obtain rfl:k=k':=by omega
     rw[hy]at h2;cases h2;exact h
    (repeat' ((conv=>whnf);first|(with_reducible first|refine hJ hnl ?_|refine hU hnl ?_|refine gS k zo (by rw[aA];exact hkl) ?_|refine gZ hx ?_|refine gZ hy ?_|refine csName _ ?_|refine cxVald x.set hxl ?_|refine hsubx ?_)|refine zG ?_|apply zA|intro h|exact zT));all_goals conv=>whnf
    all_goals first
     |(exact fin_f hK (hbx fun ho=>by first
        |exact absurd h (by rw[nameB_true ho.name];decide)
        |exact absurd h (by rw[ho.set];decide)
        |exact absurd h (by rw[ho.sub];decide)
        |exact ho.ne (cE.1 (by rw[aA]at h;omega))
        |exact absurd (show leS x.cls y.cls=true from h) (by rw[ho.ord k y rfl hy];decide)))
     |(refine⟨(),⟨nameB_iff.1 zp,hordk zp,hemp zp,by assumption,by assumption⟩,?_⟩
       (exact leA)
       done)
  ·rintro⟨⟩ ⟨f1,f2,f3,f4,f5⟩
   (repeat' ((conv=>whnf);first|(with_reducible first|refine gV 0 n rfl rfl zo (by rw[aA];omega) ?_|refine hslice ?_)|refine zG ?_|apply zA|intro h|exact zT));all_goals conv=>whnf
   have htl:(p.insp.take n).length=n:=by rw[bG];omega
   refine gL Nat (fun k=>⟨2,[(1,.box [.v (.string x.cls),encXs x.set]),(0,boxPol p)],[(3,.op 0 0),(6,.op 1 0),(36,.lst (p.insp.map encIn)),(37,.v (.int .i64 ((p.insp.map encIn).length:Nat))),(38,.v (.int .i64 n)),(86,.lst ((p.insp.take n).map encIn)),(87,.v (.int .i64 (((p.insp.take n).map encIn).length:Nat))),(88,.v (.int .i64 k))]⟩) (fun k=>k<=n/\∀(i:Nat) y,i<k->p.insp[i]? =some y->disjS x.set y.set) (fun k=>n-k) 0 ⟨aL _,fun i y h=>absurd h (aY _)⟩ ?_ ?_
   ·(exact leA)
   intro k ⟨hk,hdis⟩
   rcases aD k n with hkn|hkn
   ·obtain⟨y,hy⟩:∃y,p.insp[k]? =some y:=⟨_,aB zo⟩
    have hyt:(p.insp.take n)[k]? =some y:=by rw[cV,aH hkn];exact hy
    have hkt:k<(p.insp.take n).length:=by omega
    have hyl:=hsl y (aG hy)
    have hys:=(hinv k y hkn hy).set
    have hdi:=disj_iff f4 hys
    have hle:=lim_empty (cano anB 5 x.set y.set)
    have hint:∀{K:KT},K (.tup [encXs (limP (cano anB 5 x.set y.set)),.v (.int .i64 (limE (cano anB 5 x.set y.set)))]) []->AC 76 [encXs x.set,encXs y.set] [] K:=fun h=>cxInt x.set y.set hxl hyl (by rw[combP_set f4 hys];exact h)
    generalize cano anB 5 x.set y.set=c at*
    (repeat' ((conv=>whnf);first|(with_reducible first|refine hJ hkt ?_|refine hU hkt ?_|refine gZ hyt ?_|refine hint ?_)|refine zG ?_|apply zA|intro h|exact zT));all_goals conv=>whnf
    all_goals first
     |(refine⟨k+1,⟨hkn,iC hy (hdi.1 (Decidable.byContradiction fun hc=>?_)) hdis⟩,by omega,?_⟩
       ·rcases hle.2 hc with h1|h1
        ·exact h1 zp
        ·simp only[aA]at*
         omega
       ·rw[aO,aN]
        (exact leA))
     |(refine fin_f hK (hbx fun ho=>?_)
       have hc:=hdi.2 (ho.disj k y hkn hy)
       refine absurd hc (hle.1 ?_)
       first
        |(right;rw[aA]at h;omega)
        |(left;assumption))
   ·have hke:k=n:=by omega
    subst hke
    (repeat' ((conv=>whnf);first|refine zG ?_|apply zA|intro h|exact zT));all_goals conv=>whnf
    refine⟨k+1,⟨hnl,iC hx ⟨f1,f2,f3,f4,f5,fun j y hj hy=>hdis j y hj hy⟩ hinv⟩,by omega,?_⟩
    rw[aO,aN]
    (exact leA)
 ·(repeat' ((conv=>whnf);first|refine zG ?_|apply zA|intro h|exact zT));all_goals conv=>whnf
  exact fin_t hK (polB_true ⟨hc1,hc2,hc3,hc4,iB hnl hinv⟩)
theorem Weak.agg{xs ys:List AV}(h:WeakL xs ys):Weak (.agg xs) (.agg ys):=fun E w ι v hv=>by
 cases hv with
 |agg _ c hs hh=>
  have:=WeakL.rel h (show RL E w ι xs c from⟨hs,hh⟩)
  exact .agg _ c this.1 this.2
theorem WeakL.refl:∀{xs:List AV},WeakL xs xs
 |[]=>trivial
 |_::_=>⟨Weak.refl,WeakL.refl⟩
noncomputable abbrev walkO(l:List Df)(a b nd ni:Nat):Vm.Obj:=.box [.lst (l.map encDf),.os a 1 0 nd,.os b 7 0 ni]
noncomputable abbrev pthV(path:List Nat)(n:Nat):AV:=.lst ([]++path.map vN++[.v (.int .i64 (n:Int))])
end Go.Proofs.YtbdikofefjljoaaGreatDoor
