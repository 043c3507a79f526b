/- Policies step by step, in plain Lean: what is joined out of parts of the rest is a valid policy. -/
import Derived.Test.YtbdikofefjljoaaGreatDoorProg
import Derived.Test.YtbdikofefjljoaaGreatDoorM12
set_option linter.unusedVariables false
set_option linter.unusedSimpArgs false
set_option maxRecDepth 100000
set_option maxHeartbeats 4000000
namespace Go.Proofs.YtbdikofefjljoaaGreatDoor
open Go Go.Vm
theorem cano_ext2(op op':Bool->Bool->Bool):∀(k:Nat) (a b a' b':List Bx),k<=5->(∀p,InP p->op (memK p k a) (memK p k b)=op' (memK p k a') (memK p k b'))->cano op k a b=cano op' k a' b'
 |0,a,b,a',b',_,h=>by
  have h1:=h _ inP_zero
  rw[memK_zero,memK_zero,memK_zero,memK_zero]at h1
  rw[cano,cano,h1]
 |k+1,a,b,a',b',hk,h=>by
  have g:=cano_ginv op k a b (starts_cuts _ (topF_pos (4-k)).1)
  have g':=cano_ginv op' k a' b' (starts_cuts _ (topF_pos (4-k)).1)
  have part:∀v,0<=v->v<topF (4-k)+1->∀p,InP p->op (memK p k (atF (4-k) v a)) (memK p k (atF (4-k) v b))=op' (memK p k (atF (4-k) v a')) (memK p k (atF (4-k) v b')):=by
   intro v v0 v1 p hp
   have hq:InP (fun f=>if f=4-k then v else p f):=fun f=>by
    by_cases e:f=4-k
    ·simp only[e,if_true];omega
    ·simp only[e,if_false];exact hp f
   have h:=h _ hq
   rw[memK_succ,memK_succ,memK_succ,memK_succ,aG rfl]at h
   have e:∀c:List Bx,memK p k (atF (4-k) v c)=memK (fun f=>if f=4-k then v else p f) k (atF (4-k) v c):=fun c=>memK_congr zo fun f hf h5=>by rw[aE zo]
   rw[e,e,e,e,h]
  have hR:∀v,0<=v->v<topF (4-k)+1->restAt op k a b v=restAt op' k a' b' v:=fun v v0 v1=>
   cano_ext2 op op' k _ _ _ _ zo (part v v0 v1)
  rw[cano_succ,cano_succ,(g.congr hR).same g']
theorem memK_nil{p:Nat->Int}{k:Nat}:memK p k []=false:=rfl
theorem cano_same(op:Bool->Bool->Bool)(a b:List Bx):cano orB 5 (cano op 5 a b) []=cano op 5 a b:=
 cano_ext2 orB op 5 _ _ _ _ (aM _) fun p hp=>by rw[cano_mem op hp 5 a b (aM _),memK_nil,orB,Bool.or_false]
theorem okL_bx{l:List Bx}(h:okL l):∀x,x∈l->x.ok:=fun x hx=>⟨h x hx 0 zo,h x hx 1 zo,h x hx 2 zo,h x hx 3 zo,h x hx 4 zo⟩
theorem vld_all{l:List Bx}(h:okL l):vldB l=l:=dV.2 fun x hx=>by simpa using okL_bx h x hx
theorem setB_cano{op:Bool->Bool->Bool}{a b:List Bx}(h:(cano op 5 a b).length<=4096):setB (cano op 5 a b)=true:=by
 have ho:=okL_cano op a b
 unfold setB
 rw[vld_all ho]
 simp only[aI,aK,true_and]
 refine⟨h,(canB_iff 5 _ (aM _) (fun x hx f hf _=>ho x hx f hf) zo).2 ?_⟩
 rw[cano_same]
 exact((dY fun x _=>zeroTo_five x).trans (List.map_id _)).symm
theorem setB_nil:setB []=true:=by decide+kernel
theorem setB_lim(op:Bool->Bool->Bool)(a b:List Bx):setB (limP (cano op 5 a b))=true:=by
 unfold limP;split
 ·exact setB_nil
 ·exact setB_cano zo
theorem setB_makeGo:∀(l s:List Bx),setB s=true->setB (makeGo s l).1=true
 |[],s,h=>h
 |b::l,s,h=>by
  rw[makeGo]
  split
  ·split
   ·exact setB_nil
   ·exact setB_makeGo l _ (setB_cano (by unfold addO at*;omega))
  ·exact setB_makeGo l s h
theorem setB_makeP(l:List Bx):setB (makeP l).1=true:=setB_makeGo l [] setB_nil
theorem setB_combP(op:Bool->Bool->Bool)(a b:List Bx):setB (combP op a b).1=true:=by
 unfold combP;split
 ·exact setB_nil
 ·split
  ·exact setB_nil
  ·exact setB_lim ..
theorem combP_mem{op:Bool->Bool->Bool}{a b:List Bx}(ha:setB a=true)(hb:setB b=true)(he:(combP op a b).2=0){p:Nat->Int}(hp:InP p):memK p 5 (combP op a b).1=op (memK p 5 a) (memK p 5 b):=by
 rw[combP_set ha hb]at he⊢
 simp only at he⊢
 have:(cano op 5 a b).length<=4096:=by
  have:=mt limE_ne.2 (fun h=>h he);omega
 rw[limP,aE zo,cano_mem op hp 5 a b (aM _)]
theorem combP_sub{op:Bool->Bool->Bool}{a b:List Bx}(ha:setB a=true)(hb:setB b=true){p:Nat->Int}(hp:InP p)(h:memK p 5 (combP op a b).1=true):op (memK p 5 a) (memK p 5 b)=true:=by
 rw[combP_set ha hb]at h
 simp only[limP]at h
 split at h
 ·rw[memK_nil]at h;cases h
 ·rwa[cano_mem op hp 5 a b (aM _)]at h
theorem vldB_cons(b:Bx)(l:List Bx):vldB (b::l)=if b.ok then b::vldB l else vldB l:=by
 unfold vldB
 by_cases h:b.ok
 ·rw[List.filter_cons_of_pos (by simpa using h),aG h]
 ·rw[List.filter_cons_of_neg (by simpa using h),aE h]
theorem makeGo_mem{p:Nat->Int}(hp:InP p):∀(l s:List Bx),memK p 5 (makeGo s l).1=true->memK p 5 s=true\/memK p 5 (vldB l)=true
 |[],s,h=>.inl h
 |b::l,s,h=>by
  rw[makeGo]at h
  rw[vldB_cons]
  have hb:memK p 5 (b::vldB l)=(inK p 5 b||memK p 5 (vldB l)):=rfl
  split at h
  ·rename_i ho
   rw[aG ho]
   split at h
   ·rw[memK_nil]at h;cases h
   ·rcases makeGo_mem hp l _ h with h1|h1
    ·rw[addO,cano_mem orB hp 5 _ _ (aM _)]at h1
     have e:memK p 5 [b]=inK p 5 b:=by simp[memK]
     rw[e]at h1
     simp only[orB,bV]at h1
     rcases h1 with h1|h1
     ·exact .inl h1
     ·exact .inr (by rw[hb,h1];rfl)
    ·exact .inr (by rw[hb,h1,Bool.or_true])
  ·rename_i ho
   rw[aE ho]
   exact makeGo_mem hp l _ h
theorem makeP_mem{p:Nat->Int}(hp:InP p){l:List Bx}(h:memK p 5 (makeP l).1=true):memK p 5 (vldB l)=true:=by
 rcases makeGo_mem hp l [] h with h1|h1
 ·rw[memK_nil]at h1;cases h1
 ·exact h1
theorem subB_of{a b:List Bx}(ha:okL a)(h:∀p,InP p->memK p 5 a=true->memK p 5 (vldB b)=true):subB a b=true:=by
 unfold subB
 rw[vld_all ha,(cano_sub a (vldB b)).2 h];rfl
/-! texts in their order -/
def ltS(s t:ByteArray):Bool:=Op.bytesLess s.toList t.toList
theorem bl_asymm:∀(a b:List UInt8),Op.bytesLess a b=true->Op.bytesLess b a=false/\(b==a)=false
 |_,[],h=>by simp[Op.bytesLess]at h
 |[],b::y,_=>by simp[Op.bytesLess]
 |a::x,b::y,h=>by
  simp only[Op.bytesLess,bV,aI,aK,beq_iff_eq]at h
  rcases h with h|⟨rfl,h⟩
  ·have h2:¬b<a:=fun h'=>absurd (UInt8.lt_trans h h') (UInt8.lt_irrefl _)
   have h3:b≠a:=fun e=>by subst e;exact UInt8.lt_irrefl _ h
   simp[Op.bytesLess,h2,h3]
  ·obtain⟨h1,h2⟩:=bl_asymm x y h
   simp only[beq_eq_false_iff_ne,ne_eq]at h2
   simp[Op.bytesLess,h1,h2,UInt8.lt_irrefl]
theorem bl_trans:∀(a b c:List UInt8),Op.bytesLess a b=true->Op.bytesLess b c=true->Op.bytesLess a c=true
 |_,_,[],_,h=>by simp[Op.bytesLess]at h
 |[],_,_::_,_,_=>by simp[Op.bytesLess]
 |_::_,[],_,h,_=>by simp[Op.bytesLess]at h
 |a::x,b::y,c::z,h,h'=>by
  simp only[Op.bytesLess,bV,aI,aK,beq_iff_eq]at h h'⊢
  rcases h with h|⟨rfl,h⟩<;>rcases h' with h'|⟨rfl,h'⟩
  ·exact .inl (UInt8.lt_trans h h')
  ·exact .inl h
  ·exact .inl h'
  ·exact .inr ⟨rfl,bl_trans x y z h h'⟩
theorem bl_total:∀(a b:List UInt8),Op.bytesLess a b=false->(a==b)=false->Op.bytesLess b a=true
 |[],[],_,h=>by simp at h
 |[],_::_,h,_=>by simp[Op.bytesLess]at h
 |_::_,[],_,_=>by simp[Op.bytesLess]
 |a::x,b::y,h,h'=>by
  simp only[Op.bytesLess,fZ,Bool.and_eq_false_iff,decide_eq_false_iff_not,beq_eq_false_iff_ne,ne_eq]at h
  simp only[Op.bytesLess,bV,aI,aK,beq_iff_eq]
  obtain⟨h1,h2⟩:=h
  by_cases e:a=b
  ·subst e
   refine .inr ⟨rfl,bl_total x y ?_ ?_⟩
   ·rcases h2 with h2|h2
    ·exact absurd rfl h2
    ·simpa using h2
   ·simpa using h'
  ·refine .inl ?_
   have h1':¬a.toNat<b.toNat:=fun h=>h1 (UInt8.lt_iff_toNat_lt.2 h)
   have:a.toNat≠b.toNat:=fun h=>e (UInt8.toNat_inj.1 h)
   exact UInt8.lt_iff_toNat_lt.2 zo
/-! the policy of an intent, step by step -/
def realM(t:Tp)(q:Nat->Int):Prop:=memK q 5 (vldB (pairsB t.edges))=true/\memK q 5 initS=true
structure AtInv (t:Tp) (rest:List Bx) (p:Pol):Prop where
 rs:setB rest=true
 al:setB p.allow=true
 rr:∀q,InP q->memK q 5 rest=true->realM t q
 ar:∀q,InP q->memK q 5 p.allow=true->realM t q
 dj:∀q,InP q->memK q 5 rest=true->memK q 5 p.allow=false
 nm:∀x,x∈p.insp->nameOk x.cls
 ne:∀x,x∈p.insp->x.set≠[]
 st:∀x,x∈p.insp->setB x.set=true
 sb:∀x,x∈p.insp->∀q,InP q->memK q 5 x.set=true->memK q 5 p.allow=true
 ds:p.insp.Pairwise fun x y=>∀q,InP q->memK q 5 x.set=true->memK q 5 y.set=false
 od:p.insp.Pairwise fun x y=>ltS x.cls y.cls=true
inductive PutR (l:List Insp) (c:ByteArray) (s:List Bx):List Insp->Int->Prop
 |skip:(c.toList=[]\/s=[])->PutR l c s l 0
 |ins (k:Nat):c.toList≠[]->s≠[]->k<=l.length->(∀(j:Nat) y,j<k->l[j]? =some y->ltS y.cls c=true)->(∀y,l[k]? =some y->ltS y.cls c=false/\(y.cls.toList==c.toList)=false)->PutR l c s (l.take k++⟨c,s⟩::l.drop k) 0
 |uni (k:Nat) (y:Insp):c.toList≠[]->s≠[]->l[k]? =some y->(y.cls.toList==c.toList)=true->PutR l c s (l.set k ⟨y.cls,(combP orB y.set s).1⟩) (combP orB y.set s).2
theorem AtInv.deny{t:Tp}{rest s:List Bx}{p:Pol}(h:AtInv t rest p)(hs:setB s=true):AtInv t (combP woB rest s).1 p:=by
 have hm:∀q,InP q->memK q 5 (combP woB rest s).1=true->memK q 5 rest=true:=fun q hq h1=>by
  have:=combP_sub h.rs hs hq h1
  simp only[woB,aI]at this
  exact this.1
 exact⟨setB_combP ..,h.al,fun q hq h1=>h.rr q hq (hm q hq h1),h.ar,fun q hq h1=>h.dj q hq (hm q hq h1),h.nm,h.ne,h.st,h.sb,h.ds,h.od⟩
theorem AtInv.permit{t:Tp}{rest s:List Bx}{p:Pol}{c:ByteArray}{l':List Insp}{e:Int}(h:AtInv t rest p)(hs:setB s=true)(hc:c.toList=[]\/nameOk c)(e1:(combP anB rest s).2=0)
  (e2:(combP woB rest s).2=0)(e3:(combP orB p.allow (combP anB rest s).1).2=0)(hp:PutR p.insp c (combP anB rest s).1 l' e)(he:e=0):
  AtInv t (combP woB rest s).1 ⟨(combP orB p.allow (combP anB rest s).1).1,l'⟩:=by
 have hps:setB (combP anB rest s).1=true:=setB_combP ..
 have hpm:∀q,InP q->memK q 5 (combP anB rest s).1=(memK q 5 rest&&memK q 5 s):=fun q hq=>by rw[combP_mem h.rs hs e1 hq];rfl
 have hrm:∀q,InP q->memK q 5 (combP woB rest s).1=(memK q 5 rest&& !memK q 5 s):=fun q hq=>by rw[combP_mem h.rs hs e2 hq];rfl
 have ham:∀q,InP q->memK q 5 (combP orB p.allow (combP anB rest s).1).1=(memK q 5 p.allow||memK q 5 (combP anB rest s).1):=fun q hq=>by rw[combP_mem h.al hps e3 hq];rfl
 have hdis:∀x,x∈p.insp->∀q,InP q->memK q 5 (combP anB rest s).1=true->memK q 5 x.set=false:=fun x hx q hq h1=>by
  rw[hpm q hq]at h1
  simp only[aI]at h1
  rw[cA]
  intro h2
  have:=h.dj q hq h1.1
  rw[h.sb x hx q hq h2]at this
  cases this
 have hsb:∀x,x∈p.insp->∀q,InP q->memK q 5 x.set=true->memK q 5 (combP orB p.allow (combP anB rest s).1).1=true:=fun x hx q hq h1=>by
  rw[ham q hq,h.sb x hx q hq h1];rfl
 have hpb:∀q,InP q->memK q 5 (combP anB rest s).1=true->memK q 5 (combP orB p.allow (combP anB rest s).1).1=true:=fun q hq h1=>by rw[ham q hq,h1,Bool.or_true]
 have f1:setB (combP woB rest s).1=true:=setB_combP ..
 have f2:setB (combP orB p.allow (combP anB rest s).1).1=true:=setB_combP ..
 have f3:∀q,InP q->memK q 5 (combP woB rest s).1=true->realM t q:=fun q hq h1=>by
  rw[hrm q hq]at h1
  simp only[aI]at h1
  exact h.rr q hq h1.1
 have f4:∀q,InP q->memK q 5 (combP orB p.allow (combP anB rest s).1).1=true->realM t q:=fun q hq h1=>by
  rw[ham q hq,hpm q hq]at h1
  simp only[bV,aI]at h1
  rcases h1 with h1|h1
  ·exact h.ar q hq h1
  ·exact h.rr q hq h1.1
 have f5:∀q,InP q->memK q 5 (combP woB rest s).1=true->memK q 5 (combP orB p.allow (combP anB rest s).1).1=false:=fun q hq h1=>by
  rw[hrm q hq]at h1
  simp only[aI,eH]at h1
  rw[ham q hq,hpm q hq,h.dj q hq h1.1,h1.2,Bool.and_false];rfl
 cases hp with
 |skip h0=>exact⟨f1,f2,f3,f4,f5,h.nm,h.ne,h.st,hsb,h.ds,h.od⟩
 |ins k h0 h1 hk hlt hge=>
  have hmem:∀x,x∈p.insp.take k++⟨c,(combP anB rest s).1⟩::p.insp.drop k->x∈p.insp\/x=⟨c,(combP anB rest s).1⟩:=fun x hx=>by
   rcases aS.1 hx with hx|hx
   ·exact .inl (cG hx)
   ·rcases aW.1 hx with hx|hx
    ·exact .inr hx
    ·exact .inl (dX hx)
  have hall:∀(Q:Insp->Prop),(∀x,x∈p.insp->Q x)->Q ⟨c,(combP anB rest s).1⟩->∀x,x∈p.insp.take k++⟨c,(combP anB rest s).1⟩::p.insp.drop k->Q x:=fun Q g1 g2 x hx=>by
   rcases hmem x hx with hx|rfl
   ·exact g1 x hx
   ·exact g2
  have hpw:∀(R:Insp->Insp->Prop),p.insp.Pairwise R->(∀x,x∈p.insp.take k->R x ⟨c,(combP anB rest s).1⟩)->(∀x,x∈p.insp.drop k->R ⟨c,(combP anB rest s).1⟩ x)->(p.insp.take k++⟨c,(combP anB rest s).1⟩::p.insp.drop k).Pairwise R:=fun R g g1 g2=>by
   rw[<-cQ k p.insp]at g
   rw[dE]at g⊢
   refine⟨g.1,bQ.2 ⟨g2,g.2.1⟩,fun a ha b hb=>?_⟩
   rcases aW.1 hb with rfl|hb
   ·exact g1 a ha
   ·exact g.2.2 a ha b hb
  refine⟨f1,f2,f3,f4,f5,hall _ h.nm (hc.resolve_left h0),hall (fun x=>x.set≠[]) h.ne h1,hall (fun x=>setB x.set=true) h.st hps,hall (fun x=>∀q,InP q->memK q 5 x.set=true->_) hsb hpb,?_,?_⟩
  ·refine hpw _ h.ds (fun x hx q hq h2=>?_) (fun x hx q hq h2=>hdis x (dX hx) q hq h2)
   rw[cA]
   intro h3
   rw[hdis x (cG hx) q hq h3]at h2
   cases h2
  ·refine hpw _ h.od (fun x hx=>?_) (fun x hx=>?_)
   ·obtain⟨j,hj⟩:=bM.1 hx
    rw[cS]at hj
    split at hj
    ·exact hlt j x zp hj
    ·cases hj
   ·obtain⟨j,hj⟩:=bM.1 hx
    rw[cC]at hj
    obtain⟨y,hy⟩:∃y,p.insp[k]? =some y:=⟨_,aD (by have:=(aP.1 hj).1;omega)⟩
    obtain⟨g1,g2⟩:=hge y hy
    have hcy:ltS c y.cls=true:=bl_total _ _ g1 g2
    rcases dA j with rfl|hj0
    ·rw[eG,hy]at hj
     cases hj;exact hcy
    ·have:=cO.1 h.od k (k+j) (aP.1 hy).1 (aP.1 hj).1 zo
     rw[(aP.1 hy).2,(aP.1 hj).2]at this
     exact bl_trans _ _ _ hcy this
 |uni k y h0 h1 hk hy=>
  have hym:y∈p.insp:=aF hk
  have hum:∀q,InP q->memK q 5 (combP orB y.set (combP anB rest s).1).1=(memK q 5 y.set||memK q 5 (combP anB rest s).1):=fun q hq=>by rw[combP_mem (h.st y hym) hps he hq];rfl
  have hall:∀(Q:Insp->Prop),(∀x,x∈p.insp->Q x)->Q ⟨y.cls,(combP orB y.set (combP anB rest s).1).1⟩->∀x,x∈p.insp.set k ⟨y.cls,(combP orB y.set (combP anB rest s).1).1⟩->Q x:=fun Q g1 g2 x hx=>by
   rcases List.mem_or_eq_of_mem_set hx with hx|rfl
   ·exact g1 x hx
   ·exact g2
  have hkl:=(aP.1 hk).1
  have hke:=(aP.1 hk).2
  have hpw:∀(R:Insp->Insp->Prop),p.insp.Pairwise R->(∀x,x∈p.insp->R x y->R x ⟨y.cls,(combP orB y.set (combP anB rest s).1).1⟩)->(∀x,x∈p.insp->R y x->R ⟨y.cls,(combP orB y.set (combP anB rest s).1).1⟩ x)->(p.insp.set k ⟨y.cls,(combP orB y.set (combP anB rest s).1).1⟩).Pairwise R:=fun R g g1 g2=>by
   rw[cO]at g⊢
   intro i j hi hj hij
   rw[dR]at hi hj
   rw[List.getElem_set,List.getElem_set]
   by_cases e1:k=i
   ·rw[aG e1,aE zo]
    refine g2 _ (dD _) ?_
    subst e1
    have:=g k j hi hj hij
    rwa[hke]at this
   ·rw[aE e1]
    by_cases e2:k=j
    ·rw[aG e2]
     refine g1 _ (dD _) ?_
     subst e2
     have:=g i k hi hj hij
     rwa[hke]at this
    ·rw[aE e2];exact g i j hi hj hij
  refine⟨f1,f2,f3,f4,f5,hall _ h.nm (h.nm y hym),hall (fun x=>x.set≠[]) h.ne ?_,hall (fun x=>setB x.set=true) h.st (setB_combP ..),hall (fun x=>∀q,InP q->memK q 5 x.set=true->_) hsb ?_,?_,?_⟩
  ·intro e0
   simp only at e0
   have:∀q,InP q->memK q 5 y.set=false:=fun q hq=>by
    have:=hum q hq
    rw[e0,memK_nil]at this
    cases hy:memK q 5 y.set
    ·rfl
    ·rw[hy]at this;cases this
   obtain⟨b,hb⟩:=List.exists_mem_of_ne_nil _ (h.ne y hym)
   obtain⟨q,hq,hqb⟩:=box_point (okL_set (h.st y hym) b hb)
   have h3:=this q hq
   rw[memK_iff.2 ⟨b,hb,hqb⟩]at h3
   cases h3
  ·intro q hq h2
   simp only at h2
   rw[hum q hq,bV]at h2
   rcases h2 with h2|h2
   ·exact hsb y hym q hq h2
   ·exact hpb q hq h2
  ·refine hpw _ h.ds (fun x hx hr q hq h2=>?_) (fun x hx hr q hq h2=>?_)
   ·simp only
    rw[hum q hq,hr q hq h2,fR,cA]
    intro h3
    rw[hdis x hx q hq h3]at h2
    cases h2
   ·simp only at h2
    rw[hum q hq,bV]at h2
    rcases h2 with h2|h2
    ·exact hr q hq h2
    ·exact hdis x hx q hq h2
  ·exact hpw _ h.od (fun x hx hr=>hr) (fun x hx hr=>hr)
theorem init_vld:vldB initS=initS:=by decide+kernel
theorem init_set:setB initS=true:=by decide+kernel
theorem AtInv.pol{t:Tp}{rest:List Bx}{p:Pol}(h:AtInv t rest p)(hc:compB t=true):PolOk t p:=by
 refine⟨hc,h.al,subB_of (okL_set h.al) fun q hq h1=>(h.ar q hq h1).1,subB_of (okL_set h.al) fun q hq h1=>by rw[init_vld];exact(h.ar q hq h1).2,fun n x hx=>?_⟩
 have hxm:=aF hx
 refine⟨h.nm x hxm,fun k y hn hy=>?_,h.ne x hxm,h.st x hxm,subB_of (okL_set (h.st x hxm)) fun q hq h1=>by rw[vld_all (okL_set h.al)];exact h.sb x hxm q hq h1,fun k y hk hy=>?_⟩
 ·have:=cO.1 h.od k n (aP.1 hy).1 (aP.1 hx).1 zo
  rw[(aP.1 hy).2,(aP.1 hx).2]at this
  obtain⟨h1,h2⟩:=bl_asymm _ _ this
  simp only[leS,h1,h2];rfl
 ·have:=cO.1 h.ds k n (aP.1 hy).1 (aP.1 hx).1 hk
  rw[(aP.1 hy).2,(aP.1 hx).2]at this
  rw[<-disj_iff (h.st x hxm) (h.st y (aF hy)),cano_nil_mem]
  intro q hq
  simp only[anB,Bool.and_eq_false_iff]
  by_cases h1:memK q 5 x.set=true
  ·right
   rw[cA]
   intro h2
   rw[this q hq h2]at h1
   cases h1
  ·left;simpa using h1
def realP(t:Tp):List Bx×Int:=if(makeP (pairsB t.edges)).2≠0 then([],(makeP (pairsB t.edges)).2)else combP anB (makeP (pairsB t.edges)).1 initS
theorem setB_realP(t:Tp):setB (realP t).1=true:=by
 unfold realP;split
 ·exact setB_nil
 ·exact setB_combP ..
theorem realP_mem(t:Tp):∀q,InP q->memK q 5 (realP t).1=true->realM t q:=fun q hq h=>by
 unfold realP at h
 split at h
 ·rw[memK_nil]at h;cases h
 ·have:=combP_sub (setB_makeP _) init_set hq h
  simp only[anB,aI]at this
  exact⟨makeP_mem hq this.1,this.2⟩
theorem atInv_start(t:Tp):AtInv t (realP t).1 ⟨[],[]⟩:=
 ⟨setB_realP t,setB_nil,realP_mem t,(fun q hq h=>by rw[memK_nil]at h;cases h),fun q hq h=>rfl,(fun x h=>by simp at h),(fun x h=>by simp at h),(fun x h=>by simp at h),(fun x h=>by simp at h),List.Pairwise.nil,List.Pairwise.nil⟩
structure It where
 kind:Int
 name:ByteArray
 pf:Pf
 proto:Int
 ports:Rg
structure Df where
 name:ByteArray
 items:List It
structure Wn where
 name:ByteArray
 act:List Rg
structure Sm where
 permit:Bool
 frm:ByteArray
 to:ByteArray
 svc:ByteArray
 exc:Bool
 exF:ByteArray
 exT:ByteArray
 cls:ByteArray
 dur:ByteArray
 pri:Int
structure Pb where
 addr:Int
 proto:Int
 port:Int
 edge:ByteArray
 real:Int
 rport:Int
structure Hn where
 grp:ByteArray
 edge:ByteArray
 addr:Int
 ports:Rg
structure Nt where
 grps:List Df
 svcs:List Df
 wins:List Wn
 sts:List Sm
 pubs:List Pb
 hids:List Hn
noncomputable abbrev encIt(x:It):AV:=.agg [.v (.int .i64 x.kind),.v (.string x.name),.v (.int .u32 x.pf.addr),.v (.int .i64 x.pf.bits),.v (.int .i64 x.proto),.v (.int .u32 x.ports.lo),.v (.int .u32 x.ports.hi)]
noncomputable abbrev encDf(x:Df):AV:=.agg [.v (.string x.name),.lst (x.items.map encIt)]
noncomputable abbrev encWn(x:Wn):AV:=.agg [.v (.string x.name),encRs x.act]
noncomputable abbrev encSm(x:Sm):AV:=.agg [.sb x.permit,.v (.string x.frm),.v (.string x.to),.v (.string x.svc),.sb x.exc,.v (.string x.exF),.v (.string x.exT),.v (.string x.cls),.v (.string x.dur),.v (.int .i64 x.pri)]
noncomputable abbrev encPb(x:Pb):AV:=.agg [.v (.int .u32 x.addr),.v (.int .i64 x.proto),.v (.int .i64 x.port),.v (.string x.edge),.v (.int .u32 x.real),.v (.int .i64 x.rport)]
noncomputable abbrev encHn(x:Hn):AV:=.agg [.v (.string x.grp),.v (.string x.edge),.v (.int .u32 x.addr),.v (.int .u32 x.ports.lo),.v (.int .u32 x.ports.hi)]
noncomputable abbrev celNt(i:Nt):List AV:=[.lst (i.grps.map encDf),.lst (i.svcs.map encDf),.lst (i.wins.map encWn),.lst (i.sts.map encSm),.lst (i.pubs.map encPb),.lst (i.hids.map encHn)]
noncomputable abbrev encNt(i:Nt):AV:=.agg (celNt i)
noncomputable abbrev boxNt(i:Nt):Vm.Obj:=.box (celNt i)
structure Sml (i:Nt):Prop where
 g:i.grps.length<=1000
 s:i.svcs.length<=1000
 w:i.wins.length<=1000
 t:i.sts.length<=1000
 p:i.pubs.length<=1000
 h:i.hids.length<=1000
 gi:∀x,x∈i.grps->x.items.length<=1000
 si:∀x,x∈i.svcs->x.items.length<=1000
 wi:∀x,x∈i.wins->x.act.length<=4000
open Go Go.Vm Go.ChangeShapes Go.WideShapes Go.ChangeAt Go.RowKit
theorem tz_int{d:Nat}{x:AV}(h:Ty Tryz.prog (d+1) 3 x):∃i:Int,x=.v (.int .i64 i)/\ -9223372036854775808<=i/\i<=9223372036854775807:=h
theorem tz_rg{d:Nat}{y:AV}(h:Ty Tryz.prog (d+2) 111 y):∃r:Rg,y=encR r:=by
 obtain⟨ys,hl,rfl,hf⟩:=h
 match ys,hl with
 |[p,q],_=>
  obtain⟨i,rfl,i0,i1⟩:=hf 0 _ p rfl rfl
  obtain⟨j,rfl,j0,j1⟩:=hf 1 _ q rfl rfl
  exact⟨⟨i,j,i0,i1,j0,j1⟩,rfl⟩
theorem tz_bx{d:Nat}{y:AV}(h:Ty Tryz.prog (d+3) 134 y):∃b:Bx,y=encX b:=by
 obtain⟨ys,hl,rfl,hf⟩:=h
 match ys,hl with
 |[p0,p1,p2,p3,p4],_=>
  obtain⟨r0,rfl⟩:=tz_rg (d:=d) (hf p0 zx)
  obtain⟨r1,rfl⟩:=tz_rg (d:=d) (hf p1 zx)
  obtain⟨r2,rfl⟩:=tz_rg (d:=d) (hf p2 zx)
  obtain⟨r3,rfl⟩:=tz_rg (d:=d) (hf p3 zx)
  obtain⟨r4,rfl⟩:=tz_rg (d:=d) (hf p4 zx)
  exact⟨⟨r0,r1,r2,r3,r4⟩,rfl⟩
theorem tz_set{d:Nat}{y:AV}(h:Ty Tryz.prog (d+4) 41 y):∃l:List Bx,y=encXs l:=by
 obtain⟨xs,rfl,_,hx⟩:=h
 obtain⟨l,rfl⟩:=list_enc encX fun y hy=>tz_bx (d:=d) (hx y hy)
 exact⟨l,rfl⟩
theorem tz_insp{d:Nat}{y:AV}(h:Ty Tryz.prog (d+5) 65 y):∃x:Insp,y=encIn x:=by
 obtain⟨ys,hl,rfl,hf⟩:=h
 match ys,hl with
 |[p,q],_=>
  obtain⟨s,rfl,_⟩:=hf 0 _ p rfl rfl
  obtain⟨l,rfl⟩:=tz_set (d:=d) (hf 1 _ q rfl rfl)
  exact⟨⟨s,l⟩,rfl⟩
theorem tz_pol{d:Nat}{y:AV}(h:Ty Tryz.prog (d+7) 44 y):∃p:Pol,y=encPol p:=by
 obtain⟨ys,hl,rfl,hf⟩:=h
 match ys,hl with
 |[p,q],_=>
  obtain⟨l,rfl⟩:=tz_set (d:=d+2) (hf 0 _ p rfl rfl)
  obtain⟨xs,rfl,_,hx⟩:=hf 1 _ q rfl rfl
  obtain⟨m,rfl⟩:=list_enc encIn fun y hy=>tz_insp (d:=d) (hx y hy)
  exact⟨⟨l,m⟩,rfl⟩
theorem tys5p{P:Program}{d:Nat}{t0 t1 t2 t3 t4:TypeId}:∀{xs:List AV},Tys P d [t0,t1,t2,t3,t4] xs->∃a0 a1 a2 a3 a4,xs=[a0,a1,a2,a3,a4]/\Ty P d t0 a0/\Ty P d t1 a1/\Ty P d t2 a2/\Ty P d t3 a3/\Ty P d t4 a4
 |[a0,a1,a2,a3,a4],⟨h0,h1,h2,h3,h4,_⟩=>⟨a0,a1,a2,a3,a4,rfl,h0,h1,h2,h3,h4⟩
noncomputable def goReads:Ctx:={N:=70,plan:=at1 5 (some (ln [1,3,4,7,9,11,13,15,17,19,21,22,25,27,29,31,33,35,37,39,41,45,47,42,48,51,53,55])) (fun _=>none)}
noncomputable def boReads:Code:=bdy Tryz.f27
abbrev ofoReads:=@ofC Tryz.prog goReads 27 Tryz.f27 boReads Tryz.func27 zk zk zk zk
noncomputable def goSplP:Ctx:={N:=68,np:=1,own:=at1 16 (true) (at1 87 (true) (at1 86 (true) (fun _=>false))),plan:=at1 1 (some (.one 0 true (.one 3 true (.one 4 true (.alt 1 (.alt 2 (.alt 5 (ln [13,14,16]) (.alt 7 (ln [10,13,16]) (.stop))) (.alt 7 (ln [4,10,13,16]) (.stop))) (.alt 2 (.alt 1 (.alt 5 (ln [13,14,16]) (.alt 7 (ln [10,13,16]) (.stop))) (.alt 5 (ln [3,13,14,16]) (.alt 7 (.alt 1 (ln [10,13,16]) (.alt 5 (ln [3,13,16]) (.stop))) (.stop)))) (.alt 7 (.alt 1 (ln [4,10,13,16]) (.alt 2 (.alt 1 (ln [10,13,16]) (.alt 5 (ln [3,13,16]) (.stop))) (.stop))) (.stop)))))))) (at1 9 (some (.one 0 true (.one 3 true (.one 7 true (.wch 1 (.wch 8 (.alt 2 (ln [8,11,13,19,20,22,25,26]) (.alt 4 (ln [4,11,13,19,20,22,25,26]) (.stop))))))))) (at1 12 (some (.one 0 true (.one 2 true (.one 3 true (.one 4 true (.one 5 true (.one 6 true (.one 7 true (.wch 1 (ln [16,19,21,22])))))))))) (at1 3 (some (.one 0 true (.one 4 true (.wch 5 (ln [2,5,6,12,15,16]))))) (fun _=>none))))}
noncomputable def boSplP:Code:=bdy Tryz.f28
abbrev ofoSplP:=@ofC Tryz.prog goSplP 28 Tryz.f28 boSplP Tryz.func28 zk zk zk zk
noncomputable def goPRea:Ctx:={N:=122,own:=at1 10 (true) (at1 11 (true) (at1 16 (true) (at1 28 (true) (at1 29 (true) (at1 30 (true) (fun _=>false)))))),plan:=at1 7 (some (.one 0 true (.one 1 true (.one 2 true (.one 3 true (.one 4 true (.one 7 true (.one 8 true (.wch 9 (ln [21,23,10,13,24,27,29,31])))))))))) (at1 8 (some (.one 0 true (.one 1 true (.one 2 true (.one 3 true (.one 4 false (.one 5 true (.one 6 true (.one 8 true (.one 9 true (.one 11 true (.one 12 true (.alt 7 (.one 10 false (.one 13 false (.one 14 true (.one 15 true (.one 16 true (.one 17 true (.one 18 true (.alt 19 (.one 20 true (.one 21 false (.one 22 true (.one 23 true (.one 24 true (.one 25 true (.alt 26 (ln [55,56,59,61]) (.alt 27 (ln [52,56,59,61]) (.stop))))))))) (.alt 20 (.one 19 false (.one 21 false (.one 22 true (.one 23 true (.one 24 true (.one 25 true (.alt 26 (ln [55,56,59,61]) (.alt 27 (ln [52,56,59,61]) (.stop))))))))) (.stop)))))))))) (.alt 10 (.one 7 true (.one 13 false (.one 14 true (.one 15 true (.one 16 true (.one 17 true (.one 18 true (.alt 19 (.one 20 true (.one 21 false (.one 22 true (.one 23 true (.one 24 true (.one 25 true (.alt 26 (ln [55,56,59,61]) (.alt 27 (ln [52,56,59,61]) (.stop))))))))) (.alt 20 (.one 19 false (.one 21 false (.one 22 true (.one 23 true (.one 24 true (.one 25 true (.alt 26 (ln [55,56,59,61]) (.alt 27 (ln [52,56,59,61]) (.stop))))))))) (.stop)))))))))) (.stop))))))))))))))) (fun _=>none))}
noncomputable def boPRea:Code:=bdy Tryz.f6
abbrev ofoPRea:=@ofC Tryz.prog goPRea 6 Tryz.f6 boPRea Tryz.func6 zk zk zk zk
noncomputable def goMin:Ctx:={N:=9}
noncomputable def boMin:Code:=bdy Tryz.f97
abbrev ofoMin:=@ofC Tryz.prog goMin 97 Tryz.f97 boMin Tryz.func97 zk zk zk zk
noncomputable def goAct1:Ctx:={N:=9}
noncomputable def boAct1:Code:=bdy Tryz.f181
abbrev ofoAct1:=@ofC Tryz.prog goAct1 181 Tryz.f181 boAct1 Tryz.func181 zk zk zk zk
noncomputable def goAct:Ctx:={N:=27,lend:=at1 180 (true) (fun _=>false)}
noncomputable def boAct:Code:=bdy Tryz.f98
abbrev ofoAct:=@ofC Tryz.prog goAct 98 Tryz.f98 boAct Tryz.func98 zk zk zk zk
noncomputable def goOrd1:Ctx:={N:=19,plan:=at1 1 (some (ln [1,3,5,7,9,11,13,15,17,19,21,23,24,27])) (fun _=>none)}
noncomputable def boOrd1:Code:=bdy Tryz.f100
abbrev ofoOrd1:=@ofC Tryz.prog goOrd1 100 Tryz.f100 boOrd1 Tryz.func100 zk zk zk zk
noncomputable def goIns:Ctx:={N:=53,np:=1,plan:=at1 4 (some (ln [1,3,5,7,9,11,13,15,17,19,21,23,25,27,28,31,33])) (at1 6 (some (ln [1,3,5,7,9,11,13,15,17,19,21,23,25,27,29,30,33,34])) (fun _=>none))}
noncomputable def boIns:Code:=bdy Tryz.f254
abbrev ofoIns:=@ofC Tryz.prog goIns 254 Tryz.f254 boIns Tryz.func254 zk zk zk zk
noncomputable def goStab:Ctx:={N:=63,np:=1,own:=at1 254 (true) (fun _=>false)}
noncomputable def boStab:Code:=bdy Tryz.f183
abbrev ofoStab:=@ofC Tryz.prog goStab 183 Tryz.f183 boStab Tryz.func183 zk zk zk zk
noncomputable def goSort:Ctx:={N:=9,np:=1,own:=at1 183 (true) (fun _=>false)}
noncomputable def boSort:Code:=bdy Tryz.f99
abbrev ofoSort:=@ofC Tryz.prog goSort 99 Tryz.f99 boSort Tryz.func99 zk zk zk zk
noncomputable def goOrd:Ctx:={N:=37,own:=at1 99 (true) (fun _=>false),hints:=at1 4 ([.virt 5 1]) (at1 10 ([.freeze 2]) (fun _=>[]))}
noncomputable def boOrd:Code:=bdy Tryz.f37
abbrev ofoOrd:=@ofC Tryz.prog goOrd 37 Tryz.f37 boOrd Tryz.func37 zk zk zk zk
noncomputable def goCmpS:Ctx:={N:=20}
noncomputable def boCmpS:Code:=bdy Tryz.f52
abbrev ofoCmpS:=@ofC Tryz.prog goCmpS 52 Tryz.f52 boCmpS Tryz.func52 zk zk zk zk
noncomputable def goNaNS:Ctx:={N:=6}
noncomputable def boNaNS:Code:=bdy Tryz.f117
abbrev ofoNaNS:=@ofC Tryz.prog goNaNS 117 Tryz.f117 boNaNS Tryz.func117 zk zk zk zk
noncomputable def goAt1:Ctx:={N:=10}
noncomputable def boAt1:Code:=bdy Tryz.f51
abbrev ofoAt1:=@ofC Tryz.prog goAt1 51 Tryz.f51 boAt1 Tryz.func51 zk zk zk zk
noncomputable def goInsI:Ctx:={N:=53,np:=1,plan:=at1 4 (some (ln [1,3,5,7,9,11,13,15,17,19,21,23,25,27,28,31,33])) (at1 6 (some (ln [1,3,5,7,9,11,13,15,17,19,21,23,25,27,29,30,33,34])) (fun _=>none))}
noncomputable def boInsI:Code:=bdy Tryz.f200
abbrev ofoInsI:=@ofC Tryz.prog goInsI 200 Tryz.f200 boInsI Tryz.func200 zk zk zk zk
noncomputable def goPdq:Ctx:={N:=148,np:=1,own:=at1 200 (true) (fun _=>false),plan:=at1 17 (some (ln [1,3,5,7,9,11,13,15,17,19,21,23,25,26,29,31,33])) (fun _=>none)}
noncomputable def boPdq:Code:=bdy Tryz.f115
abbrev ofoPdq:=@ofC Tryz.prog goPdq 115 Tryz.f115 boPdq Tryz.func115 zk zk zk zk
noncomputable def goSortI:Ctx:={N:=14,np:=1,own:=at1 115 (true) (fun _=>false)}
noncomputable def boSortI:Code:=bdy Tryz.f50
abbrev ofoSortI:=@ofC Tryz.prog goSortI 50 Tryz.f50 boSortI Tryz.func50 zk zk zk zk
noncomputable def goReal:Ctx:={N:=23}
noncomputable def boReal:Code:=bdy Tryz.f47
abbrev ofoReal:=@ofC Tryz.prog goReal 47 Tryz.f47 boReal Tryz.func47 zk zk zk zk
noncomputable def goChk:Ctx:={N:=23}
noncomputable def boChk:Code:=bdy Tryz.f46
abbrev ofoChk:=@ofC Tryz.prog goChk 46 Tryz.f46 boChk Tryz.func46 zk zk zk zk
noncomputable def goTry:Ctx:={N:=80,np:=2,plan:=at1 10 (some (.one 0 true (.one 1 true (.one 2 true (.one 4 true (.one 6 true (.one 7 true (.one 8 true (.one 9 true (.one 10 true (.one 11 true (.one 13 true (.alt 3 (.alt 5 (ln [24,28,31,33,35,36,39]) (.alt 12 (ln [11,28,31,33,35,36,39]) (.stop))) (.alt 5 (.alt 3 (ln [24,28,31,33,35,36,39]) (.alt 12 (ln [7,28,31,33,35,36,39]) (.stop))) (.alt 12 (ln [7,11,28,31,33,35,36,39]) (.stop)))))))))))))))) (fun _=>none)}
noncomputable def boTry:Code:=bdy Tryz.f49
abbrev ofoTry:=@ofC Tryz.prog goTry 49 Tryz.f49 boTry Tryz.func49 zk zk zk zk
noncomputable def goAt:Ctx:={N:=97,own:=at1 49 (true) (at1 50 (true) (fun _=>false)),hints:=at1 19 ([.virtB 17 1 2]) (fun _=>[])}
noncomputable def boAt:Code:=bdy Tryz.f12
abbrev ofoAt:=@ofC Tryz.prog goAt 12 Tryz.f12 boAt Tryz.func12 zk zk zk zk
noncomputable def goDec:Ctx:={N:=76,plan:=at1 3 (some (ln [1,3,5,9,11,13,6,14,17,19])) (at1 4 (some (ln [1,3,5,7,9,11,13,15,17,19,21,23,27,24,28,31,33])) (fun _=>none))}
noncomputable def boDec:Code:=bdy Tryz.f21
abbrev ofoDec:=@ofC Tryz.prog goDec 21 Tryz.f21 boDec Tryz.func21 zk zk zk zk
noncomputable def goCon:Ctx:={N:=31}
noncomputable def boCon:Code:=bdy Tryz.f140
abbrev ofoCon:=@ofC Tryz.prog goCon 140 Tryz.f140 boCon Tryz.func140 zk zk zk zk
noncomputable def goPCon1:Ctx:={N:=7}
noncomputable def boPCon1:Code:=bdy Tryz.f139
abbrev ofoPCon1:=@ofC Tryz.prog goPCon1 139 Tryz.f139 boPCon1 Tryz.func139 zk zk zk zk
noncomputable def goIxX:Ctx:={N:=19}
noncomputable def boIxX:Code:=bdy Tryz.f224
abbrev ofoIxX:=@ofC Tryz.prog goIxX 224 Tryz.f224 boIxX Tryz.func224 zk zk zk zk
noncomputable def goAnyX:Ctx:={N:=9}
noncomputable def boAnyX:Code:=bdy Tryz.f138
abbrev ofoAnyX:=@ofC Tryz.prog goAnyX 138 Tryz.f138 boAnyX Tryz.func138 zk zk zk zk
noncomputable def goPCon:Ctx:={N:=8,lend:=at1 138 (true) (fun _=>false)}
noncomputable def boPCon:Code:=bdy Tryz.f68
abbrev ofoPCon:=@ofC Tryz.prog goPCon 68 Tryz.f68 boPCon Tryz.func68 zk zk zk zk
noncomputable def goTAt1:Ctx:={N:=13}
noncomputable def boTAt1:Code:=bdy Tryz.f136
abbrev ofoTAt1:=@ofC Tryz.prog goTAt1 136 Tryz.f136 boTAt1 Tryz.func136 zk zk zk zk
noncomputable def goTAt:Ctx:={N:=9,lend:=at1 135 (true) (fun _=>false)}
noncomputable def boTAt:Code:=bdy Tryz.f67
abbrev ofoTAt:=@ofC Tryz.prog goTAt 67 Tryz.f67 boTAt Tryz.func67 zk zk zk zk
noncomputable def goCAct:Ctx:={N:=17}
noncomputable def boCAct:Code:=bdy Tryz.f182
abbrev ofoCAct:=@ofC Tryz.prog goCAct 182 Tryz.f182 boCAct Tryz.func182 zk zk zk zk
noncomputable def goNet:Ctx:={N:=20,np:=1,own:=at1 43 (true) (at1 44 (true) (at1 45 (true) (fun _=>false))),plan:=at1 2 (some (.one 1 true (.one 2 true (.one 3 true (.one 5 true (.wch 0 (ln [8,12,14,16,19]))))))) (fun _=>none)}
noncomputable def boNet:Code:=bdy Tryz.f11
abbrev ofoNet:=@ofC Tryz.prog goNet 11 Tryz.f11 boNet Tryz.func11 zk zk zk zk
noncomputable def goLNet:Ctx:={N:=9}
noncomputable def boLNet:Code:=bdy Tryz.f41
abbrev ofoLNet:=@ofC Tryz.prog goLNet 41 Tryz.f41 boLNet Tryz.func41 zk zk zk zk
noncomputable def goSan:Ctx:={N:=67,plan:=at1 2 (some (.one 1 true (.alt 0 (.alt 2 (ln [7,9,11,12,14,17]) (.alt 6 (ln [4,7,9,11,14,17]) (.stop))) (.alt 6 (ln [0,4,7,9,11,14,17]) (.stop))))) (at1 6 (some (ln [3,5,0,6,9,11,13,15,17])) (at1 7 (some (ln [1,3,5,7,9,11,12,15,17,19,21,23,25,26,29,31,33,35,37,39,41,43,45,47,51,48,52,55,57,59,60,63,65,67,69])) (fun _=>none))),hints:=at1 2 ([.flatB 1 1,.freezeB 1]) (fun _=>[])}
noncomputable def boSan:Code:=bdy Tryz.f19
abbrev ofoSan:=@ofC Tryz.prog goSan 19 Tryz.f19 boSan Tryz.func19 zk zk zk zk
noncomputable def goNaNI:Ctx:={N:=6}
noncomputable def boNaNI:Code:=bdy Tryz.f184
abbrev ofoNaNI:=@ofC Tryz.prog goNaNI 184 Tryz.f184 boNaNI Tryz.func184 zk zk zk zk
noncomputable def goCmpI:Ctx:={N:=20}
noncomputable def boCmpI:Code:=bdy Tryz.f101
abbrev ofoCmpI:=@ofC Tryz.prog goCmpI 101 Tryz.f101 boCmpI Tryz.func101 zk zk zk zk
noncomputable def grAnD:Ctx:={N:=9}
noncomputable def brAnD:Code:=bdy Tryz.f267
abbrev ofrAnD:=@ofC Tryz.prog grAnD 267 Tryz.f267 brAnD Tryz.func267 zk zk zk zk
noncomputable def grNam1:Ctx:={N:=9}
noncomputable def brNam1:Code:=bdy Tryz.f268
abbrev ofrNam1:=@ofC Tryz.prog grNam1 268 Tryz.f268 brNam1 Tryz.func268 zk zk zk zk
noncomputable def grAnW:Ctx:={N:=9}
noncomputable def brAnW:Code:=bdy Tryz.f269
abbrev ofrAnW:=@ofC Tryz.prog grAnW 269 Tryz.f269 brAnW Tryz.func269 zk zk zk zk
noncomputable def grNam2:Ctx:={N:=9}
noncomputable def brNam2:Code:=bdy Tryz.f270
abbrev ofrNam2:=@ofC Tryz.prog grNam2 270 Tryz.f270 brNam2 Tryz.func270 zk zk zk zk
noncomputable def grBtw:Ctx:={N:=39,plan:=at1 9 (some (.one 0 true (.one 2 true (.alt 1 (ln [6,9,10]) (.alt 3 (ln [3,9,10]) (.stop)))))) (fun _=>none),hints:=at1 2 ([.virt 6 10]) (fun _=>[])}
noncomputable def brBtw:Code:=bdy Tryz.f199
abbrev ofrBtw:=@ofC Tryz.prog grBtw 199 Tryz.f199 brBtw Tryz.func199 zk zk zk zk
noncomputable def grStm:Ctx:={N:=111,cut:=at1 18 (true) (fun _=>false)}
noncomputable def brStm:Code:=bdy Tryz.f112
abbrev ofrStm:=@ofC Tryz.prog grStm 112 Tryz.f112 brStm Tryz.func112 zk zk zk zk
noncomputable def grNames:Ctx:={N:=33,lend:=at1 267 (true) (at1 269 (true) (fun _=>false))}
noncomputable def brNames:Code:=bdy Tryz.f195
abbrev ofrNames:=@ofC Tryz.prog grNames 195 Tryz.f195 brNames Tryz.func195 zk zk zk zk
noncomputable def grStmt:Ctx:={N:=37,plan:=at1 5 (some (ln [1,3,5,7,9,11,13,14,17,19,21,23])) (fun _=>none)}
noncomputable def brStmt:Code:=bdy Tryz.f48
abbrev ofrStmt:=@ofC Tryz.prog grStmt 48 Tryz.f48 brStmt Tryz.func48 zk zk zk zk
noncomputable def grCheck:Ctx:={N:=131}
noncomputable def brCheck:Code:=bdy Tryz.f110
abbrev ofrCheck:=@ofC Tryz.prog grCheck 110 Tryz.f110 brCheck Tryz.func110 zk zk zk zk
noncomputable def gkDig:Ctx:={N:=13}
noncomputable def bkDig:Code:=bdy Tryz.f326
abbrev ofkDig:=@ofC Tryz.prog gkDig 326 Tryz.f326 bkDig Tryz.func326 zk zk zk zk
noncomputable def gkTime:Ctx:={N:=11}
noncomputable def bkTime:Code:=bdy Tryz.f298
abbrev ofkTime:=@ofC Tryz.prog gkTime 298 Tryz.f298 bkTime Tryz.func298 zk zk zk zk
noncomputable def gkForm:Ctx:={N:=69,plan:=at1 15 (some (ln [1,3,5,7,9,11,13,15,21,23,25,27,29,31,33,16,19,34,37,38,40,43])) (fun _=>none),hints:=at1 6 ([.virt 3 1]) (fun _=>[]),cut:=at1 9 (true) (at1 15 (true) (fun _=>false))}
noncomputable def bkForm:Code:=bdy Tryz.f249
abbrev ofkForm:=@ofC Tryz.prog gkForm 249 Tryz.f249 bkForm Tryz.func249 zk zk zk zk
noncomputable def giEmp:Ctx:={N:=9}
noncomputable def biEmp:Code:=bdy Tryz.f252
abbrev ofiEmp:=@ofC Tryz.prog giEmp 252 Tryz.f252 biEmp Tryz.func252 zk zk zk zk
noncomputable def giPrt:Ctx:={N:=35}
noncomputable def biPrt:Code:=bdy Tryz.f295
abbrev ofiPrt:=@ofC Tryz.prog giPrt 295 Tryz.f295 biPrt Tryz.func295 zk zk zk zk
noncomputable def giItem:Ctx:={N:=78}
noncomputable def biItem:Code:=bdy Tryz.f248
abbrev ofiItem:=@ofC Tryz.prog giItem 248 Tryz.f248 biItem Tryz.func248 zk zk zk zk
noncomputable def giFind:Ctx:={N:=8}
noncomputable def biFind:Code:=bdy Tryz.f247
abbrev ofiFind:=@ofC Tryz.prog giFind 247 Tryz.f247 biFind Tryz.func247 zk zk zk zk
noncomputable def giFind1:Ctx:={N:=8}
noncomputable def biFind1:Code:=bdy Tryz.f294
abbrev ofiFind1:=@ofC Tryz.prog giFind1 294 Tryz.f294 biFind1 Tryz.func294 zk zk zk zk
noncomputable def giDefs:Ctx:={N:=56,cut:=at1 6 (true) (fun _=>false)}
noncomputable def biDefs:Code:=bdy Tryz.f173
abbrev ofiDefs:=@ofC Tryz.prog giDefs 173 Tryz.f173 biDefs Tryz.func173 zk zk zk zk
noncomputable def giWnd:Ctx:={N:=8}
noncomputable def biWnd:Code:=bdy Tryz.f175
abbrev ofiWnd:=@ofC Tryz.prog giWnd 175 Tryz.f175 biWnd Tryz.func175 zk zk zk zk
noncomputable def giWnd1:Ctx:={N:=8}
noncomputable def biWnd1:Code:=bdy Tryz.f250
abbrev ofiWnd1:=@ofC Tryz.prog giWnd1 250 Tryz.f250 biWnd1 Tryz.func250 zk zk zk zk
noncomputable def giIxW:Ctx:={N:=19}
noncomputable def biIxW:Code:=bdy Tryz.f180
abbrev ofiIxW:=@ofC Tryz.prog giIxW 180 Tryz.f180 biIxW Tryz.func180 zk zk zk zk
noncomputable def giWri:Ctx:={N:=18}
noncomputable def biWri:Code:=bdy Tryz.f174
abbrev ofiWri:=@ofC Tryz.prog giWri 174 Tryz.f174 biWri Tryz.func174 zk zk zk zk
noncomputable def giSm:Ctx:={N:=62}
noncomputable def biSm:Code:=bdy Tryz.f179
abbrev ofiSm:=@ofC Tryz.prog giSm 179 Tryz.f179 biSm Tryz.func179 zk zk zk zk
noncomputable def giVal1:Ctx:={N:=9}
noncomputable def biVal1:Code:=bdy Tryz.f176
abbrev ofiVal1:=@ofC Tryz.prog giVal1 176 Tryz.f176 biVal1 Tryz.func176 zk zk zk zk
noncomputable def giVal2:Ctx:={N:=6}
noncomputable def biVal2:Code:=bdy Tryz.f178
abbrev ofiVal2:=@ofC Tryz.prog giVal2 178 Tryz.f178 biVal2 Tryz.func178 zk zk zk zk
noncomputable def giIxS:Ctx:={N:=19}
noncomputable def biIxS:Code:=bdy Tryz.f251
abbrev ofiIxS:=@ofC Tryz.prog giIxS 251 Tryz.f251 biIxS Tryz.func251 zk zk zk zk
noncomputable def giAnS:Ctx:={N:=9}
noncomputable def biAnS:Code:=bdy Tryz.f177
abbrev ofiAnS:=@ofC Tryz.prog giAnS 177 Tryz.f177 biAnS Tryz.func177 zk zk zk zk
noncomputable def giVal:Ctx:={N:=157,cut:=at1 3 (true) (fun _=>false)}
noncomputable def biVal:Code:=bdy Tryz.f96
abbrev ofiVal:=@ofC Tryz.prog giVal 96 Tryz.f96 biVal Tryz.func96 zk zk zk zk
noncomputable def gj16Opt:Ctx:={N:=9}
noncomputable def bj16Opt:Code:=bdy Tryz.f217
abbrev ofj16Opt:=@ofC Tryz.prog gj16Opt 217 Tryz.f217 bj16Opt Tryz.func217 zk zk zk zk
noncomputable def gj16Port:Ctx:={N:=9}
noncomputable def bj16Port:Code:=bdy Tryz.f124
abbrev ofj16Port:=@ofC Tryz.prog gj16Port 124 Tryz.f124 bj16Port Tryz.func124 zk zk zk zk
noncomputable def gj16Ports:Ctx:={N:=21}
noncomputable def bj16Ports:Code:=bdy Tryz.f125
abbrev ofj16Ports:=@ofC Tryz.prog gj16Ports 125 Tryz.f125 bj16Ports Tryz.func125 zk zk zk zk
noncomputable def gj16Find:Ctx:={N:=20}
noncomputable def bj16Find:Code:=bdy Tryz.f213
abbrev ofj16Find:=@ofC Tryz.prog gj16Find 213 Tryz.f213 bj16Find Tryz.func213 zk zk zk zk
noncomputable def gj16FindW:Ctx:={N:=20}
noncomputable def bj16FindW:Code:=bdy Tryz.f81
abbrev ofj16FindW:=@ofC Tryz.prog gj16FindW 81 Tryz.f81 bj16FindW Tryz.func81 zk zk zk zk
noncomputable def gj16Item:Ctx:={N:=97}
noncomputable def bj16Item:Code:=bdy Tryz.f214
abbrev ofj16Item:=@ofC Tryz.prog gj16Item 214 Tryz.f214 bj16Item Tryz.func214 zk zk zk zk
noncomputable def gj16Defs:Ctx:={N:=73}
noncomputable def bj16Defs:Code:=bdy Tryz.f120
abbrev ofj16Defs:=@ofC Tryz.prog gj16Defs 120 Tryz.f120 bj16Defs Tryz.func120 zk zk zk zk
noncomputable def gj16Wri:Ctx:={N:=11}
noncomputable def bj16Wri:Code:=bdy Tryz.f122
abbrev ofj16Wri:=@ofC Tryz.prog gj16Wri 122 Tryz.f122 bj16Wri Tryz.func122 zk zk zk zk
noncomputable def gj16Sm:Ctx:={N:=74}
noncomputable def bj16Sm:Code:=bdy Tryz.f123
abbrev ofj16Sm:=@ofC Tryz.prog gj16Sm 123 Tryz.f123 bj16Sm Tryz.func123 zk zk zk zk
noncomputable def gj16Val:Ctx:={N:=161,plan:=at1 6 (some (ln [1,3,5,7,9,11,12,15,17,19,21,23,25,27,29,31,33,37,34,39,41,43,45,47,49,51,53,55,56,59,61])) (fun _=>none)}
noncomputable def bj16Val:Code:=bdy Tryz.f54
abbrev ofj16Val:=@ofC Tryz.prog gj16Val 54 Tryz.f54 bj16Val Tryz.func54 zk zk zk zk
noncomputable def gq1Num:Ctx:={N:=20,plan:=at1 3 (some (.one 0 true (.one 1 true (.one 3 true (.one 4 true (.one 5 true (.one 6 true (.alt 2 (ln [14,16,19,21]) (.alt 7 (.alt 2 (ln [16,19,21]) (.alt 8 (ln [4,19,21]) (.stop))) (.stop)))))))))) (fun _=>none)}
noncomputable def bq1Num:Code:=bdy Tryz.f336
abbrev ofq1Num:=@ofC Tryz.prog gq1Num 336 Tryz.f336 bq1Num Tryz.func336 zk zk zk zk
noncomputable def gq1Parts:Ctx:={N:=35,hints:=at1 2 ([.virt 5 1]) (fun _=>[])}
noncomputable def bq1Parts:Code:=bdy Tryz.f315
abbrev ofq1Parts:=@ofC Tryz.prog gq1Parts 315 Tryz.f315 bq1Parts Tryz.func315 zk zk zk zk
noncomputable def gq9Days:Ctx:={N:=2}
noncomputable def bq9Days:Code:=bdy Tryz.f282
abbrev ofq9Days:=@ofC Tryz.prog gq9Days 282 Tryz.f282 bq9Days Tryz.func282 zk zk zk zk
noncomputable def gq9Day:Ctx:={N:=19}
noncomputable def bq9Day:Code:=bdy Tryz.f316
abbrev ofq9Day:=@ofC Tryz.prog gq9Day 316 Tryz.f316 bq9Day Tryz.func316 zk zk zk zk
noncomputable def gq9Two:Ctx:={N:=36,plan:=at1 3 (some (ln [1,3,5,7,9,11,13,15,17,19,21])) (fun _=>none)}
noncomputable def bq9Two:Code:=bdy Tryz.f334
abbrev ofq9Two:=@ofC Tryz.prog gq9Two 334 Tryz.f334 bq9Two Tryz.func334 zk zk zk zk
noncomputable def gq9Clock:Ctx:={N:=39,plan:=at1 5 (some (ln [1,3,7,9,4,10,13,15])) (fun _=>none)}
noncomputable def bq9Clock:Code:=bdy Tryz.f317
abbrev ofq9Clock:=@ofC Tryz.prog gq9Clock 317 Tryz.f317 bq9Clock Tryz.func317 zk zk zk zk
noncomputable def gq9Span:Ctx:={N:=32,plan:=at1 4 (some (ln [1,3,5,9,11,13,15,17,19,6,20,23,25])) (fun _=>none)}
noncomputable def bq9Span:Code:=bdy Tryz.f260
abbrev ofq9Span:=@ofC Tryz.prog gq9Span 260 Tryz.f260 bq9Span Tryz.func260 zk zk zk zk
noncomputable def gq9Times:Ctx:={N:=29,plan:=at1 4 (some (ln [1,3,5,9,11,13,6,14,17,19])) (fun _=>none)}
noncomputable def bq9Times:Code:=bdy Tryz.f261
abbrev ofq9Times:=@ofC Tryz.prog gq9Times 261 Tryz.f261 bq9Times Tryz.func261 zk zk zk zk
noncomputable def gq9Parse:Ctx:={N:=96,hints:=at1 6 ([.virt 4 2]) (fun _=>[])}
noncomputable def bq9Parse:Code:=bdy Tryz.f189
abbrev ofq9Parse:=@ofC Tryz.prog gq9Parse 189 Tryz.f189 bq9Parse Tryz.func189 zk zk zk zk
noncomputable def gq9Pad:Ctx:={N:=10}
noncomputable def bq9Pad:Code:=bdy Tryz.f323
abbrev ofq9Pad:=@ofC Tryz.prog gq9Pad 323 Tryz.f323 bq9Pad Tryz.func323 zk zk zk zk
noncomputable def gq9Text:Ctx:={N:=11}
noncomputable def bq9Text:Code:=bdy Tryz.f283
abbrev ofq9Text:=@ofC Tryz.prog gq9Text 283 Tryz.f283 bq9Text Tryz.func283 zk zk zk zk
noncomputable def gq9Win:Ctx:={N:=5}
noncomputable def bq9Win:Code:=bdy Tryz.f215
abbrev ofq9Win:=@ofC Tryz.prog gq9Win 215 Tryz.f215 bq9Win Tryz.func215 zk zk zk zk
noncomputable def gq9Form:Ctx:={N:=70,plan:=at1 16 (some (ln [1,5,11,13,15,17,19,21,23,25,31,33,35,37,39,41,43,45,47,2,7,9,26,29,48,51,52,54,57])) (fun _=>none),hints:=at1 6 ([.virt 3 1]) (fun _=>[]),cut:=at1 16 (true) (fun _=>false)}
noncomputable def bq9Form:Code:=bdy Tryz.f216
abbrev ofq9Form:=@ofC Tryz.prog gq9Form 216 Tryz.f216 bq9Form Tryz.func216 zk zk zk zk
noncomputable def gq9Act:Ctx:={N:=17}
noncomputable def bq9Act:Code:=bdy Tryz.f185
abbrev ofq9Act:=@ofC Tryz.prog gq9Act 185 Tryz.f185 bq9Act Tryz.func185 zk zk zk zk
noncomputable def gnWin:Ctx:={N:=47,np:=1,own:=at1 16 (true) (fun _=>false),plan:=at1 3 (some (.one 0 true (.one 1 true (.one 5 true (.one 6 true (.one 2 false (.one 3 true (.wch 4 (ln [14,17,19,20,23]))))))))) (at1 7 (some (.one 0 true (.one 1 true (.one 2 true (.one 6 true (.one 7 true (.one 3 false (.one 4 true (.wch 5 (ln [16,19,21,22,24,27])))))))))) (fun _=>none))}
noncomputable def bnWin:Code:=bdy Tryz.f107
abbrev ofnWin:=@ofC Tryz.prog gnWin 107 Tryz.f107 bnWin Tryz.func107 zk zk zk zk
noncomputable def gnPick:Ctx:={N:=20,np:=1,own:=at1 16 (true) (fun _=>false)}
noncomputable def bnPick:Code:=bdy Tryz.f190
abbrev ofnPick:=@ofC Tryz.prog gnPick 190 Tryz.f190 bnPick Tryz.func190 zk zk zk zk
noncomputable def gnMin:Ctx:={N:=12,np:=1,own:=at1 16 (true) (fun _=>false)}
noncomputable def bnMin:Code:=bdy Tryz.f45
abbrev ofnMin:=@ofC Tryz.prog gnMin 45 Tryz.f45 bnMin Tryz.func45 zk zk zk zk
noncomputable def gnRange:Ctx:={N:=20,np:=1,own:=at1 65 (true) (fun _=>false)}
noncomputable def bnRange:Code:=bdy Tryz.f106
abbrev ofnRange:=@ofC Tryz.prog gnRange 106 Tryz.f106 bnRange Tryz.func106 zk zk zk zk
noncomputable def gnAdrs:Ctx:={N:=41,np:=1,own:=at1 16 (true) (at1 64 (true) (fun _=>false))}
noncomputable def bnAdrs:Code:=bdy Tryz.f245
abbrev ofnAdrs:=@ofC Tryz.prog gnAdrs 245 Tryz.f245 bnAdrs Tryz.func245 zk zk zk zk
noncomputable def gnBox:Ctx:={N:=46,np:=1,own:=at1 16 (true) (at1 106 (true) (at1 245 (true) (fun _=>false)))}
noncomputable def bnBox:Code:=bdy Tryz.f165
abbrev ofnBox:=@ofC Tryz.prog gnBox 165 Tryz.f165 bnBox Tryz.func165 zk zk zk zk
noncomputable def gnBoxes:Ctx:={N:=34,np:=1,own:=at1 16 (true) (at1 165 (true) (at1 164 (true) (fun _=>false))),hints:=at1 2 ([.virt 7 10]) (fun _=>[])}
noncomputable def bnBoxes:Code:=bdy Tryz.f166
abbrev ofnBoxes:=@ofC Tryz.prog gnBoxes 166 Tryz.f166 bnBoxes Tryz.func166 zk zk zk zk
noncomputable def gnSet:Ctx:={N:=15,np:=1,own:=at1 166 (true) (fun _=>false)}
noncomputable def bnSet:Code:=bdy Tryz.f87
abbrev ofnSet:=@ofC Tryz.prog gnSet 87 Tryz.f87 bnSet Tryz.func87 zk zk zk zk
noncomputable def gnSpB:Ctx:={N:=35,np:=1,own:=at1 16 (true) (fun _=>false),plan:=at1 5 (some (ln [1,3,5,7,9,11,13,15,17,19,21,23,24,27,29,30])) (fun _=>none)}
noncomputable def bnSpB:Code:=bdy Tryz.f164
abbrev ofnSpB:=@ofC Tryz.prog gnSpB 164 Tryz.f164 bnSpB Tryz.func164 zk zk zk zk
noncomputable def gnSpS:Ctx:={N:=80,np:=1,own:=at1 16 (true) (at1 165 (true) (at1 164 (true) (fun _=>false))),plan:=at1 12 (some (ln [1,3,5,7,9,11,13,15,17,19,21,22,25,26])) (at1 6 (some (ln [1,3,5,9,19,6,11,13,15,17,21,23,24])) (fun _=>none))}
noncomputable def bnSpS:Code:=bdy Tryz.f86
abbrev ofnSpS:=@ofC Tryz.prog gnSpS 86 Tryz.f86 bnSpS Tryz.func86 zk zk zk zk
noncomputable def gnHuB:Ctx:={N:=6}
noncomputable def bnHuB:Code:=bdy Tryz.f31
abbrev ofnHuB:=@ofC Tryz.prog gnHuB 31 Tryz.f31 bnHuB Tryz.func31 zk zk zk zk
noncomputable abbrev celX(b:Bx):List AV:=[.v (.int .u32 b.r0.lo),.v (.int .u32 b.r0.hi),.v (.int .u32 b.r1.lo),.v (.int .u32 b.r1.hi),.v (.int .u32 b.r2.lo),.v (.int .u32 b.r2.hi),.v (.int .u32 b.r3.lo),.v (.int .u32 b.r3.hi),.v (.int .u32 b.r4.lo),.v (.int .u32 b.r4.hi)]
theorem ix_map_any{α:Type}{f:α->AV}{l:List α}{i:Nat}{K:AV->Prop}(h:i<l.length)(hk:∀r,r∈l->K (f r)):Ix (l.map f) i K:=ix_map (aD h) (hk _ (dD h))
theorem cnRange(raw:List Int)(pos:Nat)(top:Int)(t0:0<=top)(t1:top<=4294967295)(hp:pos<=raw.length)(hr:raw.length<=9223372036854775807){K:KT}
  (hK:∀(r:Rg) (pos':Nat),pos'<=raw.length->K (encR r) [tapeO raw pos']):ACall Tryz.prog 106 [.op 0 0,.v (.int .u32 top)] [tapeO raw pos] K:=by
 refine ofnRange rfl rfl ?_
 (repeat' ((conv=>whnf);first|(with_reducible refine cvNum raw _ top t0 t1 zp hr fun a p2 a0 a1 hp2=>?_)|refine zG ?_|apply zA|(apply zI;intro h)|exact zT));(all_goals conv=>whnf)
 all_goals exact hK ⟨_,_,by omega,by omega,by omega,by omega⟩ _ zp
theorem cnAdrs(raw:List Int)(pos:Nat)(hp:pos<=raw.length)(hr:raw.length<=9223372036854775807){K:KT}
  (hK:∀(r:Rg) (pos':Nat),pos'<=raw.length->K (encR r) [tapeO raw pos']):ACall Tryz.prog 245 [.op 0 0] [tapeO raw pos] K:=by
 refine ofnAdrs rfl rfl ?_
 (repeat' ((conv=>whnf);first|(with_reducible first|refine nNext raw _ _ zo zp hr fun m1 p1 hm1 hp1=>?_|refine cnSub _ zo ?_|refine crOf _ ?_|refine cnAddr raw _ zp hr fun a p2 a0 a1 hp2=>?_)|refine zG ?_|apply zA|(apply zI;intro h)|exact zT));(all_goals conv=>whnf)
 all_goals first
  |exact hK _ _ zp
  |exact hK ⟨_,_,by omega,by omega,by omega,by omega⟩ _ zp
  |exact hK ⟨_,_,by decide,by decide,by decide,by decide⟩ _ zp
theorem ix_proU{i:Nat}{K:AV->Prop}(hi:i<6)(hk:∀y:Int,0<=y->y<=4294967295->K (.v (.int .u32 y))):Ix [.v (.int .u32 6),.v (.int .u32 17),.v (.int .u32 1),.v (.int .u32 0),.v (.int .u32 7),.v (.int .u32 255)] i K:=by
 match i,hi with
 |0,_=>exact Ix.intro rfl (hk 6 zd zd)
 |1,_=>exact Ix.intro rfl (hk 17 zd zd)
 |2,_=>exact Ix.intro rfl (hk 1 zd zd)
 |3,_=>exact Ix.intro rfl (hk 0 zd zd)
 |4,_=>exact Ix.intro rfl (hk 7 zd zd)
 |5,_=>exact Ix.intro rfl (hk 255 zd zd)
theorem nN5(raw:List Int)(pos:Nat)(hp:pos<=raw.length)(hr:raw.length<=9223372036854775807){K:KT}
  (h0:∀pos':Nat,pos'<=raw.length->K (.v (.int .i64 0)) [tapeO raw pos'])(h1:∀pos':Nat,pos'<=raw.length->K (.v (.int .i64 1)) [tapeO raw pos'])(h2:∀pos':Nat,pos'<=raw.length->K (.v (.int .i64 2)) [tapeO raw pos'])
  (h3:∀pos':Nat,pos'<=raw.length->K (.v (.int .i64 3)) [tapeO raw pos'])(h4:∀pos':Nat,pos'<=raw.length->K (.v (.int .i64 4)) [tapeO raw pos']):ACall Tryz.prog 16 [.op 0 0,.v (.int .i64 5)] [tapeO raw pos] K:=
 nNext raw pos 5 zd hp hr fun m p' hm hp'=>by
  obtain rfl|rfl|rfl|rfl|rfl:m=0\/m=1\/m=2\/m=3\/m=4:=by omega
  ·exact h0 _ hp'
  ·exact h1 _ hp'
  ·exact h2 _ hp'
  ·exact h3 _ hp'
  ·exact h4 _ hp'
theorem cnBox(raw:List Int)(pos:Nat)(hp:pos<=raw.length)(hr:raw.length<=9223372036854775807){K:KT}
  (hK:∀(b:Bx) (pos':Nat),pos'<=raw.length->K (encX b) [tapeO raw pos']):ACall Tryz.prog 165 [.op 0 0] [tapeO raw pos] K:=by
 refine ofnBox rfl rfl ?_
 (repeat' ((conv=>whnf);first|(with_reducible first|refine nNext raw _ _ zo zp hr fun m1 p1 hm1 hp1=>?_|refine cr3Full ?_)|refine zG ?_|apply zA|(apply zI;intro h)|exact zT));(all_goals conv=>whnf)
 refine Lp.intro (Nat×Nat×Bx) (fun g=>⟨3,[(0,tapeO raw g.1),(1,.box [.v (.int .u32 0),.v (.int .u32 0),.v (.int .u32 0),.v (.int .u32 0),.v (.int .u32 0),.v (.int .u32 0),.v (.int .u32 0),.v (.int .u32 0),.v (.int .u32 0),.v (.int .u32 0)]),(2,.box (celX g.2.2))],[(0,.op 0 0),(2,.op 1 0),(3,.op 2 0),(4,.v (.int .i64 g.2.1))]⟩)
  (fun g=>g.1<=raw.length/\g.2.1<=10) (fun g=>g.2.1) (p1,m1+1,fullB) ⟨by assumption,by simp only;omega⟩ ?_ ?_
 ·rw[show((p1,m1+1,fullB).2.1:Int)=1+(m1:Int)from by simp only;omega]
  (exact leA)
 rintro⟨p2,i,b⟩ ⟨hp2,hi⟩
 simp only at hp2 hi⊢
 rcases aB 0 i with hi0|hi0
 ·obtain⟨i',rfl⟩:∃i',i=i'+1:=⟨i-1,by omega⟩
  have hi1:((i'+1:Nat):Int)-1=(i':Int):=by omega
  (repeat' ((conv=>whnf);first|(with_reducible first|refine wr_i64 hi1 zo zo ?_|refine nNext raw _ _ zo zp hr fun m2 p3 hm2 hp3=>?_|refine in_nat zo ?_)|(refine in_c zd ?_)|(with_reducible first|refine cnAdrs raw _ zp hr fun r p4 hp4=>?_|refine cnRange raw _ 65535 zd zd zp hr fun r p4 hp4=>?_)|(refine ix_proU zo fun y y0 y1=>?_)|refine zG ?_|apply zA|(apply zI;intro h)|exact zT));(all_goals conv=>whnf)
  ·refine⟨(p4,i',⟨r,b.r1,b.r2,b.r3,b.r4⟩),⟨hp4,by simp only;omega⟩,by simp only;omega,?_⟩
   (exact leA)
  ·refine⟨(p4,i',⟨b.r0,r,b.r2,b.r3,b.r4⟩),⟨hp4,by simp only;omega⟩,by simp only;omega,?_⟩
   (exact leA)
  ·refine⟨(p3,i',⟨b.r0,b.r1,⟨y,y,y0,y1,y0,y1⟩,b.r3,b.r4⟩),⟨hp3,by simp only;omega⟩,by simp only;omega,?_⟩
   (exact leA)
  ·refine⟨(p4,i',⟨b.r0,b.r1,b.r2,r,b.r4⟩),⟨hp4,by simp only;omega⟩,by simp only;omega,?_⟩
   (exact leA)
  ·refine⟨(p4,i',⟨b.r0,b.r1,b.r2,b.r3,r⟩),⟨hp4,by simp only;omega⟩,by simp only;omega,?_⟩
   (exact leA)
 ·obtain rfl:i=0:=by omega
  (repeat' ((conv=>whnf);first|refine zG ?_|apply zA|(apply zI;intro h)|exact zT));(all_goals conv=>whnf)
  exact hK b _ hp2
theorem cnSpB(raw:List Int)(pos:Nat)(b:Bx)(hp:pos<=raw.length)(hr:raw.length<=9223372036854775807){K:KT}
  (hK:∀(b:Bx) (pos':Nat),pos'<=raw.length->K (encX b) [tapeO raw pos']):ACall Tryz.prog 164 [.op 0 0,encX b] [tapeO raw pos] K:=by
 have b0:=And.intro (Rg.l0 b.r0) (Rg.l1 b.r0)
 have c0:=And.intro (Rg.h0 b.r0) (Rg.h1 b.r0)
 have b1:=And.intro (Rg.l0 b.r1) (Rg.l1 b.r1)
 have c1:=And.intro (Rg.h0 b.r1) (Rg.h1 b.r1)
 have b2:=And.intro (Rg.l0 b.r2) (Rg.l1 b.r2)
 have c2:=And.intro (Rg.h0 b.r2) (Rg.h1 b.r2)
 have b3:=And.intro (Rg.l0 b.r3) (Rg.l1 b.r3)
 have c3:=And.intro (Rg.h0 b.r3) (Rg.h1 b.r3)
 have b4:=And.intro (Rg.l0 b.r4) (Rg.l1 b.r4)
 have c4:=And.intro (Rg.h0 b.r4) (Rg.h1 b.r4)
 have hq:∀(a0 a1 a2 a3 a4 a5 a6 a7 a8 a9:Int) (p':Nat),(0<=a0/\a0<=4294967295/\0<=a1/\a1<=4294967295/\0<=a2/\a2<=4294967295/\0<=a3/\a3<=4294967295/\0<=a4/\a4<=4294967295/\0<=a5/\a5<=4294967295/\0<=a6/\a6<=4294967295/\0<=a7/\a7<=4294967295/\0<=a8/\a8<=4294967295/\0<=a9/\a9<=4294967295)->p'<=raw.length->
   K (.agg [.v (.int .u32 a0),.v (.int .u32 a1),.v (.int .u32 a2),.v (.int .u32 a3),.v (.int .u32 a4),.v (.int .u32 a5),.v (.int .u32 a6),.v (.int .u32 a7),.v (.int .u32 a8),.v (.int .u32 a9)]) [tapeO raw p']:=fun a0 a1 a2 a3 a4 a5 a6 a7 a8 a9 p' h hp'=>by
  obtain⟨h0,h1,h2,h3,h4,h5,h6,h7,h8,h9,h10,h11,h12,h13,h14,h15,h16,h17,h18,h19⟩:=h
  exact hK ⟨⟨a0,a1,h0,h1,h2,h3⟩,⟨a2,a3,h4,h5,h6,h7⟩,⟨a4,a5,h8,h9,h10,h11⟩,⟨a6,a7,h12,h13,h14,h15⟩,⟨a8,a9,h16,h17,h18,h19⟩⟩ p' hp'
 refine ofnSpB rfl rfl ?_
 (repeat' ((conv=>whnf);first|(refine nN5 raw _ zp hr (fun p1 hp1=>?_) (fun p1 hp1=>?_) (fun p1 hp1=>?_) (fun p1 hp1=>?_) fun p1 hp1=>?_)|(with_reducible refine nNext raw _ _ zo zp hr fun m2 p3 hm2 hp3=>?_)|(refine in_c zd ?_)|refine zG ?_|apply zA|(apply zI;intro h)|exact zT));(all_goals conv=>whnf)
 all_goals
  refine hq _ _ _ _ _ _ _ _ _ _ _ ?_ zp
  omega
theorem cnBoxes(raw:List Int)(pos:Nat)(n:Nat)(hn:n<=100)(hp:pos<=raw.length)(hr:raw.length<=9223372036854775807){K:KT}
  (hK:∀(l:List Bx) (pos':Nat),l.length<=n->pos'<=raw.length->K (encXs l) [tapeO raw pos']):ACall Tryz.prog 166 [.op 0 0,.v (.int .i64 n),.sb false] [tapeO raw pos] K:=by
 refine ofnBoxes rfl rfl ?_
 (repeat' ((conv=>whnf);first|(with_reducible refine nNext raw _ _ zo zp hr fun m1 p1 hm1 hp1=>?_)|refine zG ?_|apply zA|(apply zI;intro h)|exact zT));(all_goals conv=>whnf)
 refine Lp.intro (Nat×Nat×List Bx) (fun g=>⟨2,[(0,tapeO raw g.1),(1,.arr 10 (g.2.2.map encX))],[(0,.op 0 0),(2,.sb false),(7,.os 1 10 0 g.2.2.length),(8,.v (.int .i64 g.2.1))]⟩)
  (fun g=>g.1<=raw.length/\g.2.1+g.2.2.length<=n) (fun g=>g.2.1) (p1,m1,[]) ⟨by assumption,by simp only[aO];omega⟩ ?_ ?_
 ·(exact leA)
 rintro⟨p2,i,l⟩ ⟨hp2,hi⟩
 simp only at hp2 hi⊢
 rcases aB 0 i with hi0|hi0
 ·obtain⟨i',rfl⟩:∃i',i=i'+1:=⟨i-1,by omega⟩
  have hi1:((i'+1:Nat):Int)-1=(i':Int):=by omega
  (repeat' ((conv=>whnf);first|(with_reducible first|refine wr_i64 hi1 zo zo ?_|refine cnBox raw _ zp hr fun b p3 hp3=>?_)|refine zG ?_|apply zA|(apply zI;intro h)|exact zT));(all_goals conv=>whnf)
  refine⟨(p3,i',l++[b]),⟨hp3,by simp only[aC,aJ,aO];omega⟩,by simp only;omega,?_⟩
  simp only[aQ,aC,aU,bF,aJ,aO]
  (exact leA)
 ·obtain rfl:i=0:=by omega
  (repeat' ((conv=>whnf);first|(with_reducible refine sl_full (aA ..) ?_)|refine zG ?_|apply zA|(apply zI;intro h)|exact zT));(all_goals conv=>whnf)
  exact hK l _ zo hp2
noncomputable abbrev encSt(s:ByteArray):AV:=.v (.string s)
theorem ix_baA{s:ByteArray}{j:Nat}{K:UInt8->Prop}(h:j<s.size)(hk:∀b,K b):∃b,s[j]? =some b/\K b:=ix_ba h fun b _=>hk b
theorem cqNum:∀(N n:Nat),n<=N->n<100000->∀{K:KT},(∀s:ByteArray,s.size<=n+1->K (.v (.string s)) [])->ACall Tryz.prog 336 [.v (.int .i64 n)] [] K:=by
 intro N
 induction N with
 |zero=>
  intro n hN hn K hK
  refine ofq1Num rfl rfl ?_
  (repeat' ((conv=>whnf);first|(with_reducible refine wr_any fun r=>?_)|(refine sl_full (by rfl) ?_)|refine zG ?_|apply zA|(apply zI;intro h)|exact zT));(all_goals conv=>whnf)
  all_goals first
   |exact hK _ (by rw[strOfNums_size];simp)
   |(exfalso;omega)
 |succ N ih=>
  intro n hN hn K hK
  have hq:(n:Int).tdiv 10=((n/10:Nat):Int):=by rw[cY zo];omega
  refine ofq1Num rfl rfl ?_
  by_cases h10:n<10
  ·(repeat' ((conv=>whnf);first|(with_reducible refine wr_any fun r=>?_)|(refine sl_full (by rfl) ?_)|refine zG ?_|apply zA|(apply zI;intro h)|exact zT));(all_goals conv=>whnf)
   all_goals first
    |exact hK _ (by rw[strOfNums_size];simp)
    |(exfalso;omega)
  ·have hrec:∀{K:KT},(∀s:ByteArray,s.size<=n/10+1->K (.v (.string s)) [])->ACall Tryz.prog 336 [.v (.int .i64 ((n/10:Nat):Int))] [] K:=fun h=>ih (n/10) zo zo h
   (repeat' ((conv=>whnf);first|(with_reducible first|refine Ob.intro zd ?_|refine wr_i64 hq zo zo ?_|refine hrec fun s hs=>?_|refine wr_any fun r=>?_)|(refine sl_full (by rfl) ?_)|(with_reducible refine Ob.intro (by rw[strOfNums_size];simp only[aJ,aO];omega) ?_)|refine zG ?_|apply zA|(apply zI;intro h)|exact zT));(all_goals conv=>whnf)
   all_goals first
    |(exfalso;omega)
    |exact hK _ (by rw[ByteArray.size_append,strOfNums_size];simp only[aJ,aO];omega)
theorem cqPad(n:Nat)(hn:n<100000){K:KT}(hK:∀s:ByteArray,s.size<=n+2->K (.v (.string s)) []):ACall Tryz.prog 323 [.v (.int .i64 n)] [] K:=by
 have z1:(⟨#[48]⟩:ByteArray).size=1:=rfl
 refine ofq9Pad rfl rfl ?_
 (repeat' ((conv=>whnf);first|(with_reducible first|refine cqNum n n (aM _) hn fun s hs=>?_|refine Ob.intro zo ?_)|refine zG ?_|apply zA|(apply zI;intro h)|exact zT));(all_goals conv=>whnf)
 all_goals first
  |exact hK _ zo
  |exact hK _ (by rw[ByteArray.size_append];omega)
theorem cqText(n:Nat)(hn:n<100000){K:KT}(hK:∀s:ByteArray,s.size<=2*n+10->K (.v (.string s)) []):ACall Tryz.prog 283 [.v (.int .i64 n)] [] K:=by
 have hq:(n:Int).tdiv 60=((n/60:Nat):Int):=by rw[cY zo];omega
 have hm:(n:Int).tmod 60=((n%60:Nat):Int):=by rw[fL zo];omega
 have z1:(⟨#[58]⟩:ByteArray).size=1:=rfl
 have hP:∀{K:KT},(∀s:ByteArray,s.size<=n%60+2->K (.v (.string s)) [])->ACall Tryz.prog 323 [.v (.int .i64 ((n:Int).tmod 60))] [] K:=fun h=>by rw[hm];exact cqPad (n%60) zo h
 refine ofq9Text rfl rfl ?_
 (repeat' ((conv=>whnf);first|(with_reducible first|refine Ob.intro zd ?_|refine wr_i64 hq zo zo ?_|refine wr_i64 hm zo zo ?_|refine cqPad (n/60) zo fun s hs=>?_|refine hP fun u hu=>?_|refine Ob.intro (by(try simp only[ByteArray.size_append]);omega) ?_)|refine zG ?_|apply zA|(apply zI;intro h)|exact zT));(all_goals conv=>whnf)
 all_goals first
  |exact hK _ (by simp only[ByteArray.size_append];omega)
def dayL:List ByteArray:=[⟨#[109,111,110]⟩,⟨#[116,117,101]⟩,⟨#[119,101,100]⟩,⟨#[116,104,117]⟩,⟨#[102,114,105]⟩,⟨#[115,97,116]⟩,⟨#[115,117,110]⟩]
theorem cqDays{K:KT}(hK:K (.lst (dayL.map encSt)) []):ACall Tryz.prog 282 [] [] K:=by
 refine ofq9Days rfl rfl ?_
 (repeat' ((conv=>whnf);first|(refine sl_full (by rfl) ?_)|refine zG ?_|apply zA|(apply zI;intro h)|exact zT));(all_goals conv=>whnf)
 exact hK
theorem cqTwo(s:ByteArray){K:KT}(hK:∀r:Int,K (.v (.int .i64 r)) []):ACall Tryz.prog 334 [.v (.string s)] [] K:=by
 refine ofq9Two rfl rfl ?_
 (repeat' ((conv=>whnf);first|(refine In.intro 0 rfl zo ?_)|(refine In.intro 1 rfl zo ?_)|(with_reducible first|refine ix_baA zo fun b=>?_|refine wr_any fun r=>?_)|refine zG ?_|apply zA|(apply zI;intro h)|exact zT));(all_goals conv=>whnf)
 all_goals first
  |exact hK _
theorem cqClock(s:ByteArray){K:KT}(hK:∀r:Int,-1<=r->r<=1440->K (.v (.int .i64 r)) []):ACall Tryz.prog 317 [.v (.string s)] [] K:=by
 refine ofq9Clock rfl rfl ?_
 (repeat' ((conv=>whnf);first|(refine In.intro 2 rfl zo ?_)|(with_reducible first|refine ix_baA zo fun b=>?_|refine Sb.intro 0 2 rfl rfl zo zo ?_|refine Sb.intro 3 s.size rfl rfl zo zo ?_|refine cqTwo _ fun r=>?_|refine wr_i64 rfl zo zo ?_)|refine zG ?_|apply zA|(apply zI;intro h)|exact zT));(all_goals conv=>whnf)
 all_goals first
  |exact hK _ zo zo
theorem cqParts(s:ByteArray)(c:Int)(hs:s.size<=1000){K:KT}(hK:∀l:List ByteArray,l≠[]->l.length<=2000->K (.lst (l.map encSt)) []):ACall Tryz.prog 315 [.v (.string s),.v (.int .u8 c)] [] K:=by
 refine ofq1Parts rfl rfl ?_
 (repeat' ((conv=>whnf);first|refine zG ?_|apply zA|(apply zI;intro h)|exact zT));(all_goals conv=>whnf)
 refine Lp.intro (List ByteArray×Nat×Nat) (fun g=>⟨1,[(0,.arr 1 (g.1.map encSt))],[(0,.v (.string s)),(1,.v (.int .u8 c)),(5,.os 0 1 0 g.1.length),(6,.v (.int .i64 g.2.1)),(7,.v (.int .i64 g.2.2))]⟩)
  (fun g=>g.2.2<=s.size+1/\g.2.1<=g.2.2/\g.1.length<=g.2.2/\(g.2.2=s.size+1->g.1≠[])) (fun g=>s.size+1-g.2.2) ([],0,0) ⟨by simp only;omega,aM _,aM _,fun h=>by simp only at h;omega⟩ ?_ ?_
 ·(exact leA)
 rintro⟨l,a,i⟩ ⟨h1,h2,h3,h4⟩
 simp only at h1 h2 h3 h4⊢
 rcases aB i (s.size+1)with hl|hl
 ·(repeat' ((conv=>whnf);first|(with_reducible first|refine in_nat zo ?_|refine ix_baA zo fun b=>?_|refine Sb.intro a i rfl rfl zo zo ?_)|refine zG ?_|apply zA|(apply zI;intro h)|exact zT));(all_goals conv=>whnf)
  all_goals first
   |(refine⟨(l,a,i+1),⟨by simp only;omega,by simp only;omega,by simp only;omega,fun h=>by simp only at h;omega⟩,by simp only;omega,?_⟩
     rw[show(((l,a,i+1):List ByteArray×Nat×Nat).2.2:Int)=(i:Int)+1 from by simp only;omega]
     (exact leA)
     done)
   |(refine⟨(l++[s.extract a i],i+1,i+1),⟨by simp only;omega,by simp only;omega,by simp only[aC,aJ,aO];omega,fun h=>by simp⟩,by simp only;omega,?_⟩
     simp only[aQ,aC,aU,bF,aJ,aO,aN,aL]
     (exact leA)
     done)
   |(exfalso;omega)
 ·(repeat' ((conv=>whnf);first|(with_reducible refine sl_full (aA ..) ?_)|refine zG ?_|apply zA|(apply zI;intro h)|exact zT));(all_goals conv=>whnf)
  exact hK l (h4 zo) zo
theorem cqWin(l:List Rg)(hl:l.length<100000){K:KT}(hK:∀s,(s=true↔Canon l/\∀r,r∈l->r.hi<=10079)->K (.sb s) []):ACall Tryz.prog 215 [encRs l] [] K:=by
 refine ofq9Win rfl rfl ?_
 (repeat' ((conv=>whnf);first|(with_reducible refine c33 l 10079 hl fun s hs=>?_)|refine zG ?_|apply zA|(apply zI;intro h)|exact zT));(all_goals conv=>whnf)
 exact hK _ hs
theorem canon_le{l:List Rg}(h:Canon l){r:Rg}(hr:r∈l):r.lo<=r.hi:=h.1 r hr
theorem cqForm(l:List Rg)(hl:l.length<=4000){K:KT}(hK:∀ss:List ByteArray,K (.lst (ss.map encSt)) []):ACall Tryz.prog 216 [encRs l] [] K:=by
 refine ACall.weak (ofq9Form rfl rfl ?_)
 (repeat' ((conv=>whnf);first|(with_reducible refine cqWin l zo fun s hs=>?_)|(refine sl_full (by rfl) ?_)|refine zG ?_|apply zA|(apply zI;intro h)|exact zT));(all_goals conv=>whnf)
 all_goals first
  |exact⟨_,Weak.nils,hK []⟩
  |exact⟨_,Weak.refl,hK [⟨#[110,101,118,101,114]⟩]⟩
  |skip
 refine Lp.intro (Nat×List ByteArray) (fun g=>⟨1,[(0,.arr 1 (g.2.map encSt))],[(0,encRs l),(3,.os 0 1 0 g.2.length),(4,.v (.int .i64 g.1))]⟩)
  (fun g=>g.1<=7/\g.2.length<=40000*g.1) (fun g=>7-g.1) (0,[]) ⟨aH _,aH _⟩ ?_ ?_
 ·(exact leA)
 rintro⟨d,ss⟩ ⟨hd,hss⟩
 simp only at hd hss⊢
 rcases aB d 7 with hd7|hd7
 ·have hint:∀{K:KT},(∀out,Canon out->(∀v,has out v=(has l v&&has [mkR (1440*d) (1440*d+1439)] v))->out.length<=2*(l.length+1)+1->K (encRs out) [])->ACall Tryz.prog 281 [encRs l,.lst [encR (mkR (1440*d) (1440*d+1439))]] [] K:=fun h=>c26 l [mkR (1440*d) (1440*d+1439)] zo zx h
  have m1:(mkR (1440*(d:Int)) (1440*d+1439)).lo=1440*d:=mkR_lo zo zo zo zo
  have m2:(mkR (1440*(d:Int)) (1440*d+1439)).hi=1440*d+1439:=mkR_hi zo zo zo zo
  have hint2:∀{K:KT},(∀out,Canon out->(∀v,has out v=(has l v&&has [mkR (1440*d) (1440*d+1439)] v))->out.length<=2*(l.length+1)+1->K (encRs out) [])->ACall Tryz.prog 281 [encRs l,.lst [.agg [.v (.int .u32 (1440*d)),.v (.int .u32 (1440*d+1439))]]] [] K:=fun h=>by
   have:=hint h
   simp only[encR,m1,m2]at this
   exact this
  (repeat' ((conv=>whnf);first|(with_reducible first|refine wr_i64 rfl zo zo ?_|refine wr_u32 rfl zo zo ?_)|(refine sl_full (by rfl) ?_)|(with_reducible refine hint2 fun out ho hh hn=>?_)|refine zG ?_|apply zA|(apply zI;intro h)|exact zT));(all_goals conv=>whnf)
  refine Lp.intro (Nat×List ByteArray) (fun g=>⟨1,[(0,.arr 1 (g.2.map encSt))],[(0,encRs l),(3,.os 0 1 0 g.2.length),(4,.v (.int .i64 d)),(5,.v (.int .u32 (1440*d))),(6,encRs out),(7,.v (.int .i64 g.1))]⟩)
   (fun g=>g.1<=out.length/\g.2.length<=ss.length+3*g.1) (fun g=>out.length-g.1) (0,ss) ⟨aH _,by simp only;omega⟩ ?_ ?_
  ·(exact leA)
  rintro⟨i,st⟩ ⟨hi,hst⟩
  simp only at hi hst⊢
  rcases aB i out.length with hil|hil
  ·obtain⟨r,hr⟩:=gex hil
   have hrm:=aF hr
   have hle:=canon_le ho hrm
   have hb:∀v,r.lo<=v->v<=r.hi->1440*(d:Int)<=v/\v<=1440*d+1439:=fun v h1 h2=>by
    have h3:has out v=true:=has_iff.2 ⟨r,hrm,h1,h2⟩
    rw[hh]at h3
    simp only[aI]at h3
    obtain⟨q,hq,q1,q2⟩:=has_iff.1 h3.2
    simp only[aR]at hq
    subst hq
    rw[m1]at q1;rw[m2]at q2
    exact⟨q1,q2⟩
   have hb1:=hb r.lo (cF _) hle
   have hb2:=hb r.hi hle (cF _)
   have hT:∀(v:Int),0<=v->v<=2000->∀{K:KT},(∀s:ByteArray,s.size<=10000->K (.v (.string s)) [])->ACall Tryz.prog 283 [.v (.int .i64 v)] [] K:=fun v v0 v1 K h=>by
    obtain⟨n,rfl⟩:=cP v0
    exact cqText n zo fun s hs=>h s zo
   (repeat' ((conv=>whnf);first|refine zG ?_|apply zA|(apply zI;intro h)|exact zT));(all_goals conv=>whnf)
   refine Jn.intro (List ByteArray) (fun g=>⟨1,[(0,.arr 1 (g.map encSt))],[(0,encRs l),(3,.os 0 1 0 g.length),(4,.v (.int .i64 d)),(5,.v (.int .u32 (1440*d))),(6,encRs out),(7,.v (.int .i64 i))]⟩) (fun g=>g.length<=st.length+1) ?_ ?_
   ·(repeat' ((conv=>whnf);first|refine zG ?_|apply zA|(apply zI;intro h)|exact zT));(all_goals conv=>whnf)
    ·refine⟨st++[⟨#[44]⟩],by simp,?_⟩
     simp only[aQ,aC,aU,bF,aJ,aO]
     (exact leA)
    ·refine⟨st,by omega,?_⟩
     (exact leA)
   intro su hsu
   have z1:(⟨#[45]⟩:ByteArray).size=1:=rfl
   have hd0:d<dayL.length:=hd7
   (repeat' ((conv=>whnf);first|(with_reducible first|refine cqDays ?_|refine in_map hd0 ?_|refine ix_map_any hd0 fun c hc=>?_|refine in_map hil ?_|refine ix_map hr ?_|refine wr_u32 rfl zo zo ?_|refine wr_i64 rfl zo zo ?_|refine hT _ zo zo fun s hs=>?_|refine Ob.intro (by(try simp only[ByteArray.size_append]);omega) ?_)|refine zG ?_|apply zA|(apply zI;intro h)|exact zT));(all_goals conv=>whnf)
   rename_i q1 q2 q3 sA hsA
   refine⟨(i+1,su++[c,sA++⟨#[45]⟩++s]),⟨by simp only;omega,by simp only[aC,aJ,aO];omega⟩,by simp only;omega,?_⟩
   simp only[aQ,aC,aU,bF,aJ,aO,aN,aL]
   (exact leA)
  ·(repeat' ((conv=>whnf);first|refine zG ?_|apply zA|(apply zI;intro h)|exact zT));(all_goals conv=>whnf)
   refine⟨(d+1,st),⟨by simp only;omega,by simp only;omega⟩,by simp only;omega,?_⟩
   rw[show(((d+1,st):Nat×List ByteArray).1:Int)=(d:Int)+1 from by simp only;omega]
   (exact leA)
 ·(repeat' ((conv=>whnf);first|(with_reducible refine sl_full (aA ..) ?_)|refine zG ?_|apply zA|(apply zI;intro h)|exact zT));(all_goals conv=>whnf)
  exact⟨_,Weak.refl,hK ss⟩
def winL:List ByteArray:=[⟨#[109,111,110]⟩,⟨#[116,117,101]⟩,⟨#[115,117,110]⟩,⟨#[109,111,110,45,102,114,105]⟩,⟨#[115,97,116,45,115,117,110]⟩,⟨#[119,101,100,45,119,101,100]⟩]
def houL:List ByteArray:=[⟨#[48,48,58,48,48,45,50,52,58,48,48]⟩,⟨#[48,56,58,48,48,45,49,55,58,48,48]⟩,⟨#[48,56,58,48,48,45,48,56,58,48,49]⟩,⟨#[50,51,58,53,57,45,50,52,58,48,48]⟩,⟨#[49,55,58,48,48,45,49,56,58,51,48]⟩]
open Classical in
noncomputable def canO(f:Int->Bool):List Rg:=if h:∃l,Canon l/\∀v,has l v=f v then h.choose else []
theorem canO_eq{f:Int->Bool}{l:List Rg}(hc:Canon l)(hf:∀v,has l v=f v):canO f=l:=by
 have h:∃l,Canon l/\∀v,has l v=f v:=⟨l,hc,hf⟩
 rw[canO,dif_pos h]
 obtain⟨h1,h2⟩:=h.choose_spec
 exact canon_ext h1 hc fun v=>by rw[h2,hf]
theorem canO_spec{f:Int->Bool}(h:∃l,Canon l/\∀v,has l v=f v):Canon (canO f)/\∀v,has (canO f) v=f v:=by
 obtain⟨l,h1,h2⟩:=h
 rw[canO_eq h1 h2]
 exact⟨h1,h2⟩
theorem sub_ex(a b:List Rg):∃l,Canon l/\∀v,has l v=(has a v&& !has b v):=by
 have inv:=starts_inv (a++b) (top:=4294967295) zd
 obtain⟨r0,hr0⟩:=inv.zero
 have hseg:∀s,s∈segs 4294967295 (starts (a++b) 4294967295)->∀v,s.1<=v->v<=s.2->(fun v=>has a v&& !has b v) v=(fun v=>has a v&& !has b v) s.1:=by
  intro s hs v h1 h2
  simp only
  rw[has_const zd (fun r hr=>aS.2 (.inl hr)) hs h1 h2,has_const zd (fun r hr=>aS.2 (.inr hr)) hs h1 h2]
 have hsort:=inv.sorted
 have hrange:=inv.range
 rw[hr0]at hseg hsort hrange
 have hk:=fold_inv (f:=fun v=>has a v&& !has b v) (top:=4294967295) zd r0 0 [] ⟨⟨fun r hr=>by simp at hr,by simp⟩,fun v=>by
  rw[bG]
  simp only[has,List.any_nil,cM,aI,aK,false_iff]
  omega,fun r hr=>by simp at hr⟩ hsort hrange hseg
 refine⟨_,hk.canon,fun v=>?_⟩
 rw[hk.mem]
 cases h:(has a v&& !has b v)with
 |false=>simp
 |true=>
  simp only[aI]at h
  obtain⟨r,hr,h1,h2⟩:=has_iff.1 h.1
  have:=r.l0;have:=r.h1
  simp only[Bool.and_true,aI,aK]
  omega
def itsN(l:List Df):Nat:=(l.map fun d=>d.items.length).sum
theorem canon_len{c rs:List Rg}(hc:Canon c)(h:∀v,has c v=has rs v):c.length<=rs.length:=by
 have hn:(c.map fun r=>r.lo).Nodup:=by
  unfold List.Nodup
  rw[fA]
  refine List.Pairwise.imp_of_mem ?_ hc.2
  intro a b ha _ hab e
  have:=hc.1 a ha;omega
 have:=nodup_sub hn (m:=rs.map fun r=>r.lo) fun x hx=>by
  obtain⟨r,hr,rfl⟩:=bU.1 hx
  have hle:=hc.1 r hr
  have h1:has rs r.lo=true:=by rw[<-h];exact has_iff.2 ⟨r,hr,cF _,hle⟩
  obtain⟨s,hs,s1,s2⟩:=has_iff.1 h1
  refine bU.2 ⟨s,hs,?_⟩
  rcases eO s.lo r.lo with hlt|hge
  ·exfalso
   have h2:has c (r.lo-1)=true:=by rw[h];exact has_iff.2 ⟨s,hs,by omega,by omega⟩
   obtain⟨q,hq,q1,q2⟩:=has_iff.1 h2
   obtain⟨i,hi,rfl⟩:=List.mem_iff_getElem.1 hr
   obtain⟨j,hj,rfl⟩:=List.mem_iff_getElem.1 hq
   have hp:=cO.1 hc.2
   rcases Nat.lt_trichotomy i j with hij|hij|hij
   ·have:=hp i j hi hj hij;omega
   ·subst hij;omega
   ·have:=hp j i hj hi hij;omega
  ·omega
 simpa using this
theorem canO_len(rs:List Rg):(canO (has rs)).length<=rs.length:=by
 obtain⟨c,hc,hh⟩:=sub_ex rs []
 have hh':∀v,has c v=has rs v:=fun v=>by rw[hh,has_nil];simp
 rw[canO_eq hc hh']
 exact canon_len hc hh'
def prB(p:Int)(r:Rg):Bool:=if p=6\/p=17 then decide (r.lo<=r.hi/\r.hi<=65535)else if p=1 then decide (r.lo=8/\r.hi=8)else decide (0<=p/\p<=255/\r.lo=0/\r.hi=0)
def itN(x:It):Bool:=decide (x.pf.addr=0/\x.pf.bits=0/\x.proto=0/\x.ports.lo=0/\x.ports.hi=0)
def itP(x:It):Bool:=sEq x.name ⟨#[]⟩&&decide (x.proto=0/\x.ports.lo=0/\x.ports.hi=0)
def itS(x:It):Bool:=sEq x.name ⟨#[]⟩&&decide (x.pf.addr=0/\x.pf.bits=0)
noncomputable def itB(x:It)(g:Bool):Bool:=
 if x.kind=3 then nameB x.name&&itN x
 else if x.kind=1 then g&&(nameB x.name&&itN x)
 else if x.kind=2 then g&&(decide x.pf.okP&&itP x)
 else if x.kind=4 then !g&&(prB x.proto x.ports&&itS x)else false
def dfIx(l:List Df)(s:ByteArray):Int:=firstIx (fun d=>sEq d.name s) l
structure DfOk (l:List Df) (g:Bool) (i:Nat) (d:Df):Prop where
 name:nameB d.name=true
 first:dfIx l d.name=i
 lo:1<=d.items.length
 hi:d.items.length<=16
 all:∀x,x∈d.items->itB x g=true
structure DfsOk (l:List Df) (g:Bool):Prop where
 len:l.length<=32
 all:∀(i:Nat) d,l[i]? =some d->DfOk l g i d
noncomputable def dayW(l:List Rg)(d:Nat):List Rg:=canO fun v=>has l v&&(decide (1440*(d:Int)<=v)&&decide (v<=1440*(d:Int)+1439))
noncomputable def cntW(l:List Rg)(k:Nat):Nat:=((List.range k).map fun d=>(dayW l d).length).sum
theorem cntW_succ(l:List Rg)(k:Nat):cntW l (k+1)=cntW l k+(dayW l k).length:=by
 rw[cntW,List.range_succ,aQ,List.sum_append,<-cntW];simp
structure WinOk (l:List Rg):Prop where
 can:Canon l
 top:∀r,r∈l->r.hi<=10079
 few:cntW l 7<=16
def wnIx(l:List Wn)(s:ByteArray):Int:=firstIx (fun d=>sEq d.name s) l
structure WnOk (l:List Wn) (i:Nat) (w:Wn):Prop where
 name:nameB w.name=true
 first:wnIx l w.name=i
 act:WinOk w.act
noncomputable def optB(s:ByteArray):Bool:=sEq s ⟨#[]⟩||nameB s
noncomputable def smB(x:Sm):Bool:=
 (optB x.frm&&(optB x.to&&(optB x.svc&&(optB x.cls&&(optB x.dur&&(optB x.exF&&optB x.exT))))))&&
 ((x.exc||(sEq x.exF ⟨#[]⟩&&sEq x.exT ⟨#[]⟩))&&((x.permit||sEq x.cls ⟨#[]⟩)&&(decide (0<=x.pri)&&decide (x.pri<=1000))))
def ptB(n:Int):Bool:=decide (0<=n)&&decide (n<=65535)
noncomputable def pbB(x:Pb):Bool:=(decide (x.proto=6)||decide (x.proto=17))&&(ptB x.port&&(ptB x.rport&&nameB x.edge))
noncomputable def hnB(x:Hn):Bool:=nameB x.grp&&(nameB x.edge&&decide (1024<=x.ports.lo/\x.ports.lo<=x.ports.hi/\x.ports.hi<=65535))
structure NtOk (i:Nt):Prop where
 g:DfsOk i.grps true
 s:DfsOk i.svcs false
 wl:i.wins.length<=32
 tl:i.sts.length<=64
 pl:i.pubs.length<=16
 hl:i.hids.length<=8
 w:∀(k:Nat) x,i.wins[k]? =some x->WnOk i.wins k x
 t:∀x,x∈i.sts->smB x=true
 p:∀x,x∈i.pubs->pbB x=true
 h:∀x,x∈i.hids->hnB x=true
open Classical in
noncomputable def dfsB(l:List Df)(g:Bool):Bool:=decide (DfsOk l g)
theorem dfsB_iff{l:List Df}{g:Bool}:dfsB l g=true↔DfsOk l g:=by simp[dfsB]
theorem dfsB_true{l:List Df}{g:Bool}(h:DfsOk l g):dfsB l g=true:=dfsB_iff.2 h
theorem dfsB_false{l:List Df}{g:Bool}(h:¬DfsOk l g):dfsB l g=false:=by rw[cA,ne_eq,dfsB_iff];exact h
open Classical in
noncomputable def winB(l:List Rg):Bool:=decide (WinOk l)
theorem winB_iff{l:List Rg}:winB l=true↔WinOk l:=by simp[winB]
open Classical in
noncomputable def ntB(i:Nt):Bool:=decide (NtOk i)
theorem ntB_iff{i:Nt}:ntB i=true↔NtOk i:=by simp[ntB]
theorem ntB_true{i:Nt}(h:NtOk i):ntB i=true:=ntB_iff.2 h
theorem ntB_false{i:Nt}(h:¬NtOk i):ntB i=false:=by rw[cA,ne_eq,ntB_iff];exact h
theorem dayW_eq{l out:List Rg}{d:Nat}(hc:Canon out)(hh:∀v,has out v=(has l v&&(decide (1440*(d:Int)<=v)&&decide (v<=1440*(d:Int)+1439)))):dayW l d=out:=canO_eq hc hh
theorem le_sum_nat{α:Type}{f:α->Nat}{l:List α}{x:α}(h:x∈l):f x<=(l.map f).sum:=by
 induction l with
 |nil=>simp at h
 |cons e l ih=>
  simp only[aU,dF]
  rcases aW.1 h with h|h
  ·subst h;omega
  ·have:=ih h;omega
def setF(p:Nat->Int)(f:Nat)(v:Int):Nat->Int:=fun g=>if g=f then v else p g
end Go.Proofs.YtbdikofefjljoaaGreatDoor
