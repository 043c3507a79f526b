/- Policies step by step, in plain Lean: what is joined out of parts of the rest is a valid policy. -/
import Derived.Test.YtbdikofefjljoaaGreatDoorProg
import Derived.Test.YtbdikofefjljoaaGreatDoorJ15
set_option linter.unusedVariables false
set_option linter.unusedSimpArgs false
set_option maxRecDepth 100000
set_option maxHeartbeats 4000000
namespace Go.Proofs.YtbdikofefjljoaaGreatDoor
open Go Go.Vm
theorem cano_ext2(op op':Bool->Bool->Bool):∀(k:Nat) (a b a' b':List Bx),k<=5->(∀p,InP p->op (memK p k a) (memK p k b)=op' (memK p k a') (memK p k b'))->cano op k a b=cano op' k a' b'
 |0,a,b,a',b',_,h=>by
  have h1:=h _ inP_zero
  rw[memK_zero,memK_zero,memK_zero,memK_zero]at h1
  rw[cano,cano,h1]
 |k+1,a,b,a',b',hk,h=>by
  have g:=cano_ginv op k a b (starts_cuts _ (topF_pos (4-k)).1)
  have g':=cano_ginv op' k a' b' (starts_cuts _ (topF_pos (4-k)).1)
  have part:∀v,0<=v->v<topF (4-k)+1->∀p,InP p->op (memK p k (atF (4-k) v a)) (memK p k (atF (4-k) v b))=op' (memK p k (atF (4-k) v a')) (memK p k (atF (4-k) v b')):=by
   intro v v0 v1 p hp
   have hq:InP (fun f=>if f=4-k then v else p f):=fun f=>by
    by_cases e:f=4-k
    ·simp only[e,if_true];omega
    ·simp only[e,if_false];exact hp f
   have h:=h _ hq
   rw[memK_succ,memK_succ,memK_succ,memK_succ,aH rfl]at h
   have e:∀c:List Bx,memK p k (atF (4-k) v c)=memK (fun f=>if f=4-k then v else p f) k (atF (4-k) v c):=fun c=>memK_congr zo fun f hf h5=>by rw[aE zo]
   rw[e,e,e,e,h]
  have hR:∀v,0<=v->v<topF (4-k)+1->restAt op k a b v=restAt op' k a' b' v:=fun v v0 v1=>
   cano_ext2 op op' k _ _ _ _ zo (part v v0 v1)
  rw[cano_succ,cano_succ,(g.congr hR).same g']
theorem memK_nil{p:Nat->Int}{k:Nat}:memK p k []=false:=rfl
theorem cano_same(op:Bool->Bool->Bool)(a b:List Bx):cano orB 5 (cano op 5 a b) []=cano op 5 a b:=
 cano_ext2 orB op 5 _ _ _ _ (aJ _) fun p hp=>by rw[cano_mem op hp 5 a b (aJ _),memK_nil,orB,eK]
theorem okL_bx{l:List Bx}(h:okL l):∀x,x∈l->x.ok:=fun x hx=>⟨h x hx 0 zo,h x hx 1 zo,h x hx 2 zo,h x hx 3 zo,h x hx 4 zo⟩
theorem vld_all{l:List Bx}(h:okL l):vldB l=l:=eQ.2 fun x hx=>by simpa using okL_bx h x hx
theorem setB_cano{op:Bool->Bool->Bool}{a b:List Bx}(h:(cano op 5 a b).length<=4096):setB (cano op 5 a b)=true:=by
 have ho:=okL_cano op a b
 unfold setB
 rw[vld_all ho]
 simp only[aF,aI,true_and]
 refine⟨h,(canB_iff 5 _ (aJ _) (fun x hx f hf _=>ho x hx f hf) zo).2 ?_⟩
 rw[cano_same]
 exact((dU fun x _=>zeroTo_five x).trans (List.map_id _)).symm
theorem setB_nil:setB []=true:=by decide+kernel
theorem setB_lim(op:Bool->Bool->Bool)(a b:List Bx):setB (limP (cano op 5 a b))=true:=by
 unfold limP;split
 ·exact setB_nil
 ·exact setB_cano zo
theorem setB_makeGo:∀(l s:List Bx),setB s=true->setB (makeGo s l).1=true
 |[],s,h=>h
 |b::l,s,h=>by
  rw[makeGo]
  split
  ·split
   ·exact setB_nil
   ·exact setB_makeGo l _ (setB_cano (by unfold addO at*;omega))
  ·exact setB_makeGo l s h
theorem setB_makeP(l:List Bx):setB (makeP l).1=true:=setB_makeGo l [] setB_nil
theorem setB_combP(op:Bool->Bool->Bool)(a b:List Bx):setB (combP op a b).1=true:=by
 unfold combP;split
 ·exact setB_nil
 ·split
  ·exact setB_nil
  ·exact setB_lim ..
theorem combP_mem{op:Bool->Bool->Bool}{a b:List Bx}(ha:setB a=true)(hb:setB b=true)(he:(combP op a b).2=0){p:Nat->Int}(hp:InP p):memK p 5 (combP op a b).1=op (memK p 5 a) (memK p 5 b):=by
 rw[combP_set ha hb]at he⊢
 simp only at he⊢
 have:(cano op 5 a b).length<=4096:=by
  have:=mt limE_ne.2 (fun h=>h he);omega
 rw[limP,aE zo,cano_mem op hp 5 a b (aJ _)]
theorem combP_sub{op:Bool->Bool->Bool}{a b:List Bx}(ha:setB a=true)(hb:setB b=true){p:Nat->Int}(hp:InP p)(h:memK p 5 (combP op a b).1=true):op (memK p 5 a) (memK p 5 b)=true:=by
 rw[combP_set ha hb]at h
 simp only[limP]at h
 split at h
 ·rw[memK_nil]at h;cases h
 ·rwa[cano_mem op hp 5 a b (aJ _)]at h
theorem vldB_cons(b:Bx)(l:List Bx):vldB (b::l)=if b.ok then b::vldB l else vldB l:=by
 unfold vldB
 by_cases h:b.ok
 ·rw[List.filter_cons_of_pos (by simpa using h),aH h]
 ·rw[List.filter_cons_of_neg (by simpa using h),aE h]
theorem makeGo_mem{p:Nat->Int}(hp:InP p):∀(l s:List Bx),memK p 5 (makeGo s l).1=true->memK p 5 s=true\/memK p 5 (vldB l)=true
 |[],s,h=>.inl h
 |b::l,s,h=>by
  rw[makeGo]at h
  rw[vldB_cons]
  have hb:memK p 5 (b::vldB l)=(inK p 5 b||memK p 5 (vldB l)):=rfl
  split at h
  ·rename_i ho
   rw[aH ho]
   split at h
   ·rw[memK_nil]at h;cases h
   ·rcases makeGo_mem hp l _ h with h1|h1
    ·rw[addO,cano_mem orB hp 5 _ _ (aJ _)]at h1
     have e:memK p 5 [b]=inK p 5 b:=by simp[memK]
     rw[e]at h1
     simp only[orB,bS]at h1
     rcases h1 with h1|h1
     ·exact .inl h1
     ·exact .inr (by rw[hb,h1];rfl)
    ·exact .inr (by rw[hb,h1,Bool.or_true])
  ·rename_i ho
   rw[aE ho]
   exact makeGo_mem hp l _ h
theorem makeP_mem{p:Nat->Int}(hp:InP p){l:List Bx}(h:memK p 5 (makeP l).1=true):memK p 5 (vldB l)=true:=by
 rcases makeGo_mem hp l [] h with h1|h1
 ·rw[memK_nil]at h1;cases h1
 ·exact h1
theorem subB_of{a b:List Bx}(ha:okL a)(h:∀p,InP p->memK p 5 a=true->memK p 5 (vldB b)=true):subB a b=true:=by
 unfold subB
 rw[vld_all ha,(cano_sub a (vldB b)).2 h];rfl
/-! texts in their order -/
def ltS(s t:ByteArray):Bool:=Op.bytesLess s.toList t.toList
theorem bl_asymm:∀(a b:List UInt8),Op.bytesLess a b=true->Op.bytesLess b a=false/\(b==a)=false
 |_,[],h=>by simp[Op.bytesLess]at h
 |[],b::y,_=>by simp[Op.bytesLess]
 |a::x,b::y,h=>by
  simp only[Op.bytesLess,bS,aF,aI,beq_iff_eq]at h
  rcases h with h|⟨rfl,h⟩
  ·have h2:¬b<a:=fun h'=>absurd (UInt8.lt_trans h h') (UInt8.lt_irrefl _)
   have h3:b≠a:=fun e=>by subst e;exact UInt8.lt_irrefl _ h
   simp[Op.bytesLess,h2,h3]
  ·obtain⟨h1,h2⟩:=bl_asymm x y h
   simp only[beq_eq_false_iff_ne,ne_eq]at h2
   simp[Op.bytesLess,h1,h2,UInt8.lt_irrefl]
theorem bl_trans:∀(a b c:List UInt8),Op.bytesLess a b=true->Op.bytesLess b c=true->Op.bytesLess a c=true
 |_,_,[],_,h=>by simp[Op.bytesLess]at h
 |[],_,_::_,_,_=>by simp[Op.bytesLess]
 |_::_,[],_,h,_=>by simp[Op.bytesLess]at h
 |a::x,b::y,c::z,h,h'=>by
  simp only[Op.bytesLess,bS,aF,aI,beq_iff_eq]at h h'⊢
  rcases h with h|⟨rfl,h⟩<;>rcases h' with h'|⟨rfl,h'⟩
  ·exact .inl (UInt8.lt_trans h h')
  ·exact .inl h
  ·exact .inl h'
  ·exact .inr ⟨rfl,bl_trans x y z h h'⟩
theorem bl_total:∀(a b:List UInt8),Op.bytesLess a b=false->(a==b)=false->Op.bytesLess b a=true
 |[],[],_,h=>by simp at h
 |[],_::_,h,_=>by simp[Op.bytesLess]at h
 |_::_,[],_,_=>by simp[Op.bytesLess]
 |a::x,b::y,h,h'=>by
  simp only[Op.bytesLess,Bool.or_eq_false_iff,fH,decide_eq_false_iff_not,beq_eq_false_iff_ne,ne_eq]at h
  simp only[Op.bytesLess,bS,aF,aI,beq_iff_eq]
  obtain⟨h1,h2⟩:=h
  by_cases e:a=b
  ·subst e
   refine .inr ⟨rfl,bl_total x y ?_ ?_⟩
   ·rcases h2 with h2|h2
    ·exact absurd rfl h2
    ·simpa using h2
   ·simpa using h'
  ·refine .inl ?_
   have h1':¬a.toNat<b.toNat:=fun h=>h1 (UInt8.lt_iff_toNat_lt.2 h)
   have:a.toNat≠b.toNat:=fun h=>e (UInt8.toNat_inj.1 h)
   exact UInt8.lt_iff_toNat_lt.2 zo
/-! the policy of an intent, step by step -/
def realM(t:Tp)(q:Nat->Int):Prop:=memK q 5 (vldB (pairsB t.edges))=true/\memK q 5 initS=true
structure AtInv (t:Tp) (rest:List Bx) (p:Pol):Prop where
 rs:setB rest=true
 al:setB p.allow=true
 rr:∀q,InP q->memK q 5 rest=true->realM t q
 ar:∀q,InP q->memK q 5 p.allow=true->realM t q
 dj:∀q,InP q->memK q 5 rest=true->memK q 5 p.allow=false
 nm:∀x,x∈p.insp->nameOk x.cls
 ne:∀x,x∈p.insp->x.set≠[]
 st:∀x,x∈p.insp->setB x.set=true
 sb:∀x,x∈p.insp->∀q,InP q->memK q 5 x.set=true->memK q 5 p.allow=true
 ds:p.insp.Pairwise fun x y=>∀q,InP q->memK q 5 x.set=true->memK q 5 y.set=false
 od:p.insp.Pairwise fun x y=>ltS x.cls y.cls=true
inductive PutR (l:List Insp) (c:ByteArray) (s:List Bx):List Insp->Int->Prop
 |skip:(c.toList=[]\/s=[])->PutR l c s l 0
 |ins (k:Nat):c.toList≠[]->s≠[]->k<=l.length->(∀(j:Nat) y,j<k->l[j]? =some y->ltS y.cls c=true)->(∀y,l[k]? =some y->ltS y.cls c=false/\(y.cls.toList==c.toList)=false)->PutR l c s (l.take k++⟨c,s⟩::l.drop k) 0
 |uni (k:Nat) (y:Insp):c.toList≠[]->s≠[]->l[k]? =some y->(y.cls.toList==c.toList)=true->PutR l c s (l.set k ⟨y.cls,(combP orB y.set s).1⟩) (combP orB y.set s).2
theorem AtInv.deny{t:Tp}{rest s:List Bx}{p:Pol}(h:AtInv t rest p)(hs:setB s=true):AtInv t (combP woB rest s).1 p:=by
 have hm:∀q,InP q->memK q 5 (combP woB rest s).1=true->memK q 5 rest=true:=fun q hq h1=>by
  have:=combP_sub h.rs hs hq h1
  simp only[woB,aF]at this
  exact this.1
 exact⟨setB_combP ..,h.al,fun q hq h1=>h.rr q hq (hm q hq h1),h.ar,fun q hq h1=>h.dj q hq (hm q hq h1),h.nm,h.ne,h.st,h.sb,h.ds,h.od⟩
theorem AtInv.permit{t:Tp}{rest s:List Bx}{p:Pol}{c:ByteArray}{l':List Insp}{e:Int}(h:AtInv t rest p)(hs:setB s=true)(hc:c.toList=[]\/nameOk c)(e1:(combP anB rest s).2=0)
  (e2:(combP woB rest s).2=0)(e3:(combP orB p.allow (combP anB rest s).1).2=0)(hp:PutR p.insp c (combP anB rest s).1 l' e)(he:e=0):
  AtInv t (combP woB rest s).1 ⟨(combP orB p.allow (combP anB rest s).1).1,l'⟩:=by
 have hps:setB (combP anB rest s).1=true:=setB_combP ..
 have hpm:∀q,InP q->memK q 5 (combP anB rest s).1=(memK q 5 rest&&memK q 5 s):=fun q hq=>by rw[combP_mem h.rs hs e1 hq];rfl
 have hrm:∀q,InP q->memK q 5 (combP woB rest s).1=(memK q 5 rest&& !memK q 5 s):=fun q hq=>by rw[combP_mem h.rs hs e2 hq];rfl
 have ham:∀q,InP q->memK q 5 (combP orB p.allow (combP anB rest s).1).1=(memK q 5 p.allow||memK q 5 (combP anB rest s).1):=fun q hq=>by rw[combP_mem h.al hps e3 hq];rfl
 have hdis:∀x,x∈p.insp->∀q,InP q->memK q 5 (combP anB rest s).1=true->memK q 5 x.set=false:=fun x hx q hq h1=>by
  rw[hpm q hq]at h1
  simp only[aF]at h1
  rw[bV]
  intro h2
  have:=h.dj q hq h1.1
  rw[h.sb x hx q hq h2]at this
  cases this
 have hsb:∀x,x∈p.insp->∀q,InP q->memK q 5 x.set=true->memK q 5 (combP orB p.allow (combP anB rest s).1).1=true:=fun x hx q hq h1=>by
  rw[ham q hq,h.sb x hx q hq h1];rfl
 have hpb:∀q,InP q->memK q 5 (combP anB rest s).1=true->memK q 5 (combP orB p.allow (combP anB rest s).1).1=true:=fun q hq h1=>by rw[ham q hq,h1,Bool.or_true]
 have f1:setB (combP woB rest s).1=true:=setB_combP ..
 have f2:setB (combP orB p.allow (combP anB rest s).1).1=true:=setB_combP ..
 have f3:∀q,InP q->memK q 5 (combP woB rest s).1=true->realM t q:=fun q hq h1=>by
  rw[hrm q hq]at h1
  simp only[aF]at h1
  exact h.rr q hq h1.1
 have f4:∀q,InP q->memK q 5 (combP orB p.allow (combP anB rest s).1).1=true->realM t q:=fun q hq h1=>by
  rw[ham q hq,hpm q hq]at h1
  simp only[bS,aF]at h1
  rcases h1 with h1|h1
  ·exact h.ar q hq h1
  ·exact h.rr q hq h1.1
 have f5:∀q,InP q->memK q 5 (combP woB rest s).1=true->memK q 5 (combP orB p.allow (combP anB rest s).1).1=false:=fun q hq h1=>by
  rw[hrm q hq]at h1
  simp only[aF,dI]at h1
  rw[ham q hq,hpm q hq,h.dj q hq h1.1,h1.2,Bool.and_false];rfl
 cases hp with
 |skip h0=>exact⟨f1,f2,f3,f4,f5,h.nm,h.ne,h.st,hsb,h.ds,h.od⟩
 |ins k h0 h1 hk hlt hge=>
  have hmem:∀x,x∈p.insp.take k++⟨c,(combP anB rest s).1⟩::p.insp.drop k->x∈p.insp\/x=⟨c,(combP anB rest s).1⟩:=fun x hx=>by
   rcases aU.1 hx with hx|hx
   ·exact .inl (cO hx)
   ·rcases aS.1 hx with hx|hx
    ·exact .inr hx
    ·exact .inl (eC hx)
  have hall:∀(Q:Insp->Prop),(∀x,x∈p.insp->Q x)->Q ⟨c,(combP anB rest s).1⟩->∀x,x∈p.insp.take k++⟨c,(combP anB rest s).1⟩::p.insp.drop k->Q x:=fun Q g1 g2 x hx=>by
   rcases hmem x hx with hx|rfl
   ·exact g1 x hx
   ·exact g2
  have hpw:∀(R:Insp->Insp->Prop),p.insp.Pairwise R->(∀x,x∈p.insp.take k->R x ⟨c,(combP anB rest s).1⟩)->(∀x,x∈p.insp.drop k->R ⟨c,(combP anB rest s).1⟩ x)->(p.insp.take k++⟨c,(combP anB rest s).1⟩::p.insp.drop k).Pairwise R:=fun R g g1 g2=>by
   rw[<-cS k p.insp]at g
   rw[dE]at g⊢
   refine⟨g.1,cB.2 ⟨g2,g.2.1⟩,fun a ha b hb=>?_⟩
   rcases aS.1 hb with rfl|hb
   ·exact g1 a ha
   ·exact g.2.2 a ha b hb
  refine⟨f1,f2,f3,f4,f5,hall _ h.nm (hc.resolve_left h0),hall (fun x=>x.set≠[]) h.ne h1,hall (fun x=>setB x.set=true) h.st hps,hall (fun x=>∀q,InP q->memK q 5 x.set=true->_) hsb hpb,?_,?_⟩
  ·refine hpw _ h.ds (fun x hx q hq h2=>?_) (fun x hx q hq h2=>hdis x (eC hx) q hq h2)
   rw[bV]
   intro h3
   rw[hdis x (cO hx) q hq h3]at h2
   cases h2
  ·refine hpw _ h.od (fun x hx=>?_) (fun x hx=>?_)
   ·obtain⟨j,hj⟩:=bI.1 hx
    rw[cV]at hj
    split at hj
    ·exact hlt j x zp hj
    ·cases hj
   ·obtain⟨j,hj⟩:=bI.1 hx
    rw[cF]at hj
    obtain⟨y,hy⟩:∃y,p.insp[k]? =some y:=⟨_,aB (by have:=(aM.1 hj).1;omega)⟩
    obtain⟨g1,g2⟩:=hge y hy
    have hcy:ltS c y.cls=true:=bl_total _ _ g1 g2
    rcases dJ j with rfl|hj0
    ·rw[dY,hy]at hj
     cases hj;exact hcy
    ·have:=cC.1 h.od k (k+j) (aM.1 hy).1 (aM.1 hj).1 zo
     rw[(aM.1 hy).2,(aM.1 hj).2]at this
     exact bl_trans _ _ _ hcy this
 |uni k y h0 h1 hk hy=>
  have hym:y∈p.insp:=aG hk
  have hum:∀q,InP q->memK q 5 (combP orB y.set (combP anB rest s).1).1=(memK q 5 y.set||memK q 5 (combP anB rest s).1):=fun q hq=>by rw[combP_mem (h.st y hym) hps he hq];rfl
  have hall:∀(Q:Insp->Prop),(∀x,x∈p.insp->Q x)->Q ⟨y.cls,(combP orB y.set (combP anB rest s).1).1⟩->∀x,x∈p.insp.set k ⟨y.cls,(combP orB y.set (combP anB rest s).1).1⟩->Q x:=fun Q g1 g2 x hx=>by
   rcases List.mem_or_eq_of_mem_set hx with hx|rfl
   ·exact g1 x hx
   ·exact g2
  have hkl:=(aM.1 hk).1
  have hke:=(aM.1 hk).2
  have hpw:∀(R:Insp->Insp->Prop),p.insp.Pairwise R->(∀x,x∈p.insp->R x y->R x ⟨y.cls,(combP orB y.set (combP anB rest s).1).1⟩)->(∀x,x∈p.insp->R y x->R ⟨y.cls,(combP orB y.set (combP anB rest s).1).1⟩ x)->(p.insp.set k ⟨y.cls,(combP orB y.set (combP anB rest s).1).1⟩).Pairwise R:=fun R g g1 g2=>by
   rw[cC]at g⊢
   intro i j hi hj hij
   rw[gE]at hi hj
   rw[List.getElem_set,List.getElem_set]
   by_cases e1:k=i
   ·rw[aH e1,aE zo]
    refine g2 _ (dG _) ?_
    subst e1
    have:=g k j hi hj hij
    rwa[hke]at this
   ·rw[aE e1]
    by_cases e2:k=j
    ·rw[aH e2]
     refine g1 _ (dG _) ?_
     subst e2
     have:=g i k hi hj hij
     rwa[hke]at this
    ·rw[aE e2];exact g i j hi hj hij
  refine⟨f1,f2,f3,f4,f5,hall _ h.nm (h.nm y hym),hall (fun x=>x.set≠[]) h.ne ?_,hall (fun x=>setB x.set=true) h.st (setB_combP ..),hall (fun x=>∀q,InP q->memK q 5 x.set=true->_) hsb ?_,?_,?_⟩
  ·intro e0
   simp only at e0
   have:∀q,InP q->memK q 5 y.set=false:=fun q hq=>by
    have:=hum q hq
    rw[e0,memK_nil]at this
    cases hy:memK q 5 y.set
    ·rfl
    ·rw[hy]at this;cases this
   obtain⟨b,hb⟩:=List.exists_mem_of_ne_nil _ (h.ne y hym)
   obtain⟨q,hq,hqb⟩:=box_point (okL_set (h.st y hym) b hb)
   have h3:=this q hq
   rw[memK_iff.2 ⟨b,hb,hqb⟩]at h3
   cases h3
  ·intro q hq h2
   simp only at h2
   rw[hum q hq,bS]at h2
   rcases h2 with h2|h2
   ·exact hsb y hym q hq h2
   ·exact hpb q hq h2
  ·refine hpw _ h.ds (fun x hx hr q hq h2=>?_) (fun x hx hr q hq h2=>?_)
   ·simp only
    rw[hum q hq,hr q hq h2,fM,bV]
    intro h3
    rw[hdis x hx q hq h3]at h2
    cases h2
   ·simp only at h2
    rw[hum q hq,bS]at h2
    rcases h2 with h2|h2
    ·exact hr q hq h2
    ·exact hdis x hx q hq h2
  ·exact hpw _ h.od (fun x hx hr=>hr) (fun x hx hr=>hr)
theorem init_vld:vldB initS=initS:=by decide+kernel
theorem init_set:setB initS=true:=by decide+kernel
theorem AtInv.pol{t:Tp}{rest:List Bx}{p:Pol}(h:AtInv t rest p)(hc:compB t=true):PolOk t p:=by
 refine⟨hc,h.al,subB_of (okL_set h.al) fun q hq h1=>(h.ar q hq h1).1,subB_of (okL_set h.al) fun q hq h1=>by rw[init_vld];exact(h.ar q hq h1).2,fun n x hx=>?_⟩
 have hxm:=aG hx
 refine⟨h.nm x hxm,fun k y hn hy=>?_,h.ne x hxm,h.st x hxm,subB_of (okL_set (h.st x hxm)) fun q hq h1=>by rw[vld_all (okL_set h.al)];exact h.sb x hxm q hq h1,fun k y hk hy=>?_⟩
 ·have:=cC.1 h.od k n (aM.1 hy).1 (aM.1 hx).1 zo
  rw[(aM.1 hy).2,(aM.1 hx).2]at this
  obtain⟨h1,h2⟩:=bl_asymm _ _ this
  simp only[leS,h1,h2];rfl
 ·have:=cC.1 h.ds k n (aM.1 hy).1 (aM.1 hx).1 hk
  rw[(aM.1 hy).2,(aM.1 hx).2]at this
  rw[<-disj_iff (h.st x hxm) (h.st y (aG hy)),cano_nil_mem]
  intro q hq
  simp only[anB,fH]
  by_cases h1:memK q 5 x.set=true
  ·right
   rw[bV]
   intro h2
   rw[this q hq h2]at h1
   cases h1
  ·left;simpa using h1
def realP(t:Tp):List Bx×Int:=if(makeP (pairsB t.edges)).2≠0 then([],(makeP (pairsB t.edges)).2)else combP anB (makeP (pairsB t.edges)).1 initS
theorem setB_realP(t:Tp):setB (realP t).1=true:=by
 unfold realP;split
 ·exact setB_nil
 ·exact setB_combP ..
theorem realP_mem(t:Tp):∀q,InP q->memK q 5 (realP t).1=true->realM t q:=fun q hq h=>by
 unfold realP at h
 split at h
 ·rw[memK_nil]at h;cases h
 ·have:=combP_sub (setB_makeP _) init_set hq h
  simp only[anB,aF]at this
  exact⟨makeP_mem hq this.1,this.2⟩
theorem atInv_start(t:Tp):AtInv t (realP t).1 ⟨[],[]⟩:=
 ⟨setB_realP t,setB_nil,realP_mem t,(fun q hq h=>by rw[memK_nil]at h;cases h),fun q hq h=>rfl,(fun x h=>by simp at h),(fun x h=>by simp at h),(fun x h=>by simp at h),(fun x h=>by simp at h),List.Pairwise.nil,List.Pairwise.nil⟩
structure It where
 kind:Int
 name:ByteArray
 pf:Pf
 proto:Int
 ports:Rg
structure Df where
 name:ByteArray
 items:List It
structure Wn where
 name:ByteArray
 act:List Rg
structure Sm where
 permit:Bool
 frm:ByteArray
 to:ByteArray
 svc:ByteArray
 exc:Bool
 exF:ByteArray
 exT:ByteArray
 cls:ByteArray
 dur:ByteArray
 pri:Int
structure Pb where
 addr:Int
 proto:Int
 port:Int
 edge:ByteArray
 real:Int
 rport:Int
structure Hn where
 grp:ByteArray
 edge:ByteArray
 addr:Int
 ports:Rg
structure Nt where
 grps:List Df
 svcs:List Df
 wins:List Wn
 sts:List Sm
 pubs:List Pb
 hids:List Hn
noncomputable abbrev encIt(x:It):AV:=.agg [.v (.int .i64 x.kind),.v (.string x.name),.v (.int .u32 x.pf.addr),.v (.int .i64 x.pf.bits),.v (.int .i64 x.proto),.v (.int .u32 x.ports.lo),.v (.int .u32 x.ports.hi)]
noncomputable abbrev encDf(x:Df):AV:=.agg [.v (.string x.name),.lst (x.items.map encIt)]
noncomputable abbrev encWn(x:Wn):AV:=.agg [.v (.string x.name),encRs x.act]
noncomputable abbrev encSm(x:Sm):AV:=.agg [.sb x.permit,.v (.string x.frm),.v (.string x.to),.v (.string x.svc),.sb x.exc,.v (.string x.exF),.v (.string x.exT),.v (.string x.cls),.v (.string x.dur),.v (.int .i64 x.pri)]
noncomputable abbrev encPb(x:Pb):AV:=.agg [.v (.int .u32 x.addr),.v (.int .i64 x.proto),.v (.int .i64 x.port),.v (.string x.edge),.v (.int .u32 x.real),.v (.int .i64 x.rport)]
noncomputable abbrev encHn(x:Hn):AV:=.agg [.v (.string x.grp),.v (.string x.edge),.v (.int .u32 x.addr),.v (.int .u32 x.ports.lo),.v (.int .u32 x.ports.hi)]
noncomputable abbrev celNt(i:Nt):List AV:=[.lst (i.grps.map encDf),.lst (i.svcs.map encDf),.lst (i.wins.map encWn),.lst (i.sts.map encSm),.lst (i.pubs.map encPb),.lst (i.hids.map encHn)]
noncomputable abbrev encNt(i:Nt):AV:=.agg (celNt i)
noncomputable abbrev boxNt(i:Nt):Vm.Obj:=.box (celNt i)
structure Sml (i:Nt):Prop where
 g:i.grps.length<=1000
 s:i.svcs.length<=1000
 w:i.wins.length<=1000
 t:i.sts.length<=1000
 p:i.pubs.length<=1000
 h:i.hids.length<=1000
 gi:∀x,x∈i.grps->x.items.length<=1000
 si:∀x,x∈i.svcs->x.items.length<=1000
 wi:∀x,x∈i.wins->x.act.length<=4000
open Go Go.Vm Go.ChangeShapes Go.WideShapes Go.ChangeAt Go.RowKit
theorem tz_hd{d:Nat}{y:AV}(h:Ty Tryz.prog (d+2) 58 y):∃g:Hd,y=encHd g/\g.Ok:=by
 obtain⟨ys,hl,rfl,hf⟩:=h
 match ys,hl with
 |[a,b,c,e,f],_=>
  obtain⟨a,rfl,a0,a1⟩:=hf 0 _ a rfl rfl
  obtain⟨b,rfl,b0,b1⟩:=hf 1 _ b rfl rfl
  obtain⟨c,rfl,c0,c1⟩:=hf 2 _ c rfl rfl
  obtain⟨e,rfl,e0,e1⟩:=hf 3 _ e rfl rfl
  obtain⟨f,rfl,f0,f1⟩:=hf 4 _ f rfl rfl
  exact⟨⟨a,b,c,e,f⟩,rfl,⟨a0,a1,b0,b1,c0,c1,e0,e1,f0,f1⟩⟩
noncomputable def gnIntO:Ctx:={N:=260,np:=1,own:=at1 16 (true) (at1 90 (true) (at1 106 (true) (at1 107 (true) (at1 108 (true) (at1 65 (true) (fun _=>false)))))),plan:=at1 36 (some (.one 0 true (.one 2 true (.wch 1 (ln [6,9,10,12,15,16]))))) (at1 40 (some (.one 0 true (.one 2 true (.one 3 true (.one 4 true (.wch 1 (ln [10,12,14,17,18]))))))) (at1 43 (some (.one 0 true (.one 3 true (.one 7 true (.one 10 true (.one 15 true (.one 17 true (.wch 1 (.wch 11 (.one 12 true (.one 13 true (.wch 14 (.wch 16 (.alt 2 (.one 4 false (.one 5 true (.wch 6 (ln [16,19,36,39,41,42,44,47,48])))) (.alt 4 (.alt 2 (.one 5 true (.wch 6 (ln [16,19,36,39,41,42,44,47,48]))) (.alt 8 (.one 9 true (.alt 2 (.one 5 true (.wch 6 (ln [36,39,41,42,44,47,48]))) (.alt 18 (ln [39,4,11,13,41,42,44,47,48]) (.stop)))) (.stop))) (.stop)))))))))))))))) (at1 46 (some (.one 0 true (.one 2 true (.one 4 true (.one 8 true (.wch 1 (.wch 3 (.one 5 true (.one 6 true (.wch 7 (ln [18,21,23,25,27,28,30,33,34]))))))))))) (fun _=>none)))),hints:=at1 2 ([.virtB 7 0 2,.virtB 7 1 2,.virtB 7 2 2]) (at1 6 ([.virtB 9 1 7]) (at1 16 ([.freezeB 9]) (at1 21 ([.virtB 14 1 7]) (at1 34 ([.freezeB 14]) (at1 37 ([.freezeB 7,.virtB 7 3 10]) (at1 41 ([.virtB 7 4 6,.virtB 7 5 5]) (fun _=>[]))))))),cut:=at1 13 (true) (at1 15 (true) (at1 31 (true) (at1 33 (true) (at1 37 (true) (at1 44 (true) (at1 47 (true) (fun _=>false))))))),res:=true}
noncomputable def bnIntO:Code:=bdy Tryz.f44
abbrev ofnIntO:=@ofC Tryz.prog gnIntO 44 Tryz.f44 bnIntO Tryz.func44 zk zk zk zk
noncomputable def goNetO:Ctx:={N:=20,np:=1,own:=at1 43 (true) (at1 44 (true) (at1 45 (true) (fun _=>false))),plan:=at1 2 (some (.one 1 true (.one 2 true (.one 3 true (.one 5 true (.wch 0 (ln [8,12,14,16,19]))))))) (fun _=>none),res:=true}
noncomputable def boNetO:Code:=bdy Tryz.f11
abbrev ofoNetO:=@ofC Tryz.prog goNetO 11 Tryz.f11 boNetO Tryz.func11 zk zk zk zk
noncomputable def goPri:Ctx:={N:=160,own:=at1 10 (true) (at1 11 (true) (at1 16 (true) (at1 24 (true) (at1 20 (true) (fun _=>false))))),plan:=at1 6 (some (ln [1,3,5,7,9,11,13,15,17,19,21,23,25,26])) (at1 8 (some (.one 0 true (.one 2 true (.wch 1 (ln [6,9,11,12,14,17,18]))))) (at1 11 (some (.one 1 true (.one 2 true (.one 4 true (.wch 0 (.wch 5 (ln [6,12,14,17]))))))) (at1 15 (some (ln [1,3,5,7,9,11,13,14,17,19,21,23,25])) (at1 16 (some (ln [1,3,5,7,9,11,13,14,17,19,21,23,25])) (at1 18 (some (ln [1,3,5,7,9,11,13,15,17,19,21,23,25,27,29,31,33,35,37,39,41,43,45,47,49,51,53,55,57,59,61,63,65,67,69,71,73,75,77,79,81,83,85,87,89,91,93,95,96,99,101])) (fun _=>none)))))),hints:=at1 7 ([.freezeB 7]) (at1 9 ([.freezeB 10]) (fun _=>[]))}
noncomputable def boPri:Code:=bdy Tryz.f5
abbrev ofoPri:=@ofC Tryz.prog goPri 5 Tryz.f5 boPri Tryz.func5 zk zk zk zk
noncomputable def goMin:Ctx:={N:=9}
noncomputable def boMin:Code:=bdy Tryz.f97
abbrev ofoMin:=@ofC Tryz.prog goMin 97 Tryz.f97 boMin Tryz.func97 zk zk zk zk
noncomputable def goAct1:Ctx:={N:=9}
noncomputable def boAct1:Code:=bdy Tryz.f181
abbrev ofoAct1:=@ofC Tryz.prog goAct1 181 Tryz.f181 boAct1 Tryz.func181 zk zk zk zk
noncomputable def goAct:Ctx:={N:=27,lend:=at1 180 (true) (fun _=>false)}
noncomputable def boAct:Code:=bdy Tryz.f98
abbrev ofoAct:=@ofC Tryz.prog goAct 98 Tryz.f98 boAct Tryz.func98 zk zk zk zk
noncomputable def goOrd1:Ctx:={N:=19,plan:=at1 1 (some (ln [1,3,5,7,9,11,13,15,17,19,21,23,24,27])) (fun _=>none)}
noncomputable def boOrd1:Code:=bdy Tryz.f100
abbrev ofoOrd1:=@ofC Tryz.prog goOrd1 100 Tryz.f100 boOrd1 Tryz.func100 zk zk zk zk
noncomputable def goIns:Ctx:={N:=53,np:=1,plan:=at1 4 (some (ln [1,3,5,7,9,11,13,15,17,19,21,23,25,27,28,31,33])) (at1 6 (some (ln [1,3,5,7,9,11,13,15,17,19,21,23,25,27,29,30,33,34])) (fun _=>none))}
noncomputable def boIns:Code:=bdy Tryz.f254
abbrev ofoIns:=@ofC Tryz.prog goIns 254 Tryz.f254 boIns Tryz.func254 zk zk zk zk
noncomputable def goStab:Ctx:={N:=63,np:=1,own:=at1 254 (true) (fun _=>false)}
noncomputable def boStab:Code:=bdy Tryz.f183
abbrev ofoStab:=@ofC Tryz.prog goStab 183 Tryz.f183 boStab Tryz.func183 zk zk zk zk
noncomputable def goSort:Ctx:={N:=9,np:=1,own:=at1 183 (true) (fun _=>false)}
noncomputable def boSort:Code:=bdy Tryz.f99
abbrev ofoSort:=@ofC Tryz.prog goSort 99 Tryz.f99 boSort Tryz.func99 zk zk zk zk
noncomputable def goOrd:Ctx:={N:=37,own:=at1 99 (true) (fun _=>false),hints:=at1 4 ([.virt 5 1]) (at1 10 ([.freeze 2]) (fun _=>[]))}
noncomputable def boOrd:Code:=bdy Tryz.f37
abbrev ofoOrd:=@ofC Tryz.prog goOrd 37 Tryz.f37 boOrd Tryz.func37 zk zk zk zk
noncomputable def goInsI:Ctx:={N:=53,np:=1,plan:=at1 4 (some (ln [1,3,5,7,9,11,13,15,17,19,21,23,25,27,28,31,33])) (at1 6 (some (ln [1,3,5,7,9,11,13,15,17,19,21,23,25,27,29,30,33,34])) (fun _=>none))}
noncomputable def boInsI:Code:=bdy Tryz.f200
abbrev ofoInsI:=@ofC Tryz.prog goInsI 200 Tryz.f200 boInsI Tryz.func200 zk zk zk zk
noncomputable def goPdq:Ctx:={N:=148,np:=1,own:=at1 200 (true) (fun _=>false),plan:=at1 17 (some (ln [1,3,5,7,9,11,13,15,17,19,21,23,25,26,29,31,33])) (fun _=>none)}
noncomputable def boPdq:Code:=bdy Tryz.f115
abbrev ofoPdq:=@ofC Tryz.prog goPdq 115 Tryz.f115 boPdq Tryz.func115 zk zk zk zk
noncomputable def goSortI:Ctx:={N:=14,np:=1,own:=at1 115 (true) (fun _=>false)}
noncomputable def boSortI:Code:=bdy Tryz.f50
abbrev ofoSortI:=@ofC Tryz.prog goSortI 50 Tryz.f50 boSortI Tryz.func50 zk zk zk zk
noncomputable def goReal:Ctx:={N:=23}
noncomputable def boReal:Code:=bdy Tryz.f47
abbrev ofoReal:=@ofC Tryz.prog goReal 47 Tryz.f47 boReal Tryz.func47 zk zk zk zk
noncomputable def goChk:Ctx:={N:=23}
noncomputable def boChk:Code:=bdy Tryz.f46
abbrev ofoChk:=@ofC Tryz.prog goChk 46 Tryz.f46 boChk Tryz.func46 zk zk zk zk
noncomputable def goTry:Ctx:={N:=80,np:=2,plan:=at1 10 (some (.one 0 true (.one 1 true (.one 2 true (.one 4 true (.one 6 true (.one 7 true (.one 8 true (.one 9 true (.one 10 true (.one 11 true (.one 13 true (.alt 3 (.alt 5 (ln [24,28,31,33,35,36,39]) (.alt 12 (ln [11,28,31,33,35,36,39]) (.stop))) (.alt 5 (.alt 3 (ln [24,28,31,33,35,36,39]) (.alt 12 (ln [7,28,31,33,35,36,39]) (.stop))) (.alt 12 (ln [7,11,28,31,33,35,36,39]) (.stop)))))))))))))))) (fun _=>none)}
noncomputable def boTry:Code:=bdy Tryz.f49
abbrev ofoTry:=@ofC Tryz.prog goTry 49 Tryz.f49 boTry Tryz.func49 zk zk zk zk
noncomputable def goAt:Ctx:={N:=97,own:=at1 49 (true) (at1 50 (true) (fun _=>false)),hints:=at1 19 ([.virtB 17 1 2]) (fun _=>[])}
noncomputable def boAt:Code:=bdy Tryz.f12
abbrev ofoAt:=@ofC Tryz.prog goAt 12 Tryz.f12 boAt Tryz.func12 zk zk zk zk
noncomputable def goDec:Ctx:={N:=76,plan:=at1 3 (some (ln [1,3,5,9,11,13,6,14,17,19])) (at1 4 (some (ln [1,3,5,7,9,11,13,15,17,19,21,23,27,24,28,31,33])) (fun _=>none))}
noncomputable def boDec:Code:=bdy Tryz.f21
abbrev ofoDec:=@ofC Tryz.prog goDec 21 Tryz.f21 boDec Tryz.func21 zk zk zk zk
noncomputable def goCon:Ctx:={N:=31}
noncomputable def boCon:Code:=bdy Tryz.f140
abbrev ofoCon:=@ofC Tryz.prog goCon 140 Tryz.f140 boCon Tryz.func140 zk zk zk zk
noncomputable def goPCon1:Ctx:={N:=7}
noncomputable def boPCon1:Code:=bdy Tryz.f139
abbrev ofoPCon1:=@ofC Tryz.prog goPCon1 139 Tryz.f139 boPCon1 Tryz.func139 zk zk zk zk
noncomputable def goIxX:Ctx:={N:=19}
noncomputable def boIxX:Code:=bdy Tryz.f224
abbrev ofoIxX:=@ofC Tryz.prog goIxX 224 Tryz.f224 boIxX Tryz.func224 zk zk zk zk
noncomputable def goAnyX:Ctx:={N:=9}
noncomputable def boAnyX:Code:=bdy Tryz.f138
abbrev ofoAnyX:=@ofC Tryz.prog goAnyX 138 Tryz.f138 boAnyX Tryz.func138 zk zk zk zk
noncomputable def goPCon:Ctx:={N:=8,lend:=at1 138 (true) (fun _=>false)}
noncomputable def boPCon:Code:=bdy Tryz.f68
abbrev ofoPCon:=@ofC Tryz.prog goPCon 68 Tryz.f68 boPCon Tryz.func68 zk zk zk zk
noncomputable def goTAt1:Ctx:={N:=13}
noncomputable def boTAt1:Code:=bdy Tryz.f136
abbrev ofoTAt1:=@ofC Tryz.prog goTAt1 136 Tryz.f136 boTAt1 Tryz.func136 zk zk zk zk
noncomputable def goTAt:Ctx:={N:=9,lend:=at1 135 (true) (fun _=>false)}
noncomputable def boTAt:Code:=bdy Tryz.f67
abbrev ofoTAt:=@ofC Tryz.prog goTAt 67 Tryz.f67 boTAt Tryz.func67 zk zk zk zk
noncomputable def goCAct:Ctx:={N:=17}
noncomputable def boCAct:Code:=bdy Tryz.f182
abbrev ofoCAct:=@ofC Tryz.prog goCAct 182 Tryz.f182 boCAct Tryz.func182 zk zk zk zk
noncomputable def goIsR:Ctx:={N:=30,plan:=at1 1 (some (ln [1,3,5,9,11,13,6,14,17,19])) (fun _=>none)}
noncomputable def boIsR:Code:=bdy Tryz.f26
abbrev ofoIsR:=@ofC Tryz.prog goIsR 26 Tryz.f26 boIsR Tryz.func26 zk zk zk zk
noncomputable def goNear:Ctx:={N:=49,np:=1,own:=at1 66 (true) (at1 16 (true) (fun _=>false)),plan:=at1 3 (some (.one 0 true (.one 2 true (.one 3 true (.one 4 true (.one 5 true (.one 11 true (.wch 1 (.one 6 false (.one 7 true (.one 8 true (.one 9 true (.wch 10 (ln [24,27,29,31,32])))))))))))))) (at1 4 (some (.one 0 true (.one 2 true (.one 3 true (.one 4 true (.one 5 true (.wch 1 (ln [12,15,17,19,21,23,24])))))))) (fun _=>none))}
noncomputable def boNear:Code:=bdy Tryz.f20
abbrev ofoNear:=@ofC Tryz.prog goNear 20 Tryz.f20 boNear Tryz.func20 zk zk zk zk
noncomputable def goLNet:Ctx:={N:=9}
noncomputable def boLNet:Code:=bdy Tryz.f41
abbrev ofoLNet:=@ofC Tryz.prog goLNet 41 Tryz.f41 boLNet Tryz.func41 zk zk zk zk
noncomputable def goSan:Ctx:={N:=67,plan:=at1 2 (some (.one 1 true (.alt 0 (.alt 2 (ln [7,9,11,12,14,17]) (.alt 6 (ln [4,7,9,11,14,17]) (.stop))) (.alt 6 (ln [0,4,7,9,11,14,17]) (.stop))))) (at1 6 (some (ln [3,5,0,6,9,11,13,15,17])) (at1 7 (some (ln [1,3,5,7,9,11,12,15,17,19,21,23,25,26,29,31,33,35,37,39,41,43,45,47,51,48,52,55,57,59,60,63,65,67,69])) (fun _=>none))),hints:=at1 2 ([.flatB 1 1,.freezeB 1]) (fun _=>[])}
noncomputable def boSan:Code:=bdy Tryz.f19
abbrev ofoSan:=@ofC Tryz.prog goSan 19 Tryz.f19 boSan Tryz.func19 zk zk zk zk
noncomputable def goNaNI:Ctx:={N:=6}
noncomputable def boNaNI:Code:=bdy Tryz.f184
abbrev ofoNaNI:=@ofC Tryz.prog goNaNI 184 Tryz.f184 boNaNI Tryz.func184 zk zk zk zk
noncomputable def goCmpI:Ctx:={N:=20}
noncomputable def boCmpI:Code:=bdy Tryz.f101
abbrev ofoCmpI:=@ofC Tryz.prog goCmpI 101 Tryz.f101 boCmpI Tryz.func101 zk zk zk zk
noncomputable def gnCont:Ctx:={N:=18,plan:=at1 4 (some (ln [1,3,5,7,9,10])) (fun _=>none)}
noncomputable def bnCont:Code:=bdy Tryz.f22
abbrev ofnCont:=@ofC Tryz.prog gnCont 22 Tryz.f22 bnCont Tryz.func22 zk zk zk zk
noncomputable def gnStm:Ctx:={N:=92,np:=2,own:=at1 16 (true) (at1 190 (true) (fun _=>false)),plan:=at1 1 (some (.one 0 true (.one 3 true (.one 4 true (.one 7 true (.one 8 true (.one 11 true (.one 12 true (.wch 5 (.wch 9 (.wch 13 (.alt 1 (.one 2 true (.alt 6 (.alt 10 (.alt 14 (ln [31,32,34]) (.alt 16 (ln [28,31,34]) (.stop))) (.alt 16 (ln [20,28,31,34]) (.stop))) (.alt 16 (ln [12,20,28,31,34]) (.stop)))) (.alt 16 (ln [2,5,12,20,28,31,34]) (.stop)))))))))))))) (at1 3 (some (.one 0 true (.one 1 true (.one 2 true (.one 4 true (.one 5 true (.one 8 true (.wch 6 (ln [6,14,18,21,22,25,26]))))))))) (at1 8 (some (.one 0 true (.one 2 true (.one 3 true (.one 4 true (.one 5 true (.wch 1 (ln [12,15,17,19,21,22])))))))) (fun _=>none))),cut:=at1 4 (true) (at1 7 (true) (at1 9 (true) (fun _=>false)))}
noncomputable def bnStm:Code:=bdy Tryz.f108
abbrev ofnStm:=@ofC Tryz.prog gnStm 108 Tryz.f108 bnStm Tryz.func108 zk zk zk zk
noncomputable def gh17Has:Ctx:={N:=18}
noncomputable def bh17Has:Code:=bdy Tryz.f291
abbrev ofh17Has:=@ofC Tryz.prog gh17Has 291 Tryz.f291 bh17Has Tryz.func291 zk zk zk zk
noncomputable def gh17Fol:Ctx:={N:=103,np:=3,own:=at1 242 (true) (fun _=>false),plan:=at1 13 (some (ln [1,3,5,7,9,11,12,14,17,19,20])) (at1 14 (some (ln [1,3,5,7,9,11,12,15])) (fun _=>none)),hints:=at1 1 ([.renewB 0 1,.renewB 0 2]) (at1 6 ([.freeze 3]) (fun _=>[])),cut:=at1 13 (true) (fun _=>false),out:=true,lend:=at1 291 (true) (fun _=>false)}
noncomputable def bh17Fol:Code:=bdy Tryz.f242
abbrev ofh17Fol:=@ofC Tryz.prog gh17Fol 242 Tryz.f242 bh17Fol Tryz.func242 zk zk zk zk
noncomputable def gh17Find:Ctx:={N:=28,own:=at1 242 (true) (fun _=>false),hints:=at1 5 ([.virtB 9 1 1,.virtB 9 2 7]) (fun _=>[])}
noncomputable def bh17Find:Code:=bdy Tryz.f158
abbrev ofh17Find:=@ofC Tryz.prog gh17Find 158 Tryz.f158 bh17Find Tryz.func158 zk zk zk zk
noncomputable def gh17Edg:Ctx:={N:=33,plan:=at1 5 (some (.one 0 true (.one 1 true (.one 2 true (.one 3 true (.one 4 true (.one 5 true (.one 6 true (.one 7 true (.one 8 true (.alt 9 (ln [21,23,25,26,28,31]) (.alt 13 (ln [18,21,23,25,28,31]) (.stop))))))))))))) (fun _=>none),hints:=at1 2 ([.virt 5 2]) (fun _=>[])}
noncomputable def bh17Edg:Code:=bdy Tryz.f156
abbrev ofh17Edg:=@ofC Tryz.prog gh17Edg 156 Tryz.f156 bh17Edg Tryz.func156 zk zk zk zk
noncomputable def gh17All:Ctx:={N:=17,hints:=at1 2 ([.virt 3 1]) (fun _=>[])}
noncomputable def bh17All:Code:=bdy Tryz.f157
abbrev ofh17All:=@ofC Tryz.prog gh17All 157 Tryz.f157 bh17All Tryz.func157 zk zk zk zk
noncomputable def gh17Grp:Ctx:={N:=78,plan:=at1 4 (some (ln [1,3,4,6,8,11,13])) (at1 13 (some (ln [1,3,5,7,9,11,13,15,16,18,20,23])) (fun _=>none)),hints:=at1 9 ([.virt 10 2]) (fun _=>[])}
noncomputable def bh17Grp:Code:=bdy Tryz.f78
abbrev ofh17Grp:=@ofC Tryz.prog gh17Grp 78 Tryz.f78 bh17Grp Tryz.func78 zk zk zk zk
noncomputable def gh17Hdr:Ctx:={N:=26,plan:=at1 4 (some (.one 1 true (.alt 0 (ln [4,6,9,11,13,15,17]) (.alt 2 (ln [0,6,9,11,13,15,17]) (.stop))))) (fun _=>none)}
noncomputable def bh17Hdr:Code:=bdy Tryz.f160
abbrev ofh17Hdr:=@ofC Tryz.prog gh17Hdr 160 Tryz.f160 bh17Hdr Tryz.func160 zk zk zk zk
noncomputable def gh17Svc:Ctx:={N:=47,hints:=at1 9 ([.asL 8]) (fun _=>[])}
noncomputable def bh17Svc:Code:=bdy Tryz.f79
abbrev ofh17Svc:=@ofC Tryz.prog gh17Svc 79 Tryz.f79 bh17Svc Tryz.func79 zk zk zk zk
noncomputable def gh17Btw:Ctx:={N:=41,plan:=at1 9 (some (.one 0 true (.one 1 true (.one 2 true (.one 3 true (.one 4 true (.one 5 true (.one 6 true (.one 8 true (.alt 7 (ln [18,21,22]) (.alt 9 (ln [15,21,22]) (.stop)))))))))))) (fun _=>none),hints:=at1 2 ([.virt 6 10]) (fun _=>[])}
noncomputable def bh17Btw:Code:=bdy Tryz.f129
abbrev ofh17Btw:=@ofC Tryz.prog gh17Btw 129 Tryz.f129 bh17Btw Tryz.func129 zk zk zk zk
noncomputable def gh17Stm:Ctx:={N:=132}
noncomputable def bh17Stm:Code:=bdy Tryz.f56
abbrev ofh17Stm:=@ofC Tryz.prog gh17Stm 56 Tryz.f56 bh17Stm Tryz.func56 zk zk zk zk
noncomputable def gh17Cls:Ctx:={N:=21}
noncomputable def bh17Cls:Code:=bdy Tryz.f80
abbrev ofh17Cls:=@ofC Tryz.prog gh17Cls 80 Tryz.f80 bh17Cls Tryz.func80 zk zk zk zk
noncomputable def gh17Chk:Ctx:={N:=162,plan:=at1 6 (some (ln [1,3,5,7,9,11,13,15,16,19,21,23,25,27])) (at1 12 (some (ln [1,3,5,7,9,11,13,14,17,19,21,23,25])) (at1 27 (some (ln [1,3,5,7,9,11,13,14,17])) (at1 32 (some (ln [1,3,5,7,9,11,13,14,17])) (at1 34 (some (ln [1,3,5,7,9,11,13,15,16,19,21,23,25,27])) (fun _=>none)))))}
noncomputable def bh17Chk:Code:=bdy Tryz.f25
abbrev ofh17Chk:=@ofC Tryz.prog gh17Chk 25 Tryz.f25 bh17Chk Tryz.func25 zk zk zk zk
noncomputable def gh11Zone:Ctx:={N:=27,hints:=at1 2 ([.virt 5 1]) (fun _=>[])}
noncomputable def bh11Zone:Code:=bdy Tryz.f159
abbrev ofh11Zone:=@ofC Tryz.prog gh11Zone 159 Tryz.f159 bh11Zone Tryz.func159 zk zk zk zk
noncomputable def gj16Opt:Ctx:={N:=9}
noncomputable def bj16Opt:Code:=bdy Tryz.f217
abbrev ofj16Opt:=@ofC Tryz.prog gj16Opt 217 Tryz.f217 bj16Opt Tryz.func217 zk zk zk zk
noncomputable def gj16Port:Ctx:={N:=9}
noncomputable def bj16Port:Code:=bdy Tryz.f124
abbrev ofj16Port:=@ofC Tryz.prog gj16Port 124 Tryz.f124 bj16Port Tryz.func124 zk zk zk zk
noncomputable def gj16Ports:Ctx:={N:=21}
noncomputable def bj16Ports:Code:=bdy Tryz.f125
abbrev ofj16Ports:=@ofC Tryz.prog gj16Ports 125 Tryz.f125 bj16Ports Tryz.func125 zk zk zk zk
noncomputable def gj16Find:Ctx:={N:=20}
noncomputable def bj16Find:Code:=bdy Tryz.f213
abbrev ofj16Find:=@ofC Tryz.prog gj16Find 213 Tryz.f213 bj16Find Tryz.func213 zk zk zk zk
noncomputable def gj16FindW:Ctx:={N:=20}
noncomputable def bj16FindW:Code:=bdy Tryz.f81
abbrev ofj16FindW:=@ofC Tryz.prog gj16FindW 81 Tryz.f81 bj16FindW Tryz.func81 zk zk zk zk
noncomputable def gj16Item:Ctx:={N:=97}
noncomputable def bj16Item:Code:=bdy Tryz.f214
abbrev ofj16Item:=@ofC Tryz.prog gj16Item 214 Tryz.f214 bj16Item Tryz.func214 zk zk zk zk
noncomputable def gj16Defs:Ctx:={N:=73}
noncomputable def bj16Defs:Code:=bdy Tryz.f120
abbrev ofj16Defs:=@ofC Tryz.prog gj16Defs 120 Tryz.f120 bj16Defs Tryz.func120 zk zk zk zk
noncomputable def gj16Wri:Ctx:={N:=11}
noncomputable def bj16Wri:Code:=bdy Tryz.f122
abbrev ofj16Wri:=@ofC Tryz.prog gj16Wri 122 Tryz.f122 bj16Wri Tryz.func122 zk zk zk zk
noncomputable def gj16Sm:Ctx:={N:=74}
noncomputable def bj16Sm:Code:=bdy Tryz.f123
abbrev ofj16Sm:=@ofC Tryz.prog gj16Sm 123 Tryz.f123 bj16Sm Tryz.func123 zk zk zk zk
noncomputable def gj16Val:Ctx:={N:=161,plan:=at1 6 (some (ln [1,3,5,7,9,11,12,15,17,19,21,23,25,27,29,31,33,37,34,39,41,43,45,47,49,51,53,55,56,59,61])) (fun _=>none)}
noncomputable def bj16Val:Code:=bdy Tryz.f54
abbrev ofj16Val:=@ofC Tryz.prog gj16Val 54 Tryz.f54 bj16Val Tryz.func54 zk zk zk zk
noncomputable def gq1Num:Ctx:={N:=20,plan:=at1 3 (some (.one 0 true (.one 1 true (.one 3 true (.one 4 true (.one 5 true (.one 6 true (.alt 2 (ln [14,16,19,21]) (.alt 7 (.alt 2 (ln [16,19,21]) (.alt 8 (ln [4,19,21]) (.stop))) (.stop)))))))))) (fun _=>none)}
noncomputable def bq1Num:Code:=bdy Tryz.f336
abbrev ofq1Num:=@ofC Tryz.prog gq1Num 336 Tryz.f336 bq1Num Tryz.func336 zk zk zk zk
noncomputable def gq1Parts:Ctx:={N:=35,hints:=at1 2 ([.virt 5 1]) (fun _=>[])}
noncomputable def bq1Parts:Code:=bdy Tryz.f315
abbrev ofq1Parts:=@ofC Tryz.prog gq1Parts 315 Tryz.f315 bq1Parts Tryz.func315 zk zk zk zk
noncomputable def gq9Days:Ctx:={N:=2}
noncomputable def bq9Days:Code:=bdy Tryz.f282
abbrev ofq9Days:=@ofC Tryz.prog gq9Days 282 Tryz.f282 bq9Days Tryz.func282 zk zk zk zk
noncomputable def gq9Day:Ctx:={N:=19}
noncomputable def bq9Day:Code:=bdy Tryz.f316
abbrev ofq9Day:=@ofC Tryz.prog gq9Day 316 Tryz.f316 bq9Day Tryz.func316 zk zk zk zk
noncomputable def gq9Two:Ctx:={N:=36,plan:=at1 3 (some (ln [1,3,5,7,9,11,13,15,17,19,21])) (fun _=>none)}
noncomputable def bq9Two:Code:=bdy Tryz.f334
abbrev ofq9Two:=@ofC Tryz.prog gq9Two 334 Tryz.f334 bq9Two Tryz.func334 zk zk zk zk
noncomputable def gq9Clock:Ctx:={N:=39,plan:=at1 5 (some (ln [1,3,7,9,4,10,13,15])) (fun _=>none)}
noncomputable def bq9Clock:Code:=bdy Tryz.f317
abbrev ofq9Clock:=@ofC Tryz.prog gq9Clock 317 Tryz.f317 bq9Clock Tryz.func317 zk zk zk zk
noncomputable def gq9Span:Ctx:={N:=32,plan:=at1 4 (some (ln [1,3,5,9,11,13,15,17,19,6,20,23,25])) (fun _=>none)}
noncomputable def bq9Span:Code:=bdy Tryz.f260
abbrev ofq9Span:=@ofC Tryz.prog gq9Span 260 Tryz.f260 bq9Span Tryz.func260 zk zk zk zk
noncomputable def gq9Times:Ctx:={N:=29,plan:=at1 4 (some (ln [1,3,5,9,11,13,6,14,17,19])) (fun _=>none)}
noncomputable def bq9Times:Code:=bdy Tryz.f261
abbrev ofq9Times:=@ofC Tryz.prog gq9Times 261 Tryz.f261 bq9Times Tryz.func261 zk zk zk zk
noncomputable def gq9Parse:Ctx:={N:=96,hints:=at1 6 ([.virt 4 2]) (fun _=>[])}
noncomputable def bq9Parse:Code:=bdy Tryz.f189
abbrev ofq9Parse:=@ofC Tryz.prog gq9Parse 189 Tryz.f189 bq9Parse Tryz.func189 zk zk zk zk
noncomputable def gq9Pad:Ctx:={N:=10}
noncomputable def bq9Pad:Code:=bdy Tryz.f323
abbrev ofq9Pad:=@ofC Tryz.prog gq9Pad 323 Tryz.f323 bq9Pad Tryz.func323 zk zk zk zk
noncomputable def gq9Text:Ctx:={N:=11}
noncomputable def bq9Text:Code:=bdy Tryz.f283
abbrev ofq9Text:=@ofC Tryz.prog gq9Text 283 Tryz.f283 bq9Text Tryz.func283 zk zk zk zk
noncomputable def gq9Win:Ctx:={N:=5}
noncomputable def bq9Win:Code:=bdy Tryz.f215
abbrev ofq9Win:=@ofC Tryz.prog gq9Win 215 Tryz.f215 bq9Win Tryz.func215 zk zk zk zk
noncomputable def gq9Form:Ctx:={N:=70,plan:=at1 16 (some (ln [1,5,11,13,15,17,19,21,23,25,31,33,35,37,39,41,43,45,47,2,7,9,26,29,48,51,52,54,57])) (fun _=>none),hints:=at1 6 ([.virt 3 1]) (fun _=>[]),cut:=at1 16 (true) (fun _=>false)}
noncomputable def bq9Form:Code:=bdy Tryz.f216
abbrev ofq9Form:=@ofC Tryz.prog gq9Form 216 Tryz.f216 bq9Form Tryz.func216 zk zk zk zk
noncomputable def gnWin:Ctx:={N:=47,np:=1,own:=at1 16 (true) (fun _=>false),plan:=at1 3 (some (.one 0 true (.one 1 true (.one 5 true (.one 6 true (.one 2 false (.one 3 true (.wch 4 (ln [14,17,19,20,23]))))))))) (at1 7 (some (.one 0 true (.one 1 true (.one 2 true (.one 6 true (.one 7 true (.one 3 false (.one 4 true (.wch 5 (ln [16,19,21,22,24,27])))))))))) (fun _=>none))}
noncomputable def bnWin:Code:=bdy Tryz.f107
abbrev ofnWin:=@ofC Tryz.prog gnWin 107 Tryz.f107 bnWin Tryz.func107 zk zk zk zk
noncomputable def gnPick:Ctx:={N:=20,np:=1,own:=at1 16 (true) (fun _=>false)}
noncomputable def bnPick:Code:=bdy Tryz.f190
abbrev ofnPick:=@ofC Tryz.prog gnPick 190 Tryz.f190 bnPick Tryz.func190 zk zk zk zk
noncomputable def gnMin:Ctx:={N:=12,np:=1,own:=at1 16 (true) (fun _=>false)}
noncomputable def bnMin:Code:=bdy Tryz.f45
abbrev ofnMin:=@ofC Tryz.prog gnMin 45 Tryz.f45 bnMin Tryz.func45 zk zk zk zk
noncomputable def gnRange:Ctx:={N:=20,np:=1,own:=at1 65 (true) (fun _=>false)}
noncomputable def bnRange:Code:=bdy Tryz.f106
abbrev ofnRange:=@ofC Tryz.prog gnRange 106 Tryz.f106 bnRange Tryz.func106 zk zk zk zk
noncomputable abbrev celX(b:Bx):List AV:=[.v (.int .u32 b.r0.lo),.v (.int .u32 b.r0.hi),.v (.int .u32 b.r1.lo),.v (.int .u32 b.r1.hi),.v (.int .u32 b.r2.lo),.v (.int .u32 b.r2.hi),.v (.int .u32 b.r3.lo),.v (.int .u32 b.r3.hi),.v (.int .u32 b.r4.lo),.v (.int .u32 b.r4.hi)]
theorem ix_map_any{α:Type}{f:α->AV}{l:List α}{i:Nat}{K:AV->Prop}(h:i<l.length)(hk:∀r,r∈l->K (f r)):Ix (l.map f) i K:=ix_map (aB h) (hk _ (dG h))
abbrev iA:=@ix_map_any
end Go.Proofs.YtbdikofefjljoaaGreatDoor
