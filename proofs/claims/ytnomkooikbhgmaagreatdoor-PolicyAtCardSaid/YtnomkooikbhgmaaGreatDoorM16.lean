/- Lemmas. -/
import Derived.Test.YtnomkooikbhgmaaGreatDoorProg
import Derived.Test.YtnomkooikbhgmaaGreatDoorM15
set_option linter.unusedVariables false
set_option linter.unusedSimpArgs false
set_option maxRecDepth 100000
set_option maxHeartbeats 4000000
noncomputable section
namespace Go.Proofs.YtnomkooikbhgmaaGreatDoor
open Go Go.Vm
theorem cano_ext2(op op':Bool->Bool->Bool):∀(k:Nat) (a b a' b':List Bx),k<=5->(∀p,InP p->op (memK p k a) (memK p k b)=op' (memK p k a') (memK p k b'))->cano op k a b=cano op' k a' b'
 |0,a,b,a',b',_,h=>by
  have h1:=h _ inP_zero;rw[memK_zero,memK_zero,memK_zero,memK_zero]at h1;rw[cano,cano,h1]
 |k+1,a,b,a',b',hk,h=>by
  have g:=cano_ginv op k a b (starts_cuts _ (topF_pos (4-k)).1);have g':=cano_ginv op' k a' b' (starts_cuts _ (topF_pos (4-k)).1);have part:∀v,0<=v->v<topF (4-k)+1->∀p,InP p->op (memK p k (atF (4-k) v a)) (memK p k (atF (4-k) v b))=op' (memK p k (atF (4-k) v a')) (memK p k (atF (4-k) v b')):=by
   intro v v0 v1 p hp;have hq:InP (fun f=>if f=4-k then v else p f):=fun f=>by
    by_cases e:f=4-k
    ·simp only[e,if_true];omega
    ·simp only[e,if_false];exact hp f
   have h:=h _ hq;rw[memK_succ,memK_succ,memK_succ,memK_succ,aG rfl]at h;have e:∀c:List Bx,memK p k (atF (4-k) v c)=memK (fun f=>if f=4-k then v else p f) k (atF (4-k) v c):=fun c=>memK_congr zo fun f hf h5=>by rw[aD zo]
   rw[e,e,e,e,h]
  have hR:∀v,0<=v->v<topF (4-k)+1->restAt op k a b v=restAt op' k a' b' v:=fun v v0 v1=>
   cano_ext2 op op' k _ _ _ _ zo (part v v0 v1)
  rw[cano_succ,cano_succ,(g.congr hR).same g']
theorem memK_nil{p:Nat->Int}{k:Nat}:memK p k []=false:=rfl
theorem cano_same(op:Bool->Bool->Bool)(a b:List Bx):cano orB 5 (cano op 5 a b) []=cano op 5 a b:=
 cano_ext2 orB op 5 _ _ _ _ (aM _) fun p hp=>by rw[cano_mem op hp 5 a b (aM _),memK_nil,orB,Bool.or_false]
theorem okL_bx{l:List Bx}(h:okL l):∀x,x∈l->x.ok:=fun x hx=>⟨h x hx 0 zo,h x hx 1 zo,h x hx 2 zo,h x hx 3 zo,h x hx 4 zo⟩
theorem vld_all{l:List Bx}(h:okL l):vldB l=l:=eQ.2 fun x hx=>by simpa using okL_bx h x hx
theorem setB_cano{op:Bool->Bool->Bool}{a b:List Bx}(h:(cano op 5 a b).length<=4096):setB (cano op 5 a b)=true:=by
 have ho:=okL_cano op a b;unfold setB;rw[vld_all ho];simp only[aJ,aL,true_and];refine⟨h,(canB_iff 5 _ (aM _) (fun x hx f hf _=>ho x hx f hf) zo).2 ?_⟩;rw[cano_same];exact((eA fun x _=>zeroTo_five x).trans (List.map_id _)).symm
theorem setB_nil:setB []=true:=by decide+kernel
theorem setB_lim(op:Bool->Bool->Bool)(a b:List Bx):setB (limP (cano op 5 a b))=true:=by
 unfold limP;split
 ·exact setB_nil
 ·exact setB_cano zo
theorem setB_makeGo:∀(l s:List Bx),setB s=true->setB (makeGo s l).1=true
 |[],s,h=>h
 |b::l,s,h=>by
  rw[makeGo];split
  ·split
   ·exact setB_nil
   ·exact setB_makeGo l _ (setB_cano (by unfold addO at*;omega))
  ·exact setB_makeGo l s h
theorem setB_makeP(l:List Bx):setB (makeP l).1=true:=setB_makeGo l [] setB_nil
theorem setB_combP(op:Bool->Bool->Bool)(a b:List Bx):setB (combP op a b).1=true:=by
 unfold combP;split
 ·exact setB_nil
 ·split
  ·exact setB_nil
  ·exact setB_lim ..
theorem combP_mem{op:Bool->Bool->Bool}{a b:List Bx}(ha:setB a=true)(hb:setB b=true)(he:(combP op a b).2=0){p:Nat->Int}(hp:InP p):memK p 5 (combP op a b).1=op (memK p 5 a) (memK p 5 b):=by
 rw[combP_set ha hb]at he⊢;simp only at he⊢;have:(cano op 5 a b).length<=4096:=by
  have:=mt limE_ne.2 (fun h=>h he);omega
 rw[limP,aD zo,cano_mem op hp 5 a b (aM _)]
theorem combP_sub{op:Bool->Bool->Bool}{a b:List Bx}(ha:setB a=true)(hb:setB b=true){p:Nat->Int}(hp:InP p)(h:memK p 5 (combP op a b).1=true):op (memK p 5 a) (memK p 5 b)=true:=by
 rw[combP_set ha hb]at h;simp only[limP]at h;split at h
 ·rw[memK_nil]at h;cases h
 ·rwa[cano_mem op hp 5 a b (aM _)]at h
theorem vldB_cons(b:Bx)(l:List Bx):vldB (b::l)=if b.ok then b::vldB l else vldB l:=by
 unfold vldB;by_cases h:b.ok
 ·rw[List.filter_cons_of_pos (by simpa using h),aG h]
 ·rw[List.filter_cons_of_neg (by simpa using h),aD h]
theorem makeGo_mem{p:Nat->Int}(hp:InP p):∀(l s:List Bx),memK p 5 (makeGo s l).1=true->memK p 5 s=true\/memK p 5 (vldB l)=true
 |[],s,h=>.inl h
 |b::l,s,h=>by
  rw[makeGo]at h;rw[vldB_cons];have hb:memK p 5 (b::vldB l)=(inK p 5 b||memK p 5 (vldB l)):=rfl;split at h
  ·rename_i ho;rw[aG ho];split at h
   ·rw[memK_nil]at h;cases h
   ·rcases makeGo_mem hp l _ h with h1|h1
    ·rw[addO,cano_mem orB hp 5 _ _ (aM _)]at h1;have e:memK p 5 [b]=inK p 5 b:=by simp[memK]
     rw[e]at h1;simp only[orB,bS]at h1;rcases h1 with h1|h1
     ·exact .inl h1
     ·exact .inr (by rw[hb,h1];rfl)
    ·exact .inr (by rw[hb,h1,Bool.or_true])
  ·rename_i ho;rw[aD ho];exact makeGo_mem hp l _ h
theorem makeP_mem{p:Nat->Int}(hp:InP p){l:List Bx}(h:memK p 5 (makeP l).1=true):memK p 5 (vldB l)=true:=by
 rcases makeGo_mem hp l [] h with h1|h1
 ·rw[memK_nil]at h1;cases h1
 ·exact h1
theorem subB_of{a b:List Bx}(ha:okL a)(h:∀p,InP p->memK p 5 a=true->memK p 5 (vldB b)=true):subB a b=true:=by
 unfold subB;rw[vld_all ha,(cano_sub a (vldB b)).2 h];rfl
/-! texts in their order -/
def ltS(s t:ByteArray):Bool:=Op.bytesLess s.toList t.toList
theorem bl_asymm:∀(a b:List UInt8),Op.bytesLess a b=true->Op.bytesLess b a=false/\(b==a)=false
 |_,[],h=>by simp[Op.bytesLess]at h
 |[],b::y,_=>by simp[Op.bytesLess]
 |a::x,b::y,h=>by
  simp only[Op.bytesLess,bS,aJ,aL,beq_iff_eq]at h;rcases h with h|⟨rfl,h⟩
  ·have h2:¬b<a:=fun h'=>absurd (UInt8.lt_trans h h') (UInt8.lt_irrefl _);have h3:b≠a:=fun e=>by subst e;exact UInt8.lt_irrefl _ h
   simp[Op.bytesLess,h2,h3]
  ·obtain⟨h1,h2⟩:=bl_asymm x y h;simp only[beq_eq_false_iff_ne,ne_eq]at h2;simp[Op.bytesLess,h1,h2,UInt8.lt_irrefl]
theorem bl_trans:∀(a b c:List UInt8),Op.bytesLess a b=true->Op.bytesLess b c=true->Op.bytesLess a c=true
 |_,_,[],_,h=>by simp[Op.bytesLess]at h
 |[],_,_::_,_,_=>by simp[Op.bytesLess]
 |_::_,[],_,h,_=>by simp[Op.bytesLess]at h
 |a::x,b::y,c::z,h,h'=>by
  simp only[Op.bytesLess,bS,aJ,aL,beq_iff_eq]at h h'⊢;rcases h with h|⟨rfl,h⟩<;>rcases h' with h'|⟨rfl,h'⟩
  ·exact .inl (UInt8.lt_trans h h')
  ·exact .inl h
  ·exact .inl h'
  ·exact .inr ⟨rfl,bl_trans x y z h h'⟩
theorem bl_total:∀(a b:List UInt8),Op.bytesLess a b=false->(a==b)=false->Op.bytesLess b a=true
 |[],[],_,h=>by simp at h
 |[],_::_,h,_=>by simp[Op.bytesLess]at h
 |_::_,[],_,_=>by simp[Op.bytesLess]
 |a::x,b::y,h,h'=>by
  simp only[Op.bytesLess,eN,Bool.and_eq_false_iff,decide_eq_false_iff_not,beq_eq_false_iff_ne,ne_eq]at h;simp only[Op.bytesLess,bS,aJ,aL,beq_iff_eq];obtain⟨h1,h2⟩:=h;by_cases e:a=b
  ·subst e;refine .inr ⟨rfl,bl_total x y ?_ ?_⟩
   ·rcases h2 with h2|h2
    ·exact absurd rfl h2
    ·simpa using h2
   ·simpa using h'
  ·refine .inl ?_;have h1':¬a.toNat<b.toNat:=fun h=>h1 (UInt8.lt_iff_toNat_lt.2 h);have:a.toNat≠b.toNat:=fun h=>e (UInt8.toNat_inj.1 h);exact UInt8.lt_iff_toNat_lt.2 zo
/-! the policy of an intent, step by step -/
def realM(t:Tp)(q:Nat->Int):Prop:=memK q 5 (vldB (pairsB t.edges))=true/\memK q 5 initS=true
structure AtInv (t:Tp) (rest:List Bx) (p:Pol):Prop where
 rs:setB rest=true
 al:setB p.allow=true
 rr:∀q,InP q->memK q 5 rest=true->realM t q
 ar:∀q,InP q->memK q 5 p.allow=true->realM t q
 dj:∀q,InP q->memK q 5 rest=true->memK q 5 p.allow=false
 nm:∀x,x∈p.insp->nameOk x.cls
 ne:∀x,x∈p.insp->x.set≠[]
 st:∀x,x∈p.insp->setB x.set=true
 sb:∀x,x∈p.insp->∀q,InP q->memK q 5 x.set=true->memK q 5 p.allow=true
 ds:p.insp.Pairwise fun x y=>∀q,InP q->memK q 5 x.set=true->memK q 5 y.set=false
 od:p.insp.Pairwise fun x y=>ltS x.cls y.cls=true
inductive PutR (l:List Insp) (c:ByteArray) (s:List Bx):List Insp->Int->Prop
 |skip:(c.toList=[]\/s=[])->PutR l c s l 0
 |ins (k:Nat):c.toList≠[]->s≠[]->k<=l.length->(∀(j:Nat) y,j<k->l[j]? =some y->ltS y.cls c=true)->(∀y,l[k]? =some y->ltS y.cls c=false/\(y.cls.toList==c.toList)=false)->PutR l c s (l.take k++⟨c,s⟩::l.drop k) 0
 |uni (k:Nat) (y:Insp):c.toList≠[]->s≠[]->l[k]? =some y->(y.cls.toList==c.toList)=true->PutR l c s (l.set k ⟨y.cls,(combP orB y.set s).1⟩) (combP orB y.set s).2
theorem AtInv.deny{t:Tp}{rest s:List Bx}{p:Pol}(h:AtInv t rest p)(hs:setB s=true):AtInv t (combP woB rest s).1 p:=by
 have hm:∀q,InP q->memK q 5 (combP woB rest s).1=true->memK q 5 rest=true:=fun q hq h1=>by
  have:=combP_sub h.rs hs hq h1;simp only[woB,aJ]at this;exact this.1
 exact⟨setB_combP ..,h.al,fun q hq h1=>h.rr q hq (hm q hq h1),h.ar,fun q hq h1=>h.dj q hq (hm q hq h1),h.nm,h.ne,h.st,h.sb,h.ds,h.od⟩
theorem AtInv.permit{t:Tp}{rest s:List Bx}{p:Pol}{c:ByteArray}{l':List Insp}{e:Int}(h:AtInv t rest p)(hs:setB s=true)(hc:c.toList=[]\/nameOk c)(e1:(combP anB rest s).2=0)
  (e2:(combP woB rest s).2=0)(e3:(combP orB p.allow (combP anB rest s).1).2=0)(hp:PutR p.insp c (combP anB rest s).1 l' e)(he:e=0):
  AtInv t (combP woB rest s).1 ⟨(combP orB p.allow (combP anB rest s).1).1,l'⟩:=by
 have hps:setB (combP anB rest s).1=true:=setB_combP ..;have hpm:∀q,InP q->memK q 5 (combP anB rest s).1=(memK q 5 rest&&memK q 5 s):=fun q hq=>by rw[combP_mem h.rs hs e1 hq];rfl
 have hrm:∀q,InP q->memK q 5 (combP woB rest s).1=(memK q 5 rest&& !memK q 5 s):=fun q hq=>by rw[combP_mem h.rs hs e2 hq];rfl
 have ham:∀q,InP q->memK q 5 (combP orB p.allow (combP anB rest s).1).1=(memK q 5 p.allow||memK q 5 (combP anB rest s).1):=fun q hq=>by rw[combP_mem h.al hps e3 hq];rfl
 have hdis:∀x,x∈p.insp->∀q,InP q->memK q 5 (combP anB rest s).1=true->memK q 5 x.set=false:=fun x hx q hq h1=>by
  rw[hpm q hq]at h1;simp only[aJ]at h1;rw[bV];intro h2;have:=h.dj q hq h1.1;rw[h.sb x hx q hq h2]at this;cases this
 have hsb:∀x,x∈p.insp->∀q,InP q->memK q 5 x.set=true->memK q 5 (combP orB p.allow (combP anB rest s).1).1=true:=fun x hx q hq h1=>by
  rw[ham q hq,h.sb x hx q hq h1];rfl
 have hpb:∀q,InP q->memK q 5 (combP anB rest s).1=true->memK q 5 (combP orB p.allow (combP anB rest s).1).1=true:=fun q hq h1=>by rw[ham q hq,h1,Bool.or_true]
 have f1:setB (combP woB rest s).1=true:=setB_combP ..;have f2:setB (combP orB p.allow (combP anB rest s).1).1=true:=setB_combP ..;have f3:∀q,InP q->memK q 5 (combP woB rest s).1=true->realM t q:=fun q hq h1=>by
  rw[hrm q hq]at h1;simp only[aJ]at h1;exact h.rr q hq h1.1
 have f4:∀q,InP q->memK q 5 (combP orB p.allow (combP anB rest s).1).1=true->realM t q:=fun q hq h1=>by
  rw[ham q hq,hpm q hq]at h1;simp only[bS,aJ]at h1;rcases h1 with h1|h1
  ·exact h.ar q hq h1
  ·exact h.rr q hq h1.1
 have f5:∀q,InP q->memK q 5 (combP woB rest s).1=true->memK q 5 (combP orB p.allow (combP anB rest s).1).1=false:=fun q hq h1=>by
  rw[hrm q hq]at h1;simp only[aJ,dT]at h1;rw[ham q hq,hpm q hq,h.dj q hq h1.1,h1.2,Bool.and_false];rfl
 cases hp with
 |skip h0=>exact⟨f1,f2,f3,f4,f5,h.nm,h.ne,h.st,hsb,h.ds,h.od⟩
 |ins k h0 h1 hk hlt hge=>
  have hmem:∀x,x∈p.insp.take k++⟨c,(combP anB rest s).1⟩::p.insp.drop k->x∈p.insp\/x=⟨c,(combP anB rest s).1⟩:=fun x hx=>by
   rcases aX.1 hx with hx|hx
   ·exact .inl (cA hx)
   ·rcases aU.1 hx with hx|hx
    ·exact .inr hx
    ·exact .inl (dP hx)
  have hall:∀(Q:Insp->Prop),(∀x,x∈p.insp->Q x)->Q ⟨c,(combP anB rest s).1⟩->∀x,x∈p.insp.take k++⟨c,(combP anB rest s).1⟩::p.insp.drop k->Q x:=fun Q g1 g2 x hx=>by
   rcases hmem x hx with hx|rfl
   ·exact g1 x hx
   ·exact g2
  have hpw:∀(R:Insp->Insp->Prop),p.insp.Pairwise R->(∀x,x∈p.insp.take k->R x ⟨c,(combP anB rest s).1⟩)->(∀x,x∈p.insp.drop k->R ⟨c,(combP anB rest s).1⟩ x)->(p.insp.take k++⟨c,(combP anB rest s).1⟩::p.insp.drop k).Pairwise R:=fun R g g1 g2=>by
   rw[<-cO k p.insp]at g;rw[dK]at g⊢;refine⟨g.1,bT.2 ⟨g2,g.2.1⟩,fun a ha b hb=>?_⟩;rcases aU.1 hb with rfl|hb
   ·exact g1 a ha
   ·exact g.2.2 a ha b hb
  refine⟨f1,f2,f3,f4,f5,hall _ h.nm (hc.resolve_left h0),hall (fun x=>x.set≠[]) h.ne h1,hall (fun x=>setB x.set=true) h.st hps,hall (fun x=>∀q,InP q->memK q 5 x.set=true->_) hsb hpb,?_,?_⟩
  ·refine hpw _ h.ds (fun x hx q hq h2=>?_) (fun x hx q hq h2=>hdis x (dP hx) q hq h2);rw[bV];intro h3;rw[hdis x (cA hx) q hq h3]at h2;cases h2
  ·refine hpw _ h.od (fun x hx=>?_) (fun x hx=>?_)
   ·obtain⟨j,hj⟩:=bN.1 hx;rw[cY]at hj;split at hj
    ·exact hlt j x zp hj
    ·cases hj
   ·obtain⟨j,hj⟩:=bN.1 hx;rw[cF]at hj;obtain⟨y,hy⟩:∃y,p.insp[k]? =some y:=⟨_,aE (by have:=(aP.1 hj).1;omega)⟩
    obtain⟨g1,g2⟩:=hge y hy;have hcy:ltS c y.cls=true:=bl_total _ _ g1 g2;rcases dI j with rfl|hj0
    ·rw[eF,hy]at hj;cases hj;exact hcy
    ·have:=cV.1 h.od k (k+j) (aP.1 hy).1 (aP.1 hj).1 zo;rw[(aP.1 hy).2,(aP.1 hj).2]at this;exact bl_trans _ _ _ hcy this
 |uni k y h0 h1 hk hy=>
  have hym:y∈p.insp:=aI hk;have hum:∀q,InP q->memK q 5 (combP orB y.set (combP anB rest s).1).1=(memK q 5 y.set||memK q 5 (combP anB rest s).1):=fun q hq=>by rw[combP_mem (h.st y hym) hps he hq];rfl
  have hall:∀(Q:Insp->Prop),(∀x,x∈p.insp->Q x)->Q ⟨y.cls,(combP orB y.set (combP anB rest s).1).1⟩->∀x,x∈p.insp.set k ⟨y.cls,(combP orB y.set (combP anB rest s).1).1⟩->Q x:=fun Q g1 g2 x hx=>by
   rcases List.mem_or_eq_of_mem_set hx with hx|rfl
   ·exact g1 x hx
   ·exact g2
  have hkl:=(aP.1 hk).1;have hke:=(aP.1 hk).2;have hpw:∀(R:Insp->Insp->Prop),p.insp.Pairwise R->(∀x,x∈p.insp->R x y->R x ⟨y.cls,(combP orB y.set (combP anB rest s).1).1⟩)->(∀x,x∈p.insp->R y x->R ⟨y.cls,(combP orB y.set (combP anB rest s).1).1⟩ x)->(p.insp.set k ⟨y.cls,(combP orB y.set (combP anB rest s).1).1⟩).Pairwise R:=fun R g g1 g2=>by
   rw[cV]at g⊢;intro i j hi hj hij;rw[cT]at hi hj;rw[List.getElem_set,List.getElem_set];by_cases e1:k=i
   ·rw[aG e1,aD zo];refine g2 _ (dC _) ?_;subst e1;have:=g k j hi hj hij
    rwa[hke]at this
   ·rw[aD e1];by_cases e2:k=j
    ·rw[aG e2];refine g1 _ (dC _) ?_;subst e2;have:=g i k hi hj hij
     rwa[hke]at this
    ·rw[aD e2];exact g i j hi hj hij
  refine⟨f1,f2,f3,f4,f5,hall _ h.nm (h.nm y hym),hall (fun x=>x.set≠[]) h.ne ?_,hall (fun x=>setB x.set=true) h.st (setB_combP ..),hall (fun x=>∀q,InP q->memK q 5 x.set=true->_) hsb ?_,?_,?_⟩
  ·intro e0;simp only at e0;have:∀q,InP q->memK q 5 y.set=false:=fun q hq=>by
    have:=hum q hq;rw[e0,memK_nil]at this;cases hy:memK q 5 y.set
    ·rfl
    ·rw[hy]at this;cases this
   obtain⟨b,hb⟩:=List.exists_mem_of_ne_nil _ (h.ne y hym);obtain⟨q,hq,hqb⟩:=box_point (okL_set (h.st y hym) b hb);have h3:=this q hq;rw[memK_iff.2 ⟨b,hb,hqb⟩]at h3;cases h3
  ·intro q hq h2;simp only at h2;rw[hum q hq,bS]at h2;rcases h2 with h2|h2
   ·exact hsb y hym q hq h2
   ·exact hpb q hq h2
  ·refine hpw _ h.ds (fun x hx hr q hq h2=>?_) (fun x hx hr q hq h2=>?_)
   ·simp only;rw[hum q hq,hr q hq h2,fV,bV];intro h3;rw[hdis x hx q hq h3]at h2;cases h2
   ·simp only at h2;rw[hum q hq,bS]at h2;rcases h2 with h2|h2
    ·exact hr q hq h2
    ·exact hdis x hx q hq h2
  ·exact hpw _ h.od (fun x hx hr=>hr) (fun x hx hr=>hr)
theorem init_vld:vldB initS=initS:=by decide+kernel
theorem init_set:setB initS=true:=by decide+kernel
theorem AtInv.pol{t:Tp}{rest:List Bx}{p:Pol}(h:AtInv t rest p)(hc:compB t=true):PolOk t p:=by
 refine⟨hc,h.al,subB_of (okL_set h.al) fun q hq h1=>(h.ar q hq h1).1,subB_of (okL_set h.al) fun q hq h1=>by rw[init_vld];exact(h.ar q hq h1).2,fun n x hx=>?_⟩;have hxm:=aI hx;refine⟨h.nm x hxm,fun k y hn hy=>?_,h.ne x hxm,h.st x hxm,subB_of (okL_set (h.st x hxm)) fun q hq h1=>by rw[vld_all (okL_set h.al)];exact h.sb x hxm q hq h1,fun k y hk hy=>?_⟩
 ·have:=cV.1 h.od k n (aP.1 hy).1 (aP.1 hx).1 zo;rw[(aP.1 hy).2,(aP.1 hx).2]at this;obtain⟨h1,h2⟩:=bl_asymm _ _ this;simp only[leS,h1,h2];rfl
 ·have:=cV.1 h.ds k n (aP.1 hy).1 (aP.1 hx).1 hk;rw[(aP.1 hy).2,(aP.1 hx).2]at this;rw[<-disj_iff (h.st x hxm) (h.st y (aI hy)),cano_nil_mem];intro q hq;simp only[anB,Bool.and_eq_false_iff];by_cases h1:memK q 5 x.set=true
  ·right;rw[bV];intro h2;rw[this q hq h2]at h1;cases h1
  ·left;simpa using h1
def realP(t:Tp):List Bx×Int:=if(makeP (pairsB t.edges)).2≠0 then([],(makeP (pairsB t.edges)).2)else combP anB (makeP (pairsB t.edges)).1 initS
theorem setB_realP(t:Tp):setB (realP t).1=true:=by
 unfold realP;split
 ·exact setB_nil
 ·exact setB_combP ..
theorem realP_mem(t:Tp):∀q,InP q->memK q 5 (realP t).1=true->realM t q:=fun q hq h=>by
 unfold realP at h;split at h
 ·rw[memK_nil]at h;cases h
 ·have:=combP_sub (setB_makeP _) init_set hq h;simp only[anB,aJ]at this;exact⟨makeP_mem hq this.1,this.2⟩
theorem atInv_start(t:Tp):AtInv t (realP t).1 ⟨[],[]⟩:=
 ⟨setB_realP t,setB_nil,realP_mem t,(fun q hq h=>by rw[memK_nil]at h;cases h),fun q hq h=>rfl,(fun x h=>by simp at h),(fun x h=>by simp at h),(fun x h=>by simp at h),(fun x h=>by simp at h),List.Pairwise.nil,List.Pairwise.nil⟩
structure It where
 kind:Int
 name:ByteArray
 pf:Pf
 proto:Int
 ports:Rg
structure Df where
 name:ByteArray
 items:List It
structure Wn where
 name:ByteArray
 act:List Rg
structure Sm where
 permit:Bool
 frm:ByteArray
 to:ByteArray
 svc:ByteArray
 exc:Bool
 exF:ByteArray
 exT:ByteArray
 cls:ByteArray
 dur:ByteArray
 pri:Int
structure Pb where
 addr:Int
 proto:Int
 port:Int
 edge:ByteArray
 real:Int
 rport:Int
structure Hn where
 grp:ByteArray
 edge:ByteArray
 addr:Int
 ports:Rg
structure Nt where
 grps:List Df
 svcs:List Df
 wins:List Wn
 sts:List Sm
 pubs:List Pb
 hids:List Hn
abbrev encIt(x:It):AV:=.agg [.v (.int .i64 x.kind),.v (.string x.name),.v (.int .u32 x.pf.addr),.v (.int .i64 x.pf.bits),.v (.int .i64 x.proto),.v (.int .u32 x.ports.lo),.v (.int .u32 x.ports.hi)]
abbrev encDf(x:Df):AV:=.agg [.v (.string x.name),.lst (x.items.map encIt)]
abbrev encWn(x:Wn):AV:=.agg [.v (.string x.name),encRs x.act]
abbrev encSm(x:Sm):AV:=.agg [.sb x.permit,.v (.string x.frm),.v (.string x.to),.v (.string x.svc),.sb x.exc,.v (.string x.exF),.v (.string x.exT),.v (.string x.cls),.v (.string x.dur),.v (.int .i64 x.pri)]
abbrev encPb(x:Pb):AV:=.agg [.v (.int .u32 x.addr),.v (.int .i64 x.proto),.v (.int .i64 x.port),.v (.string x.edge),.v (.int .u32 x.real),.v (.int .i64 x.rport)]
abbrev encHn(x:Hn):AV:=.agg [.v (.string x.grp),.v (.string x.edge),.v (.int .u32 x.addr),.v (.int .u32 x.ports.lo),.v (.int .u32 x.ports.hi)]
abbrev celNt(i:Nt):List AV:=[.lst (i.grps.map encDf),.lst (i.svcs.map encDf),.lst (i.wins.map encWn),.lst (i.sts.map encSm),.lst (i.pubs.map encPb),.lst (i.hids.map encHn)]
abbrev encNt(i:Nt):AV:=.agg (celNt i)
abbrev boxNt(i:Nt):Vm.Obj:=.box (celNt i)
structure Sml (i:Nt):Prop where
 g:i.grps.length<=1000
 s:i.svcs.length<=1000
 w:i.wins.length<=1000
 t:i.sts.length<=1000
 p:i.pubs.length<=1000
 h:i.hids.length<=1000
 gi:∀x,x∈i.grps->x.items.length<=1000
 si:∀x,x∈i.svcs->x.items.length<=1000
 wi:∀x,x∈i.wins->x.act.length<=4000
open Go Go.Vm Go.ChangeShapes Go.WideShapes Go.ChangeAt Go.RowKit
theorem tz_int{d:Nat}{x:AV}(h:Ty Tryz.prog (d+1) 3 x):∃i:Int,x=.v (.int .i64 i)/\ -9223372036854775808<=i/\i<=9223372036854775807:=h
theorem tz_rg{d:Nat}{y:AV}(h:Ty Tryz.prog (d+2) 96 y):∃r:Rg,y=encR r:=by
 obtain⟨ys,hl,rfl,hf⟩:=h
 match ys,hl with
 |[p,q],_=>
  obtain⟨i,rfl,i0,i1⟩:=hf 0 _ p rfl rfl;obtain⟨j,rfl,j0,j1⟩:=hf 1 _ q rfl rfl;exact⟨⟨i,j,i0,i1,j0,j1⟩,rfl⟩
theorem tz_it{d:Nat}{y:AV}(h:Ty Tryz.prog (d+3) 98 y):∃x:It,y=encIt x:=by
 obtain⟨ys,hl,rfl,hf⟩:=h
 match ys,hl with
 |[a,b,c,e,f],_=>
  obtain⟨a,rfl,_⟩:=hf 0 _ a rfl rfl;obtain⟨b,rfl,_⟩:=hf 1 _ b rfl rfl;obtain⟨c,rfl⟩:=ty_pf (d:=d) (hf 2 _ c rfl rfl);obtain⟨e,rfl,_⟩:=hf 3 _ e rfl rfl;obtain⟨f,rfl⟩:=tz_rg (d:=d) (hf 4 _ f rfl rfl);exact⟨⟨a,b,c,e,f⟩,rfl⟩
theorem tz_sm{d:Nat}{y:AV}(h:Ty Tryz.prog (d+2) 81 y):∃x:Sm,y=encSm x:=by
 obtain⟨ys,hl,rfl,hf⟩:=h
 match ys,hl with
 |[a,b,c,e,f,g,i,j,k,l],_=>
  obtain⟨a,rfl⟩:=hf 0 _ a rfl rfl;obtain⟨b,rfl,_⟩:=hf 1 _ b rfl rfl;obtain⟨c,rfl,_⟩:=hf 2 _ c rfl rfl;obtain⟨e,rfl,_⟩:=hf 3 _ e rfl rfl;obtain⟨f,rfl⟩:=hf 4 _ f rfl rfl;obtain⟨g,rfl,_⟩:=hf 5 _ g rfl rfl;obtain⟨i,rfl,_⟩:=hf 6 _ i rfl rfl;obtain⟨j,rfl,_⟩:=hf 7 _ j rfl rfl;obtain⟨k,rfl,_⟩:=hf 8 _ k rfl rfl;obtain⟨l,rfl,_⟩:=hf 9 _ l rfl rfl;exact⟨⟨a,b,c,e,f,g,i,j,k,l⟩,rfl⟩
theorem tz_pb{d:Nat}{y:AV}(h:Ty Tryz.prog (d+2) 110 y):∃x:Pb,y=encPb x:=by
 obtain⟨ys,hl,rfl,hf⟩:=h
 match ys,hl with
 |[a,b,c,e,f,g],_=>
  obtain⟨a,rfl,_⟩:=hf 0 _ a rfl rfl;obtain⟨b,rfl,_⟩:=hf 1 _ b rfl rfl;obtain⟨c,rfl,_⟩:=hf 2 _ c rfl rfl;obtain⟨e,rfl,_⟩:=hf 3 _ e rfl rfl;obtain⟨f,rfl,_⟩:=hf 4 _ f rfl rfl;obtain⟨g,rfl,_⟩:=hf 5 _ g rfl rfl;exact⟨⟨a,b,c,e,f,g⟩,rfl⟩
theorem tz_hn{d:Nat}{y:AV}(h:Ty Tryz.prog (d+3) 112 y):∃x:Hn,y=encHn x:=by
 obtain⟨ys,hl,rfl,hf⟩:=h
 match ys,hl with
 |[a,b,c,e],_=>
  obtain⟨a,rfl,_⟩:=hf 0 _ a rfl rfl;obtain⟨b,rfl,_⟩:=hf 1 _ b rfl rfl;obtain⟨c,rfl,_⟩:=hf 2 _ c rfl rfl;obtain⟨e,rfl⟩:=tz_rg (d:=d) (hf 3 _ e rfl rfl);exact⟨⟨a,b,c,e⟩,rfl⟩
end Go.Proofs.YtnomkooikbhgmaaGreatDoor
namespace Go.Vm
open Go.ChangeShapes Go.WideShapes
def TyL(P:Program)(L:Nat):Nat->TypeId->AV->Prop
 |0,_,_=>False
 |n+1,t,x=>match P.underlying t with
  |some .bool=>∃b,x=.sb b
  |some (.int k)=>∃i,x=.v (.int k i)/\k.min<=i/\i<=k.max
  |some .string=>∃s,x=.v (.string s)/\s.size<=maxLen
  |some (.slice e)=>∃xs,x=.lst xs/\xs.length<=maxLen/\xs.length<=L/\∀y,y∈xs->TyL P L n e y
  |some (.struct fs)=>∃ys:List AV,ys.length=fs.size/\x=.agg (ys.flatMap AV.cells)/\∀(i:Nat) f y,fs[i]? =some f->ys[i]? =some y->TyL P L n f.type y
  |some (.array m e)=>∃ys:List AV,ys.length=m/\x=.agg (ys.flatMap AV.cells)/\∀y,y∈ys->TyL P L n e y
  |_=>False
theorem TyL.ty{P:Program}{L:Nat}:∀{d:Nat} {t:TypeId} {x:AV},TyL P L d t x->Ty P d t x
 |0,_,_,h=>h
 |d+1,t,x,h=>by
  simp only[TyL]at h;simp only[Ty];cases hu:P.underlying t with
  |none=>simp only[hu]at h
  |some D=>
   simp only[hu]at h⊢;cases D with
   |bool=>exact h
   |int k=>exact h
   |string=>exact h
   |slice e=>
    obtain⟨xs,h1,h2,_,h3⟩:=h;exact⟨xs,h1,h2,fun y hy=>(h3 y hy).ty⟩
   |struct fs=>
    obtain⟨ys,h1,h2,h3⟩:=h;exact⟨ys,h1,h2,fun i f y hf hy=>(h3 i f y hf hy).ty⟩
   |array m e=>
    obtain⟨ys,h1,h2,h3⟩:=h;exact⟨ys,h1,h2,fun y hy=>(h3 y hy).ty⟩
   |_=>exact h.elim
def tyOkL(P:Program):Nat->TypeId->Bool
 |0,_=>false
 |n+1,t=>match P.underlying t with
  |some .bool=>true
  |some (.int _)=>true
  |some .string=>true
  |some (.slice e)=>decide (0<P.cellsOf e)&&(decide (0<P.bytesOf e)&&tyOkL P n e)
  |some (.struct fs)=>fieldsLie P (P.cellsOf t) 0 fs.toList&&fs.toList.all fun f=>tyOkL P n f.type
  |some (.array m e)=>decide (P.cellsOf t=m*P.cellsOf e)&&tyOkL P n e
  |_=>false
theorem mem_weightsAll{H:Type}{P:Program}{e:TypeId}:∀{l:List (DataW H)} {x:DataW H} {n:Nat},x∈l->n∈x.weights P e->n∈DataW.weightsAll P e l
 |[],_,_,h,_=>by cases h
 |y::l,x,n,h,hn=>by
  simp only[DataW.weightsAll];rcases aU.1 h with rfl|h
  ·exact cK _ hn
  ·exact fA _ (mem_weightsAll h hn)
theorem mem_weightsEach{H:Type}{P:Program}:∀{ts:List TypeId} {l:List (DataW H)} {i:Nat} {t:TypeId} {x:DataW H} {n:Nat},ts[i]? =some t->l[i]? =some x->n∈x.weights P t->n∈DataW.weightsEach P ts l
 |[],_,_,_,_,_,h,_,_=>by simp at h
 |_::_,[],_,_,_,_,_,h,_=>by simp at h
 |t'::ts,y::l,0,t,x,n,h1,h2,hn=>by
  simp at h1 h2;subst h1;subst h2;simp only[DataW.weightsEach];exact cK _ hn
 |t'::ts,y::l,i+1,t,x,n,h1,h2,hn=>by
  simp only[DataW.weightsEach];exact fA _ (mem_weightsEach (by simpa using h1) (by simpa using h2) hn)
theorem mem_weightsEach_app{H:Type}{P:Program}:∀{ts us:List TypeId} {l:List (DataW H)} {n:Nat},n∈DataW.weightsEach P ts l->n∈DataW.weightsEach P (ts++us) l
 |[],_,_,_,h=>by simp[DataW.weightsEach]at h
 |_::_,_,[],_,h=>by simp[DataW.weightsEach]at h
 |t::ts,us,x::l,n,h=>by
  simp only[DataW.weightsEach,fU]at h⊢;rcases aX.1 h with h|h
  ·exact cK _ h
  ·exact fA _ (mem_weightsEach_app h)
section
variable {H:Type} {enc:TypeId×Value->H} {P:Program} {w:World} {held:Bool}
theorem rel_of_trodL(L:Nat):∀(d:Nat) {t:TypeId} {fuel:Nat} {cs:List Value} {x:DataW H×List MemPlace},tyOkL P d t=true->(∀n,n∈x.1.weights P t->n<=L)->DataW.trod enc P w 0 (fun _=>true) held fuel t cs=some x->
  ∃a,TyL P L d t a/\RL NoE w noInj a.cells cs.toArray
 |0,t,fuel,cs,x,ht,_,_=>by simp[tyOkL]at ht
 |d+1,t,fuel,cs,x,ht,hL,h=>by
  simp only[tyOkL]at ht;simp only[TyL];cases hu:P.underlying t with
  |none=>simp[hu]at ht
  |some D=>
   simp only[hu]at ht⊢;cases D with
   |bool=>
    obtain⟨b,rfl,_⟩:=DataW.trod_bool hu h;exact⟨.sb b,⟨b,rfl⟩,RL.one (.sb b)⟩
   |int k=>
    obtain⟨n,rfl,_,hw⟩:=DataW.trod_int hu h;simp only[Lit.wf,aJ,aL]at hw;exact⟨.v (.int k n),⟨n,rfl,hw⟩,RL.one (.v _)⟩
   |string=>
    obtain⟨s,rfl,_,hs⟩:=DataW.trod_string hu h;exact⟨.v (.string s),⟨s,rfl,hs⟩,RL.one (.v _)⟩
   |slice e=>
    simp only[aJ,aL]at ht;rcases DataW.trod_slice hu h with⟨rfl,_⟩|⟨a,len,cap,elems,rest,n,_,rfl,hx,hb,hlc,hcm,hel,hget,_,_⟩
    ·exact⟨.lst [],⟨[],rfl,by simp,by simp,fun y hy=>by simp at hy⟩,RL.one (.lnil none 0)⟩
    ·subst hx;have hwt:∀n,n∈(elems.length+rest.length)*P.bytesOf e::(DataW.weightsAll P e (elems.map (·.1))++DataW.weightsAll P e (rest.map (·.1)))->n<=L:=fun n hn=>hL n (by simp only[DataW.weights,hu,aA];exact hn);have hle:elems.length<=L:=by
      have h1:=hwt _ (fY ..);have h2:(elems.length+rest.length)*1<=(elems.length+rest.length)*P.bytesOf e:=dS _ ht.2.1;omega
     have each:∀i,i<len->∃y,TyL P L d e y/\∃cs',w.cells? 0 (a.add (i*P.cellsOf e)) (P.cellsOf e)=some cs'/\RL NoE w noInj y.cells cs'.toArray:=by
      intro i hi;have hx:=hget i hi;rw[aE (show i<elems.length by omega),Option.bind_eq_some_iff]at hx;obtain⟨cs',h1,h2⟩:=hx;obtain⟨y,h3,h4⟩:=rel_of_trodL L d ht.2.2 (fun n hn=>hwt n (aS _ (cK _ (mem_weightsAll (eR (dC (show i<elems.length by omega))) hn)))) h2;exact⟨y,h3,cs',h1,h4⟩
     obtain⟨ys,l1,l2⟩:=list_of_fun each;refine⟨.lst ys,⟨ys,rfl,by omega,by omega,fun y hy=>?_⟩,RL.one ?_⟩
     ·obtain⟨i,hi⟩:=List.getElem?_of_mem hy;exact(l2 i y hi).1
     ·rcases dI len with h0|h0
      ·have:ys=[]:=dY zo;subst this;subst h0;exact .lnil _ _
      ·have hcell:∀(i:Nat) y (j:Nat) c,ys[i]? =some y->y.cells[j]? =some c->∃u,w.cell? ((a.add (i*P.cellsOf e)).add j)=some u/\Rel NoE w noInj c u:=by
        intro i y j c hy hc;obtain⟨_,cs',c1,c2⟩:=l2 i y hy;obtain⟨_,c3,c4⟩:=World.cells?_some c1;have hj:j<y.cells.length:=(aP.1 hc).1;have hj':j<cs'.length:=by have:=c2.1;simp at this;omega
        rw[c4 j zo,aE hj'];exact⟨_,rfl,c2.2 j c _ hc (by simp[hj'])⟩
       have hlenc:∀(i:Nat) y,ys[i]? =some y->y.cells.length=P.cellsOf e:=by
        intro i y hy;obtain⟨_,cs',c1,c2⟩:=l2 i y hy;obtain⟨_,c3,c4⟩:=World.cells?_some c1;have:=c2.1;simp at this;omega
       have h00:ys[0]? =some (ys[0]'zo):=aE _;have hc0:((ys[0]'zo).cells)[0]? =some (((ys[0]'zo).cells)[0]'(by rw[hlenc 0 _ h00];exact ht.1)):=aE _;obtain⟨u0,hu0,_⟩:=hcell 0 _ 0 _ h00 hc0;have hs:a.spot=none:=by
        simp only[fG,Addr.add,if_true]at hu0;cases hsp:a.spot with
        |none=>rfl
        |some k=>
         unfold World.cell? at hu0;rw[hsp]at hu0;split at hu0
         ·simp at hu0
         ·cases hu0
       obtain⟨b,off,spot⟩:=a;simp only at hs;subst hs;have hadd:∀i j:Nat,((⟨b,off,none⟩:Addr).add (i*P.cellsOf e)).add j=⟨b,off+i*P.cellsOf e+j,none⟩:=by
        intro i j;simp only[Addr.add];by_cases h1:i*P.cellsOf e=0<;>by_cases h2:j=0<;>simp[h1,h2]
       refine .lst ys b off len cap (P.cellsOf e) (fun hh=>hh) ?_ l1.symm hlc hlenc (fun i j=>(w.cell? ⟨b,off+i*P.cellsOf e+j,none⟩).getD (.bool false)) (fun i y j c hy hc=>?_) (fun i y j c hy hc=>?_)
       ·rw[hadd]at hu0;exact lt_of_cell (a:=⟨b,_,none⟩) (by rw[hu0];rfl)
       ·obtain⟨u,e1,_⟩:=hcell i y j c hy hc;rw[hadd]at e1;rw[e1];rfl
       ·obtain⟨u,e1,e2⟩:=hcell i y j c hy hc;rw[hadd]at e1;simp only[e1,cG];exact e2
   |struct fs=>
    simp only[aJ,bR]at ht;obtain⟨xs,n,_,hxe,hl,hxl,hf⟩:=DataW.trod_struct hu h;subst hxe;obtain⟨ys,a1,a2,a3⟩:=parts_rel (w:=w) (cs:=cs) (Q:=fun f y=>TyL P L d f.type y) (aK _) hl ht.1 (fun f hf'=>by
     obtain⟨i,hi⟩:=List.getElem?_of_mem hf';have hi':fs[i]? =some f:=by simpa using hi
     have hlt:i<fs.size:=(eX.1 hi').1;have e1:=hf i f hi';rw[aE (show i<xs.length by omega)]at e1;exact rel_of_trodL L d (ht.2 f hf') (fun n hn=>hL n (by simp only[DataW.weights,hu];exact mem_weightsEach (t:=f.type) (i:=i) (by simp[hi]) (by rw[bP,aE (show i<xs.length by omega)];rfl) hn)) e1)
    refine⟨.agg (ys.flatMap AV.cells),⟨ys,by simpa using a1,rfl,fun i f y hfi hy=>a3 i f y (by simpa using hfi) hy⟩,?_⟩;simpa[AV.cells]using a2
   |array m e=>
    simp only[aJ,aL]at ht;obtain⟨xs,n,_,hxe,hl,hlx,hf⟩:=DataW.trod_array hu h;subst hxe;obtain⟨ys,a1,a2,a3⟩:=rows_rel (w:=w) (cs:=cs) (Q:=fun y=>TyL P L d e y) (hl.trans ht.1) (fun i hi=>by
     have e1:=hf i hi;rw[aE (show i<xs.length by omega)]at e1;exact rel_of_trodL L d ht.2 (fun n hn=>hL n (by simp only[DataW.weights,hu];exact mem_weightsAll (eR (dC (show i<xs.length by omega))) hn)) e1)
    exact⟨.agg (ys.flatMap AV.cells),⟨ys,a1,rfl,a3⟩,a2⟩
   |_=>simp at ht
theorem rel_of_argL(L:Nat){d:Nat}{t:TypeId}{v:Value}{x:DataW H}{ps:List MemPlace}{base:Nat}(ht:tyOkL P d t=true)(hL:∀n,n∈x.weights P t->n<=L)(hval:Value.okWide P w .any base t v)(h:DataW.Trod enc P w 0 (fun _=>true) held t v x ps):
  ∃a,TyL P L d t a/\Rel NoE w noInj a v:=by
 obtain⟨fuel,hf⟩:=h;obtain⟨a,h1,h2⟩:=rel_of_trodL L d ht hL hf;refine⟨a,h1,?_⟩;have single:∀{u:Value},v=u->u.cells=#[u]->a.cells=[a]->Rel NoE w noInj a v:=by
  rintro u rfl e1 e2
  rw[e1,e2]at h2;exact h2.2 0 a v rfl rfl
 cases d with
 |zero=>exact h1.elim
 |succ d=>
  simp only[TyL]at h1;cases hu:P.underlying t with
  |none=>simp[hu]at h1
  |some D=>
   simp only[hu]at h1;cases D with
   |bool=>
    obtain⟨b,rfl⟩:=h1;obtain⟨b',hv⟩:=okWide_bool hu hval;exact single hv rfl rfl
   |int k=>
    obtain⟨b,rfl,_⟩:=h1;obtain⟨b',hv⟩:=okWide_int hu hval;exact single hv rfl rfl
   |string=>
    obtain⟨b,rfl,_⟩:=h1;obtain⟨b',hv⟩:=okWide_string hu hval;exact single hv rfl rfl
   |slice e=>
    obtain⟨b,rfl,_⟩:=h1;obtain⟨_,_,_,hv⟩:=okWide_slice hu hval;exact single hv rfl rfl
   |struct fs=>
    obtain⟨ys,_,rfl,_⟩:=h1;obtain⟨cs,rfl,_⟩:=okWide_struct hu hval;exact .agg _ _ (by simpa[AV.cells,Value.cells]using h2.1) (by simpa[AV.cells,Value.cells]using h2.2)
   |array m e=>
    obtain⟨ys,_,rfl,_⟩:=h1;simp only[Value.okWide,hu]at hval;obtain⟨cs,rfl,_⟩:=hval;exact .agg _ _ (by simpa[AV.cells,Value.cells]using h2.1) (by simpa[AV.cells,Value.cells]using h2.2)
   |_=>exact h1.elim
def TysL(P:Program)(L d:Nat):List TypeId->List AV->Prop
 |[],[]=>True
 |t::ts,a::qs=>TyL P L d t a/\TysL P L d ts qs
 |_,_=>False
theorem rel_of_argsL(L:Nat){d base:Nat}:∀{ts:List TypeId} {vs:List Value} {xs:List (DataW H)} {ps:List MemPlace},(ts.all fun t=>tyOkL P d t)=true->(∀n,n∈DataW.weightsEach P ts xs->n<=L)->
  (∀(j:Nat) t v,ts[j]? =some t->vs[j]? =some v->Value.okWide P w .any base t v)->DataW.TrodAll enc P w 0 (fun _=>true) held ts vs xs ps->
  ∃qs,TysL P L d ts qs/\RL NoE w noInj qs vs.toArray
 |[],vs,xs,ps,_,_,_,h=>by
  match vs,xs,h with
  |[],[],h=>exact⟨[],trivial,⟨rfl,fun i x y hx=>by simp at hx⟩⟩
 |t::ts,vs,xs,ps,ht,hL,hval,h=>by
  match vs,xs,h with
  |v::vs,x::xs,h=>
   obtain⟨p,q,h1,h2,rfl⟩:=h;simp only[eV,aJ]at ht;obtain⟨a,a1,a2⟩:=rel_of_argL L ht.1 (fun n hn=>hL n (by simp only[DataW.weightsEach];exact cK _ hn)) (hval 0 t v rfl rfl) h1;obtain⟨qs,b1,b2⟩:=rel_of_argsL L (base:=base) ht.2 (fun n hn=>hL n (by simp only[DataW.weightsEach];exact fA _ hn)) (fun j t v hj hv=>hval (j+1) t v hj hv) h2;exact⟨a::qs,⟨a1,b1⟩,RL.app (RL.one a2) b2⟩
theorem law_contractL(L:Nat){f:FuncId}{fn:Func}{s:ChangeSpec}{d base:Nat}{t:TypeId}(hl:laidOutB P=true)(hp:parsOk P fn.params.toList=true)(hty:(fn.params.toList.all fun t=>tyOkL P d t)=true)(hv:s.vars=[])
  (hr:fn.resultTypes=#[t])(ht:P.underlying t=some .bool)(hs:∀ds:List (DataW H),ds.length=fn.params.size->s.fn H ds={results:=[.lit (.bool true)],args:=ds})
  (hc:∀qs,TysL P L d fn.params.toList qs->ACall P f qs [] fun r _=>r=.sb true\/r=.v (.bool true))
  {W:World}(hg:GlobOk NoE W){args:Array Value}{ds gs:List (DataW H)}{before:List MemPlace}(hval:∀(j:Nat) t v,fn.params[j]? =some t->args[j]? =some v->Value.okWide P W .any base t v)
  (hW:DataW.Whole enc P fn.params.toList s.vars false W args.toList ds gs before)(hwt:(DataW.weightsEach P (fn.params.toList++s.plain.varTypes P) (ds++gs)).all (· <=L)=true):
  Calls P f args W fun e W'=>∃v,e=.returned v/\s.post enc P fn false true false false W args v W':=by
 have hW1:=hW;obtain⟨pa,pv,hA,hV,hps,_,_⟩:=hW;have hgs:gs=[]:=by
  rw[hv]at hV;obtain⟨rfl,rfl⟩:=trodVars_none hV;rfl
 subst hgs;obtain⟨qs,h1,h2⟩:=rel_of_argsL L (d:=d) (base:=base) hty (fun n hn=>by
  have h1:=bR.1 hwt n (by rw[bF];exact mem_weightsEach_app hn);simpa using h1) (fun j t v hj hv=>hval j t v (by simpa using hj) (by simpa using hv)) hA
 have hlen:∀{ts:List TypeId} {vs:List Value} {xs:List (DataW H)} {ps:List MemPlace},DataW.TrodAll enc P W 0 (fun _=>true) true ts vs xs ps->xs.length=ts.length:=by
  intro ts
  induction ts with
  |nil=>intro vs xs ps h;match vs,xs,h with|[],[],_=>rfl
  |cons t ts ih=>
   intro vs xs ps h
   match vs,xs,h with
   |v::vs,x::xs,h=>
    obtain⟨p,q,_,h2,_⟩:=h;simp[ih h2]
 have hl2:=hlen hA;refine(ACall.law (hc qs h1) hg (show RL NoE W noInj qs args by simpa using h2)).mono ?_
 rintro e W' ⟨rfl,hst⟩
 exact⟨_,rfl,law_post hW1 hst hl hp hv (by rw[bF];exact hs ds (by simpa using hl2)) hr ht⟩
end
end Go.Vm
namespace Go.Proofs.YtnomkooikbhgmaaGreatDoor
open Go Go.Vm
def gnNam:Ctx:={N:=8,np:=1,own:=oz [11]}
abbrev ofnNam:=ofD gnNam Tryz.func46
def A1:Sched:=ln [18,21,23,25,26,29,30,32,35,36]
def B1:Sched:=lz [11] (.wch 6 (.alt 7 A1 (.alt 9 (ln [14,21,23,25,26,29,30,32,35,36]) Aa)))
def A9:Sched:=lz [8,11] (.wch 6 A1)
def Bw:Sched:=lz [21,23,25] (.alt 2 (ln [11,13,26,29,30,32,35,36]) (.alt 13 (ln [4,11,13,29,30,32,35,36]) Aa))
def B9:Sched:=.alt 2 (lz [11] (.wch 6 A1)) (.alt 9 Bw Aa)
def A4:Sched:=ln [26,29,32,35,37,39,40,43,44,46,49,50]
def Bd:Sched:=lz [18,21] (.wch 11 A4)
def A2:Sched:=ln [32,35,37,39,40,43,44,46,49,50]
def B4:Sched:=.alt 7 (lz [21] (.wch 11 A2)) (.alt 16 (ln [35,37,14,21,23,39,40,43,44,46,49,50]) Aa)
def Ch:Sched:=.alt 7 (lz [21] (.wch 11 A4)) (.alt 13 (lz [29] B4) Aa)
def Cq:Sched:=lz [11] (.wch 6 (.alt 7 Bd (.alt 9 Ch Aa)))
def Bt:Sched:=lz [8,11] (.wch 6 Bd)
def Bp:Sched:=.alt 2 (ln [11,13,40,43,44,46,49,50]) (.alt 20 (ln [4,11,13,43,44,46,49,50]) Aa)
def Ca:Sched:=.alt 2 (lz [11] (.wch 6 A2)) (.alt 16 (lz [35,37,39] Bp) Aa)
def Ck:Sched:=lz [21] (.wch 11 (.alt 2 (lz [11] (.wch 6 A4)) (.alt 13 (lz [29] Ca) Aa)))
def Cu:Sched:=.alt 2 (lz [11] (.wch 6 Bd)) (.alt 9 Ck Aa)
def Aw:Sched:=.wch 6 (ln [16,19,20,22,25,26])
def Aq:Sched:=ln [36,39,41,43,44,46,49,50]
def A8:Sched:=lz [28,31] (.wch 16 Aq)
def Bz:Sched:=.alt 12 (lz [31] (.wch 16 Aq)) (.alt 18 (ln [39,41,24,31,33,43,44,46,49,50]) Aa)
def Cf:Sched:=lz [21] (.wch 11 (.alt 12 A8 (.alt 14 Bz Aa)))
def Bc:Sched:=.wch 11 A8
def Co:Sched:=.alt 9 Cf (.alt 12 (lz [18,21] Bc) Aa)
def B5:Sched:=lz [31] (.wch 16 (.alt 7 (lz [21] (.wch 11 Aq)) (.alt 18 (ln [39,41,14,21,23,43,44,46,49,50]) Aa)))
def Ci:Sched:=.alt 7 (lz [21] Bc) (.alt 14 B5 Aa)
def Cr:Sched:=.alt 7 (lz [18,21] Bc) (.alt 9 Ci Aa)
def Cv:Sched:=.alt 6 Co (.alt 12 (lz [12,18,21] Bc) Aa)
def Cx:Sched:=.alt 6 Cr (.alt 7 (lz [12,18,21] Bc) Aa)
def Bo:Sched:=lz [6,9,12,18,21] Bc
def Ax:Sched:=ln [36,40,43,45,47,48,50,53,54]
def A6:Sched:=.wch 16 Ax
def Ar:Sched:=ln [40,43,45,47,48,50,53,54]
def B0:Sched:=.alt 12 (lz [31] (.wch 16 Ar)) (.alt 20 (ln [43,45,24,31,33,47,48,50,53,54]) Aa)
def Cb:Sched:=.alt 12 (lz [31] A6) (.alt 18 B0 Aa)
def Cj:Sched:=.alt 12 (lz [28,31] A6) (.alt 14 Cb Aa)
def Bb:Sched:=lz [20,23,28,31] A6
def Ct:Sched:=lz [15] (.wch 8 (.alt 10 (lz [23] Cj) (.alt 12 Bb Aa)))
def Bj:Sched:=.wch 8 Bb
def Cy:Sched:=.alt 6 Ct (.alt 12 (lz [12,15] Bj) Aa)
def By:Sched:=.alt 4 (lz [15] (.wch 8 Ar)) (.alt 20 (ln [43,45,8,15,17,47,48,50,53,54]) Aa)
def Cd:Sched:=lz [31] (.wch 16 (.alt 4 (lz [15] (.wch 8 Ax)) (.alt 18 By Aa)))
def Cm:Sched:=.alt 4 (lz [15] (.wch 8 (lz [28,31] A6))) (.alt 14 Cd Aa)
def Cw:Sched:=.alt 4 (lz [15] Bj) (.alt 10 (lz [23] Cm) Aa)
def Cz:Sched:=.alt 4 (lz [12,15] Bj) (.alt 6 Cw Aa)
def Ak:Sched:=lp 6 [12,14,17,18]
def A3:Sched:=ln [26,30,33,35,37,39,40,42,45,46]
def Ba:Sched:=lz [18,21] (.wch 11 A3)
def Ay:Sched:=ln [30,33,35,37,39,40,42,45,46]
def B3:Sched:=.alt 7 (lz [21] (.wch 11 Ay)) (.alt 15 (ln [33,35,37,14,21,23,39,40,42,45,46]) Aa)
def Cc:Sched:=.alt 7 (lz [21] (.wch 11 A3)) (.alt 13 B3 Aa)
def Cl:Sched:=lz [11] (.wch 6 (.alt 7 Ba (.alt 9 Cc Aa)))
def Bm:Sched:=lz [8,11] (.wch 6 Ba)
def B2:Sched:=.alt 2 (lz [11] (.wch 6 Ay)) (.alt 15 (ln [33,35,37,4,11,13,39,40,42,45,46]) Aa)
def Cg:Sched:=lz [21] (.wch 11 (.alt 2 (lz [11] (.wch 6 A3)) (.alt 13 B2 Aa)))
def Cp:Sched:=.alt 2 (lz [11] (.wch 6 Ba)) (.alt 9 Cg Aa)
def gnSpo:Ctx:={N:=272,np:=1,own:=oz [44,11,47,48,45,46],plan:=p1 6 (lz [1,7,17] (.wch 1 (.alt 2 (.alt 4 B1 (.alt 7 A9 Aa)) (.alt 4 (.alt 2 B1 (.alt 7 B9 (.alt 9 (.alt 2 (ln [11,13,14,21,23,25,26,29,30,32,35,36]) (.alt 7 Bw Aa)) Aa))) (.alt 7 (.alt 2 A9 (.alt 4 B9 Aa)) Aa))))) (p1 9 (lz [1,11,19] (.wch 1 (lz [5,7] (.wch 4 (.alt 6 (lz [15] (.alt 8 (ln [20,23,25,27,29,30]) (.alt 10 (ln [16,23,25,27,29,30]) Aa))) (.alt 8 (ln [12,15,20,23,25,27,29,30]) Aa)))))) (p1 11 (lz [1,7,17,25,31] (.wch 1 (.alt 2 (.alt 4 Cq (.alt 7 Bt Aa)) (.alt 4 (.alt 2 Cq (.alt 7 Cu (.alt 9 (.alt 2 (lz [11] (.wch 6 Ch)) (.alt 7 Ck (.alt 13 (lz [29] (.alt 2 (lz [11] (.wch 6 B4)) (.alt 7 (lz [21] (.wch 11 Ca)) (.alt 16 (lz [35,37] (.alt 2 (ln [11,13,14,21,23,39,40,43,44,46,49,50]) (.alt 7 (lz [21,23,39] Bp) Aa))) Aa)))) Aa))) Aa))) (.alt 7 (.alt 2 Bt (.alt 4 Cu Aa)) Aa))))) (p1 13 (lz [1,7] (.wch 1 (.alt 2 (ln [8,11,13,15,16,19,20,22,25,26]) (.alt 4 (ln [4,11,13,15,16,19,20,22,25,26]) Aa)))) (p1 15 (lz [1,7,15] (.wch 1 (.alt 2 (lz [8,11] Aw) (.alt 4 (.alt 2 (lz [11] Aw) (.alt 8 (ln [4,11,13,19,20,22,25,26]) Aa)) Aa)))) (p1 17 (lz [1,5,11,17,27,35] (.wch 1 (.alt 3 (lz [9] (.alt 6 (.alt 7 Co (.alt 9 (.alt 7 Cf (.alt 12 Ci (.alt 14 (.alt 7 (lz [21] (.wch 11 Bz)) (.alt 12 B5 (.alt 18 (lz [39,41] (.alt 7 (ln [21,23,24,31,33,43,44,46,49,50]) (.alt 12 (ln [31,33,14,21,23,43,44,46,49,50]) Aa))) Aa))) Aa))) (.alt 12 Cr Aa))) (.alt 7 Cv (.alt 12 Cx Aa)))) (.alt 7 (.alt 3 (lz [9] Cv) (.alt 12 Bo Aa)) (.alt 12 (.alt 3 (lz [9] Cx) (.alt 7 Bo Aa)) Aa))))) (p1 20 (lz [1,7] (.wch 1 (.alt 2 (ln [8,11,13,15,17,18]) (.alt 4 (ln [4,11,13,15,17,18]) Aa)))) (p1 25 (lz [1,5,11,19,27,35,39] (.wch 1 (.alt 3 (.alt 4 Cy (.alt 6 (.alt 4 Ct (.alt 10 (lz [23] (.alt 4 (lz [15] (.wch 8 Cj)) (.alt 12 Cm (.alt 14 (.alt 4 (lz [15] (.wch 8 Cb)) (.alt 12 Cd (.alt 18 (.alt 4 (lz [15] (.wch 8 B0)) (.alt 12 (lz [31] (.wch 16 By)) (.alt 20 (lz [43,45] (.alt 4 (ln [15,17,24,31,33,47,48,50,53,54]) (.alt 12 (ln [31,33,8,15,17,47,48,50,53,54]) Aa))) Aa))) Aa))) Aa)))) (.alt 12 Cw Aa))) (.alt 12 Cz Aa))) (.alt 4 (.alt 3 Cy (.alt 12 (lz [6,12,15] Bj) Aa)) (.alt 12 (.alt 3 Cz (.alt 4 (lz [6,12,15] Bj) Aa)) Aa))))) (p1 28 Ak (p1 30 (lz [1,7,17,25,29] (.wch 1 (.alt 2 (.alt 4 Cl (.alt 7 Bm Aa)) (.alt 4 (.alt 2 Cl (.alt 7 Cp (.alt 9 (.alt 2 (lz [11] (.wch 6 Cc)) (.alt 7 Cg (.alt 13 (.alt 2 (lz [11] (.wch 6 B3)) (.alt 7 (lz [21] (.wch 11 B2)) (.alt 15 (lz [33,35,37] (.alt 2 (ln [11,13,14,21,23,39,40,42,45,46]) (.alt 7 (ln [21,23,4,11,13,39,40,42,45,46]) Aa))) Aa))) Aa))) Aa))) (.alt 7 (.alt 2 Bm (.alt 4 Cp Aa)) Aa))))) (p1 33 Ak pn)))))))))),hints:=h1 6 [.flatB 5 0] (h1 11 [.flatB 5 0] (h1 13 [.flatB 5 0] (h1 15 [.flatB 5 0] (h1 17 [.flatB 5 0] (h1 19 [.flatB 5 0] (h1 22 [.flatB 5 0] (h1 25 [.flatB 5 0] (h1 27 [.flatB 5 0] (h1 30 [.flatB 5 0] (h1 32 [.flatB 5 0] (h1 3 [.flatB 5 0] (h1 37 [.flatB 5 0] hn))))))))))))}
def gnHugN:Ctx:={N:=88}
abbrev ofnHugN:=ofD gnHugN Tryz.func13
def gnStm:Ctx:={N:=92,np:=2,own:=oz [11,139],plan:=p1 1 (lz [1,7,9,15,17,23,25] (.wch 5 (.wch 9 (.wch 13 (.alt 1 (lz [5] (.alt 6 (.alt 10 (.alt 14 (ln [31,32,34]) (.alt 16 (ln [28,31,34]) Aa)) (.alt 16 (ln [20,28,31,34]) Aa)) (.alt 16 (ln [12,20,28,31,34]) Aa))) (.alt 16 (ln [2,5,12,20,28,31,34]) Aa)))))) (p1 3 (lz [1,3,5,9,11,17] (.wch 6 (ln [6,14,18,21,22,25,26]))) (p1 8 (lz [1,5,7,9,11] (.wch 1 (ln [12,15,17,19,21,22]))) pn)),cut:=oz [4,7,9]}
abbrev ofnStm:=ofD gnStm Tryz.func71
def A5:Sched:=.wch 6 (ln [16,19,36,39,41,42,44,47,48])
def gnInt:Ctx:={N:=260,np:=1,own:=oz [11,68,69,70,71,48],plan:=p1 36 (lz [1,5] (.wch 1 (ln [6,9,10,12,15,16]))) (p1 40 (lz [1,5,7,9] (.wch 1 (ln [10,12,14,17,18]))) (p1 43 (lz [1,7,15,21,31,35] (.wch 1 (.wch 11 (lz [25,27] (.wch 14 (.wch 16 (.alt 2 (lz [8,11] A5) (.alt 4 (.alt 2 (lz [11] A5) (.alt 8 (lz [19] (.alt 2 (lz [11] (.wch 6 (ln [36,39,41,42,44,47,48]))) (.alt 18 (ln [39,4,11,13,41,42,44,47,48]) Aa))) Aa)) Aa)))))))) (p1 46 (lz [1,5,9,17] (.wch 1 (.wch 3 (lz [11,13] (.wch 7 (ln [18,21,23,25,27,28,30,33,34])))))) pn))),hints:=h1 2 [.virtB 7 0 2,.virtB 7 1 2,.virtB 7 2 2] (h1 6 [.virtB 9 1 7] (h1 16 [.freezeB 9] (h1 21 [.virtB 14 1 7] (h1 34 [.freezeB 14] (h1 37 [.freezeB 7,.virtB 7 3 10] (h1 41 [.virtB 7 4 6,.virtB 7 5 5] hn)))))),cut:=oz [13,15,31,33,37,44,47]}
abbrev ofnInt:=ofD gnInt Tryz.func25
def gh18Real:Ctx:={N:=49,hints:=h1 4 [.virt 4 10] hn}
abbrev ofh18Real:=ofD gh18Real Tryz.func37
def gh18Act:Ctx:={N:=35}
abbrev ofh18Act:=ofD gh18Act Tryz.func64
def gh18Ord:Ctx:={N:=49,hints:=h1 4 [.virt 5 1] hn}
abbrev ofh18Ord:=ofD gh18Ord Tryz.func20
def gh18Put:Ctx:={N:=82,plan:=p1 7 (lz [3,5,7,11,13,15,21,23,25] (.alt 0 (.alt 4 (ln [16,18,26,29,31]) (.alt 8 (ln [8,18,26,29,31]) Aa)) (.alt 8 (ln [0,8,18,26,29,31]) Aa))) pn}
abbrev ofh18Put:=ofD gh18Put Tryz.func42
def gh18At:Ctx:={N:=129,plan:=p1 16 (lp 8 [16,18]) (p1 17 (lp 6 [12,15,17,19,21,23]) pn),cut:=oz [24,26]}
abbrev ofh18At:=ofD gh18At Tryz.func8
def gh17Has:Ctx:={N:=18}
abbrev ofh17Has:=ofD gh17Has Tryz.func294
def gh17Fol:Ctx:={N:=103,np:=3,own:=oz [245],plan:=p1 13 (lp 6 [12,14,17,19,20]) (p1 14 (lp 6 [12,15]) pn),hints:=h1 1 [.renewB 0 1,.renewB 0 2] (h1 6 [.freeze 3] hn),cut:=oz [13],out:=true,lend:=oz [294]}
abbrev ofh17Fol:=ofD gh17Fol Tryz.func245
def gh17Find:Ctx:={N:=28,own:=oz [245],hints:=h1 5 [.virtB 9 1 1,.virtB 9 2 7] hn}
abbrev ofh17Find:=ofD gh17Find Tryz.func178
def gh17Edg:Ctx:={N:=33,plan:=p1 5 (lz [1,3,5,7,9,11,13,15,17] (.alt 9 (ln [21,23,25,26,28,31]) (.alt 13 (ln [18,21,23,25,28,31]) Aa))) pn,hints:=h1 2 [.virt 5 2] hn}
abbrev ofh17Edg:=ofD gh17Edg Tryz.func176
def gh17All:Ctx:={N:=17,hints:=h1 2 [.virt 3 1] hn}
abbrev ofh17All:=ofD gh17All Tryz.func177
def gh17Grp:Ctx:={N:=78,plan:=p1 4 (ln [1,3,4,6,8,11,13]) (p1 13 (lp 8 [16,18,20,23]) pn),hints:=h1 9 [.virt 10 2] hn}
abbrev ofh17Grp:=ofD gh17Grp Tryz.func93
def Bn:Sched:=lz [3] (.alt 0 (ln [4,6,9,11,13,15,17]) (.alt 2 (ln [0,6,9,11,13,15,17]) Aa))
def gh17Hdr:Ctx:={N:=26,plan:=p1 4 Bn pn}
abbrev ofh17Hdr:=ofD gh17Hdr Tryz.func180
def gh17Svc:Ctx:={N:=47,hints:=h1 9 [.asL 8] hn}
abbrev ofh17Svc:=ofD gh17Svc Tryz.func94
def gh17Btw:Ctx:={N:=41,plan:=p1 9 (lz [1,3,5,7,9,11,13,17] (.alt 7 (ln [18,21,22]) (.alt 9 (ln [15,21,22]) Aa))) pn,hints:=h1 2 [.virt 6 10] hn}
abbrev ofh17Btw:=ofD gh17Btw Tryz.func100
def gh17Stm:Ctx:={N:=132}
abbrev ofh17Stm:=ofD gh17Stm Tryz.func38
def gh17Cls:Ctx:={N:=21}
abbrev ofh17Cls:=ofD gh17Cls Tryz.func95
def Ao:Sched:=lp 8 [16,19,21,23,25,27]
def gh17Chk:Ctx:={N:=162,plan:=p1 6 Ao (p1 12 (lp 7 [14,17,19,21,23,25]) (p1 27 (lp 7 [14,17]) (p1 32 (lp 7 [14,17]) (p1 34 Ao pn))))}
abbrev ofh17Chk:=ofD gh17Chk Tryz.func36
def gh11Zone:Ctx:={N:=27,hints:=h1 2 [.virt 5 1] hn}
abbrev ofh11Zone:=ofD gh11Zone Tryz.func179
def gj16Opt:Ctx:={N:=9}
abbrev ofj16Opt:=ofD gj16Opt Tryz.func174
def gj16Port:Ctx:={N:=9}
abbrev ofj16Port:=ofD gj16Port Tryz.func91
def gj16Ports:Ctx:={N:=21}
abbrev ofj16Ports:=ofD gj16Ports Tryz.func92
def gj16Find:Ctx:={N:=20}
abbrev ofj16Find:=ofD gj16Find Tryz.func170
def gj16FindW:Ctx:={N:=20}
abbrev ofj16FindW:=ofD gj16FindW Tryz.func88
def gj16Item:Ctx:={N:=97}
abbrev ofj16Item:=ofD gj16Item Tryz.func171
def gj16Defs:Ctx:={N:=73}
abbrev ofj16Defs:=ofD gj16Defs Tryz.func86
def gj16Wri:Ctx:={N:=11}
abbrev ofj16Wri:=ofD gj16Wri Tryz.func89
def gj16Sm:Ctx:={N:=74}
abbrev ofj16Sm:=ofD gj16Sm Tryz.func90
def gj16Val:Ctx:={N:=161,plan:=p1 6 (lp 6 [12,15,17,19,21,23,25,27,29,31,33,37,34,39,41,43,45,47,49,51,53,55,56,59,61]) pn}
abbrev ofj16Val:=ofD gj16Val Tryz.func35
def gq1Num:Ctx:={N:=20,plan:=p1 3 (lz [1,3,7,9,11,13] (.alt 2 (ln [14,16,19,21]) (.alt 7 (.alt 2 (ln [16,19,21]) (.alt 8 (ln [4,19,21]) Aa)) Aa))) pn}
abbrev ofq1Num:=ofD gq1Num Tryz.func310
def gq1Parts:Ctx:={N:=35,hints:=h1 2 [.virt 5 1] hn}
abbrev ofq1Parts:=ofD gq1Parts Tryz.func279
def gq9Days:Ctx:={N:=2}
abbrev ofq9Days:=ofD gq9Days Tryz.func242
def gq9Day:Ctx:={N:=19}
abbrev ofq9Day:=ofD gq9Day Tryz.func280
def gq9Two:Ctx:={N:=36,plan:=p1 3 (lo 11) pn}
abbrev ofq9Two:=ofD gq9Two Tryz.func306
def gq9Clock:Ctx:={N:=39,plan:=p1 5 (ln [1,3,7,9,4,10,13,15]) pn}
abbrev ofq9Clock:=ofD gq9Clock Tryz.func281
def gq9Span:Ctx:={N:=32,plan:=p1 4 (ln [1,3,5,9,11,13,15,17,19,6,20,23,25]) pn}
abbrev ofq9Span:=ofD gq9Span Tryz.func209
def Au:Sched:=ln [1,3,5,9,11,13,6,14,17,19]
def gq9Times:Ctx:={N:=29,plan:=p1 4 Au pn}
abbrev ofq9Times:=ofD gq9Times Tryz.func210
def gq9Parse:Ctx:={N:=96,hints:=h1 6 [.virt 4 2] hn}
abbrev ofq9Parse:=ofD gq9Parse Tryz.func138
def gq9Pad:Ctx:={N:=10}
abbrev ofq9Pad:=ofD gq9Pad Tryz.func293
def gq9Text:Ctx:={N:=11}
abbrev ofq9Text:=ofD gq9Text Tryz.func243
def gq9Win:Ctx:={N:=5}
abbrev ofq9Win:=ofD gq9Win Tryz.func172
def gq9Form:Ctx:={N:=70,plan:=p1 16 (ln [1,5,11,13,15,17,19,21,23,25,31,33,35,37,39,41,43,45,47,2,7,9,26,29,48,51,52,54,57]) pn,hints:=h1 6 [.virt 3 1] hn,cut:=oz [16]}
abbrev ofq9Form:=ofD gq9Form Tryz.func173
def gq9Act:Ctx:={N:=17}
abbrev ofq9Act:=ofD gq9Act Tryz.func134
def gnWin:Ctx:={N:=47,np:=1,own:=oz [11],plan:=p1 3 (lz [1,3,11,13,4,7] (.wch 4 (ln [14,17,19,20,23]))) (p1 7 (lz [1,3,5,13,15,6,9] (.wch 5 (ln [16,19,21,22,24,27]))) pn)}
abbrev ofnWin:=ofD gnWin Tryz.func70
def gnPick:Ctx:={N:=20,np:=1,own:=oz [11]}
abbrev ofnPick:=ofD gnPick Tryz.func139
def gnMin:Ctx:={N:=12,np:=1,own:=oz [11]}
abbrev ofnMin:=ofD gnMin Tryz.func26
def gnRange:Ctx:={N:=20,np:=1,own:=oz [48]}
abbrev ofnRange:=ofD gnRange Tryz.func69
end Go.Proofs.YtnomkooikbhgmaaGreatDoor
