/- Policies step by step, in plain Lean: what is joined out of parts of the rest is a valid policy. -/
import Derived.Test.YtahhamfngafmcaaGreatDoorProg
import Derived.Test.YtahhamfngafmcaaGreatDoorM15
set_option linter.unusedVariables false
set_option linter.unusedSimpArgs false
set_option maxRecDepth 100000
set_option maxHeartbeats 4000000
namespace Go.Proofs.YtahhamfngafmcaaGreatDoor
open Go Go.Vm
theorem cano_ext2(op op':Bool->Bool->Bool):∀(k:Nat) (a b a' b':List Bx),k<=5->(∀p,InP p->op (memK p k a) (memK p k b)=op' (memK p k a') (memK p k b'))->cano op k a b=cano op' k a' b'
 |0,a,b,a',b',_,h=>by
  have h1:=h _ inP_zero
  rw[memK_zero,memK_zero,memK_zero,memK_zero]at h1
  rw[cano,cano,h1]
 |k+1,a,b,a',b',hk,h=>by
  have g:=cano_ginv op k a b (starts_cuts _ (topF_pos (4-k)).1)
  have g':=cano_ginv op' k a' b' (starts_cuts _ (topF_pos (4-k)).1)
  have part:∀v,0<=v->v<topF (4-k)+1->∀p,InP p->op (memK p k (atF (4-k) v a)) (memK p k (atF (4-k) v b))=op' (memK p k (atF (4-k) v a')) (memK p k (atF (4-k) v b')):=by
   intro v v0 v1 p hp
   have hq:InP (fun f=>if f=4-k then v else p f):=fun f=>by
    by_cases e:f=4-k
    ·simp only[e,if_true];omega
    ·simp only[e,if_false];exact hp f
   have h:=h _ hq
   rw[memK_succ,memK_succ,memK_succ,memK_succ,if_pos rfl]at h
   have e:∀c:List Bx,memK p k (atF (4-k) v c)=memK (fun f=>if f=4-k then v else p f) k (atF (4-k) v c):=fun c=>memK_congr (by omega) fun f hf h5=>by rw[if_neg (by omega)]
   rw[e,e,e,e,h]
  have hR:∀v,0<=v->v<topF (4-k)+1->restAt op k a b v=restAt op' k a' b' v:=fun v v0 v1=>
   cano_ext2 op op' k _ _ _ _ (by omega) (part v v0 v1)
  rw[cano_succ,cano_succ,(g.congr hR).same g']
theorem memK_nil{p:Nat->Int}{k:Nat}:memK p k []=false:=rfl
theorem cano_same(op:Bool->Bool->Bool)(a b:List Bx):cano orB 5 (cano op 5 a b) []=cano op 5 a b:=
 cano_ext2 orB op 5 _ _ _ _ (Nat.le_refl _) fun p hp=>by rw[cano_mem op hp 5 a b (Nat.le_refl _),memK_nil,orB,Bool.or_false]
theorem okL_bx{l:List Bx}(h:okL l):∀x,x∈l->x.ok:=fun x hx=>⟨h x hx 0 (by omega),h x hx 1 (by omega),h x hx 2 (by omega),h x hx 3 (by omega),h x hx 4 (by omega)⟩
theorem vld_all{l:List Bx}(h:okL l):vldB l=l:=List.filter_eq_self.2 fun x hx=>by simpa using okL_bx h x hx
theorem setB_cano{op:Bool->Bool->Bool}{a b:List Bx}(h:(cano op 5 a b).length<=4096):setB (cano op 5 a b)=true:=by
 have ho:=okL_cano op a b
 unfold setB
 rw[vld_all ho]
 simp only[Bool.and_eq_true,decide_eq_true_eq,true_and]
 refine⟨h,(canB_iff 5 _ (Nat.le_refl _) (fun x hx f hf _=>ho x hx f hf) (by omega)).2 ?_⟩
 rw[cano_same]
 exact((List.map_congr_left fun x _=>zeroTo_five x).trans (List.map_id _)).symm
theorem setB_nil:setB []=true:=by decide+kernel
theorem setB_lim(op:Bool->Bool->Bool)(a b:List Bx):setB (limP (cano op 5 a b))=true:=by
 unfold limP;split
 ·exact setB_nil
 ·exact setB_cano (by omega)
theorem setB_makeGo:∀(l s:List Bx),setB s=true->setB (makeGo s l).1=true
 |[],s,h=>h
 |b::l,s,h=>by
  rw[makeGo]
  split
  ·split
   ·exact setB_nil
   ·exact setB_makeGo l _ (setB_cano (by unfold addO at*;omega))
  ·exact setB_makeGo l s h
theorem setB_makeP(l:List Bx):setB (makeP l).1=true:=setB_makeGo l [] setB_nil
theorem setB_combP(op:Bool->Bool->Bool)(a b:List Bx):setB (combP op a b).1=true:=by
 unfold combP;split
 ·exact setB_nil
 ·split
  ·exact setB_nil
  ·exact setB_lim ..
theorem combP_mem{op:Bool->Bool->Bool}{a b:List Bx}(ha:setB a=true)(hb:setB b=true)(he:(combP op a b).2=0){p:Nat->Int}(hp:InP p):memK p 5 (combP op a b).1=op (memK p 5 a) (memK p 5 b):=by
 rw[combP_set ha hb]at he⊢
 simp only at he⊢
 have:(cano op 5 a b).length<=4096:=by
  have:=mt limE_ne.2 (fun h=>h he);omega
 rw[limP,if_neg (by omega),cano_mem op hp 5 a b (Nat.le_refl _)]
theorem vldB_cons(b:Bx)(l:List Bx):vldB (b::l)=if b.ok then b::vldB l else vldB l:=by
 unfold vldB
 by_cases h:b.ok
 ·rw[List.filter_cons_of_pos (by simpa using h),if_pos h]
 ·rw[List.filter_cons_of_neg (by simpa using h),if_neg h]
/-! texts in their order -/
def ltS(s t:ByteArray):Bool:=Op.bytesLess s.toList t.toList
theorem bl_trans:∀(a b c:List UInt8),Op.bytesLess a b=true->Op.bytesLess b c=true->Op.bytesLess a c=true
 |_,_,[],_,h=>by simp[Op.bytesLess]at h
 |[],_,_::_,_,_=>by simp[Op.bytesLess]
 |_::_,[],_,h,_=>by simp[Op.bytesLess]at h
 |a::x,b::y,c::z,h,h'=>by
  simp only[Op.bytesLess,Bool.or_eq_true,Bool.and_eq_true,decide_eq_true_eq,beq_iff_eq]at h h'⊢
  rcases h with h|⟨rfl,h⟩<;>rcases h' with h'|⟨rfl,h'⟩
  ·exact .inl (UInt8.lt_trans h h')
  ·exact .inl h
  ·exact .inl h'
  ·exact .inr ⟨rfl,bl_trans x y z h h'⟩
theorem bl_total:∀(a b:List UInt8),Op.bytesLess a b=false->(a==b)=false->Op.bytesLess b a=true
 |[],[],_,h=>by simp at h
 |[],_::_,h,_=>by simp[Op.bytesLess]at h
 |_::_,[],_,_=>by simp[Op.bytesLess]
 |a::x,b::y,h,h'=>by
  simp only[Op.bytesLess,Bool.or_eq_false_iff,Bool.and_eq_false_iff,decide_eq_false_iff_not,beq_eq_false_iff_ne,ne_eq]at h
  simp only[Op.bytesLess,Bool.or_eq_true,Bool.and_eq_true,decide_eq_true_eq,beq_iff_eq]
  obtain⟨h1,h2⟩:=h
  by_cases e:a=b
  ·subst e
   refine .inr ⟨rfl,bl_total x y ?_ ?_⟩
   ·rcases h2 with h2|h2
    ·exact absurd rfl h2
    ·simpa using h2
   ·simpa using h'
  ·refine .inl ?_
   have h1':¬a.toNat<b.toNat:=fun h=>h1 (UInt8.lt_iff_toNat_lt.2 h)
   have:a.toNat≠b.toNat:=fun h=>e (UInt8.toNat_inj.1 h)
   exact UInt8.lt_iff_toNat_lt.2 (by omega)
/-! the policy of an intent, step by step -/
def realM(t:Tp)(q:Nat->Int):Prop:=memK q 5 (vldB (pairsB t.edges))=true/\memK q 5 initS=true
structure AtInv (t:Tp) (rest:List Bx) (p:Pol):Prop where
 rs:setB rest=true
 al:setB p.allow=true
 rr:∀q,InP q->memK q 5 rest=true->realM t q
 ar:∀q,InP q->memK q 5 p.allow=true->realM t q
 dj:∀q,InP q->memK q 5 rest=true->memK q 5 p.allow=false
 nm:∀x,x∈p.insp->nameOk x.cls
 ne:∀x,x∈p.insp->x.set≠[]
 st:∀x,x∈p.insp->setB x.set=true
 sb:∀x,x∈p.insp->∀q,InP q->memK q 5 x.set=true->memK q 5 p.allow=true
 ds:p.insp.Pairwise fun x y=>∀q,InP q->memK q 5 x.set=true->memK q 5 y.set=false
 od:p.insp.Pairwise fun x y=>ltS x.cls y.cls=true
inductive PutR (l:List Insp) (c:ByteArray) (s:List Bx):List Insp->Int->Prop
 |skip:(c.toList=[]\/s=[])->PutR l c s l 0
 |ins (k:Nat):c.toList≠[]->s≠[]->k<=l.length->(∀(j:Nat) y,j<k->l[j]? =some y->ltS y.cls c=true)->(∀y,l[k]? =some y->ltS y.cls c=false/\(y.cls.toList==c.toList)=false)->PutR l c s (l.take k++⟨c,s⟩::l.drop k) 0
 |uni (k:Nat) (y:Insp):c.toList≠[]->s≠[]->l[k]? =some y->(y.cls.toList==c.toList)=true->PutR l c s (l.set k ⟨y.cls,(combP orB y.set s).1⟩) (combP orB y.set s).2
theorem AtInv.permit{t:Tp}{rest s:List Bx}{p:Pol}{c:ByteArray}{l':List Insp}{e:Int}(h:AtInv t rest p)(hs:setB s=true)(hc:c.toList=[]\/nameOk c)(e1:(combP anB rest s).2=0)
  (e2:(combP woB rest s).2=0)(e3:(combP orB p.allow (combP anB rest s).1).2=0)(hp:PutR p.insp c (combP anB rest s).1 l' e)(he:e=0):
  AtInv t (combP woB rest s).1 ⟨(combP orB p.allow (combP anB rest s).1).1,l'⟩:=by
 have hps:setB (combP anB rest s).1=true:=setB_combP ..
 have hpm:∀q,InP q->memK q 5 (combP anB rest s).1=(memK q 5 rest&&memK q 5 s):=fun q hq=>by rw[combP_mem h.rs hs e1 hq];rfl
 have hrm:∀q,InP q->memK q 5 (combP woB rest s).1=(memK q 5 rest&& !memK q 5 s):=fun q hq=>by rw[combP_mem h.rs hs e2 hq];rfl
 have ham:∀q,InP q->memK q 5 (combP orB p.allow (combP anB rest s).1).1=(memK q 5 p.allow||memK q 5 (combP anB rest s).1):=fun q hq=>by rw[combP_mem h.al hps e3 hq];rfl
 have hdis:∀x,x∈p.insp->∀q,InP q->memK q 5 (combP anB rest s).1=true->memK q 5 x.set=false:=fun x hx q hq h1=>by
  rw[hpm q hq]at h1
  simp only[Bool.and_eq_true]at h1
  rw[Bool.eq_false_iff]
  intro h2
  have:=h.dj q hq h1.1
  rw[h.sb x hx q hq h2]at this
  cases this
 have hsb:∀x,x∈p.insp->∀q,InP q->memK q 5 x.set=true->memK q 5 (combP orB p.allow (combP anB rest s).1).1=true:=fun x hx q hq h1=>by
  rw[ham q hq,h.sb x hx q hq h1];rfl
 have hpb:∀q,InP q->memK q 5 (combP anB rest s).1=true->memK q 5 (combP orB p.allow (combP anB rest s).1).1=true:=fun q hq h1=>by rw[ham q hq,h1,Bool.or_true]
 have f1:setB (combP woB rest s).1=true:=setB_combP ..
 have f2:setB (combP orB p.allow (combP anB rest s).1).1=true:=setB_combP ..
 have f3:∀q,InP q->memK q 5 (combP woB rest s).1=true->realM t q:=fun q hq h1=>by
  rw[hrm q hq]at h1
  simp only[Bool.and_eq_true]at h1
  exact h.rr q hq h1.1
 have f4:∀q,InP q->memK q 5 (combP orB p.allow (combP anB rest s).1).1=true->realM t q:=fun q hq h1=>by
  rw[ham q hq,hpm q hq]at h1
  simp only[Bool.or_eq_true,Bool.and_eq_true]at h1
  rcases h1 with h1|h1
  ·exact h.ar q hq h1
  ·exact h.rr q hq h1.1
 have f5:∀q,InP q->memK q 5 (combP woB rest s).1=true->memK q 5 (combP orB p.allow (combP anB rest s).1).1=false:=fun q hq h1=>by
  rw[hrm q hq]at h1
  simp only[Bool.and_eq_true,Bool.not_eq_true']at h1
  rw[ham q hq,hpm q hq,h.dj q hq h1.1,h1.2,Bool.and_false];rfl
 cases hp with
 |skip h0=>exact⟨f1,f2,f3,f4,f5,h.nm,h.ne,h.st,hsb,h.ds,h.od⟩
 |ins k h0 h1 hk hlt hge=>
  have hmem:∀x,x∈p.insp.take k++⟨c,(combP anB rest s).1⟩::p.insp.drop k->x∈p.insp\/x=⟨c,(combP anB rest s).1⟩:=fun x hx=>by
   rcases List.mem_append.1 hx with hx|hx
   ·exact .inl (List.mem_of_mem_take hx)
   ·rcases List.mem_cons.1 hx with hx|hx
    ·exact .inr hx
    ·exact .inl (List.mem_of_mem_drop hx)
  have hall:∀(Q:Insp->Prop),(∀x,x∈p.insp->Q x)->Q ⟨c,(combP anB rest s).1⟩->∀x,x∈p.insp.take k++⟨c,(combP anB rest s).1⟩::p.insp.drop k->Q x:=fun Q g1 g2 x hx=>by
   rcases hmem x hx with hx|rfl
   ·exact g1 x hx
   ·exact g2
  have hpw:∀(R:Insp->Insp->Prop),p.insp.Pairwise R->(∀x,x∈p.insp.take k->R x ⟨c,(combP anB rest s).1⟩)->(∀x,x∈p.insp.drop k->R ⟨c,(combP anB rest s).1⟩ x)->(p.insp.take k++⟨c,(combP anB rest s).1⟩::p.insp.drop k).Pairwise R:=fun R g g1 g2=>by
   rw[<-List.take_append_drop k p.insp]at g
   rw[List.pairwise_append]at g⊢
   refine⟨g.1,List.pairwise_cons.2 ⟨g2,g.2.1⟩,fun a ha b hb=>?_⟩
   rcases List.mem_cons.1 hb with rfl|hb
   ·exact g1 a ha
   ·exact g.2.2 a ha b hb
  refine⟨f1,f2,f3,f4,f5,hall _ h.nm (hc.resolve_left h0),hall (fun x=>x.set≠[]) h.ne h1,hall (fun x=>setB x.set=true) h.st hps,hall (fun x=>∀q,InP q->memK q 5 x.set=true->_) hsb hpb,?_,?_⟩
  ·refine hpw _ h.ds (fun x hx q hq h2=>?_) (fun x hx q hq h2=>hdis x (List.mem_of_mem_drop hx) q hq h2)
   rw[Bool.eq_false_iff]
   intro h3
   rw[hdis x (List.mem_of_mem_take hx) q hq h3]at h2
   cases h2
  ·refine hpw _ h.od (fun x hx=>?_) (fun x hx=>?_)
   ·obtain⟨j,hj⟩:=List.mem_iff_getElem?.1 hx
    rw[List.getElem?_take]at hj
    split at hj
    ·exact hlt j x (by assumption) hj
    ·cases hj
   ·obtain⟨j,hj⟩:=List.mem_iff_getElem?.1 hx
    rw[List.getElem?_drop]at hj
    obtain⟨y,hy⟩:∃y,p.insp[k]? =some y:=⟨_,List.getElem?_eq_getElem (by have:=(List.getElem?_eq_some_iff.1 hj).1;omega)⟩
    obtain⟨g1,g2⟩:=hge y hy
    have hcy:ltS c y.cls=true:=bl_total _ _ g1 g2
    rcases Nat.eq_zero_or_pos j with rfl|hj0
    ·rw[Nat.add_zero,hy]at hj
     cases hj;exact hcy
    ·have:=List.pairwise_iff_getElem.1 h.od k (k+j) (List.getElem?_eq_some_iff.1 hy).1 (List.getElem?_eq_some_iff.1 hj).1 (by omega)
     rw[(List.getElem?_eq_some_iff.1 hy).2,(List.getElem?_eq_some_iff.1 hj).2]at this
     exact bl_trans _ _ _ hcy this
 |uni k y h0 h1 hk hy=>
  have hym:y∈p.insp:=List.mem_of_getElem? hk
  have hum:∀q,InP q->memK q 5 (combP orB y.set (combP anB rest s).1).1=(memK q 5 y.set||memK q 5 (combP anB rest s).1):=fun q hq=>by rw[combP_mem (h.st y hym) hps he hq];rfl
  have hall:∀(Q:Insp->Prop),(∀x,x∈p.insp->Q x)->Q ⟨y.cls,(combP orB y.set (combP anB rest s).1).1⟩->∀x,x∈p.insp.set k ⟨y.cls,(combP orB y.set (combP anB rest s).1).1⟩->Q x:=fun Q g1 g2 x hx=>by
   rcases List.mem_or_eq_of_mem_set hx with hx|rfl
   ·exact g1 x hx
   ·exact g2
  have hkl:=(List.getElem?_eq_some_iff.1 hk).1
  have hke:=(List.getElem?_eq_some_iff.1 hk).2
  have hpw:∀(R:Insp->Insp->Prop),p.insp.Pairwise R->(∀x,x∈p.insp->R x y->R x ⟨y.cls,(combP orB y.set (combP anB rest s).1).1⟩)->(∀x,x∈p.insp->R y x->R ⟨y.cls,(combP orB y.set (combP anB rest s).1).1⟩ x)->(p.insp.set k ⟨y.cls,(combP orB y.set (combP anB rest s).1).1⟩).Pairwise R:=fun R g g1 g2=>by
   rw[List.pairwise_iff_getElem]at g⊢
   intro i j hi hj hij
   rw[List.length_set]at hi hj
   rw[List.getElem_set,List.getElem_set]
   by_cases e1:k=i
   ·rw[if_pos e1,if_neg (by omega)]
    refine g2 _ (List.getElem_mem _) ?_
    subst e1
    have:=g k j hi hj hij
    rwa[hke]at this
   ·rw[if_neg e1]
    by_cases e2:k=j
    ·rw[if_pos e2]
     refine g1 _ (List.getElem_mem _) ?_
     subst e2
     have:=g i k hi hj hij
     rwa[hke]at this
    ·rw[if_neg e2];exact g i j hi hj hij
  refine⟨f1,f2,f3,f4,f5,hall _ h.nm (h.nm y hym),hall (fun x=>x.set≠[]) h.ne ?_,hall (fun x=>setB x.set=true) h.st (setB_combP ..),hall (fun x=>∀q,InP q->memK q 5 x.set=true->_) hsb ?_,?_,?_⟩
  ·intro e0
   simp only at e0
   have:∀q,InP q->memK q 5 y.set=false:=fun q hq=>by
    have:=hum q hq
    rw[e0,memK_nil]at this
    cases hy:memK q 5 y.set
    ·rfl
    ·rw[hy]at this;cases this
   obtain⟨b,hb⟩:=List.exists_mem_of_ne_nil _ (h.ne y hym)
   obtain⟨q,hq,hqb⟩:=box_point (okL_set (h.st y hym) b hb)
   have h3:=this q hq
   rw[memK_iff.2 ⟨b,hb,hqb⟩]at h3
   cases h3
  ·intro q hq h2
   simp only at h2
   rw[hum q hq,Bool.or_eq_true]at h2
   rcases h2 with h2|h2
   ·exact hsb y hym q hq h2
   ·exact hpb q hq h2
  ·refine hpw _ h.ds (fun x hx hr q hq h2=>?_) (fun x hx hr q hq h2=>?_)
   ·simp only
    rw[hum q hq,hr q hq h2,Bool.false_or,Bool.eq_false_iff]
    intro h3
    rw[hdis x hx q hq h3]at h2
    cases h2
   ·simp only at h2
    rw[hum q hq,Bool.or_eq_true]at h2
    rcases h2 with h2|h2
    ·exact hr q hq h2
    ·exact hdis x hx q hq h2
  ·exact hpw _ h.od (fun x hx hr=>hr) (fun x hx hr=>hr)
theorem init_set:setB initS=true:=by decide+kernel
def realP(t:Tp):List Bx×Int:=if(makeP (pairsB t.edges)).2≠0 then([],(makeP (pairsB t.edges)).2)else combP anB (makeP (pairsB t.edges)).1 initS
structure It where
 kind:Int
 name:ByteArray
 pf:Pf
 proto:Int
 ports:Rg
structure Df where
 name:ByteArray
 items:List It
structure Wn where
 name:ByteArray
 act:List Rg
structure Sm where
 permit:Bool
 frm:ByteArray
 to:ByteArray
 svc:ByteArray
 exc:Bool
 exF:ByteArray
 exT:ByteArray
 cls:ByteArray
 dur:ByteArray
 pri:Int
structure Pb where
 addr:Int
 proto:Int
 port:Int
 edge:ByteArray
 real:Int
 rport:Int
structure Hn where
 grp:ByteArray
 edge:ByteArray
 addr:Int
 ports:Rg
structure Nt where
 grps:List Df
 svcs:List Df
 wins:List Wn
 sts:List Sm
 pubs:List Pb
 hids:List Hn
noncomputable abbrev encIt(x:It):AV:=.agg [.v (.int .i64 x.kind),.v (.string x.name),.v (.int .u32 x.pf.addr),.v (.int .i64 x.pf.bits),.v (.int .i64 x.proto),.v (.int .u32 x.ports.lo),.v (.int .u32 x.ports.hi)]
noncomputable abbrev encDf(x:Df):AV:=.agg [.v (.string x.name),.lst (x.items.map encIt)]
noncomputable abbrev encWn(x:Wn):AV:=.agg [.v (.string x.name),encRs x.act]
noncomputable abbrev encSm(x:Sm):AV:=.agg [.sb x.permit,.v (.string x.frm),.v (.string x.to),.v (.string x.svc),.sb x.exc,.v (.string x.exF),.v (.string x.exT),.v (.string x.cls),.v (.string x.dur),.v (.int .i64 x.pri)]
noncomputable abbrev encPb(x:Pb):AV:=.agg [.v (.int .u32 x.addr),.v (.int .i64 x.proto),.v (.int .i64 x.port),.v (.string x.edge),.v (.int .u32 x.real),.v (.int .i64 x.rport)]
noncomputable abbrev encHn(x:Hn):AV:=.agg [.v (.string x.grp),.v (.string x.edge),.v (.int .u32 x.addr),.v (.int .u32 x.ports.lo),.v (.int .u32 x.ports.hi)]
noncomputable abbrev celNt(i:Nt):List AV:=[.lst (i.grps.map encDf),.lst (i.svcs.map encDf),.lst (i.wins.map encWn),.lst (i.sts.map encSm),.lst (i.pubs.map encPb),.lst (i.hids.map encHn)]
noncomputable abbrev encNt(i:Nt):AV:=.agg (celNt i)
noncomputable abbrev boxNt(i:Nt):Vm.Obj:=.box (celNt i)
structure Sml (i:Nt):Prop where
 g:i.grps.length<=1000
 s:i.svcs.length<=1000
 w:i.wins.length<=1000
 t:i.sts.length<=1000
 p:i.pubs.length<=1000
 h:i.hids.length<=1000
 gi:∀x,x∈i.grps->x.items.length<=1000
 si:∀x,x∈i.svcs->x.items.length<=1000
 wi:∀x,x∈i.wins->x.act.length<=4000
open Go Go.Vm Go.ChangeShapes Go.WideShapes Go.ChangeAt Go.RowKit
noncomputable def gnCpD:Ctx:={N:=28,plan:=at1 5 (some (.one 0 true (.one 1 true (.one 2 true (.one 3 true (.one 4 true (.one 7 true (.one 8 true (.one 9 true (.one 10 true (.one 11 true (.wch 5 (.one 6 false (.one 12 false (.one 13 true (.one 14 false (.one 15 false (.one 16 true (.done))))))))))))))))))) (fun _=>none),out:=true}
noncomputable def bnCpD:Code:=bdy Tryz.f48
abbrev ofnCpD:=@ofC Tryz.prog gnCpD 48 Tryz.f48 bnCpD Tryz.func48 (by kernel_rfl) (by kernel_rfl) (by kernel_rfl) (by kernel_rfl)
noncomputable def gnCpI:Ctx:={N:=55,own:=at1 48 (true) (fun _=>false),plan:=at1 1 (some (.one 0 true (.one 1 true (.one 3 true (.wch 4 (.alt 2 (.alt 5 (.one 6 true (.one 7 false (.one 8 false (.done)))) (.alt 7 (.one 5 false (.one 6 true (.one 8 false (.done)))) (.stop))) (.alt 7 (.one 2 false (.one 5 false (.one 6 true (.one 8 false (.done))))) (.stop)))))))) (at1 5 (some (.one 0 true (.one 2 true (.one 4 true (.one 9 true (.one 10 true (.one 11 true (.one 12 true (.one 13 true (.one 14 true (.wch 3 (.one 5 true (.one 6 true (.wch 7 (.alt 1 (.one 8 false (.one 15 false (.one 16 true (.one 17 false (.one 18 false (.one 19 true (.one 20 false (.done)))))))) (.alt 8 (.alt 1 (.one 15 false (.one 16 true (.one 17 false (.one 18 false (.one 19 true (.one 20 false (.done))))))) (.alt 15 (.one 1 true (.one 16 true (.one 17 false (.one 18 false (.one 19 true (.one 20 false (.done))))))) (.stop))) (.stop))))))))))))))))) (fun _=>none)),hints:=at1 2 ([.freeze 1]) (at1 6 ([.flatB 3 2,.virtB 3 1 2,.virtB 3 2 2]) (fun _=>[])),out:=true}
noncomputable def bnCpI:Code:=bdy Tryz.f20
abbrev ofnCpI:=@ofC Tryz.prog gnCpI 20 Tryz.f20 bnCpI Tryz.func20 (by kernel_rfl) (by kernel_rfl) (by kernel_rfl) (by kernel_rfl)
noncomputable def gnStm:Ctx:={N:=92,np:=2,own:=at1 12 (true) (at1 69 (true) (fun _=>false)),plan:=at1 1 (some (.one 0 true (.one 3 true (.one 4 true (.one 7 true (.one 8 true (.one 11 true (.one 12 true (.wch 5 (.wch 9 (.wch 13 (.alt 1 (.one 2 true (.alt 6 (.alt 10 (.alt 14 (.one 15 true (.one 16 false (.one 17 false (.done)))) (.alt 16 (.one 14 false (.one 15 true (.one 17 false (.done)))) (.stop))) (.alt 16 (.one 10 false (.one 14 false (.one 15 true (.one 17 false (.done))))) (.stop))) (.alt 16 (.one 6 false (.one 10 false (.one 14 false (.one 15 true (.one 17 false (.done)))))) (.stop)))) (.alt 16 (.one 1 false (.one 2 true (.one 6 false (.one 10 false (.one 14 false (.one 15 true (.one 17 false (.done)))))))) (.stop)))))))))))))) (at1 3 (some (.one 0 true (.one 1 true (.one 2 true (.one 4 true (.one 5 true (.one 8 true (.wch 6 (.one 3 false (.one 7 false (.one 9 false (.one 10 true (.one 11 false (.one 12 true (.one 13 false (.done)))))))))))))))) (at1 8 (some (.one 0 true (.one 2 true (.one 3 true (.one 4 true (.one 5 true (.wch 1 (.one 6 false (.one 7 true (.one 8 true (.one 9 true (.one 10 true (.one 11 false (.done)))))))))))))) (fun _=>none))),cut:=at1 4 (true) (at1 7 (true) (at1 9 (true) (fun _=>false)))}
noncomputable def bnStm:Code:=bdy Tryz.f40
abbrev ofnStm:=@ofC Tryz.prog gnStm 40 Tryz.f40 bnStm Tryz.func40 (by kernel_rfl) (by kernel_rfl) (by kernel_rfl) (by kernel_rfl)
noncomputable def gnInt:Ctx:={N:=260,np:=1,own:=at1 12 (true) (at1 21 (true) (at1 23 (true) (at1 39 (true) (at1 40 (true) (at1 42 (true) (fun _=>false)))))),plan:=at1 36 (some (.one 0 true (.one 2 true (.wch 1 (.one 3 false (.one 4 true (.one 5 false (.one 6 false (.one 7 true (.one 8 false (.done))))))))))) (at1 40 (some (.one 0 true (.one 2 true (.one 3 true (.one 4 true (.wch 1 (.one 5 false (.one 6 false (.one 7 false (.one 8 true (.one 9 false (.done)))))))))))) (at1 43 (some (.one 0 true (.one 3 true (.one 7 true (.one 10 true (.one 15 true (.one 17 true (.wch 1 (.wch 11 (.one 12 true (.one 13 true (.wch 14 (.wch 16 (.alt 2 (.one 4 false (.one 5 true (.wch 6 (.one 8 false (.one 9 true (.one 18 false (.one 19 true (.one 20 true (.one 21 false (.one 22 false (.one 23 true (.one 24 false (.done))))))))))))) (.alt 4 (.alt 2 (.one 5 true (.wch 6 (.one 8 false (.one 9 true (.one 18 false (.one 19 true (.one 20 true (.one 21 false (.one 22 false (.one 23 true (.one 24 false (.done)))))))))))) (.alt 8 (.one 9 true (.alt 2 (.one 5 true (.wch 6 (.one 18 false (.one 19 true (.one 20 true (.one 21 false (.one 22 false (.one 23 true (.one 24 false (.done)))))))))) (.alt 18 (.one 19 true (.one 2 false (.one 5 true (.one 6 true (.one 20 true (.one 21 false (.one 22 false (.one 23 true (.one 24 false (.done)))))))))) (.stop)))) (.stop))) (.stop)))))))))))))))) (at1 46 (some (.one 0 true (.one 2 true (.one 4 true (.one 8 true (.wch 1 (.wch 3 (.one 5 true (.one 6 true (.wch 7 (.one 9 false (.one 10 true (.one 11 true (.one 12 true (.one 13 true (.one 14 false (.one 15 false (.one 16 true (.one 17 false (.done)))))))))))))))))))) (fun _=>none)))),hints:=at1 2 ([.virtB 7 0 2,.virtB 7 1 2,.virtB 7 2 2]) (at1 6 ([.virtB 9 1 7]) (at1 16 ([.freezeB 9]) (at1 21 ([.virtB 14 1 7]) (at1 34 ([.freezeB 14]) (at1 37 ([.freezeB 7,.virtB 7 3 10]) (at1 41 ([.virtB 7 4 6,.virtB 7 5 5]) (fun _=>[]))))))),cut:=at1 13 (true) (at1 15 (true) (at1 31 (true) (at1 33 (true) (at1 37 (true) (at1 44 (true) (at1 47 (true) (fun _=>false)))))))}
noncomputable def bnInt:Code:=bdy Tryz.f11
abbrev ofnInt:=@ofC Tryz.prog gnInt 11 Tryz.f11 bnInt Tryz.func11 (by kernel_rfl) (by kernel_rfl) (by kernel_rfl) (by kernel_rfl)
noncomputable def gq1Parts:Ctx:={N:=35,hints:=at1 2 ([.virt 5 1]) (fun _=>[])}
noncomputable def bq1Parts:Code:=bdy Tryz.f172
abbrev ofq1Parts:=@ofC Tryz.prog gq1Parts 172 Tryz.f172 bq1Parts Tryz.func172 (by kernel_rfl) (by kernel_rfl) (by kernel_rfl) (by kernel_rfl)
noncomputable def gq9Days:Ctx:={N:=2}
noncomputable def bq9Days:Code:=bdy Tryz.f203
abbrev ofq9Days:=@ofC Tryz.prog gq9Days 203 Tryz.f203 bq9Days Tryz.func203 (by kernel_rfl) (by kernel_rfl) (by kernel_rfl) (by kernel_rfl)
noncomputable def gq9Day:Ctx:={N:=19}
noncomputable def bq9Day:Code:=bdy Tryz.f173
abbrev ofq9Day:=@ofC Tryz.prog gq9Day 173 Tryz.f173 bq9Day Tryz.func173 (by kernel_rfl) (by kernel_rfl) (by kernel_rfl) (by kernel_rfl)
noncomputable def gq9Two:Ctx:={N:=36,plan:=at1 3 (some (ln [1,3,5,7,9,11,13,15,17,19,21])) (fun _=>none)}
noncomputable def bq9Two:Code:=bdy Tryz.f204
abbrev ofq9Two:=@ofC Tryz.prog gq9Two 204 Tryz.f204 bq9Two Tryz.func204 (by kernel_rfl) (by kernel_rfl) (by kernel_rfl) (by kernel_rfl)
noncomputable def gq9Clock:Ctx:={N:=39,plan:=at1 5 (some (ln [1,3,7,9,4,10,13,15])) (fun _=>none)}
noncomputable def bq9Clock:Code:=bdy Tryz.f174
abbrev ofq9Clock:=@ofC Tryz.prog gq9Clock 174 Tryz.f174 bq9Clock Tryz.func174 (by kernel_rfl) (by kernel_rfl) (by kernel_rfl) (by kernel_rfl)
noncomputable def gq9Span:Ctx:={N:=32,plan:=at1 4 (some (ln [1,3,5,9,11,13,15,17,19,6,20,23,25])) (fun _=>none)}
noncomputable def bq9Span:Code:=bdy Tryz.f124
abbrev ofq9Span:=@ofC Tryz.prog gq9Span 124 Tryz.f124 bq9Span Tryz.func124 (by kernel_rfl) (by kernel_rfl) (by kernel_rfl) (by kernel_rfl)
noncomputable def gq9Times:Ctx:={N:=29,plan:=at1 4 (some (ln [1,3,5,9,11,13,6,14,17,19])) (fun _=>none)}
noncomputable def bq9Times:Code:=bdy Tryz.f125
abbrev ofq9Times:=@ofC Tryz.prog gq9Times 125 Tryz.f125 bq9Times Tryz.func125 (by kernel_rfl) (by kernel_rfl) (by kernel_rfl) (by kernel_rfl)
noncomputable def gq9Parse:Ctx:={N:=96,hints:=at1 6 ([.virt 4 2]) (fun _=>[])}
noncomputable def bq9Parse:Code:=bdy Tryz.f68
abbrev ofq9Parse:=@ofC Tryz.prog gq9Parse 68 Tryz.f68 bq9Parse Tryz.func68 (by kernel_rfl) (by kernel_rfl) (by kernel_rfl) (by kernel_rfl)
noncomputable def gnWin:Ctx:={N:=47,np:=1,own:=at1 12 (true) (fun _=>false),plan:=at1 3 (some (.one 0 true (.one 1 true (.one 5 true (.one 6 true (.one 2 false (.one 3 true (.wch 4 (.one 7 false (.one 8 true (.one 9 true (.one 10 false (.one 11 true (.done)))))))))))))) (at1 7 (some (.one 0 true (.one 1 true (.one 2 true (.one 6 true (.one 7 true (.one 3 false (.one 4 true (.wch 5 (.one 8 false (.one 9 true (.one 10 true (.one 11 false (.one 12 false (.one 13 true (.done)))))))))))))))) (fun _=>none))}
noncomputable def bnWin:Code:=bdy Tryz.f39
abbrev ofnWin:=@ofC Tryz.prog gnWin 39 Tryz.f39 bnWin Tryz.func39 (by kernel_rfl) (by kernel_rfl) (by kernel_rfl) (by kernel_rfl)
noncomputable def gnPick:Ctx:={N:=20,np:=1,own:=at1 12 (true) (fun _=>false)}
noncomputable def bnPick:Code:=bdy Tryz.f69
abbrev ofnPick:=@ofC Tryz.prog gnPick 69 Tryz.f69 bnPick Tryz.func69 (by kernel_rfl) (by kernel_rfl) (by kernel_rfl) (by kernel_rfl)
noncomputable def gnRange:Ctx:={N:=20,np:=1,own:=at1 42 (true) (fun _=>false)}
noncomputable def bnRange:Code:=bdy Tryz.f23
abbrev ofnRange:=@ofC Tryz.prog gnRange 23 Tryz.f23 bnRange Tryz.func23 (by kernel_rfl) (by kernel_rfl) (by kernel_rfl) (by kernel_rfl)
theorem ix_map_any{α:Type}{f:α->AV}{l:List α}{i:Nat}{K:AV->Prop}(h:i<l.length)(hk:∀r,r∈l->K (f r)):Ix (l.map f) i K:=ix_map (List.getElem?_eq_getElem h) (hk _ (List.getElem_mem h))
noncomputable abbrev encSt(s:ByteArray):AV:=.v (.string s)
theorem ix_baA{s:ByteArray}{j:Nat}{K:UInt8->Prop}(h:j<s.size)(hk:∀b,K b):∃b,s[j]? =some b/\K b:=ix_ba h fun b _=>hk b
def dayL:List ByteArray:=[⟨#[109,111,110]⟩,⟨#[116,117,101]⟩,⟨#[119,101,100]⟩,⟨#[116,104,117]⟩,⟨#[102,114,105]⟩,⟨#[115,97,116]⟩,⟨#[115,117,110]⟩]
theorem cqDays{K:KT}(hK:K (.lst (dayL.map encSt)) []):ACall Tryz.prog 203 [] [] K:=by
 refine ofq9Days rfl rfl ?_
 (repeat' ((conv=>whnf);first|(refine sl_full (by rfl) ?_)|refine zG ?_|apply zA|(apply zI;intro h)|exact zT));(all_goals conv=>whnf)
 exact hK
theorem cqTwo(s:ByteArray){K:KT}(hK:∀r:Int,K (.v (.int .i64 r)) []):ACall Tryz.prog 204 [.v (.string s)] [] K:=by
 refine ofq9Two rfl rfl ?_
 (repeat' ((conv=>whnf);first|(refine In.intro 0 rfl (by omega) ?_)|(refine In.intro 1 rfl (by omega) ?_)|(with_reducible first|refine ix_baA (by omega) fun b=>?_|refine wr_any fun r=>?_)|refine zG ?_|apply zA|(apply zI;intro h)|exact zT));(all_goals conv=>whnf)
 all_goals first
  |exact hK _
  |trace_state
end Go.Proofs.YtahhamfngafmcaaGreatDoor
