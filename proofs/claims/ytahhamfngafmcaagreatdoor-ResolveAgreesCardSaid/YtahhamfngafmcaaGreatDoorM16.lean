/- Policies step by step, in plain Lean: what is joined out of parts of the rest is a valid policy. -/
import Derived.Test.YtahhamfngafmcaaGreatDoorProg
import Derived.Test.YtahhamfngafmcaaGreatDoorM15
set_option linter.unusedVariables false
set_option linter.unusedSimpArgs false
set_option maxRecDepth 100000
set_option maxHeartbeats 4000000
namespace Go.Proofs.YtahhamfngafmcaaGreatDoor
open Go Go.Vm
theorem cano_ext2(op op':Bool->Bool->Bool):∀(k:Nat) (a b a' b':List Bx),k<=5->(∀p,InP p->op (memK p k a) (memK p k b)=op' (memK p k a') (memK p k b'))->cano op k a b=cano op' k a' b'
 |0,a,b,a',b',_,h=>by
  have h1:=h _ inP_zero
  rw[memK_zero,memK_zero,memK_zero,memK_zero]at h1
  rw[cano,cano,h1]
 |k+1,a,b,a',b',hk,h=>by
  have g:=cano_ginv op k a b (starts_cuts _ (topF_pos (4-k)).1)
  have g':=cano_ginv op' k a' b' (starts_cuts _ (topF_pos (4-k)).1)
  have part:∀v,0<=v->v<topF (4-k)+1->∀p,InP p->op (memK p k (atF (4-k) v a)) (memK p k (atF (4-k) v b))=op' (memK p k (atF (4-k) v a')) (memK p k (atF (4-k) v b')):=by
   intro v v0 v1 p hp
   have hq:InP (fun f=>if f=4-k then v else p f):=fun f=>by
    by_cases e:f=4-k
    ·simp only[e,if_true];omega
    ·simp only[e,if_false];exact hp f
   have h:=h _ hq
   rw[memK_succ,memK_succ,memK_succ,memK_succ,if_pos rfl]at h
   have e:∀c:List Bx,memK p k (atF (4-k) v c)=memK (fun f=>if f=4-k then v else p f) k (atF (4-k) v c):=fun c=>memK_congr zo fun f hf h5=>by rw[if_neg zo]
   rw[e,e,e,e,h]
  have hR:∀v,0<=v->v<topF (4-k)+1->restAt op k a b v=restAt op' k a' b' v:=fun v v0 v1=>
   cano_ext2 op op' k _ _ _ _ zo (part v v0 v1)
  rw[cano_succ,cano_succ,(g.congr hR).same g']
theorem memK_nil{p:Nat->Int}{k:Nat}:memK p k []=false:=rfl
theorem cano_same(op:Bool->Bool->Bool)(a b:List Bx):cano orB 5 (cano op 5 a b) []=cano op 5 a b:=
 cano_ext2 orB op 5 _ _ _ _ (Nat.le_refl _) fun p hp=>by rw[cano_mem op hp 5 a b (Nat.le_refl _),memK_nil,orB,Bool.or_false]
theorem okL_bx{l:List Bx}(h:okL l):∀x,x∈l->x.ok:=fun x hx=>⟨h x hx 0 zo,h x hx 1 zo,h x hx 2 zo,h x hx 3 zo,h x hx 4 zo⟩
theorem vld_all{l:List Bx}(h:okL l):vldB l=l:=List.filter_eq_self.2 fun x hx=>by simpa using okL_bx h x hx
theorem setB_cano{op:Bool->Bool->Bool}{a b:List Bx}(h:(cano op 5 a b).length<=4096):setB (cano op 5 a b)=true:=by
 have ho:=okL_cano op a b
 unfold setB
 rw[vld_all ho]
 simp only[Bool.and_eq_true,decide_eq_true_eq,true_and]
 refine⟨h,(canB_iff 5 _ (Nat.le_refl _) (fun x hx f hf _=>ho x hx f hf) zo).2 ?_⟩
 rw[cano_same]
 exact((List.map_congr_left fun x _=>zeroTo_five x).trans (List.map_id _)).symm
theorem setB_nil:setB []=true:=by decide+kernel
theorem setB_lim(op:Bool->Bool->Bool)(a b:List Bx):setB (limP (cano op 5 a b))=true:=by
 unfold limP;split
 ·exact setB_nil
 ·exact setB_cano zo
theorem setB_makeGo:∀(l s:List Bx),setB s=true->setB (makeGo s l).1=true
 |[],s,h=>h
 |b::l,s,h=>by
  rw[makeGo]
  split
  ·split
   ·exact setB_nil
   ·exact setB_makeGo l _ (setB_cano (by unfold addO at*;omega))
  ·exact setB_makeGo l s h
theorem setB_makeP(l:List Bx):setB (makeP l).1=true:=setB_makeGo l [] setB_nil
theorem setB_combP(op:Bool->Bool->Bool)(a b:List Bx):setB (combP op a b).1=true:=by
 unfold combP;split
 ·exact setB_nil
 ·split
  ·exact setB_nil
  ·exact setB_lim ..
theorem combP_mem{op:Bool->Bool->Bool}{a b:List Bx}(ha:setB a=true)(hb:setB b=true)(he:(combP op a b).2=0){p:Nat->Int}(hp:InP p):memK p 5 (combP op a b).1=op (memK p 5 a) (memK p 5 b):=by
 rw[combP_set ha hb]at he⊢
 simp only at he⊢
 have:(cano op 5 a b).length<=4096:=by
  have:=mt limE_ne.2 (fun h=>h he);omega
 rw[limP,if_neg zo,cano_mem op hp 5 a b (Nat.le_refl _)]
theorem vldB_cons(b:Bx)(l:List Bx):vldB (b::l)=if b.ok then b::vldB l else vldB l:=by
 unfold vldB
 by_cases h:b.ok
 ·rw[List.filter_cons_of_pos (by simpa using h),if_pos h]
 ·rw[List.filter_cons_of_neg (by simpa using h),if_neg h]
/-! texts in their order -/
def ltS(s t:ByteArray):Bool:=Op.bytesLess s.toList t.toList
theorem bl_trans:∀(a b c:List UInt8),Op.bytesLess a b=true->Op.bytesLess b c=true->Op.bytesLess a c=true
 |_,_,[],_,h=>by simp[Op.bytesLess]at h
 |[],_,_::_,_,_=>by simp[Op.bytesLess]
 |_::_,[],_,h,_=>by simp[Op.bytesLess]at h
 |a::x,b::y,c::z,h,h'=>by
  simp only[Op.bytesLess,Bool.or_eq_true,Bool.and_eq_true,decide_eq_true_eq,beq_iff_eq]at h h'⊢
  rcases h with h|⟨rfl,h⟩<;>rcases h' with h'|⟨rfl,h'⟩
  ·exact .inl (UInt8.lt_trans h h')
  ·exact .inl h
  ·exact .inl h'
  ·exact .inr ⟨rfl,bl_trans x y z h h'⟩
theorem bl_total:∀(a b:List UInt8),Op.bytesLess a b=false->(a==b)=false->Op.bytesLess b a=true
 |[],[],_,h=>by simp at h
 |[],_::_,h,_=>by simp[Op.bytesLess]at h
 |_::_,[],_,_=>by simp[Op.bytesLess]
 |a::x,b::y,h,h'=>by
  simp only[Op.bytesLess,Bool.or_eq_false_iff,Bool.and_eq_false_iff,decide_eq_false_iff_not,beq_eq_false_iff_ne,ne_eq]at h
  simp only[Op.bytesLess,Bool.or_eq_true,Bool.and_eq_true,decide_eq_true_eq,beq_iff_eq]
  obtain⟨h1,h2⟩:=h
  by_cases e:a=b
  ·subst e
   refine .inr ⟨rfl,bl_total x y ?_ ?_⟩
   ·rcases h2 with h2|h2
    ·exact absurd rfl h2
    ·simpa using h2
   ·simpa using h'
  ·refine .inl ?_
   have h1':¬a.toNat<b.toNat:=fun h=>h1 (UInt8.lt_iff_toNat_lt.2 h)
   have:a.toNat≠b.toNat:=fun h=>e (UInt8.toNat_inj.1 h)
   exact UInt8.lt_iff_toNat_lt.2 zo
/-! the policy of an intent, step by step -/
def realM(t:Tp)(q:Nat->Int):Prop:=memK q 5 (vldB (pairsB t.edges))=true/\memK q 5 initS=true
structure AtInv (t:Tp) (rest:List Bx) (p:Pol):Prop where
 rs:setB rest=true
 al:setB p.allow=true
 rr:∀q,InP q->memK q 5 rest=true->realM t q
 ar:∀q,InP q->memK q 5 p.allow=true->realM t q
 dj:∀q,InP q->memK q 5 rest=true->memK q 5 p.allow=false
 nm:∀x,x∈p.insp->nameOk x.cls
 ne:∀x,x∈p.insp->x.set≠[]
 st:∀x,x∈p.insp->setB x.set=true
 sb:∀x,x∈p.insp->∀q,InP q->memK q 5 x.set=true->memK q 5 p.allow=true
 ds:p.insp.Pairwise fun x y=>∀q,InP q->memK q 5 x.set=true->memK q 5 y.set=false
 od:p.insp.Pairwise fun x y=>ltS x.cls y.cls=true
inductive PutR (l:List Insp) (c:ByteArray) (s:List Bx):List Insp->Int->Prop
 |skip:(c.toList=[]\/s=[])->PutR l c s l 0
 |ins (k:Nat):c.toList≠[]->s≠[]->k<=l.length->(∀(j:Nat) y,j<k->l[j]? =some y->ltS y.cls c=true)->(∀y,l[k]? =some y->ltS y.cls c=false/\(y.cls.toList==c.toList)=false)->PutR l c s (l.take k++⟨c,s⟩::l.drop k) 0
 |uni (k:Nat) (y:Insp):c.toList≠[]->s≠[]->l[k]? =some y->(y.cls.toList==c.toList)=true->PutR l c s (l.set k ⟨y.cls,(combP orB y.set s).1⟩) (combP orB y.set s).2
theorem AtInv.permit{t:Tp}{rest s:List Bx}{p:Pol}{c:ByteArray}{l':List Insp}{e:Int}(h:AtInv t rest p)(hs:setB s=true)(hc:c.toList=[]\/nameOk c)(e1:(combP anB rest s).2=0)
  (e2:(combP woB rest s).2=0)(e3:(combP orB p.allow (combP anB rest s).1).2=0)(hp:PutR p.insp c (combP anB rest s).1 l' e)(he:e=0):
  AtInv t (combP woB rest s).1 ⟨(combP orB p.allow (combP anB rest s).1).1,l'⟩:=by
 have hps:setB (combP anB rest s).1=true:=setB_combP ..
 have hpm:∀q,InP q->memK q 5 (combP anB rest s).1=(memK q 5 rest&&memK q 5 s):=fun q hq=>by rw[combP_mem h.rs hs e1 hq];rfl
 have hrm:∀q,InP q->memK q 5 (combP woB rest s).1=(memK q 5 rest&& !memK q 5 s):=fun q hq=>by rw[combP_mem h.rs hs e2 hq];rfl
 have ham:∀q,InP q->memK q 5 (combP orB p.allow (combP anB rest s).1).1=(memK q 5 p.allow||memK q 5 (combP anB rest s).1):=fun q hq=>by rw[combP_mem h.al hps e3 hq];rfl
 have hdis:∀x,x∈p.insp->∀q,InP q->memK q 5 (combP anB rest s).1=true->memK q 5 x.set=false:=fun x hx q hq h1=>by
  rw[hpm q hq]at h1
  simp only[Bool.and_eq_true]at h1
  rw[Bool.eq_false_iff]
  intro h2
  have:=h.dj q hq h1.1
  rw[h.sb x hx q hq h2]at this
  cases this
 have hsb:∀x,x∈p.insp->∀q,InP q->memK q 5 x.set=true->memK q 5 (combP orB p.allow (combP anB rest s).1).1=true:=fun x hx q hq h1=>by
  rw[ham q hq,h.sb x hx q hq h1];rfl
 have hpb:∀q,InP q->memK q 5 (combP anB rest s).1=true->memK q 5 (combP orB p.allow (combP anB rest s).1).1=true:=fun q hq h1=>by rw[ham q hq,h1,Bool.or_true]
 have f1:setB (combP woB rest s).1=true:=setB_combP ..
 have f2:setB (combP orB p.allow (combP anB rest s).1).1=true:=setB_combP ..
 have f3:∀q,InP q->memK q 5 (combP woB rest s).1=true->realM t q:=fun q hq h1=>by
  rw[hrm q hq]at h1
  simp only[Bool.and_eq_true]at h1
  exact h.rr q hq h1.1
 have f4:∀q,InP q->memK q 5 (combP orB p.allow (combP anB rest s).1).1=true->realM t q:=fun q hq h1=>by
  rw[ham q hq,hpm q hq]at h1
  simp only[Bool.or_eq_true,Bool.and_eq_true]at h1
  rcases h1 with h1|h1
  ·exact h.ar q hq h1
  ·exact h.rr q hq h1.1
 have f5:∀q,InP q->memK q 5 (combP woB rest s).1=true->memK q 5 (combP orB p.allow (combP anB rest s).1).1=false:=fun q hq h1=>by
  rw[hrm q hq]at h1
  simp only[Bool.and_eq_true,Bool.not_eq_true']at h1
  rw[ham q hq,hpm q hq,h.dj q hq h1.1,h1.2,Bool.and_false];rfl
 cases hp with
 |skip h0=>exact⟨f1,f2,f3,f4,f5,h.nm,h.ne,h.st,hsb,h.ds,h.od⟩
 |ins k h0 h1 hk hlt hge=>
  have hmem:∀x,x∈p.insp.take k++⟨c,(combP anB rest s).1⟩::p.insp.drop k->x∈p.insp\/x=⟨c,(combP anB rest s).1⟩:=fun x hx=>by
   rcases List.mem_append.1 hx with hx|hx
   ·exact .inl (List.mem_of_mem_take hx)
   ·rcases List.mem_cons.1 hx with hx|hx
    ·exact .inr hx
    ·exact .inl (List.mem_of_mem_drop hx)
  have hall:∀(Q:Insp->Prop),(∀x,x∈p.insp->Q x)->Q ⟨c,(combP anB rest s).1⟩->∀x,x∈p.insp.take k++⟨c,(combP anB rest s).1⟩::p.insp.drop k->Q x:=fun Q g1 g2 x hx=>by
   rcases hmem x hx with hx|rfl
   ·exact g1 x hx
   ·exact g2
  have hpw:∀(R:Insp->Insp->Prop),p.insp.Pairwise R->(∀x,x∈p.insp.take k->R x ⟨c,(combP anB rest s).1⟩)->(∀x,x∈p.insp.drop k->R ⟨c,(combP anB rest s).1⟩ x)->(p.insp.take k++⟨c,(combP anB rest s).1⟩::p.insp.drop k).Pairwise R:=fun R g g1 g2=>by
   rw[<-List.take_append_drop k p.insp]at g
   rw[List.pairwise_append]at g⊢
   refine⟨g.1,List.pairwise_cons.2 ⟨g2,g.2.1⟩,fun a ha b hb=>?_⟩
   rcases List.mem_cons.1 hb with rfl|hb
   ·exact g1 a ha
   ·exact g.2.2 a ha b hb
  refine⟨f1,f2,f3,f4,f5,hall _ h.nm (hc.resolve_left h0),hall (fun x=>x.set≠[]) h.ne h1,hall (fun x=>setB x.set=true) h.st hps,hall (fun x=>∀q,InP q->memK q 5 x.set=true->_) hsb hpb,?_,?_⟩
  ·refine hpw _ h.ds (fun x hx q hq h2=>?_) (fun x hx q hq h2=>hdis x (List.mem_of_mem_drop hx) q hq h2)
   rw[Bool.eq_false_iff]
   intro h3
   rw[hdis x (List.mem_of_mem_take hx) q hq h3]at h2
   cases h2
  ·refine hpw _ h.od (fun x hx=>?_) (fun x hx=>?_)
   ·obtain⟨j,hj⟩:=List.mem_iff_getElem?.1 hx
    rw[List.getElem?_take]at hj
    split at hj
    ·exact hlt j x zp hj
    ·cases hj
   ·obtain⟨j,hj⟩:=List.mem_iff_getElem?.1 hx
    rw[List.getElem?_drop]at hj
    obtain⟨y,hy⟩:∃y,p.insp[k]? =some y:=⟨_,List.getElem?_eq_getElem (by have:=(List.getElem?_eq_some_iff.1 hj).1;omega)⟩
    obtain⟨g1,g2⟩:=hge y hy
    have hcy:ltS c y.cls=true:=bl_total _ _ g1 g2
    rcases Nat.eq_zero_or_pos j with rfl|hj0
    ·rw[Nat.add_zero,hy]at hj
     cases hj;exact hcy
    ·have:=List.pairwise_iff_getElem.1 h.od k (k+j) (List.getElem?_eq_some_iff.1 hy).1 (List.getElem?_eq_some_iff.1 hj).1 zo
     rw[(List.getElem?_eq_some_iff.1 hy).2,(List.getElem?_eq_some_iff.1 hj).2]at this
     exact bl_trans _ _ _ hcy this
 |uni k y h0 h1 hk hy=>
  have hym:y∈p.insp:=List.mem_of_getElem? hk
  have hum:∀q,InP q->memK q 5 (combP orB y.set (combP anB rest s).1).1=(memK q 5 y.set||memK q 5 (combP anB rest s).1):=fun q hq=>by rw[combP_mem (h.st y hym) hps he hq];rfl
  have hall:∀(Q:Insp->Prop),(∀x,x∈p.insp->Q x)->Q ⟨y.cls,(combP orB y.set (combP anB rest s).1).1⟩->∀x,x∈p.insp.set k ⟨y.cls,(combP orB y.set (combP anB rest s).1).1⟩->Q x:=fun Q g1 g2 x hx=>by
   rcases List.mem_or_eq_of_mem_set hx with hx|rfl
   ·exact g1 x hx
   ·exact g2
  have hkl:=(List.getElem?_eq_some_iff.1 hk).1
  have hke:=(List.getElem?_eq_some_iff.1 hk).2
  have hpw:∀(R:Insp->Insp->Prop),p.insp.Pairwise R->(∀x,x∈p.insp->R x y->R x ⟨y.cls,(combP orB y.set (combP anB rest s).1).1⟩)->(∀x,x∈p.insp->R y x->R ⟨y.cls,(combP orB y.set (combP anB rest s).1).1⟩ x)->(p.insp.set k ⟨y.cls,(combP orB y.set (combP anB rest s).1).1⟩).Pairwise R:=fun R g g1 g2=>by
   rw[List.pairwise_iff_getElem]at g⊢
   intro i j hi hj hij
   rw[List.length_set]at hi hj
   rw[List.getElem_set,List.getElem_set]
   by_cases e1:k=i
   ·rw[if_pos e1,if_neg zo]
    refine g2 _ (List.getElem_mem _) ?_
    subst e1
    have:=g k j hi hj hij
    rwa[hke]at this
   ·rw[if_neg e1]
    by_cases e2:k=j
    ·rw[if_pos e2]
     refine g1 _ (List.getElem_mem _) ?_
     subst e2
     have:=g i k hi hj hij
     rwa[hke]at this
    ·rw[if_neg e2];exact g i j hi hj hij
  refine⟨f1,f2,f3,f4,f5,hall _ h.nm (h.nm y hym),hall (fun x=>x.set≠[]) h.ne ?_,hall (fun x=>setB x.set=true) h.st (setB_combP ..),hall (fun x=>∀q,InP q->memK q 5 x.set=true->_) hsb ?_,?_,?_⟩
  ·intro e0
   simp only at e0
   have:∀q,InP q->memK q 5 y.set=false:=fun q hq=>by
    have:=hum q hq
    rw[e0,memK_nil]at this
    cases hy:memK q 5 y.set
    ·rfl
    ·rw[hy]at this;cases this
   obtain⟨b,hb⟩:=List.exists_mem_of_ne_nil _ (h.ne y hym)
   obtain⟨q,hq,hqb⟩:=box_point (okL_set (h.st y hym) b hb)
   have h3:=this q hq
   rw[memK_iff.2 ⟨b,hb,hqb⟩]at h3
   cases h3
  ·intro q hq h2
   simp only at h2
   rw[hum q hq,Bool.or_eq_true]at h2
   rcases h2 with h2|h2
   ·exact hsb y hym q hq h2
   ·exact hpb q hq h2
  ·refine hpw _ h.ds (fun x hx hr q hq h2=>?_) (fun x hx hr q hq h2=>?_)
   ·simp only
    rw[hum q hq,hr q hq h2,Bool.false_or,Bool.eq_false_iff]
    intro h3
    rw[hdis x hx q hq h3]at h2
    cases h2
   ·simp only at h2
    rw[hum q hq,Bool.or_eq_true]at h2
    rcases h2 with h2|h2
    ·exact hr q hq h2
    ·exact hdis x hx q hq h2
  ·exact hpw _ h.od (fun x hx hr=>hr) (fun x hx hr=>hr)
theorem init_set:setB initS=true:=by decide+kernel
def realP(t:Tp):List Bx×Int:=if(makeP (pairsB t.edges)).2≠0 then([],(makeP (pairsB t.edges)).2)else combP anB (makeP (pairsB t.edges)).1 initS
structure It where
 kind:Int
 name:ByteArray
 pf:Pf
 proto:Int
 ports:Rg
structure Df where
 name:ByteArray
 items:List It
structure Wn where
 name:ByteArray
 act:List Rg
structure Sm where
 permit:Bool
 frm:ByteArray
 to:ByteArray
 svc:ByteArray
 exc:Bool
 exF:ByteArray
 exT:ByteArray
 cls:ByteArray
 dur:ByteArray
 pri:Int
structure Pb where
 addr:Int
 proto:Int
 port:Int
 edge:ByteArray
 real:Int
 rport:Int
structure Hn where
 grp:ByteArray
 edge:ByteArray
 addr:Int
 ports:Rg
structure Nt where
 grps:List Df
 svcs:List Df
 wins:List Wn
 sts:List Sm
 pubs:List Pb
 hids:List Hn
noncomputable abbrev encIt(x:It):AV:=.agg [.v (.int .i64 x.kind),.v (.string x.name),.v (.int .u32 x.pf.addr),.v (.int .i64 x.pf.bits),.v (.int .i64 x.proto),.v (.int .u32 x.ports.lo),.v (.int .u32 x.ports.hi)]
noncomputable abbrev encDf(x:Df):AV:=.agg [.v (.string x.name),.lst (x.items.map encIt)]
noncomputable abbrev encWn(x:Wn):AV:=.agg [.v (.string x.name),encRs x.act]
noncomputable abbrev encSm(x:Sm):AV:=.agg [.sb x.permit,.v (.string x.frm),.v (.string x.to),.v (.string x.svc),.sb x.exc,.v (.string x.exF),.v (.string x.exT),.v (.string x.cls),.v (.string x.dur),.v (.int .i64 x.pri)]
noncomputable abbrev encPb(x:Pb):AV:=.agg [.v (.int .u32 x.addr),.v (.int .i64 x.proto),.v (.int .i64 x.port),.v (.string x.edge),.v (.int .u32 x.real),.v (.int .i64 x.rport)]
noncomputable abbrev encHn(x:Hn):AV:=.agg [.v (.string x.grp),.v (.string x.edge),.v (.int .u32 x.addr),.v (.int .u32 x.ports.lo),.v (.int .u32 x.ports.hi)]
noncomputable abbrev celNt(i:Nt):List AV:=[.lst (i.grps.map encDf),.lst (i.svcs.map encDf),.lst (i.wins.map encWn),.lst (i.sts.map encSm),.lst (i.pubs.map encPb),.lst (i.hids.map encHn)]
noncomputable abbrev encNt(i:Nt):AV:=.agg (celNt i)
noncomputable abbrev boxNt(i:Nt):Vm.Obj:=.box (celNt i)
structure Sml (i:Nt):Prop where
 g:i.grps.length<=1000
 s:i.svcs.length<=1000
 w:i.wins.length<=1000
 t:i.sts.length<=1000
 p:i.pubs.length<=1000
 h:i.hids.length<=1000
 gi:∀x,x∈i.grps->x.items.length<=1000
 si:∀x,x∈i.svcs->x.items.length<=1000
 wi:∀x,x∈i.wins->x.act.length<=4000
open Go Go.Vm Go.ChangeShapes Go.WideShapes Go.ChangeAt Go.RowKit
theorem tz_int{d:Nat}{x:AV}(h:Ty Tryz.prog (d+1) 3 x):∃i:Int,x=.v (.int .i64 i)/\ -9223372036854775808<=i/\i<=9223372036854775807:=h
theorem tz_str{d:Nat}{x:AV}(h:Ty Tryz.prog (d+1) 9 x):∃s:ByteArray,x=.v (.string s):=by
 obtain⟨s,h1,_⟩:=h
 exact⟨s,h1⟩
theorem tz_rg{d:Nat}{y:AV}(h:Ty Tryz.prog (d+2) 54 y):∃r:Rg,y=encR r:=by
 obtain⟨ys,hl,rfl,hf⟩:=h
 match ys,hl with
 |[p,q],_=>
  obtain⟨i,rfl,i0,i1⟩:=hf 0 _ p rfl rfl
  obtain⟨j,rfl,j0,j1⟩:=hf 1 _ q rfl rfl
  exact⟨⟨i,j,i0,i1,j0,j1⟩,rfl⟩
theorem tz_it{d:Nat}{y:AV}(h:Ty Tryz.prog (d+3) 56 y):∃x:It,y=encIt x:=by
 obtain⟨ys,hl,rfl,hf⟩:=h
 match ys,hl with
 |[a,b,c,e,f],_=>
  obtain⟨a,rfl,_⟩:=hf 0 _ a rfl rfl
  obtain⟨b,rfl,_⟩:=hf 1 _ b rfl rfl
  obtain⟨c,rfl⟩:=ty_pf (d:=d) (hf 2 _ c rfl rfl)
  obtain⟨e,rfl,_⟩:=hf 3 _ e rfl rfl
  obtain⟨f,rfl⟩:=tz_rg (d:=d) (hf 4 _ f rfl rfl)
  exact⟨⟨a,b,c,e,f⟩,rfl⟩
theorem tz_sm{d:Nat}{y:AV}(h:Ty Tryz.prog (d+2) 92 y):∃x:Sm,y=encSm x:=by
 obtain⟨ys,hl,rfl,hf⟩:=h
 match ys,hl with
 |[a,b,c,e,f,g,i,j,k,l],_=>
  obtain⟨a,rfl⟩:=hf 0 _ a rfl rfl
  obtain⟨b,rfl,_⟩:=hf 1 _ b rfl rfl
  obtain⟨c,rfl,_⟩:=hf 2 _ c rfl rfl
  obtain⟨e,rfl,_⟩:=hf 3 _ e rfl rfl
  obtain⟨f,rfl⟩:=hf 4 _ f rfl rfl
  obtain⟨g,rfl,_⟩:=hf 5 _ g rfl rfl
  obtain⟨i,rfl,_⟩:=hf 6 _ i rfl rfl
  obtain⟨j,rfl,_⟩:=hf 7 _ j rfl rfl
  obtain⟨k,rfl,_⟩:=hf 8 _ k rfl rfl
  obtain⟨l,rfl,_⟩:=hf 9 _ l rfl rfl
  exact⟨⟨a,b,c,e,f,g,i,j,k,l⟩,rfl⟩
theorem tz_pb{d:Nat}{y:AV}(h:Ty Tryz.prog (d+2) 111 y):∃x:Pb,y=encPb x:=by
 obtain⟨ys,hl,rfl,hf⟩:=h
 match ys,hl with
 |[a,b,c,e,f,g],_=>
  obtain⟨a,rfl,_⟩:=hf 0 _ a rfl rfl
  obtain⟨b,rfl,_⟩:=hf 1 _ b rfl rfl
  obtain⟨c,rfl,_⟩:=hf 2 _ c rfl rfl
  obtain⟨e,rfl,_⟩:=hf 3 _ e rfl rfl
  obtain⟨f,rfl,_⟩:=hf 4 _ f rfl rfl
  obtain⟨g,rfl,_⟩:=hf 5 _ g rfl rfl
  exact⟨⟨a,b,c,e,f,g⟩,rfl⟩
theorem tz_hn{d:Nat}{y:AV}(h:Ty Tryz.prog (d+3) 113 y):∃x:Hn,y=encHn x:=by
 obtain⟨ys,hl,rfl,hf⟩:=h
 match ys,hl with
 |[a,b,c,e],_=>
  obtain⟨a,rfl,_⟩:=hf 0 _ a rfl rfl
  obtain⟨b,rfl,_⟩:=hf 1 _ b rfl rfl
  obtain⟨c,rfl,_⟩:=hf 2 _ c rfl rfl
  obtain⟨e,rfl⟩:=tz_rg (d:=d) (hf 3 _ e rfl rfl)
  exact⟨⟨a,b,c,e⟩,rfl⟩
end Go.Proofs.YtahhamfngafmcaaGreatDoor
namespace Go.Vm
open Go.ChangeShapes Go.WideShapes
def TyL(P:Program)(L:Nat):Nat->TypeId->AV->Prop
 |0,_,_=>False
 |n+1,t,x=>match P.underlying t with
  |some .bool=>∃b,x=.sb b
  |some (.int k)=>∃i,x=.v (.int k i)/\k.min<=i/\i<=k.max
  |some .string=>∃s,x=.v (.string s)/\s.size<=maxLen
  |some (.slice e)=>∃xs,x=.lst xs/\xs.length<=maxLen/\xs.length<=L/\∀y,y∈xs->TyL P L n e y
  |some (.struct fs)=>∃ys:List AV,ys.length=fs.size/\x=.agg (ys.flatMap AV.cells)/\∀(i:Nat) f y,fs[i]? =some f->ys[i]? =some y->TyL P L n f.type y
  |some (.array m e)=>∃ys:List AV,ys.length=m/\x=.agg (ys.flatMap AV.cells)/\∀y,y∈ys->TyL P L n e y
  |_=>False
theorem TyL.ty{P:Program}{L:Nat}:∀{d:Nat} {t:TypeId} {x:AV},TyL P L d t x->Ty P d t x
 |0,_,_,h=>h
 |d+1,t,x,h=>by
  simp only[TyL]at h
  simp only[Ty]
  cases hu:P.underlying t with
  |none=>simp only[hu]at h
  |some D=>
   simp only[hu]at h⊢
   cases D with
   |bool=>exact h
   |int k=>exact h
   |string=>exact h
   |slice e=>
    obtain⟨xs,h1,h2,_,h3⟩:=h
    exact⟨xs,h1,h2,fun y hy=>(h3 y hy).ty⟩
   |struct fs=>
    obtain⟨ys,h1,h2,h3⟩:=h
    exact⟨ys,h1,h2,fun i f y hf hy=>(h3 i f y hf hy).ty⟩
   |array m e=>
    obtain⟨ys,h1,h2,h3⟩:=h
    exact⟨ys,h1,h2,fun y hy=>(h3 y hy).ty⟩
   |_=>exact h.elim
def tyOkL(P:Program):Nat->TypeId->Bool
 |0,_=>false
 |n+1,t=>match P.underlying t with
  |some .bool=>true
  |some (.int _)=>true
  |some .string=>true
  |some (.slice e)=>decide (0<P.cellsOf e)&&(decide (0<P.bytesOf e)&&tyOkL P n e)
  |some (.struct fs)=>fieldsLie P (P.cellsOf t) 0 fs.toList&&fs.toList.all fun f=>tyOkL P n f.type
  |some (.array m e)=>decide (P.cellsOf t=m*P.cellsOf e)&&tyOkL P n e
  |_=>false
theorem mem_weightsAll{H:Type}{P:Program}{e:TypeId}:∀{l:List (DataW H)} {x:DataW H} {n:Nat},x∈l->n∈x.weights P e->n∈DataW.weightsAll P e l
 |[],_,_,h,_=>by cases h
 |y::l,x,n,h,hn=>by
  simp only[DataW.weightsAll]
  rcases List.mem_cons.1 h with rfl|h
  ·exact List.mem_append_left _ hn
  ·exact List.mem_append_right _ (mem_weightsAll h hn)
theorem mem_weightsEach{H:Type}{P:Program}:∀{ts:List TypeId} {l:List (DataW H)} {i:Nat} {t:TypeId} {x:DataW H} {n:Nat},ts[i]? =some t->l[i]? =some x->n∈x.weights P t->n∈DataW.weightsEach P ts l
 |[],_,_,_,_,_,h,_,_=>by simp at h
 |_::_,[],_,_,_,_,_,h,_=>by simp at h
 |t'::ts,y::l,0,t,x,n,h1,h2,hn=>by
  simp at h1 h2
  subst h1;subst h2
  simp only[DataW.weightsEach]
  exact List.mem_append_left _ hn
 |t'::ts,y::l,i+1,t,x,n,h1,h2,hn=>by
  simp only[DataW.weightsEach]
  exact List.mem_append_right _ (mem_weightsEach (by simpa using h1) (by simpa using h2) hn)
theorem mem_weightsEach_app{H:Type}{P:Program}:∀{ts us:List TypeId} {l:List (DataW H)} {n:Nat},n∈DataW.weightsEach P ts l->n∈DataW.weightsEach P (ts++us) l
 |[],_,_,_,h=>by simp[DataW.weightsEach]at h
 |_::_,_,[],_,h=>by simp[DataW.weightsEach]at h
 |t::ts,us,x::l,n,h=>by
  simp only[DataW.weightsEach,List.cons_append]at h⊢
  rcases List.mem_append.1 h with h|h
  ·exact List.mem_append_left _ h
  ·exact List.mem_append_right _ (mem_weightsEach_app h)
section
variable {H:Type} {enc:TypeId×Value->H} {P:Program} {w:World} {held:Bool}
theorem rel_of_trodL(L:Nat):∀(d:Nat) {t:TypeId} {fuel:Nat} {cs:List Value} {x:DataW H×List MemPlace},tyOkL P d t=true->(∀n,n∈x.1.weights P t->n<=L)->DataW.trod enc P w 0 (fun _=>true) held fuel t cs=some x->
  ∃a,TyL P L d t a/\RL NoE w noInj a.cells cs.toArray
 |0,t,fuel,cs,x,ht,_,_=>by simp[tyOkL]at ht
 |d+1,t,fuel,cs,x,ht,hL,h=>by
  simp only[tyOkL]at ht
  simp only[TyL]
  cases hu:P.underlying t with
  |none=>simp[hu]at ht
  |some D=>
   simp only[hu]at ht⊢
   cases D with
   |bool=>
    obtain⟨b,rfl,_⟩:=DataW.trod_bool hu h
    exact⟨.sb b,⟨b,rfl⟩,RL.one (.sb b)⟩
   |int k=>
    obtain⟨n,rfl,_,hw⟩:=DataW.trod_int hu h
    simp only[Lit.wf,Bool.and_eq_true,decide_eq_true_eq]at hw
    exact⟨.v (.int k n),⟨n,rfl,hw⟩,RL.one (.v _)⟩
   |string=>
    obtain⟨s,rfl,_,hs⟩:=DataW.trod_string hu h
    exact⟨.v (.string s),⟨s,rfl,hs⟩,RL.one (.v _)⟩
   |slice e=>
    simp only[Bool.and_eq_true,decide_eq_true_eq]at ht
    rcases DataW.trod_slice hu h with⟨rfl,_⟩|⟨a,len,cap,elems,rest,n,_,rfl,hx,hb,hlc,hcm,hel,hget,_,_⟩
    ·exact⟨.lst [],⟨[],rfl,by simp,by simp,fun y hy=>by simp at hy⟩,RL.one (.lnil none 0)⟩
    ·subst hx
     have hwt:∀n,n∈(elems.length+rest.length)*P.bytesOf e::(DataW.weightsAll P e (elems.map (·.1))++DataW.weightsAll P e (rest.map (·.1)))->n<=L:=fun n hn=>hL n (by simp only[DataW.weights,hu,List.length_map];exact hn)
     have hle:elems.length<=L:=by
      have h1:=hwt _ (List.mem_cons_self ..)
      have h2:(elems.length+rest.length)*1<=(elems.length+rest.length)*P.bytesOf e:=Nat.mul_le_mul_left _ ht.2.1
      omega
     have each:∀i,i<len->∃y,TyL P L d e y/\∃cs',w.cells? 0 (a.add (i*P.cellsOf e)) (P.cellsOf e)=some cs'/\RL NoE w noInj y.cells cs'.toArray:=by
      intro i hi
      have hx:=hget i hi
      rw[List.getElem?_eq_getElem (show i<elems.length by omega),Option.bind_eq_some_iff]at hx
      obtain⟨cs',h1,h2⟩:=hx
      obtain⟨y,h3,h4⟩:=rel_of_trodL L d ht.2.2 (fun n hn=>hwt n (List.mem_cons_of_mem _ (List.mem_append_left _ (mem_weightsAll (List.mem_map_of_mem (List.getElem_mem (show i<elems.length by omega))) hn)))) h2
      exact⟨y,h3,cs',h1,h4⟩
     obtain⟨ys,l1,l2⟩:=list_of_fun each
     refine⟨.lst ys,⟨ys,rfl,by omega,by omega,fun y hy=>?_⟩,RL.one ?_⟩
     ·obtain⟨i,hi⟩:=List.getElem?_of_mem hy
      exact(l2 i y hi).1
     ·rcases Nat.eq_zero_or_pos len with h0|h0
      ·have:ys=[]:=List.eq_nil_of_length_eq_zero zo
       subst this;subst h0
       exact .lnil _ _
      ·have hcell:∀(i:Nat) y (j:Nat) c,ys[i]? =some y->y.cells[j]? =some c->∃u,w.cell? ((a.add (i*P.cellsOf e)).add j)=some u/\Rel NoE w noInj c u:=by
        intro i y j c hy hc
        obtain⟨_,cs',c1,c2⟩:=l2 i y hy
        obtain⟨_,c3,c4⟩:=World.cells?_some c1
        have hj:j<y.cells.length:=(List.getElem?_eq_some_iff.1 hc).1
        have hj':j<cs'.length:=by have:=c2.1;simp at this;omega
        rw[c4 j zo,List.getElem?_eq_getElem hj']
        exact⟨_,rfl,c2.2 j c _ hc (by simp[hj'])⟩
       have hlenc:∀(i:Nat) y,ys[i]? =some y->y.cells.length=P.cellsOf e:=by
        intro i y hy
        obtain⟨_,cs',c1,c2⟩:=l2 i y hy
        obtain⟨_,c3,c4⟩:=World.cells?_some c1
        have:=c2.1;simp at this;omega
       have h00:ys[0]? =some (ys[0]'zo):=List.getElem?_eq_getElem _
       have hc0:((ys[0]'zo).cells)[0]? =some (((ys[0]'zo).cells)[0]'(by rw[hlenc 0 _ h00];exact ht.1)):=List.getElem?_eq_getElem _
       obtain⟨u0,hu0,_⟩:=hcell 0 _ 0 _ h00 hc0
       have hs:a.spot=none:=by
        simp only[Nat.zero_mul,Addr.add,if_true]at hu0
        cases hsp:a.spot with
        |none=>rfl
        |some k=>
         unfold World.cell? at hu0
         rw[hsp]at hu0
         split at hu0
         ·simp at hu0
         ·cases hu0
       obtain⟨b,off,spot⟩:=a
       simp only at hs
       subst hs
       have hadd:∀i j:Nat,((⟨b,off,none⟩:Addr).add (i*P.cellsOf e)).add j=⟨b,off+i*P.cellsOf e+j,none⟩:=by
        intro i j
        simp only[Addr.add]
        by_cases h1:i*P.cellsOf e=0<;>by_cases h2:j=0<;>simp[h1,h2]
       refine .lst ys b off len cap (P.cellsOf e) (fun hh=>hh) ?_ l1.symm hlc hlenc (fun i j=>(w.cell? ⟨b,off+i*P.cellsOf e+j,none⟩).getD (.bool false)) (fun i y j c hy hc=>?_) (fun i y j c hy hc=>?_)
       ·rw[hadd]at hu0
        exact lt_of_cell (a:=⟨b,_,none⟩) (by rw[hu0];rfl)
       ·obtain⟨u,e1,_⟩:=hcell i y j c hy hc
        rw[hadd]at e1
        rw[e1];rfl
       ·obtain⟨u,e1,e2⟩:=hcell i y j c hy hc
        rw[hadd]at e1
        simp only[e1,Option.getD_some]
        exact e2
   |struct fs=>
    simp only[Bool.and_eq_true,List.all_eq_true]at ht
    obtain⟨xs,n,_,hxe,hl,hxl,hf⟩:=DataW.trod_struct hu h
    subst hxe
    obtain⟨ys,a1,a2,a3⟩:=parts_rel (w:=w) (cs:=cs) (Q:=fun f y=>TyL P L d f.type y) (Nat.zero_le _) hl ht.1 (fun f hf'=>by
     obtain⟨i,hi⟩:=List.getElem?_of_mem hf'
     have hi':fs[i]? =some f:=by simpa using hi
     have hlt:i<fs.size:=(Array.getElem?_eq_some_iff.1 hi').1
     have e1:=hf i f hi'
     rw[List.getElem?_eq_getElem (show i<xs.length by omega)]at e1
     exact rel_of_trodL L d (ht.2 f hf') (fun n hn=>hL n (by simp only[DataW.weights,hu];exact mem_weightsEach (t:=f.type) (i:=i) (by simp[hi]) (by rw[List.getElem?_map,List.getElem?_eq_getElem (show i<xs.length by omega)];rfl) hn)) e1)
    refine⟨.agg (ys.flatMap AV.cells),⟨ys,by simpa using a1,rfl,fun i f y hfi hy=>a3 i f y (by simpa using hfi) hy⟩,?_⟩
    simpa[AV.cells]using a2
   |array m e=>
    simp only[Bool.and_eq_true,decide_eq_true_eq]at ht
    obtain⟨xs,n,_,hxe,hl,hlx,hf⟩:=DataW.trod_array hu h
    subst hxe
    obtain⟨ys,a1,a2,a3⟩:=rows_rel (w:=w) (cs:=cs) (Q:=fun y=>TyL P L d e y) (hl.trans ht.1) (fun i hi=>by
     have e1:=hf i hi
     rw[List.getElem?_eq_getElem (show i<xs.length by omega)]at e1
     exact rel_of_trodL L d ht.2 (fun n hn=>hL n (by simp only[DataW.weights,hu];exact mem_weightsAll (List.mem_map_of_mem (List.getElem_mem (show i<xs.length by omega))) hn)) e1)
    exact⟨.agg (ys.flatMap AV.cells),⟨ys,a1,rfl,a3⟩,a2⟩
   |_=>simp at ht
theorem rel_of_argL(L:Nat){d:Nat}{t:TypeId}{v:Value}{x:DataW H}{ps:List MemPlace}{base:Nat}(ht:tyOkL P d t=true)(hL:∀n,n∈x.weights P t->n<=L)(hval:Value.okWide P w .any base t v)(h:DataW.Trod enc P w 0 (fun _=>true) held t v x ps):
  ∃a,TyL P L d t a/\Rel NoE w noInj a v:=by
 obtain⟨fuel,hf⟩:=h
 obtain⟨a,h1,h2⟩:=rel_of_trodL L d ht hL hf
 refine⟨a,h1,?_⟩
 have single:∀{u:Value},v=u->u.cells=#[u]->a.cells=[a]->Rel NoE w noInj a v:=by
  rintro u rfl e1 e2
  rw[e1,e2]at h2
  exact h2.2 0 a v rfl rfl
 cases d with
 |zero=>exact h1.elim
 |succ d=>
  simp only[TyL]at h1
  cases hu:P.underlying t with
  |none=>simp[hu]at h1
  |some D=>
   simp only[hu]at h1
   cases D with
   |bool=>
    obtain⟨b,rfl⟩:=h1
    obtain⟨b',hv⟩:=okWide_bool hu hval
    exact single hv rfl rfl
   |int k=>
    obtain⟨b,rfl,_⟩:=h1
    obtain⟨b',hv⟩:=okWide_int hu hval
    exact single hv rfl rfl
   |string=>
    obtain⟨b,rfl,_⟩:=h1
    obtain⟨b',hv⟩:=okWide_string hu hval
    exact single hv rfl rfl
   |slice e=>
    obtain⟨b,rfl,_⟩:=h1
    obtain⟨_,_,_,hv⟩:=okWide_slice hu hval
    exact single hv rfl rfl
   |struct fs=>
    obtain⟨ys,_,rfl,_⟩:=h1
    obtain⟨cs,rfl,_⟩:=okWide_struct hu hval
    exact .agg _ _ (by simpa[AV.cells,Value.cells]using h2.1) (by simpa[AV.cells,Value.cells]using h2.2)
   |array m e=>
    obtain⟨ys,_,rfl,_⟩:=h1
    simp only[Value.okWide,hu]at hval
    obtain⟨cs,rfl,_⟩:=hval
    exact .agg _ _ (by simpa[AV.cells,Value.cells]using h2.1) (by simpa[AV.cells,Value.cells]using h2.2)
   |_=>exact h1.elim
def TysL(P:Program)(L d:Nat):List TypeId->List AV->Prop
 |[],[]=>True
 |t::ts,a::qs=>TyL P L d t a/\TysL P L d ts qs
 |_,_=>False
theorem rel_of_argsL(L:Nat){d base:Nat}:∀{ts:List TypeId} {vs:List Value} {xs:List (DataW H)} {ps:List MemPlace},(ts.all fun t=>tyOkL P d t)=true->(∀n,n∈DataW.weightsEach P ts xs->n<=L)->
  (∀(j:Nat) t v,ts[j]? =some t->vs[j]? =some v->Value.okWide P w .any base t v)->DataW.TrodAll enc P w 0 (fun _=>true) held ts vs xs ps->
  ∃qs,TysL P L d ts qs/\RL NoE w noInj qs vs.toArray
 |[],vs,xs,ps,_,_,_,h=>by
  match vs,xs,h with
  |[],[],h=>exact⟨[],trivial,⟨rfl,fun i x y hx=>by simp at hx⟩⟩
 |t::ts,vs,xs,ps,ht,hL,hval,h=>by
  match vs,xs,h with
  |v::vs,x::xs,h=>
   obtain⟨p,q,h1,h2,rfl⟩:=h
   simp only[List.all_cons,Bool.and_eq_true]at ht
   obtain⟨a,a1,a2⟩:=rel_of_argL L ht.1 (fun n hn=>hL n (by simp only[DataW.weightsEach];exact List.mem_append_left _ hn)) (hval 0 t v rfl rfl) h1
   obtain⟨qs,b1,b2⟩:=rel_of_argsL L (base:=base) ht.2 (fun n hn=>hL n (by simp only[DataW.weightsEach];exact List.mem_append_right _ hn)) (fun j t v hj hv=>hval (j+1) t v hj hv) h2
   exact⟨a::qs,⟨a1,b1⟩,RL.app (RL.one a2) b2⟩
theorem law_contractL(L:Nat){f:FuncId}{fn:Func}{s:ChangeSpec}{d base:Nat}{t:TypeId}(hl:laidOutB P=true)(hp:parsOk P fn.params.toList=true)(hty:(fn.params.toList.all fun t=>tyOkL P d t)=true)(hv:s.vars=[])
  (hr:fn.resultTypes=#[t])(ht:P.underlying t=some .bool)(hs:∀ds:List (DataW H),ds.length=fn.params.size->s.fn H ds={results:=[.lit (.bool true)],args:=ds})
  (hc:∀qs,TysL P L d fn.params.toList qs->ACall P f qs [] fun r _=>r=.sb true\/r=.v (.bool true))
  {W:World}(hg:GlobOk NoE W){args:Array Value}{ds gs:List (DataW H)}{before:List MemPlace}(hval:∀(j:Nat) t v,fn.params[j]? =some t->args[j]? =some v->Value.okWide P W .any base t v)
  (hW:DataW.Whole enc P fn.params.toList s.vars false W args.toList ds gs before)(hwt:(DataW.weightsEach P (fn.params.toList++s.plain.varTypes P) (ds++gs)).all (· <=L)=true):
  Calls P f args W fun e W'=>∃v,e=.returned v/\s.post enc P fn false true false false W args v W':=by
 have hW1:=hW
 obtain⟨pa,pv,hA,hV,hps,_,_⟩:=hW
 have hgs:gs=[]:=by
  rw[hv]at hV
  obtain⟨rfl,rfl⟩:=trodVars_none hV
  rfl
 subst hgs
 obtain⟨qs,h1,h2⟩:=rel_of_argsL L (d:=d) (base:=base) hty (fun n hn=>by
  have h1:=List.all_eq_true.1 hwt n (by rw[List.append_nil];exact mem_weightsEach_app hn)
  simpa using h1) (fun j t v hj hv=>hval j t v (by simpa using hj) (by simpa using hv)) hA
 have hlen:∀{ts:List TypeId} {vs:List Value} {xs:List (DataW H)} {ps:List MemPlace},DataW.TrodAll enc P W 0 (fun _=>true) true ts vs xs ps->xs.length=ts.length:=by
  intro ts
  induction ts with
  |nil=>intro vs xs ps h;match vs,xs,h with|[],[],_=>rfl
  |cons t ts ih=>
   intro vs xs ps h
   match vs,xs,h with
   |v::vs,x::xs,h=>
    obtain⟨p,q,_,h2,_⟩:=h
    simp[ih h2]
 have hl2:=hlen hA
 refine(ACall.law (hc qs h1) hg (show RL NoE W noInj qs args by simpa using h2)).mono ?_
 rintro e W' ⟨rfl,hst⟩
 exact⟨_,rfl,law_post hW1 hst hl hp hv (by rw[List.append_nil];exact hs ds (by simpa using hl2)) hr ht⟩
end
end Go.Vm
namespace Go.Proofs.YtahhamfngafmcaaGreatDoor
open Go Go.Vm
noncomputable def gnNam:Ctx:={N:=8,np:=1,own:=at1 12 (true) (fun _=>false)}
noncomputable def bnNam:Code:=bdy Tryz.f66
abbrev ofnNam:=@ofC Tryz.prog gnNam 66 Tryz.f66 bnNam Tryz.func66 zk zk zk zk
noncomputable def gnSpo:Ctx:={N:=272,np:=1,own:=at1 20 (true) (at1 12 (true) (at1 14 (true) (at1 42 (true) (at1 65 (true) (at1 66 (true) (fun _=>false)))))),plan:=at1 6 (some (.one 0 true (.one 3 true (.one 8 true (.wch 1 (.alt 2 (.alt 4 (.one 5 true (.wch 6 (.alt 7 (ln [18,21,23,25,26,29,30,32,35,36]) (.alt 9 (ln [14,21,23,25,26,29,30,32,35,36]) (.stop))))) (.alt 7 (.one 4 false (.one 5 true (.wch 6 (ln [18,21,23,25,26,29,30,32,35,36])))) (.stop))) (.alt 4 (.alt 2 (.one 5 true (.wch 6 (.alt 7 (ln [18,21,23,25,26,29,30,32,35,36]) (.alt 9 (ln [14,21,23,25,26,29,30,32,35,36]) (.stop))))) (.alt 7 (.alt 2 (.one 5 true (.wch 6 (ln [18,21,23,25,26,29,30,32,35,36]))) (.alt 9 (.one 10 true (.one 11 true (.one 12 true (.alt 2 (ln [11,13,26,29,30,32,35,36]) (.alt 13 (ln [4,11,13,29,30,32,35,36]) (.stop)))))) (.stop))) (.alt 9 (.alt 2 (ln [11,13,14,21,23,25,26,29,30,32,35,36]) (.alt 7 (.one 10 true (.one 11 true (.one 12 true (.alt 2 (ln [11,13,26,29,30,32,35,36]) (.alt 13 (ln [4,11,13,29,30,32,35,36]) (.stop)))))) (.stop))) (.stop)))) (.alt 7 (.alt 2 (.one 4 false (.one 5 true (.wch 6 (ln [18,21,23,25,26,29,30,32,35,36])))) (.alt 4 (.alt 2 (.one 5 true (.wch 6 (ln [18,21,23,25,26,29,30,32,35,36]))) (.alt 9 (.one 10 true (.one 11 true (.one 12 true (.alt 2 (ln [11,13,26,29,30,32,35,36]) (.alt 13 (ln [4,11,13,29,30,32,35,36]) (.stop)))))) (.stop))) (.stop))) (.stop))))))))) (at1 9 (some (.one 0 true (.one 5 true (.one 9 true (.wch 1 (.one 2 true (.one 3 true (.wch 4 (.alt 6 (.one 7 true (.alt 8 (ln [20,23,25,27,29,30]) (.alt 10 (ln [16,23,25,27,29,30]) (.stop)))) (.alt 8 (ln [12,15,20,23,25,27,29,30]) (.stop))))))))))) (at1 11 (some (.one 0 true (.one 3 true (.one 8 true (.one 12 true (.one 15 true (.wch 1 (.alt 2 (.alt 4 (.one 5 true (.wch 6 (.alt 7 (.one 9 false (.one 10 true (.wch 11 (ln [26,29,32,35,37,39,40,43,44,46,49,50])))) (.alt 9 (.alt 7 (.one 10 true (.wch 11 (ln [26,29,32,35,37,39,40,43,44,46,49,50]))) (.alt 13 (.one 14 true (.alt 7 (.one 10 true (.wch 11 (ln [32,35,37,39,40,43,44,46,49,50]))) (.alt 16 (ln [35,37,14,21,23,39,40,43,44,46,49,50]) (.stop)))) (.stop))) (.stop))))) (.alt 7 (.one 4 false (.one 5 true (.wch 6 (.one 9 false (.one 10 true (.wch 11 (ln [26,29,32,35,37,39,40,43,44,46,49,50]))))))) (.stop))) (.alt 4 (.alt 2 (.one 5 true (.wch 6 (.alt 7 (.one 9 false (.one 10 true (.wch 11 (ln [26,29,32,35,37,39,40,43,44,46,49,50])))) (.alt 9 (.alt 7 (.one 10 true (.wch 11 (ln [26,29,32,35,37,39,40,43,44,46,49,50]))) (.alt 13 (.one 14 true (.alt 7 (.one 10 true (.wch 11 (ln [32,35,37,39,40,43,44,46,49,50]))) (.alt 16 (ln [35,37,14,21,23,39,40,43,44,46,49,50]) (.stop)))) (.stop))) (.stop))))) (.alt 7 (.alt 2 (.one 5 true (.wch 6 (.one 9 false (.one 10 true (.wch 11 (ln [26,29,32,35,37,39,40,43,44,46,49,50])))))) (.alt 9 (.one 10 true (.wch 11 (.alt 2 (.one 5 true (.wch 6 (ln [26,29,32,35,37,39,40,43,44,46,49,50]))) (.alt 13 (.one 14 true (.alt 2 (.one 5 true (.wch 6 (ln [32,35,37,39,40,43,44,46,49,50]))) (.alt 16 (.one 17 true (.one 18 true (.one 19 true (.alt 2 (ln [11,13,40,43,44,46,49,50]) (.alt 20 (ln [4,11,13,43,44,46,49,50]) (.stop)))))) (.stop)))) (.stop))))) (.stop))) (.alt 9 (.alt 2 (.one 5 true (.wch 6 (.alt 7 (.one 10 true (.wch 11 (ln [26,29,32,35,37,39,40,43,44,46,49,50]))) (.alt 13 (.one 14 true (.alt 7 (.one 10 true (.wch 11 (ln [32,35,37,39,40,43,44,46,49,50]))) (.alt 16 (ln [35,37,14,21,23,39,40,43,44,46,49,50]) (.stop)))) (.stop))))) (.alt 7 (.one 10 true (.wch 11 (.alt 2 (.one 5 true (.wch 6 (ln [26,29,32,35,37,39,40,43,44,46,49,50]))) (.alt 13 (.one 14 true (.alt 2 (.one 5 true (.wch 6 (ln [32,35,37,39,40,43,44,46,49,50]))) (.alt 16 (.one 17 true (.one 18 true (.one 19 true (.alt 2 (ln [11,13,40,43,44,46,49,50]) (.alt 20 (ln [4,11,13,43,44,46,49,50]) (.stop)))))) (.stop)))) (.stop))))) (.alt 13 (.one 14 true (.alt 2 (.one 5 true (.wch 6 (.alt 7 (.one 10 true (.wch 11 (ln [32,35,37,39,40,43,44,46,49,50]))) (.alt 16 (ln [35,37,14,21,23,39,40,43,44,46,49,50]) (.stop))))) (.alt 7 (.one 10 true (.wch 11 (.alt 2 (.one 5 true (.wch 6 (ln [32,35,37,39,40,43,44,46,49,50]))) (.alt 16 (.one 17 true (.one 18 true (.one 19 true (.alt 2 (ln [11,13,40,43,44,46,49,50]) (.alt 20 (ln [4,11,13,43,44,46,49,50]) (.stop)))))) (.stop))))) (.alt 16 (.one 17 true (.one 18 true (.alt 2 (ln [11,13,14,21,23,39,40,43,44,46,49,50]) (.alt 7 (.one 10 true (.one 11 true (.one 19 true (.alt 2 (ln [11,13,40,43,44,46,49,50]) (.alt 20 (ln [4,11,13,43,44,46,49,50]) (.stop)))))) (.stop))))) (.stop))))) (.stop)))) (.stop)))) (.alt 7 (.alt 2 (.one 4 false (.one 5 true (.wch 6 (.one 9 false (.one 10 true (.wch 11 (ln [26,29,32,35,37,39,40,43,44,46,49,50]))))))) (.alt 4 (.alt 2 (.one 5 true (.wch 6 (.one 9 false (.one 10 true (.wch 11 (ln [26,29,32,35,37,39,40,43,44,46,49,50])))))) (.alt 9 (.one 10 true (.wch 11 (.alt 2 (.one 5 true (.wch 6 (ln [26,29,32,35,37,39,40,43,44,46,49,50]))) (.alt 13 (.one 14 true (.alt 2 (.one 5 true (.wch 6 (ln [32,35,37,39,40,43,44,46,49,50]))) (.alt 16 (.one 17 true (.one 18 true (.one 19 true (.alt 2 (ln [11,13,40,43,44,46,49,50]) (.alt 20 (ln [4,11,13,43,44,46,49,50]) (.stop)))))) (.stop)))) (.stop))))) (.stop))) (.stop))) (.stop))))))))))) (at1 13 (some (.one 0 true (.one 3 true (.wch 1 (.alt 2 (ln [8,11,13,15,16,19,20,22,25,26]) (.alt 4 (ln [4,11,13,15,16,19,20,22,25,26]) (.stop))))))) (at1 15 (some (.one 0 true (.one 3 true (.one 7 true (.wch 1 (.alt 2 (.one 4 false (.one 5 true (.wch 6 (ln [16,19,20,22,25,26])))) (.alt 4 (.alt 2 (.one 5 true (.wch 6 (ln [16,19,20,22,25,26]))) (.alt 8 (ln [4,11,13,19,20,22,25,26]) (.stop))) (.stop)))))))) (at1 17 (some (.one 0 true (.one 2 true (.one 5 true (.one 8 true (.one 13 true (.one 17 true (.wch 1 (.alt 3 (.one 4 true (.alt 6 (.alt 7 (.alt 9 (.one 10 true (.wch 11 (.alt 12 (.one 14 false (.one 15 true (.wch 16 (ln [36,39,41,43,44,46,49,50])))) (.alt 14 (.alt 12 (.one 15 true (.wch 16 (ln [36,39,41,43,44,46,49,50]))) (.alt 18 (ln [39,41,24,31,33,43,44,46,49,50]) (.stop))) (.stop))))) (.alt 12 (.one 9 false (.one 10 true (.wch 11 (.one 14 false (.one 15 true (.wch 16 (ln [36,39,41,43,44,46,49,50]))))))) (.stop))) (.alt 9 (.alt 7 (.one 10 true (.wch 11 (.alt 12 (.one 14 false (.one 15 true (.wch 16 (ln [36,39,41,43,44,46,49,50])))) (.alt 14 (.alt 12 (.one 15 true (.wch 16 (ln [36,39,41,43,44,46,49,50]))) (.alt 18 (ln [39,41,24,31,33,43,44,46,49,50]) (.stop))) (.stop))))) (.alt 12 (.alt 7 (.one 10 true (.wch 11 (.one 14 false (.one 15 true (.wch 16 (ln [36,39,41,43,44,46,49,50])))))) (.alt 14 (.one 15 true (.wch 16 (.alt 7 (.one 10 true (.wch 11 (ln [36,39,41,43,44,46,49,50]))) (.alt 18 (ln [39,41,14,21,23,43,44,46,49,50]) (.stop))))) (.stop))) (.alt 14 (.alt 7 (.one 10 true (.wch 11 (.alt 12 (.one 15 true (.wch 16 (ln [36,39,41,43,44,46,49,50]))) (.alt 18 (ln [39,41,24,31,33,43,44,46,49,50]) (.stop))))) (.alt 12 (.one 15 true (.wch 16 (.alt 7 (.one 10 true (.wch 11 (ln [36,39,41,43,44,46,49,50]))) (.alt 18 (ln [39,41,14,21,23,43,44,46,49,50]) (.stop))))) (.alt 18 (.one 19 true (.one 20 true (.alt 7 (ln [21,23,24,31,33,43,44,46,49,50]) (.alt 12 (ln [31,33,14,21,23,43,44,46,49,50]) (.stop))))) (.stop)))) (.stop)))) (.alt 12 (.alt 7 (.one 9 false (.one 10 true (.wch 11 (.one 14 false (.one 15 true (.wch 16 (ln [36,39,41,43,44,46,49,50]))))))) (.alt 9 (.alt 7 (.one 10 true (.wch 11 (.one 14 false (.one 15 true (.wch 16 (ln [36,39,41,43,44,46,49,50])))))) (.alt 14 (.one 15 true (.wch 16 (.alt 7 (.one 10 true (.wch 11 (ln [36,39,41,43,44,46,49,50]))) (.alt 18 (ln [39,41,14,21,23,43,44,46,49,50]) (.stop))))) (.stop))) (.stop))) (.stop)))) (.alt 7 (.alt 6 (.alt 9 (.one 10 true (.wch 11 (.alt 12 (.one 14 false (.one 15 true (.wch 16 (ln [36,39,41,43,44,46,49,50])))) (.alt 14 (.alt 12 (.one 15 true (.wch 16 (ln [36,39,41,43,44,46,49,50]))) (.alt 18 (ln [39,41,24,31,33,43,44,46,49,50]) (.stop))) (.stop))))) (.alt 12 (.one 9 false (.one 10 true (.wch 11 (.one 14 false (.one 15 true (.wch 16 (ln [36,39,41,43,44,46,49,50]))))))) (.stop))) (.alt 12 (.one 6 false (.one 9 false (.one 10 true (.wch 11 (.one 14 false (.one 15 true (.wch 16 (ln [36,39,41,43,44,46,49,50])))))))) (.stop))) (.alt 12 (.alt 6 (.alt 7 (.one 9 false (.one 10 true (.wch 11 (.one 14 false (.one 15 true (.wch 16 (ln [36,39,41,43,44,46,49,50]))))))) (.alt 9 (.alt 7 (.one 10 true (.wch 11 (.one 14 false (.one 15 true (.wch 16 (ln [36,39,41,43,44,46,49,50])))))) (.alt 14 (.one 15 true (.wch 16 (.alt 7 (.one 10 true (.wch 11 (ln [36,39,41,43,44,46,49,50]))) (.alt 18 (ln [39,41,14,21,23,43,44,46,49,50]) (.stop))))) (.stop))) (.stop))) (.alt 7 (.one 6 false (.one 9 false (.one 10 true (.wch 11 (.one 14 false (.one 15 true (.wch 16 (ln [36,39,41,43,44,46,49,50])))))))) (.stop))) (.stop))))) (.alt 7 (.alt 3 (.one 4 true (.alt 6 (.alt 9 (.one 10 true (.wch 11 (.alt 12 (.one 14 false (.one 15 true (.wch 16 (ln [36,39,41,43,44,46,49,50])))) (.alt 14 (.alt 12 (.one 15 true (.wch 16 (ln [36,39,41,43,44,46,49,50]))) (.alt 18 (ln [39,41,24,31,33,43,44,46,49,50]) (.stop))) (.stop))))) (.alt 12 (.one 9 false (.one 10 true (.wch 11 (.one 14 false (.one 15 true (.wch 16 (ln [36,39,41,43,44,46,49,50]))))))) (.stop))) (.alt 12 (.one 6 false (.one 9 false (.one 10 true (.wch 11 (.one 14 false (.one 15 true (.wch 16 (ln [36,39,41,43,44,46,49,50])))))))) (.stop)))) (.alt 12 (.one 3 false (.one 4 true (.one 6 false (.one 9 false (.one 10 true (.wch 11 (.one 14 false (.one 15 true (.wch 16 (ln [36,39,41,43,44,46,49,50])))))))))) (.stop))) (.alt 12 (.alt 3 (.one 4 true (.alt 6 (.alt 7 (.one 9 false (.one 10 true (.wch 11 (.one 14 false (.one 15 true (.wch 16 (ln [36,39,41,43,44,46,49,50]))))))) (.alt 9 (.alt 7 (.one 10 true (.wch 11 (.one 14 false (.one 15 true (.wch 16 (ln [36,39,41,43,44,46,49,50])))))) (.alt 14 (.one 15 true (.wch 16 (.alt 7 (.one 10 true (.wch 11 (ln [36,39,41,43,44,46,49,50]))) (.alt 18 (ln [39,41,14,21,23,43,44,46,49,50]) (.stop))))) (.stop))) (.stop))) (.alt 7 (.one 6 false (.one 9 false (.one 10 true (.wch 11 (.one 14 false (.one 15 true (.wch 16 (ln [36,39,41,43,44,46,49,50])))))))) (.stop)))) (.alt 7 (.one 3 false (.one 4 true (.one 6 false (.one 9 false (.one 10 true (.wch 11 (.one 14 false (.one 15 true (.wch 16 (ln [36,39,41,43,44,46,49,50])))))))))) (.stop))) (.stop)))))))))))) (at1 20 (some (.one 0 true (.one 3 true (.wch 1 (.alt 2 (ln [8,11,13,15,17,18]) (.alt 4 (ln [4,11,13,15,17,18]) (.stop))))))) (at1 25 (some (.one 0 true (.one 2 true (.one 5 true (.one 9 true (.one 13 true (.one 17 true (.one 19 true (.wch 1 (.alt 3 (.alt 4 (.alt 6 (.one 7 true (.wch 8 (.alt 10 (.one 11 true (.alt 12 (.one 14 false (.one 15 true (.wch 16 (ln [36,40,43,45,47,48,50,53,54])))) (.alt 14 (.alt 12 (.one 15 true (.wch 16 (ln [36,40,43,45,47,48,50,53,54]))) (.alt 18 (.alt 12 (.one 15 true (.wch 16 (ln [40,43,45,47,48,50,53,54]))) (.alt 20 (ln [43,45,24,31,33,47,48,50,53,54]) (.stop))) (.stop))) (.stop)))) (.alt 12 (.one 10 false (.one 11 true (.one 14 false (.one 15 true (.wch 16 (ln [36,40,43,45,47,48,50,53,54])))))) (.stop))))) (.alt 12 (.one 6 false (.one 7 true (.wch 8 (.one 10 false (.one 11 true (.one 14 false (.one 15 true (.wch 16 (ln [36,40,43,45,47,48,50,53,54]))))))))) (.stop))) (.alt 6 (.alt 4 (.one 7 true (.wch 8 (.alt 10 (.one 11 true (.alt 12 (.one 14 false (.one 15 true (.wch 16 (ln [36,40,43,45,47,48,50,53,54])))) (.alt 14 (.alt 12 (.one 15 true (.wch 16 (ln [36,40,43,45,47,48,50,53,54]))) (.alt 18 (.alt 12 (.one 15 true (.wch 16 (ln [40,43,45,47,48,50,53,54]))) (.alt 20 (ln [43,45,24,31,33,47,48,50,53,54]) (.stop))) (.stop))) (.stop)))) (.alt 12 (.one 10 false (.one 11 true (.one 14 false (.one 15 true (.wch 16 (ln [36,40,43,45,47,48,50,53,54])))))) (.stop))))) (.alt 10 (.one 11 true (.alt 4 (.one 7 true (.wch 8 (.alt 12 (.one 14 false (.one 15 true (.wch 16 (ln [36,40,43,45,47,48,50,53,54])))) (.alt 14 (.alt 12 (.one 15 true (.wch 16 (ln [36,40,43,45,47,48,50,53,54]))) (.alt 18 (.alt 12 (.one 15 true (.wch 16 (ln [40,43,45,47,48,50,53,54]))) (.alt 20 (ln [43,45,24,31,33,47,48,50,53,54]) (.stop))) (.stop))) (.stop))))) (.alt 12 (.alt 4 (.one 7 true (.wch 8 (.one 14 false (.one 15 true (.wch 16 (ln [36,40,43,45,47,48,50,53,54])))))) (.alt 14 (.one 15 true (.wch 16 (.alt 4 (.one 7 true (.wch 8 (ln [36,40,43,45,47,48,50,53,54]))) (.alt 18 (.alt 4 (.one 7 true (.wch 8 (ln [40,43,45,47,48,50,53,54]))) (.alt 20 (ln [43,45,8,15,17,47,48,50,53,54]) (.stop))) (.stop))))) (.stop))) (.alt 14 (.alt 4 (.one 7 true (.wch 8 (.alt 12 (.one 15 true (.wch 16 (ln [36,40,43,45,47,48,50,53,54]))) (.alt 18 (.alt 12 (.one 15 true (.wch 16 (ln [40,43,45,47,48,50,53,54]))) (.alt 20 (ln [43,45,24,31,33,47,48,50,53,54]) (.stop))) (.stop))))) (.alt 12 (.one 15 true (.wch 16 (.alt 4 (.one 7 true (.wch 8 (ln [36,40,43,45,47,48,50,53,54]))) (.alt 18 (.alt 4 (.one 7 true (.wch 8 (ln [40,43,45,47,48,50,53,54]))) (.alt 20 (ln [43,45,8,15,17,47,48,50,53,54]) (.stop))) (.stop))))) (.alt 18 (.alt 4 (.one 7 true (.wch 8 (.alt 12 (.one 15 true (.wch 16 (ln [40,43,45,47,48,50,53,54]))) (.alt 20 (ln [43,45,24,31,33,47,48,50,53,54]) (.stop))))) (.alt 12 (.one 15 true (.wch 16 (.alt 4 (.one 7 true (.wch 8 (ln [40,43,45,47,48,50,53,54]))) (.alt 20 (ln [43,45,8,15,17,47,48,50,53,54]) (.stop))))) (.alt 20 (.one 21 true (.one 22 true (.alt 4 (ln [15,17,24,31,33,47,48,50,53,54]) (.alt 12 (ln [31,33,8,15,17,47,48,50,53,54]) (.stop))))) (.stop)))) (.stop)))) (.stop))))) (.alt 12 (.alt 4 (.one 7 true (.wch 8 (.one 10 false (.one 11 true (.one 14 false (.one 15 true (.wch 16 (ln [36,40,43,45,47,48,50,53,54])))))))) (.alt 10 (.one 11 true (.alt 4 (.one 7 true (.wch 8 (.one 14 false (.one 15 true (.wch 16 (ln [36,40,43,45,47,48,50,53,54])))))) (.alt 14 (.one 15 true (.wch 16 (.alt 4 (.one 7 true (.wch 8 (ln [36,40,43,45,47,48,50,53,54]))) (.alt 18 (.alt 4 (.one 7 true (.wch 8 (ln [40,43,45,47,48,50,53,54]))) (.alt 20 (ln [43,45,8,15,17,47,48,50,53,54]) (.stop))) (.stop))))) (.stop)))) (.stop))) (.stop)))) (.alt 12 (.alt 4 (.one 6 false (.one 7 true (.wch 8 (.one 10 false (.one 11 true (.one 14 false (.one 15 true (.wch 16 (ln [36,40,43,45,47,48,50,53,54]))))))))) (.alt 6 (.alt 4 (.one 7 true (.wch 8 (.one 10 false (.one 11 true (.one 14 false (.one 15 true (.wch 16 (ln [36,40,43,45,47,48,50,53,54])))))))) (.alt 10 (.one 11 true (.alt 4 (.one 7 true (.wch 8 (.one 14 false (.one 15 true (.wch 16 (ln [36,40,43,45,47,48,50,53,54])))))) (.alt 14 (.one 15 true (.wch 16 (.alt 4 (.one 7 true (.wch 8 (ln [36,40,43,45,47,48,50,53,54]))) (.alt 18 (.alt 4 (.one 7 true (.wch 8 (ln [40,43,45,47,48,50,53,54]))) (.alt 20 (ln [43,45,8,15,17,47,48,50,53,54]) (.stop))) (.stop))))) (.stop)))) (.stop))) (.stop))) (.stop)))) (.alt 4 (.alt 3 (.alt 6 (.one 7 true (.wch 8 (.alt 10 (.one 11 true (.alt 12 (.one 14 false (.one 15 true (.wch 16 (ln [36,40,43,45,47,48,50,53,54])))) (.alt 14 (.alt 12 (.one 15 true (.wch 16 (ln [36,40,43,45,47,48,50,53,54]))) (.alt 18 (.alt 12 (.one 15 true (.wch 16 (ln [40,43,45,47,48,50,53,54]))) (.alt 20 (ln [43,45,24,31,33,47,48,50,53,54]) (.stop))) (.stop))) (.stop)))) (.alt 12 (.one 10 false (.one 11 true (.one 14 false (.one 15 true (.wch 16 (ln [36,40,43,45,47,48,50,53,54])))))) (.stop))))) (.alt 12 (.one 6 false (.one 7 true (.wch 8 (.one 10 false (.one 11 true (.one 14 false (.one 15 true (.wch 16 (ln [36,40,43,45,47,48,50,53,54]))))))))) (.stop))) (.alt 12 (.one 3 false (.one 6 false (.one 7 true (.wch 8 (.one 10 false (.one 11 true (.one 14 false (.one 15 true (.wch 16 (ln [36,40,43,45,47,48,50,53,54])))))))))) (.stop))) (.alt 12 (.alt 3 (.alt 4 (.one 6 false (.one 7 true (.wch 8 (.one 10 false (.one 11 true (.one 14 false (.one 15 true (.wch 16 (ln [36,40,43,45,47,48,50,53,54]))))))))) (.alt 6 (.alt 4 (.one 7 true (.wch 8 (.one 10 false (.one 11 true (.one 14 false (.one 15 true (.wch 16 (ln [36,40,43,45,47,48,50,53,54])))))))) (.alt 10 (.one 11 true (.alt 4 (.one 7 true (.wch 8 (.one 14 false (.one 15 true (.wch 16 (ln [36,40,43,45,47,48,50,53,54])))))) (.alt 14 (.one 15 true (.wch 16 (.alt 4 (.one 7 true (.wch 8 (ln [36,40,43,45,47,48,50,53,54]))) (.alt 18 (.alt 4 (.one 7 true (.wch 8 (ln [40,43,45,47,48,50,53,54]))) (.alt 20 (ln [43,45,8,15,17,47,48,50,53,54]) (.stop))) (.stop))))) (.stop)))) (.stop))) (.stop))) (.alt 4 (.one 3 false (.one 6 false (.one 7 true (.wch 8 (.one 10 false (.one 11 true (.one 14 false (.one 15 true (.wch 16 (ln [36,40,43,45,47,48,50,53,54])))))))))) (.stop))) (.stop))))))))))))) (at1 28 (some (ln [1,3,5,7,9,11,12,14,17,18])) (at1 30 (some (.one 0 true (.one 3 true (.one 8 true (.one 12 true (.one 14 true (.wch 1 (.alt 2 (.alt 4 (.one 5 true (.wch 6 (.alt 7 (.one 9 false (.one 10 true (.wch 11 (ln [26,30,33,35,37,39,40,42,45,46])))) (.alt 9 (.alt 7 (.one 10 true (.wch 11 (ln [26,30,33,35,37,39,40,42,45,46]))) (.alt 13 (.alt 7 (.one 10 true (.wch 11 (ln [30,33,35,37,39,40,42,45,46]))) (.alt 15 (ln [33,35,37,14,21,23,39,40,42,45,46]) (.stop))) (.stop))) (.stop))))) (.alt 7 (.one 4 false (.one 5 true (.wch 6 (.one 9 false (.one 10 true (.wch 11 (ln [26,30,33,35,37,39,40,42,45,46]))))))) (.stop))) (.alt 4 (.alt 2 (.one 5 true (.wch 6 (.alt 7 (.one 9 false (.one 10 true (.wch 11 (ln [26,30,33,35,37,39,40,42,45,46])))) (.alt 9 (.alt 7 (.one 10 true (.wch 11 (ln [26,30,33,35,37,39,40,42,45,46]))) (.alt 13 (.alt 7 (.one 10 true (.wch 11 (ln [30,33,35,37,39,40,42,45,46]))) (.alt 15 (ln [33,35,37,14,21,23,39,40,42,45,46]) (.stop))) (.stop))) (.stop))))) (.alt 7 (.alt 2 (.one 5 true (.wch 6 (.one 9 false (.one 10 true (.wch 11 (ln [26,30,33,35,37,39,40,42,45,46])))))) (.alt 9 (.one 10 true (.wch 11 (.alt 2 (.one 5 true (.wch 6 (ln [26,30,33,35,37,39,40,42,45,46]))) (.alt 13 (.alt 2 (.one 5 true (.wch 6 (ln [30,33,35,37,39,40,42,45,46]))) (.alt 15 (ln [33,35,37,4,11,13,39,40,42,45,46]) (.stop))) (.stop))))) (.stop))) (.alt 9 (.alt 2 (.one 5 true (.wch 6 (.alt 7 (.one 10 true (.wch 11 (ln [26,30,33,35,37,39,40,42,45,46]))) (.alt 13 (.alt 7 (.one 10 true (.wch 11 (ln [30,33,35,37,39,40,42,45,46]))) (.alt 15 (ln [33,35,37,14,21,23,39,40,42,45,46]) (.stop))) (.stop))))) (.alt 7 (.one 10 true (.wch 11 (.alt 2 (.one 5 true (.wch 6 (ln [26,30,33,35,37,39,40,42,45,46]))) (.alt 13 (.alt 2 (.one 5 true (.wch 6 (ln [30,33,35,37,39,40,42,45,46]))) (.alt 15 (ln [33,35,37,4,11,13,39,40,42,45,46]) (.stop))) (.stop))))) (.alt 13 (.alt 2 (.one 5 true (.wch 6 (.alt 7 (.one 10 true (.wch 11 (ln [30,33,35,37,39,40,42,45,46]))) (.alt 15 (ln [33,35,37,14,21,23,39,40,42,45,46]) (.stop))))) (.alt 7 (.one 10 true (.wch 11 (.alt 2 (.one 5 true (.wch 6 (ln [30,33,35,37,39,40,42,45,46]))) (.alt 15 (ln [33,35,37,4,11,13,39,40,42,45,46]) (.stop))))) (.alt 15 (.one 16 true (.one 17 true (.one 18 true (.alt 2 (ln [11,13,14,21,23,39,40,42,45,46]) (.alt 7 (ln [21,23,4,11,13,39,40,42,45,46]) (.stop)))))) (.stop)))) (.stop)))) (.stop)))) (.alt 7 (.alt 2 (.one 4 false (.one 5 true (.wch 6 (.one 9 false (.one 10 true (.wch 11 (ln [26,30,33,35,37,39,40,42,45,46]))))))) (.alt 4 (.alt 2 (.one 5 true (.wch 6 (.one 9 false (.one 10 true (.wch 11 (ln [26,30,33,35,37,39,40,42,45,46])))))) (.alt 9 (.one 10 true (.wch 11 (.alt 2 (.one 5 true (.wch 6 (ln [26,30,33,35,37,39,40,42,45,46]))) (.alt 13 (.alt 2 (.one 5 true (.wch 6 (ln [30,33,35,37,39,40,42,45,46]))) (.alt 15 (ln [33,35,37,4,11,13,39,40,42,45,46]) (.stop))) (.stop))))) (.stop))) (.stop))) (.stop))))))))))) (at1 33 (some (ln [1,3,5,7,9,11,12,14,17,18])) (fun _=>none))))))))))),hints:=at1 6 ([.flatB 5 0]) (at1 11 ([.flatB 5 0]) (at1 13 ([.flatB 5 0]) (at1 15 ([.flatB 5 0]) (at1 17 ([.flatB 5 0]) (at1 19 ([.flatB 5 0]) (at1 22 ([.flatB 5 0]) (at1 25 ([.flatB 5 0]) (at1 27 ([.flatB 5 0]) (at1 30 ([.flatB 5 0]) (at1 32 ([.flatB 5 0]) (at1 3 ([.flatB 5 0]) (at1 37 ([.flatB 5 0]) (fun _=>[])))))))))))))}
noncomputable def gnHugN:Ctx:={N:=88}
noncomputable def bnHugN:Code:=bdy Tryz.f36
abbrev ofnHugN:=@ofC Tryz.prog gnHugN 36 Tryz.f36 bnHugN Tryz.func36 zk zk zk zk
noncomputable def glRes:Ctx:={N:=98,plan:=at1 7 (some (ln [1,3,4,7,9,11,13,15,17,19,21,22,25,27,29,31,33,35,37,39,41,42,45,47,49,51,53,55,57,59,61,65,67,62,68,71,73,75])) (fun _=>none)}
noncomputable def blRes:Code:=bdy Tryz.f33
abbrev oflRes:=@ofC Tryz.prog glRes 33 Tryz.f33 blRes Tryz.func33 zk zk zk zk
noncomputable def glDraw:Ctx:={N:=25,np:=1,own:=at1 10 (true) (at1 11 (true) (at1 12 (true) (at1 34 (true) (at1 58 (true) (fun _=>false))))),plan:=at1 7 (some (.one 0 true (.alt 1 (ln [4,6]) (.alt 2 (ln [3,6]) (.stop))))) (fun _=>none)}
noncomputable def blDraw:Code:=bdy Tryz.f32
abbrev oflDraw:=@ofC Tryz.prog glDraw 32 Tryz.f32 blDraw Tryz.func32 zk zk zk zk
noncomputable def glAgr17:Ctx:={N:=65,own:=at1 9 (true) (at1 32 (true) (at1 26 (true) (at1 12 (true) (at1 34 (true) (fun _=>false))))),plan:=at1 6 (some (.one 2 true (.one 4 true (.one 5 true (.wch 0 (.wch 1 (.wch 6 (.one 7 true (.one 8 true (.one 3 false (.one 9 false (.one 10 true (.one 11 false (.one 12 true (.one 13 true (.one 15 true (.one 16 true (.one 18 true (.alt 14 (ln [34,38,40,43,45]) (.alt 17 (.alt 14 (ln [38,40,43,45]) (.alt 19 (ln [29,40,43,45]) (.stop))) (.stop))))))))))))))))))))) (fun _=>none)}
noncomputable def blAgr17:Code:=bdy Tryz.f7
abbrev oflAgr17:=@ofC Tryz.prog glAgr17 7 Tryz.f7 blAgr17 Tryz.func7 zk zk zk zk
noncomputable def gnStm:Ctx:={N:=92,np:=2,own:=at1 12 (true) (at1 69 (true) (fun _=>false)),plan:=at1 1 (some (.one 0 true (.one 3 true (.one 4 true (.one 7 true (.one 8 true (.one 11 true (.one 12 true (.wch 5 (.wch 9 (.wch 13 (.alt 1 (.one 2 true (.alt 6 (.alt 10 (.alt 14 (ln [31,32,34]) (.alt 16 (ln [28,31,34]) (.stop))) (.alt 16 (ln [20,28,31,34]) (.stop))) (.alt 16 (ln [12,20,28,31,34]) (.stop)))) (.alt 16 (ln [2,5,12,20,28,31,34]) (.stop)))))))))))))) (at1 3 (some (.one 0 true (.one 1 true (.one 2 true (.one 4 true (.one 5 true (.one 8 true (.wch 6 (ln [6,14,18,21,22,25,26]))))))))) (at1 8 (some (.one 0 true (.one 2 true (.one 3 true (.one 4 true (.one 5 true (.wch 1 (ln [12,15,17,19,21,22])))))))) (fun _=>none))),cut:=at1 4 (true) (at1 7 (true) (at1 9 (true) (fun _=>false)))}
noncomputable def bnStm:Code:=bdy Tryz.f40
abbrev ofnStm:=@ofC Tryz.prog gnStm 40 Tryz.f40 bnStm Tryz.func40 zk zk zk zk
noncomputable def gnInt:Ctx:={N:=260,np:=1,own:=at1 12 (true) (at1 21 (true) (at1 23 (true) (at1 39 (true) (at1 40 (true) (at1 42 (true) (fun _=>false)))))),plan:=at1 36 (some (.one 0 true (.one 2 true (.wch 1 (ln [6,9,10,12,15,16]))))) (at1 40 (some (.one 0 true (.one 2 true (.one 3 true (.one 4 true (.wch 1 (ln [10,12,14,17,18]))))))) (at1 43 (some (.one 0 true (.one 3 true (.one 7 true (.one 10 true (.one 15 true (.one 17 true (.wch 1 (.wch 11 (.one 12 true (.one 13 true (.wch 14 (.wch 16 (.alt 2 (.one 4 false (.one 5 true (.wch 6 (ln [16,19,36,39,41,42,44,47,48])))) (.alt 4 (.alt 2 (.one 5 true (.wch 6 (ln [16,19,36,39,41,42,44,47,48]))) (.alt 8 (.one 9 true (.alt 2 (.one 5 true (.wch 6 (ln [36,39,41,42,44,47,48]))) (.alt 18 (ln [39,4,11,13,41,42,44,47,48]) (.stop)))) (.stop))) (.stop)))))))))))))))) (at1 46 (some (.one 0 true (.one 2 true (.one 4 true (.one 8 true (.wch 1 (.wch 3 (.one 5 true (.one 6 true (.wch 7 (ln [18,21,23,25,27,28,30,33,34]))))))))))) (fun _=>none)))),hints:=at1 2 ([.virtB 7 0 2,.virtB 7 1 2,.virtB 7 2 2]) (at1 6 ([.virtB 9 1 7]) (at1 16 ([.freezeB 9]) (at1 21 ([.virtB 14 1 7]) (at1 34 ([.freezeB 14]) (at1 37 ([.freezeB 7,.virtB 7 3 10]) (at1 41 ([.virtB 7 4 6,.virtB 7 5 5]) (fun _=>[]))))))),cut:=at1 13 (true) (at1 15 (true) (at1 31 (true) (at1 33 (true) (at1 37 (true) (at1 44 (true) (at1 47 (true) (fun _=>false)))))))}
noncomputable def bnInt:Code:=bdy Tryz.f11
abbrev ofnInt:=@ofC Tryz.prog gnInt 11 Tryz.f11 bnInt Tryz.func11 zk zk zk zk
noncomputable def gh17Has:Ctx:={N:=18}
noncomputable def bh17Has:Code:=bdy Tryz.f199
abbrev ofh17Has:=@ofC Tryz.prog gh17Has 199 Tryz.f199 bh17Has Tryz.func199 zk zk zk zk
noncomputable def gh17Fol:Ctx:={N:=103,np:=3,own:=at1 167 (true) (fun _=>false),plan:=at1 13 (some (ln [1,3,5,7,9,11,12,14,17,19,20])) (at1 14 (some (ln [1,3,5,7,9,11,12,15])) (fun _=>none)),hints:=at1 1 ([.renewB 0 1,.renewB 0 2]) (at1 6 ([.freeze 3]) (fun _=>[])),cut:=at1 13 (true) (fun _=>false),out:=true,lend:=at1 199 (true) (fun _=>false)}
noncomputable def bh17Fol:Code:=bdy Tryz.f167
abbrev ofh17Fol:=@ofC Tryz.prog gh17Fol 167 Tryz.f167 bh17Fol Tryz.func167 zk zk zk zk
noncomputable def gh17Find:Ctx:={N:=28,own:=at1 167 (true) (fun _=>false),hints:=at1 5 ([.virtB 9 1 1,.virtB 9 2 7]) (fun _=>[])}
noncomputable def bh17Find:Code:=bdy Tryz.f112
abbrev ofh17Find:=@ofC Tryz.prog gh17Find 112 Tryz.f112 bh17Find Tryz.func112 zk zk zk zk
noncomputable def gh17Edg:Ctx:={N:=33,plan:=at1 5 (some (.one 0 true (.one 1 true (.one 2 true (.one 3 true (.one 4 true (.one 5 true (.one 6 true (.one 7 true (.one 8 true (.alt 9 (ln [21,23,25,26,28,31]) (.alt 13 (ln [18,21,23,25,28,31]) (.stop))))))))))))) (fun _=>none),hints:=at1 2 ([.virt 5 2]) (fun _=>[])}
noncomputable def bh17Edg:Code:=bdy Tryz.f110
abbrev ofh17Edg:=@ofC Tryz.prog gh17Edg 110 Tryz.f110 bh17Edg Tryz.func110 zk zk zk zk
noncomputable def gh17All:Ctx:={N:=17,hints:=at1 2 ([.virt 3 1]) (fun _=>[])}
noncomputable def bh17All:Code:=bdy Tryz.f111
abbrev ofh17All:=@ofC Tryz.prog gh17All 111 Tryz.f111 bh17All Tryz.func111 zk zk zk zk
noncomputable def gh17Grp:Ctx:={N:=78,plan:=at1 4 (some (ln [1,3,4,6,8,11,13])) (at1 13 (some (ln [1,3,5,7,9,11,13,15,16,18,20,23])) (fun _=>none)),hints:=at1 9 ([.virt 10 2]) (fun _=>[])}
noncomputable def bh17Grp:Code:=bdy Tryz.f59
abbrev ofh17Grp:=@ofC Tryz.prog gh17Grp 59 Tryz.f59 bh17Grp Tryz.func59 zk zk zk zk
noncomputable def gh17Hdr:Ctx:={N:=26,plan:=at1 4 (some (.one 1 true (.alt 0 (ln [4,6,9,11,13,15,17]) (.alt 2 (ln [0,6,9,11,13,15,17]) (.stop))))) (fun _=>none)}
noncomputable def bh17Hdr:Code:=bdy Tryz.f115
abbrev ofh17Hdr:=@ofC Tryz.prog gh17Hdr 115 Tryz.f115 bh17Hdr Tryz.func115 zk zk zk zk
noncomputable def gh17Svc:Ctx:={N:=47,hints:=at1 9 ([.asL 8]) (fun _=>[])}
noncomputable def bh17Svc:Code:=bdy Tryz.f60
abbrev ofh17Svc:=@ofC Tryz.prog gh17Svc 60 Tryz.f60 bh17Svc Tryz.func60 zk zk zk zk
noncomputable def gh17Btw:Ctx:={N:=41,plan:=at1 9 (some (.one 0 true (.one 1 true (.one 2 true (.one 3 true (.one 4 true (.one 5 true (.one 6 true (.one 8 true (.alt 7 (ln [18,21,22]) (.alt 9 (ln [15,21,22]) (.stop)))))))))))) (fun _=>none),hints:=at1 2 ([.virt 6 10]) (fun _=>[])}
noncomputable def bh17Btw:Code:=bdy Tryz.f116
abbrev ofh17Btw:=@ofC Tryz.prog gh17Btw 116 Tryz.f116 bh17Btw Tryz.func116 zk zk zk zk
noncomputable def gh17Stm:Ctx:={N:=132}
noncomputable def bh17Stm:Code:=bdy Tryz.f61
abbrev ofh17Stm:=@ofC Tryz.prog gh17Stm 61 Tryz.f61 bh17Stm Tryz.func61 zk zk zk zk
noncomputable def gh17Cls:Ctx:={N:=21}
noncomputable def bh17Cls:Code:=bdy Tryz.f119
abbrev ofh17Cls:=@ofC Tryz.prog gh17Cls 119 Tryz.f119 bh17Cls Tryz.func119 zk zk zk zk
noncomputable def gh17Chk:Ctx:={N:=162,plan:=at1 6 (some (ln [1,3,5,7,9,11,13,15,16,19,21,23,25,27])) (at1 12 (some (ln [1,3,5,7,9,11,13,14,17,19,21,23,25])) (at1 27 (some (ln [1,3,5,7,9,11,13,14,17])) (at1 32 (some (ln [1,3,5,7,9,11,13,14,17])) (at1 34 (some (ln [1,3,5,7,9,11,13,15,16,19,21,23,25,27])) (fun _=>none)))))}
noncomputable def bh17Chk:Code:=bdy Tryz.f64
abbrev ofh17Chk:=@ofC Tryz.prog gh17Chk 64 Tryz.f64 bh17Chk Tryz.func64 zk zk zk zk
noncomputable def gh11Zone:Ctx:={N:=27,hints:=at1 2 ([.virt 5 1]) (fun _=>[])}
noncomputable def bh11Zone:Code:=bdy Tryz.f113
abbrev ofh11Zone:=@ofC Tryz.prog gh11Zone 113 Tryz.f113 bh11Zone Tryz.func113 zk zk zk zk
noncomputable def gj16Opt:Ctx:={N:=9}
noncomputable def bj16Opt:Code:=bdy Tryz.f198
abbrev ofj16Opt:=@ofC Tryz.prog gj16Opt 198 Tryz.f198 bj16Opt Tryz.func198 zk zk zk zk
noncomputable def gj16Port:Ctx:={N:=9}
noncomputable def bj16Port:Code:=bdy Tryz.f164
abbrev ofj16Port:=@ofC Tryz.prog gj16Port 164 Tryz.f164 bj16Port Tryz.func164 zk zk zk zk
noncomputable def gj16Ports:Ctx:={N:=21}
noncomputable def bj16Ports:Code:=bdy Tryz.f165
abbrev ofj16Ports:=@ofC Tryz.prog gj16Ports 165 Tryz.f165 bj16Ports Tryz.func165 zk zk zk zk
noncomputable def gj16Find:Ctx:={N:=20}
noncomputable def bj16Find:Code:=bdy Tryz.f166
abbrev ofj16Find:=@ofC Tryz.prog gj16Find 166 Tryz.f166 bj16Find Tryz.func166 zk zk zk zk
noncomputable def gj16FindW:Ctx:={N:=20}
noncomputable def bj16FindW:Code:=bdy Tryz.f120
abbrev ofj16FindW:=@ofC Tryz.prog gj16FindW 120 Tryz.f120 bj16FindW Tryz.func120 zk zk zk zk
noncomputable def gj16Item:Ctx:={N:=97}
noncomputable def bj16Item:Code:=bdy Tryz.f195
abbrev ofj16Item:=@ofC Tryz.prog gj16Item 195 Tryz.f195 bj16Item Tryz.func195 zk zk zk zk
noncomputable def gj16Defs:Ctx:={N:=73}
noncomputable def bj16Defs:Code:=bdy Tryz.f160
abbrev ofj16Defs:=@ofC Tryz.prog gj16Defs 160 Tryz.f160 bj16Defs Tryz.func160 zk zk zk zk
noncomputable def gj16Wri:Ctx:={N:=11}
noncomputable def bj16Wri:Code:=bdy Tryz.f162
abbrev ofj16Wri:=@ofC Tryz.prog gj16Wri 162 Tryz.f162 bj16Wri Tryz.func162 zk zk zk zk
noncomputable def gj16Sm:Ctx:={N:=74}
noncomputable def bj16Sm:Code:=bdy Tryz.f163
abbrev ofj16Sm:=@ofC Tryz.prog gj16Sm 163 Tryz.f163 bj16Sm Tryz.func163 zk zk zk zk
noncomputable def gj16Val:Ctx:={N:=161,plan:=at1 6 (some (ln [1,3,5,7,9,11,12,15,17,19,21,23,25,27,29,31,33,37,34,39,41,43,45,47,49,51,53,55,56,59,61])) (fun _=>none)}
noncomputable def bj16Val:Code:=bdy Tryz.f108
abbrev ofj16Val:=@ofC Tryz.prog gj16Val 108 Tryz.f108 bj16Val Tryz.func108 zk zk zk zk
noncomputable def gq1Num:Ctx:={N:=20,plan:=at1 3 (some (.one 0 true (.one 1 true (.one 3 true (.one 4 true (.one 5 true (.one 6 true (.alt 2 (ln [14,16,19,21]) (.alt 7 (.alt 2 (ln [16,19,21]) (.alt 8 (ln [4,19,21]) (.stop))) (.stop)))))))))) (fun _=>none)}
noncomputable def bq1Num:Code:=bdy Tryz.f247
abbrev ofq1Num:=@ofC Tryz.prog gq1Num 247 Tryz.f247 bq1Num Tryz.func247 zk zk zk zk
noncomputable def gq1Parts:Ctx:={N:=35,hints:=at1 2 ([.virt 5 1]) (fun _=>[])}
noncomputable def bq1Parts:Code:=bdy Tryz.f172
abbrev ofq1Parts:=@ofC Tryz.prog gq1Parts 172 Tryz.f172 bq1Parts Tryz.func172 zk zk zk zk
noncomputable def gq9Days:Ctx:={N:=2}
noncomputable def bq9Days:Code:=bdy Tryz.f203
abbrev ofq9Days:=@ofC Tryz.prog gq9Days 203 Tryz.f203 bq9Days Tryz.func203 zk zk zk zk
noncomputable def gq9Day:Ctx:={N:=19}
noncomputable def bq9Day:Code:=bdy Tryz.f173
abbrev ofq9Day:=@ofC Tryz.prog gq9Day 173 Tryz.f173 bq9Day Tryz.func173 zk zk zk zk
noncomputable def gq9Two:Ctx:={N:=36,plan:=at1 3 (some (ln [1,3,5,7,9,11,13,15,17,19,21])) (fun _=>none)}
noncomputable def bq9Two:Code:=bdy Tryz.f204
abbrev ofq9Two:=@ofC Tryz.prog gq9Two 204 Tryz.f204 bq9Two Tryz.func204 zk zk zk zk
noncomputable def gq9Clock:Ctx:={N:=39,plan:=at1 5 (some (ln [1,3,7,9,4,10,13,15])) (fun _=>none)}
noncomputable def bq9Clock:Code:=bdy Tryz.f174
abbrev ofq9Clock:=@ofC Tryz.prog gq9Clock 174 Tryz.f174 bq9Clock Tryz.func174 zk zk zk zk
noncomputable def gq9Span:Ctx:={N:=32,plan:=at1 4 (some (ln [1,3,5,9,11,13,15,17,19,6,20,23,25])) (fun _=>none)}
noncomputable def bq9Span:Code:=bdy Tryz.f124
abbrev ofq9Span:=@ofC Tryz.prog gq9Span 124 Tryz.f124 bq9Span Tryz.func124 zk zk zk zk
noncomputable def gq9Times:Ctx:={N:=29,plan:=at1 4 (some (ln [1,3,5,9,11,13,6,14,17,19])) (fun _=>none)}
noncomputable def bq9Times:Code:=bdy Tryz.f125
abbrev ofq9Times:=@ofC Tryz.prog gq9Times 125 Tryz.f125 bq9Times Tryz.func125 zk zk zk zk
noncomputable def gq9Parse:Ctx:={N:=96,hints:=at1 6 ([.virt 4 2]) (fun _=>[])}
noncomputable def bq9Parse:Code:=bdy Tryz.f68
abbrev ofq9Parse:=@ofC Tryz.prog gq9Parse 68 Tryz.f68 bq9Parse Tryz.func68 zk zk zk zk
noncomputable def gq9Pad:Ctx:={N:=10}
noncomputable def bq9Pad:Code:=bdy Tryz.f236
abbrev ofq9Pad:=@ofC Tryz.prog gq9Pad 236 Tryz.f236 bq9Pad Tryz.func236 zk zk zk zk
noncomputable def gq9Text:Ctx:={N:=11}
noncomputable def bq9Text:Code:=bdy Tryz.f215
abbrev ofq9Text:=@ofC Tryz.prog gq9Text 215 Tryz.f215 bq9Text Tryz.func215 zk zk zk zk
noncomputable def gq9Win:Ctx:={N:=5}
noncomputable def bq9Win:Code:=bdy Tryz.f196
abbrev ofq9Win:=@ofC Tryz.prog gq9Win 196 Tryz.f196 bq9Win Tryz.func196 zk zk zk zk
noncomputable def gq9Form:Ctx:={N:=70,plan:=at1 16 (some (ln [1,5,11,13,15,17,19,21,23,25,31,33,35,37,39,41,43,45,47,2,7,9,26,29,48,51,52,54,57])) (fun _=>none),hints:=at1 6 ([.virt 3 1]) (fun _=>[]),cut:=at1 16 (true) (fun _=>false)}
noncomputable def bq9Form:Code:=bdy Tryz.f197
abbrev ofq9Form:=@ofC Tryz.prog gq9Form 197 Tryz.f197 bq9Form Tryz.func197 zk zk zk zk
noncomputable def gnWin:Ctx:={N:=47,np:=1,own:=at1 12 (true) (fun _=>false),plan:=at1 3 (some (.one 0 true (.one 1 true (.one 5 true (.one 6 true (.one 2 false (.one 3 true (.wch 4 (ln [14,17,19,20,23]))))))))) (at1 7 (some (.one 0 true (.one 1 true (.one 2 true (.one 6 true (.one 7 true (.one 3 false (.one 4 true (.wch 5 (ln [16,19,21,22,24,27])))))))))) (fun _=>none))}
noncomputable def bnWin:Code:=bdy Tryz.f39
abbrev ofnWin:=@ofC Tryz.prog gnWin 39 Tryz.f39 bnWin Tryz.func39 zk zk zk zk
noncomputable def gnPick:Ctx:={N:=20,np:=1,own:=at1 12 (true) (fun _=>false)}
noncomputable def bnPick:Code:=bdy Tryz.f69
abbrev ofnPick:=@ofC Tryz.prog gnPick 69 Tryz.f69 bnPick Tryz.func69 zk zk zk zk
noncomputable def gnRange:Ctx:={N:=20,np:=1,own:=at1 42 (true) (fun _=>false)}
noncomputable def bnRange:Code:=bdy Tryz.f23
abbrev ofnRange:=@ofC Tryz.prog gnRange 23 Tryz.f23 bnRange Tryz.func23 zk zk zk zk
end Go.Proofs.YtahhamfngafmcaaGreatDoor
