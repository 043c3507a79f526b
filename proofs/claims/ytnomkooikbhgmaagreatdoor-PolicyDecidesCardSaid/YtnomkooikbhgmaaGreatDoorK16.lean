/- Lemmas. -/
import Derived.Test.YtnomkooikbhgmaaGreatDoorProg
import Derived.Test.YtnomkooikbhgmaaGreatDoorK15
set_option linter.unusedVariables false
set_option linter.unusedSimpArgs false
set_option maxRecDepth 100000
set_option maxHeartbeats 4000000
noncomputable section
namespace Go.Proofs.YtnomkooikbhgmaaGreatDoor
open Go Go.Vm
theorem xT(op op':Bool->Bool->Bool):∀(k:Nat) (a b a' b':List Bx),k<=5->(∀p,InP p->op (iZ p k a) (iZ p k b)=op' (iZ p k a') (iZ p k b'))->iX op k a b=iX op' k a' b'
 |0,a,b,a',b',_,h=>by
  have h1:=h _ aBL;rw[qC,qC,qC,qC]at h1;rw[iX,iX,h1]
 |k+1,a,b,a',b',hk,h=>by
  have g:=oB op k a b (pG _ (kA (4-k)).1);have g':=oB op' k a' b' (pG _ (kA (4-k)).1);have part:∀v,0<=v->v<iN (4-k)+1->∀p,InP p->op (iZ p k (atF (4-k) v a)) (iZ p k (atF (4-k) v b))=op' (iZ p k (atF (4-k) v a')) (iZ p k (atF (4-k) v b')):=by
   intro v v0 v1 p hp;have hq:InP (fun f=>if f=4-k then v else p f):=fun f=>by
    by_cases e:f=4-k
    ·simp only[e,if_true];omega
    ·simp only[e,if_false];exact hp f
   have h:=h _ hq;rw[rX,rX,rX,rX,aH rfl]at h;have e:∀c:List Bx,iZ p k (atF (4-k) v c)=iZ (fun f=>if f=4-k then v else p f) k (atF (4-k) v c):=fun c=>Uj zo fun f hf h5=>by rw[aF zo]
   rw[e,e,e,e,h]
  have hR:∀v,0<=v->v<iN (4-k)+1->iM op k a b v=iM op' k a' b' v:=fun v v0 v1=>
   xT op op' k _ _ _ _ zo (part v v0 v1)
  rw[lI,lI,(g.congr hR).same g']
theorem mV{p:Nat->Int}{k:Nat}:iZ p k []=false:=rfl
theorem Xr(op:Bool->Bool->Bool)(a b:List Bx):iX orB 5 (iX op 5 a b) []=iX op 5 a b:=
 xT orB op 5 _ _ _ _ (aK _) fun p hp=>by rw[oJ op hp 5 a b (aK _),mV,orB,Bool.or_false]
theorem aPv{l:List Bx}(h:okL l):∀x,x∈l->x.ok:=fun x hx=>⟨h x hx 0 zo,h x hx 1 zo,h x hx 2 zo,h x hx 3 zo,h x hx 4 zo⟩
theorem H0{l:List Bx}(h:okL l):jN l=l:=eT.2 fun x hx=>by simpa using aPv h x hx
theorem Mk{op:Bool->Bool->Bool}{a b:List Bx}(h:(iX op 5 a b).length<=4096):kN (iX op 5 a b)=true:=by
 have ho:=wZ op a b;unfold kN;rw[H0 ho];simp only[aJ,aM,true_and];refine⟨h,(wF 5 _ (aK _) (fun x hx f hf _=>ho x hx f hf) zo).2 ?_⟩;rw[Xr];exact((eE fun x _=>xR x).trans (List.map_id _)).symm
theorem lC:kN []=true:=by decide+kernel
theorem aDQ(op:Bool->Bool->Bool)(a b:List Bx):kN (rQ (iX op 5 a b))=true:=by
 unfold rQ;split
 ·exact lC
 ·exact Mk zo
theorem xG:∀(l s:List Bx),kN s=true->kN (kH s l).1=true
 |[],s,h=>h
 |b::l,s,h=>by
  rw[kH];split
  ·split
   ·exact lC
   ·exact xG l _ (Mk (by unfold rF at*;omega))
  ·exact xG l s h
theorem pA(l:List Bx):kN (kR l).1=true:=xG l [] lC
theorem jM(op:Bool->Bool->Bool)(a b:List Bx):kN (iF op a b).1=true:=by
 unfold iF;split
 ·exact lC
 ·split
  ·exact lC
  ·exact aDQ ..
theorem xU{op:Bool->Bool->Bool}{a b:List Bx}(ha:kN a=true)(hb:kN b=true)(he:(iF op a b).2=0){p:Nat->Int}(hp:InP p):iZ p 5 (iF op a b).1=op (iZ p 5 a) (iZ p 5 b):=by
 rw[pX ha hb]at he⊢;simp only at he⊢;have:(iX op 5 a b).length<=4096:=by
  have:=mt limE_ne.2 (fun h=>h he);omega
 rw[rQ,aF zo,oJ op hp 5 a b (aK _)]
theorem K9{op:Bool->Bool->Bool}{a b:List Bx}(ha:kN a=true)(hb:kN b=true){p:Nat->Int}(hp:InP p)(h:iZ p 5 (iF op a b).1=true):op (iZ p 5 a) (iZ p 5 b)=true:=by
 rw[pX ha hb]at h;simp only[rQ]at h;split at h
 ·rw[mV]at h;cases h
 ·rwa[oJ op hp 5 a b (aK _)]at h
theorem Mx(b:Bx)(l:List Bx):jN (b::l)=if b.ok then b::jN l else jN l:=by
 unfold jN;by_cases h:b.ok
 ·rw[List.filter_cons_of_pos (by simpa using h),aH h]
 ·rw[List.filter_cons_of_neg (by simpa using h),aF h]
theorem zV{p:Nat->Int}(hp:InP p):∀(l s:List Bx),iZ p 5 (kH s l).1=true->iZ p 5 s=true\/iZ p 5 (jN l)=true
 |[],s,h=>.inl h
 |b::l,s,h=>by
  rw[kH]at h;rw[Mx];have hb:iZ p 5 (b::jN l)=(inK p 5 b||iZ p 5 (jN l)):=rfl;split at h
  ·rename_i ho;rw[aH ho];split at h
   ·rw[mV]at h;cases h
   ·rcases zV hp l _ h with h1|h1
    ·rw[rF,oJ orB hp 5 _ _ (aK _)]at h1;have e:iZ p 5 [b]=inK p 5 b:=by simp[iZ]
     rw[e]at h1;simp only[orB,bR]at h1;rcases h1 with h1|h1
     ·exact .inl h1
     ·exact .inr (by rw[hb,h1];rfl)
    ·exact .inr (by rw[hb,h1,Bool.or_true])
  ·rename_i ho;rw[aF ho];exact zV hp l _ h
theorem Yi{p:Nat->Int}(hp:InP p){l:List Bx}(h:iZ p 5 (kR l).1=true):iZ p 5 (jN l)=true:=by
 rcases zV hp l [] h with h1|h1
 ·rw[mV]at h1;cases h1
 ·exact h1
theorem Pj{a b:List Bx}(ha:okL a)(h:∀p,InP p->iZ p 5 a=true->iZ p 5 (jN b)=true):Pi a b=true:=by
 unfold Pi;rw[H0 ha,(Z9 a (jN b)).2 h];rfl
/-! texts in their order -/
def ltS(s t:ByteArray):Bool:=Op.bytesLess s.toList t.toList
theorem Ib:∀(a b:List UInt8),Op.bytesLess a b=true->Op.bytesLess b a=false/\(b==a)=false
 |_,[],h=>by simp[Op.bytesLess]at h
 |[],b::y,_=>by simp[Op.bytesLess]
 |a::x,b::y,h=>by
  simp only[Op.bytesLess,bR,aJ,aM,beq_iff_eq]at h;rcases h with h|⟨rfl,h⟩
  ·have h2:¬b<a:=fun h'=>absurd (UInt8.lt_trans h h') (UInt8.lt_irrefl _);have h3:b≠a:=fun e=>by subst e;exact UInt8.lt_irrefl _ h
   simp[Op.bytesLess,h2,h3]
  ·obtain⟨h1,h2⟩:=Ib x y h;simp only[beq_eq_false_iff_ne,ne_eq]at h2;simp[Op.bytesLess,h1,h2,UInt8.lt_irrefl]
theorem Id:∀(a b c:List UInt8),Op.bytesLess a b=true->Op.bytesLess b c=true->Op.bytesLess a c=true
 |_,_,[],_,h=>by simp[Op.bytesLess]at h
 |[],_,_::_,_,_=>by simp[Op.bytesLess]
 |_::_,[],_,h,_=>by simp[Op.bytesLess]at h
 |a::x,b::y,c::z,h,h'=>by
  simp only[Op.bytesLess,bR,aJ,aM,beq_iff_eq]at h h'⊢;rcases h with h|⟨rfl,h⟩<;>rcases h' with h'|⟨rfl,h'⟩
  ·exact .inl (UInt8.lt_trans h h')
  ·exact .inl h
  ·exact .inl h'
  ·exact .inr ⟨rfl,Id x y z h h'⟩
theorem Ic:∀(a b:List UInt8),Op.bytesLess a b=false->(a==b)=false->Op.bytesLess b a=true
 |[],[],_,h=>by simp at h
 |[],_::_,h,_=>by simp[Op.bytesLess]at h
 |_::_,[],_,_=>by simp[Op.bytesLess]
 |a::x,b::y,h,h'=>by
  simp only[Op.bytesLess,gK,Bool.and_eq_false_iff,decide_eq_false_iff_not,beq_eq_false_iff_ne,ne_eq]at h;simp only[Op.bytesLess,bR,aJ,aM,beq_iff_eq];obtain⟨h1,h2⟩:=h;by_cases e:a=b
  ·subst e;refine .inr ⟨rfl,Ic x y ?_ ?_⟩
   ·rcases h2 with h2|h2
    ·exact absurd rfl h2
    ·simpa using h2
   ·simpa using h'
  ·refine .inl ?_;have h1':¬a.toNat<b.toNat:=fun h=>h1 (UInt8.lt_iff_toNat_lt.2 h);have:a.toNat≠b.toNat:=fun h=>e (UInt8.toNat_inj.1 h);exact UInt8.lt_iff_toNat_lt.2 zo
/-! the policy of an intent, step by step -/
def R1(t:Tp)(q:Nat->Int):Prop:=iZ q 5 (jN (qJ t.edges))=true/\iZ q 5 initS=true
structure AtInv (t:Tp) (rest:List Bx) (p:Pol):Prop where
 rs:kN rest=true
 al:kN p.allow=true
 rr:∀q,InP q->iZ q 5 rest=true->R1 t q
 ar:∀q,InP q->iZ q 5 p.allow=true->R1 t q
 dj:∀q,InP q->iZ q 5 rest=true->iZ q 5 p.allow=false
 nm:∀x,x∈p.insp->nQ x.cls
 ne:∀x,x∈p.insp->x.set≠[]
 st:∀x,x∈p.insp->kN x.set=true
 sb:∀x,x∈p.insp->∀q,InP q->iZ q 5 x.set=true->iZ q 5 p.allow=true
 ds:p.insp.Pairwise fun x y=>∀q,InP q->iZ q 5 x.set=true->iZ q 5 y.set=false
 od:p.insp.Pairwise fun x y=>ltS x.cls y.cls=true
inductive PutR (l:List Insp) (c:ByteArray) (s:List Bx):List Insp->Int->Prop
 |skip:(c.toList=[]\/s=[])->PutR l c s l 0
 |ins (k:Nat):c.toList≠[]->s≠[]->k<=l.length->(∀(j:Nat) y,j<k->l[j]? =some y->ltS y.cls c=true)->(∀y,l[k]? =some y->ltS y.cls c=false/\(y.cls.toList==c.toList)=false)->PutR l c s (l.take k++⟨c,s⟩::l.drop k) 0
 |uni (k:Nat) (y:Insp):c.toList≠[]->s≠[]->l[k]? =some y->(y.cls.toList==c.toList)=true->PutR l c s (l.set k ⟨y.cls,(iF orB y.set s).1⟩) (iF orB y.set s).2
theorem AtInv.deny{t:Tp}{rest s:List Bx}{p:Pol}(h:AtInv t rest p)(hs:kN s=true):AtInv t (iF woB rest s).1 p:=by
 have hm:∀q,InP q->iZ q 5 (iF woB rest s).1=true->iZ q 5 rest=true:=fun q hq h1=>by
  have:=K9 h.rs hs hq h1;simp only[woB,aJ]at this;exact this.1
 exact⟨jM ..,h.al,fun q hq h1=>h.rr q hq (hm q hq h1),h.ar,fun q hq h1=>h.dj q hq (hm q hq h1),h.nm,h.ne,h.st,h.sb,h.ds,h.od⟩
theorem AtInv.permit{t:Tp}{rest s:List Bx}{p:Pol}{c:ByteArray}{l':List Insp}{e:Int}(h:AtInv t rest p)(hs:kN s=true)(hc:c.toList=[]\/nQ c)(e1:(iF anB rest s).2=0)
  (e2:(iF woB rest s).2=0)(e3:(iF orB p.allow (iF anB rest s).1).2=0)(hp:PutR p.insp c (iF anB rest s).1 l' e)(he:e=0):
  AtInv t (iF woB rest s).1 ⟨(iF orB p.allow (iF anB rest s).1).1,l'⟩:=by
 have hps:kN (iF anB rest s).1=true:=jM ..;have hpm:∀q,InP q->iZ q 5 (iF anB rest s).1=(iZ q 5 rest&&iZ q 5 s):=fun q hq=>by rw[xU h.rs hs e1 hq];rfl
 have hrm:∀q,InP q->iZ q 5 (iF woB rest s).1=(iZ q 5 rest&& !iZ q 5 s):=fun q hq=>by rw[xU h.rs hs e2 hq];rfl
 have ham:∀q,InP q->iZ q 5 (iF orB p.allow (iF anB rest s).1).1=(iZ q 5 p.allow||iZ q 5 (iF anB rest s).1):=fun q hq=>by rw[xU h.al hps e3 hq];rfl
 have hdis:∀x,x∈p.insp->∀q,InP q->iZ q 5 (iF anB rest s).1=true->iZ q 5 x.set=false:=fun x hx q hq h1=>by
  rw[hpm q hq]at h1;simp only[aJ]at h1;rw[cB];intro h2;have:=h.dj q hq h1.1;rw[h.sb x hx q hq h2]at this;cases this
 have hsb:∀x,x∈p.insp->∀q,InP q->iZ q 5 x.set=true->iZ q 5 (iF orB p.allow (iF anB rest s).1).1=true:=fun x hx q hq h1=>by
  rw[ham q hq,h.sb x hx q hq h1];rfl
 have hpb:∀q,InP q->iZ q 5 (iF anB rest s).1=true->iZ q 5 (iF orB p.allow (iF anB rest s).1).1=true:=fun q hq h1=>by rw[ham q hq,h1,Bool.or_true]
 have f1:kN (iF woB rest s).1=true:=jM ..;have f2:kN (iF orB p.allow (iF anB rest s).1).1=true:=jM ..;have f3:∀q,InP q->iZ q 5 (iF woB rest s).1=true->R1 t q:=fun q hq h1=>by
  rw[hrm q hq]at h1;simp only[aJ]at h1;exact h.rr q hq h1.1
 have f4:∀q,InP q->iZ q 5 (iF orB p.allow (iF anB rest s).1).1=true->R1 t q:=fun q hq h1=>by
  rw[ham q hq,hpm q hq]at h1;simp only[bR,aJ]at h1;rcases h1 with h1|h1
  ·exact h.ar q hq h1
  ·exact h.rr q hq h1.1
 have f5:∀q,InP q->iZ q 5 (iF woB rest s).1=true->iZ q 5 (iF orB p.allow (iF anB rest s).1).1=false:=fun q hq h1=>by
  rw[hrm q hq]at h1;simp only[aJ,eA]at h1;rw[ham q hq,hpm q hq,h.dj q hq h1.1,h1.2,Bool.and_false];rfl
 cases hp with
 |skip h0=>exact⟨f1,f2,f3,f4,f5,h.nm,h.ne,h.st,hsb,h.ds,h.od⟩
 |ins k h0 h1 hk hlt hge=>
  have hmem:∀x,x∈p.insp.take k++⟨c,(iF anB rest s).1⟩::p.insp.drop k->x∈p.insp\/x=⟨c,(iF anB rest s).1⟩:=fun x hx=>by
   rcases aY.1 hx with hx|hx
   ·exact .inl (cL hx)
   ·rcases aV.1 hx with hx|hx
    ·exact .inr hx
    ·exact .inl (eB hx)
  have hall:∀(Q:Insp->Prop),(∀x,x∈p.insp->Q x)->Q ⟨c,(iF anB rest s).1⟩->∀x,x∈p.insp.take k++⟨c,(iF anB rest s).1⟩::p.insp.drop k->Q x:=fun Q g1 g2 x hx=>by
   rcases hmem x hx with hx|rfl
   ·exact g1 x hx
   ·exact g2
  have hpw:∀(R:Insp->Insp->Prop),p.insp.Pairwise R->(∀x,x∈p.insp.take k->R x ⟨c,(iF anB rest s).1⟩)->(∀x,x∈p.insp.drop k->R ⟨c,(iF anB rest s).1⟩ x)->(p.insp.take k++⟨c,(iF anB rest s).1⟩::p.insp.drop k).Pairwise R:=fun R g g1 g2=>by
   rw[<-cN k p.insp]at g;rw[dM]at g⊢;refine⟨g.1,bW.2 ⟨g2,g.2.1⟩,fun a ha b hb=>?_⟩;rcases aV.1 hb with rfl|hb
   ·exact g1 a ha
   ·exact g.2.2 a ha b hb
  refine⟨f1,f2,f3,f4,f5,hall _ h.nm (hc.resolve_left h0),hall (fun x=>x.set≠[]) h.ne h1,hall (fun x=>kN x.set=true) h.st hps,hall (fun x=>∀q,InP q->iZ q 5 x.set=true->_) hsb hpb,?_,?_⟩
  ·refine hpw _ h.ds (fun x hx q hq h2=>?_) (fun x hx q hq h2=>hdis x (eB hx) q hq h2);rw[cB];intro h3;rw[hdis x (cL hx) q hq h3]at h2;cases h2
  ·refine hpw _ h.od (fun x hx=>?_) (fun x hx=>?_)
   ·obtain⟨j,hj⟩:=bM.1 hx;rw[cW]at hj;split at hj
    ·exact hlt j x zp hj
    ·cases hj
   ·obtain⟨j,hj⟩:=bM.1 hx;rw[cD]at hj;obtain⟨y,hy⟩:∃y,p.insp[k]? =some y:=⟨_,aE (by have:=(aP.1 hj).1;omega)⟩
    obtain⟨g1,g2⟩:=hge y hy;have hcy:ltS c y.cls=true:=Ic _ _ g1 g2;rcases cK j with rfl|hj0
    ·rw[dV,hy]at hj;cases hj;exact hcy
    ·have:=cJ.1 h.od k (k+j) (aP.1 hy).1 (aP.1 hj).1 zo;rw[(aP.1 hy).2,(aP.1 hj).2]at this;exact Id _ _ _ hcy this
 |uni k y h0 h1 hk hy=>
  have hym:y∈p.insp:=aI hk;have hum:∀q,InP q->iZ q 5 (iF orB y.set (iF anB rest s).1).1=(iZ q 5 y.set||iZ q 5 (iF anB rest s).1):=fun q hq=>by rw[xU (h.st y hym) hps he hq];rfl
  have hall:∀(Q:Insp->Prop),(∀x,x∈p.insp->Q x)->Q ⟨y.cls,(iF orB y.set (iF anB rest s).1).1⟩->∀x,x∈p.insp.set k ⟨y.cls,(iF orB y.set (iF anB rest s).1).1⟩->Q x:=fun Q g1 g2 x hx=>by
   rcases List.mem_or_eq_of_mem_set hx with hx|rfl
   ·exact g1 x hx
   ·exact g2
  have hkl:=(aP.1 hk).1;have hke:=(aP.1 hk).2;have hpw:∀(R:Insp->Insp->Prop),p.insp.Pairwise R->(∀x,x∈p.insp->R x y->R x ⟨y.cls,(iF orB y.set (iF anB rest s).1).1⟩)->(∀x,x∈p.insp->R y x->R ⟨y.cls,(iF orB y.set (iF anB rest s).1).1⟩ x)->(p.insp.set k ⟨y.cls,(iF orB y.set (iF anB rest s).1).1⟩).Pairwise R:=fun R g g1 g2=>by
   rw[cJ]at g⊢;intro i j hi hj hij;rw[dB]at hi hj;rw[List.getElem_set,List.getElem_set];by_cases e1:k=i
   ·rw[aH e1,aF zo];refine g2 _ (cX _) ?_;subst e1;have:=g k j hi hj hij
    rwa[hke]at this
   ·rw[aF e1];by_cases e2:k=j
    ·rw[aH e2];refine g1 _ (cX _) ?_;subst e2;have:=g i k hi hj hij
     rwa[hke]at this
    ·rw[aF e2];exact g i j hi hj hij
  refine⟨f1,f2,f3,f4,f5,hall _ h.nm (h.nm y hym),hall (fun x=>x.set≠[]) h.ne ?_,hall (fun x=>kN x.set=true) h.st (jM ..),hall (fun x=>∀q,InP q->iZ q 5 x.set=true->_) hsb ?_,?_,?_⟩
  ·intro e0;simp only at e0;have:∀q,InP q->iZ q 5 y.set=false:=fun q hq=>by
    have:=hum q hq;rw[e0,mV]at this;cases hy:iZ q 5 y.set
    ·rfl
    ·rw[hy]at this;cases this
   obtain⟨b,hb⟩:=List.exists_mem_of_ne_nil _ (h.ne y hym);obtain⟨q,hq,hqb⟩:=E9 (oT (h.st y hym) b hb);have h3:=this q hq;rw[memK_iff.2 ⟨b,hb,hqb⟩]at h3;cases h3
  ·intro q hq h2;simp only at h2;rw[hum q hq,bR]at h2;rcases h2 with h2|h2
   ·exact hsb y hym q hq h2
   ·exact hpb q hq h2
  ·refine hpw _ h.ds (fun x hx hr q hq h2=>?_) (fun x hx hr q hq h2=>?_)
   ·simp only;rw[hum q hq,hr q hq h2,gL,cB];intro h3;rw[hdis x hx q hq h3]at h2;cases h2
   ·simp only at h2;rw[hum q hq,bR]at h2;rcases h2 with h2|h2
    ·exact hr q hq h2
    ·exact hdis x hx q hq h2
  ·exact hpw _ h.od (fun x hx hr=>hr) (fun x hx hr=>hr)
theorem aBO:jN initS=initS:=by decide+kernel
theorem wT:kN initS=true:=by decide+kernel
theorem AtInv.pol{t:Tp}{rest:List Bx}{p:Pol}(h:AtInv t rest p)(hc:lT t=true):PolOk t p:=by
 refine⟨hc,h.al,Pj (oT h.al) fun q hq h1=>(h.ar q hq h1).1,Pj (oT h.al) fun q hq h1=>by rw[aBO];exact(h.ar q hq h1).2,fun n x hx=>?_⟩;have hxm:=aI hx;refine⟨h.nm x hxm,fun k y hn hy=>?_,h.ne x hxm,h.st x hxm,Pj (oT (h.st x hxm)) fun q hq h1=>by rw[H0 (oT h.al)];exact h.sb x hxm q hq h1,fun k y hk hy=>?_⟩
 ·have:=cJ.1 h.od k n (aP.1 hy).1 (aP.1 hx).1 zo;rw[(aP.1 hy).2,(aP.1 hx).2]at this;obtain⟨h1,h2⟩:=Ib _ _ this;simp only[leS,h1,h2];rfl
 ·have:=cJ.1 h.ds k n (aP.1 hy).1 (aP.1 hx).1 hk;rw[(aP.1 hy).2,(aP.1 hx).2]at this;rw[<-Qp (h.st x hxm) (h.st y (aI hy)),rM];intro q hq;simp only[anB,Bool.and_eq_false_iff];by_cases h1:iZ q 5 x.set=true
  ·right;rw[cB];intro h2;rw[this q hq h2]at h1;cases h1
  ·left;simpa using h1
def oD(t:Tp):List Bx×Int:=if(kR (qJ t.edges)).2≠0 then([],(kR (qJ t.edges)).2)else iF anB (kR (qJ t.edges)).1 initS
theorem J8(t:Tp):kN (oD t).1=true:=by
 unfold oD;split
 ·exact lC
 ·exact jM ..
theorem Y6(t:Tp):∀q,InP q->iZ q 5 (oD t).1=true->R1 t q:=fun q hq h=>by
 unfold oD at h;split at h
 ·rw[mV]at h;cases h
 ·have:=K9 (pA _) wT hq h;simp only[anB,aJ]at this;exact⟨Yi hq this.1,this.2⟩
theorem P3(t:Tp):AtInv t (oD t).1 ⟨[],[]⟩:=
 ⟨J8 t,lC,Y6 t,(fun q hq h=>by rw[mV]at h;cases h),fun q hq h=>rfl,(fun x h=>by simp at h),(fun x h=>by simp at h),(fun x h=>by simp at h),(fun x h=>by simp at h),List.Pairwise.nil,List.Pairwise.nil⟩
structure It where
 kind:Int
 name:ByteArray
 pf:Pf
 proto:Int
 ports:Rg
structure Df where
 name:ByteArray
 items:List It
structure Wn where
 name:ByteArray
 act:List Rg
structure Sm where
 permit:Bool
 frm:ByteArray
 to:ByteArray
 svc:ByteArray
 exc:Bool
 exF:ByteArray
 exT:ByteArray
 cls:ByteArray
 dur:ByteArray
 pri:Int
structure Pb where
 addr:Int
 proto:Int
 port:Int
 edge:ByteArray
 real:Int
 rport:Int
structure Hn where
 grp:ByteArray
 edge:ByteArray
 addr:Int
 ports:Rg
structure Nt where
 grps:List Df
 svcs:List Df
 wins:List Wn
 sts:List Sm
 pubs:List Pb
 hids:List Hn
abbrev kM(x:It):AV:=.agg [.v (.int .i64 x.kind),.v (.string x.name),.v (.int .u32 x.pf.addr),.v (.int .i64 x.pf.bits),.v (.int .i64 x.proto),.v (.int .u32 x.ports.lo),.v (.int .u32 x.ports.hi)]
abbrev iG(x:Df):AV:=.agg [.v (.string x.name),.lst (x.items.map kM)]
abbrev jD(x:Wn):AV:=.agg [.v (.string x.name),iH x.act]
abbrev jI(x:Sm):AV:=.agg [.sb x.permit,.v (.string x.frm),.v (.string x.to),.v (.string x.svc),.sb x.exc,.v (.string x.exF),.v (.string x.exT),.v (.string x.cls),.v (.string x.dur),.v (.int .i64 x.pri)]
abbrev kG(x:Pb):AV:=.agg [.v (.int .u32 x.addr),.v (.int .i64 x.proto),.v (.int .i64 x.port),.v (.string x.edge),.v (.int .u32 x.real),.v (.int .i64 x.rport)]
abbrev kK(x:Hn):AV:=.agg [.v (.string x.grp),.v (.string x.edge),.v (.int .u32 x.addr),.v (.int .u32 x.ports.lo),.v (.int .u32 x.ports.hi)]
abbrev aJh(i:Nt):List AV:=[.lst (i.grps.map iG),.lst (i.svcs.map iG),.lst (i.wins.map jD),.lst (i.sts.map jI),.lst (i.pubs.map kG),.lst (i.hids.map kK)]
abbrev iS(i:Nt):AV:=.agg (aJh i)
abbrev mD(i:Nt):Vm.Obj:=.box (aJh i)
structure Sml (i:Nt):Prop where
 g:i.grps.length<=1000
 s:i.svcs.length<=1000
 w:i.wins.length<=1000
 t:i.sts.length<=1000
 p:i.pubs.length<=1000
 h:i.hids.length<=1000
 gi:∀x,x∈i.grps->x.items.length<=1000
 si:∀x,x∈i.svcs->x.items.length<=1000
 wi:∀x,x∈i.wins->x.act.length<=4000
open Go Go.Vm Go.ChangeShapes Go.WideShapes Go.ChangeAt Go.RowKit
theorem aPR{d:Nat}{x:AV}(h:Ty Tryz.prog (d+1) 3 x):∃i:Int,x=.v (.int .i64 i)/\ -9223372036854775808<=i/\i<=9223372036854775807:=h
theorem aTY{d:Nat}{y:AV}(h:Ty Tryz.prog (d+2) 58 y):∃g:Hd,y=mR g/\g.Ok:=by
 obtain⟨ys,hl,rfl,hf⟩:=h
 match ys,hl with
 |[a,b,c,e,f],_=>
  obtain⟨a,rfl,a0,a1⟩:=hf 0 _ a rfl rfl;obtain⟨b,rfl,b0,b1⟩:=hf 1 _ b rfl rfl;obtain⟨c,rfl,c0,c1⟩:=hf 2 _ c rfl rfl;obtain⟨e,rfl,e0,e1⟩:=hf 3 _ e rfl rfl;obtain⟨f,rfl,f0,f1⟩:=hf 4 _ f rfl rfl;exact⟨⟨a,b,c,e,f⟩,rfl,⟨a0,a1,b0,b1,c0,c1,e0,e1,f0,f1⟩⟩
theorem aEa{d:Nat}{y:AV}(h:Ty Tryz.prog (d+2) 96 y):∃r:Rg,y=jR r:=by
 obtain⟨ys,hl,rfl,hf⟩:=h
 match ys,hl with
 |[p,q],_=>
  obtain⟨i,rfl,i0,i1⟩:=hf 0 _ p rfl rfl;obtain⟨j,rfl,j0,j1⟩:=hf 1 _ q rfl rfl;exact⟨⟨i,j,i0,i1,j0,j1⟩,rfl⟩
theorem aUa{d:Nat}{y:AV}(h:Ty Tryz.prog (d+3) 98 y):∃x:It,y=kM x:=by
 obtain⟨ys,hl,rfl,hf⟩:=h
 match ys,hl with
 |[a,b,c,e,f],_=>
  obtain⟨a,rfl,_⟩:=hf 0 _ a rfl rfl;obtain⟨b,rfl,_⟩:=hf 1 _ b rfl rfl;obtain⟨c,rfl⟩:=aTW (d:=d) (hf 2 _ c rfl rfl);obtain⟨e,rfl,_⟩:=hf 3 _ e rfl rfl;obtain⟨f,rfl⟩:=aEa (d:=d) (hf 4 _ f rfl rfl);exact⟨⟨a,b,c,e,f⟩,rfl⟩
theorem aUc{d:Nat}{y:AV}(h:Ty Tryz.prog (d+2) 81 y):∃x:Sm,y=jI x:=by
 obtain⟨ys,hl,rfl,hf⟩:=h
 match ys,hl with
 |[a,b,c,e,f,g,i,j,k,l],_=>
  obtain⟨a,rfl⟩:=hf 0 _ a rfl rfl;obtain⟨b,rfl,_⟩:=hf 1 _ b rfl rfl;obtain⟨c,rfl,_⟩:=hf 2 _ c rfl rfl;obtain⟨e,rfl,_⟩:=hf 3 _ e rfl rfl;obtain⟨f,rfl⟩:=hf 4 _ f rfl rfl;obtain⟨g,rfl,_⟩:=hf 5 _ g rfl rfl;obtain⟨i,rfl,_⟩:=hf 6 _ i rfl rfl;obtain⟨j,rfl,_⟩:=hf 7 _ j rfl rfl;obtain⟨k,rfl,_⟩:=hf 8 _ k rfl rfl;obtain⟨l,rfl,_⟩:=hf 9 _ l rfl rfl;exact⟨⟨a,b,c,e,f,g,i,j,k,l⟩,rfl⟩
theorem aUb{d:Nat}{y:AV}(h:Ty Tryz.prog (d+2) 110 y):∃x:Pb,y=kG x:=by
 obtain⟨ys,hl,rfl,hf⟩:=h
 match ys,hl with
 |[a,b,c,e,f,g],_=>
  obtain⟨a,rfl,_⟩:=hf 0 _ a rfl rfl;obtain⟨b,rfl,_⟩:=hf 1 _ b rfl rfl;obtain⟨c,rfl,_⟩:=hf 2 _ c rfl rfl;obtain⟨e,rfl,_⟩:=hf 3 _ e rfl rfl;obtain⟨f,rfl,_⟩:=hf 4 _ f rfl rfl;obtain⟨g,rfl,_⟩:=hf 5 _ g rfl rfl;exact⟨⟨a,b,c,e,f,g⟩,rfl⟩
theorem aTZ{d:Nat}{y:AV}(h:Ty Tryz.prog (d+3) 112 y):∃x:Hn,y=kK x:=by
 obtain⟨ys,hl,rfl,hf⟩:=h
 match ys,hl with
 |[a,b,c,e],_=>
  obtain⟨a,rfl,_⟩:=hf 0 _ a rfl rfl;obtain⟨b,rfl,_⟩:=hf 1 _ b rfl rfl;obtain⟨c,rfl,_⟩:=hf 2 _ c rfl rfl;obtain⟨e,rfl⟩:=aEa (d:=d) (hf 3 _ e rfl rfl);exact⟨⟨a,b,c,e⟩,rfl⟩
end Go.Proofs.YtnomkooikbhgmaaGreatDoor
namespace Go.Vm
open Go.ChangeShapes Go.WideShapes
def TyL(P:Program)(L:Nat):Nat->TypeId->AV->Prop
 |0,_,_=>False
 |n+1,t,x=>match P.underlying t with
  |some .bool=>∃b,x=.sb b
  |some (.int k)=>∃i,x=.v (.int k i)/\k.min<=i/\i<=k.max
  |some .string=>∃s,x=.v (.string s)/\s.size<=maxLen
  |some (.slice e)=>∃xs,x=.lst xs/\xs.length<=maxLen/\xs.length<=L/\∀y,y∈xs->TyL P L n e y
  |some (.struct fs)=>∃ys:List AV,ys.length=fs.size/\x=.agg (ys.flatMap AV.cells)/\∀(i:Nat) f y,fs[i]? =some f->ys[i]? =some y->TyL P L n f.type y
  |some (.array m e)=>∃ys:List AV,ys.length=m/\x=.agg (ys.flatMap AV.cells)/\∀y,y∈ys->TyL P L n e y
  |_=>False
theorem TyL.ty{P:Program}{L:Nat}:∀{d:Nat} {t:TypeId} {x:AV},TyL P L d t x->Ty P d t x
 |0,_,_,h=>h
 |d+1,t,x,h=>by
  simp only[TyL]at h;simp only[Ty];cases hu:P.underlying t with
  |none=>simp only[hu]at h
  |some D=>
   simp only[hu]at h⊢;cases D with
   |bool=>exact h
   |int k=>exact h
   |string=>exact h
   |slice e=>
    obtain⟨xs,h1,h2,_,h3⟩:=h;exact⟨xs,h1,h2,fun y hy=>(h3 y hy).ty⟩
   |struct fs=>
    obtain⟨ys,h1,h2,h3⟩:=h;exact⟨ys,h1,h2,fun i f y hf hy=>(h3 i f y hf hy).ty⟩
   |array m e=>
    obtain⟨ys,h1,h2,h3⟩:=h;exact⟨ys,h1,h2,fun y hy=>(h3 y hy).ty⟩
   |_=>exact h.elim
def E4(P:Program):Nat->TypeId->Bool
 |0,_=>false
 |n+1,t=>match P.underlying t with
  |some .bool=>true
  |some (.int _)=>true
  |some .string=>true
  |some (.slice e)=>decide (0<P.cellsOf e)&&(decide (0<P.bytesOf e)&&E4 P n e)
  |some (.struct fs)=>pC P (P.cellsOf t) 0 fs.toList&&fs.toList.all fun f=>E4 P n f.type
  |some (.array m e)=>decide (P.cellsOf t=m*P.cellsOf e)&&E4 P n e
  |_=>false
theorem sM{H:Type}{P:Program}{e:TypeId}:∀{l:List (DataW H)} {x:DataW H} {n:Nat},x∈l->n∈x.weights P e->n∈DataW.weightsAll P e l
 |[],_,_,h,_=>by cases h
 |y::l,x,n,h,hn=>by
  simp only[DataW.weightsAll];rcases aV.1 h with rfl|h
  ·exact cM _ hn
  ·exact fC _ (sM h hn)
theorem vT{H:Type}{P:Program}:∀{ts:List TypeId} {l:List (DataW H)} {i:Nat} {t:TypeId} {x:DataW H} {n:Nat},ts[i]? =some t->l[i]? =some x->n∈x.weights P t->n∈DataW.weightsEach P ts l
 |[],_,_,_,_,_,h,_,_=>by simp at h
 |_::_,[],_,_,_,_,_,h,_=>by simp at h
 |t'::ts,y::l,0,t,x,n,h1,h2,hn=>by
  simp at h1 h2;subst h1;subst h2;simp only[DataW.weightsEach];exact cM _ hn
 |t'::ts,y::l,i+1,t,x,n,h1,h2,hn=>by
  simp only[DataW.weightsEach];exact fC _ (vT (by simpa using h1) (by simpa using h2) hn)
theorem rJ{H:Type}{P:Program}:∀{ts us:List TypeId} {l:List (DataW H)} {n:Nat},n∈DataW.weightsEach P ts l->n∈DataW.weightsEach P (ts++us) l
 |[],_,_,_,h=>by simp[DataW.weightsEach]at h
 |_::_,_,[],_,h=>by simp[DataW.weightsEach]at h
 |t::ts,us,x::l,n,h=>by
  simp only[DataW.weightsEach,fY]at h⊢;rcases aY.1 h with h|h
  ·exact cM _ h
  ·exact fC _ (rJ h)
section
variable {H:Type} {enc:TypeId×Value->H} {P:Program} {w:World} {held:Bool}
theorem rR(L:Nat):∀(d:Nat) {t:TypeId} {fuel:Nat} {cs:List Value} {x:DataW H×List MemPlace},E4 P d t=true->(∀n,n∈x.1.weights P t->n<=L)->DataW.trod enc P w 0 (fun _=>true) held fuel t cs=some x->
  ∃a,TyL P L d t a/\RL NoE w jO a.cells cs.toArray
 |0,t,fuel,cs,x,ht,_,_=>by simp[E4]at ht
 |d+1,t,fuel,cs,x,ht,hL,h=>by
  simp only[E4]at ht;simp only[TyL];cases hu:P.underlying t with
  |none=>simp[hu]at ht
  |some D=>
   simp only[hu]at ht⊢;cases D with
   |bool=>
    obtain⟨b,rfl,_⟩:=DataW.trod_bool hu h;exact⟨.sb b,⟨b,rfl⟩,RL.one (.sb b)⟩
   |int k=>
    obtain⟨n,rfl,_,hw⟩:=DataW.trod_int hu h;simp only[Lit.wf,aJ,aM]at hw;exact⟨.v (.int k n),⟨n,rfl,hw⟩,RL.one (.v _)⟩
   |string=>
    obtain⟨s,rfl,_,hs⟩:=DataW.trod_string hu h;exact⟨.v (.string s),⟨s,rfl,hs⟩,RL.one (.v _)⟩
   |slice e=>
    simp only[aJ,aM]at ht;rcases DataW.trod_slice hu h with⟨rfl,_⟩|⟨a,len,cap,elems,rest,n,_,rfl,hx,hb,hlc,hcm,hel,hget,_,_⟩
    ·exact⟨.lst [],⟨[],rfl,by simp,by simp,fun y hy=>by simp at hy⟩,RL.one (.lnil none 0)⟩
    ·subst hx;have hwt:∀n,n∈(elems.length+rest.length)*P.bytesOf e::(DataW.weightsAll P e (elems.map (·.1))++DataW.weightsAll P e (rest.map (·.1)))->n<=L:=fun n hn=>hL n (by simp only[DataW.weights,hu,aA];exact hn);have hle:elems.length<=L:=by
      have h1:=hwt _ (List.mem_cons_self ..);have h2:(elems.length+rest.length)*1<=(elems.length+rest.length)*P.bytesOf e:=dY _ ht.2.1;omega
     have each:∀i,i<len->∃y,TyL P L d e y/\∃cs',w.cells? 0 (a.add (i*P.cellsOf e)) (P.cellsOf e)=some cs'/\RL NoE w jO y.cells cs'.toArray:=by
      intro i hi;have hx:=hget i hi;rw[aE (show i<elems.length by omega),Option.bind_eq_some_iff]at hx;obtain⟨cs',h1,h2⟩:=hx;obtain⟨y,h3,h4⟩:=rR L d ht.2.2 (fun n hn=>hwt n (aS _ (cM _ (sM (eU (cX (show i<elems.length by omega))) hn)))) h2;exact⟨y,h3,cs',h1,h4⟩
     obtain⟨ys,l1,l2⟩:=Rl each;refine⟨.lst ys,⟨ys,rfl,by omega,by omega,fun y hy=>?_⟩,RL.one ?_⟩
     ·obtain⟨i,hi⟩:=List.getElem?_of_mem hy;exact(l2 i y hi).1
     ·rcases cK len with h0|h0
      ·have:ys=[]:=eC zo;subst this;subst h0;exact .lnil _ _
      ·have hcell:∀(i:Nat) y (j:Nat) c,ys[i]? =some y->y.cells[j]? =some c->∃u,w.cell? ((a.add (i*P.cellsOf e)).add j)=some u/\Rel NoE w jO c u:=by
        intro i y j c hy hc;obtain⟨_,cs',c1,c2⟩:=l2 i y hy;obtain⟨_,c3,c4⟩:=World.cells?_some c1;have hj:j<y.cells.length:=(aP.1 hc).1;have hj':j<cs'.length:=by have:=c2.1;simp at this;omega
        rw[c4 j zo,aE hj'];exact⟨_,rfl,c2.2 j c _ hc (by simp[hj'])⟩
       have hlenc:∀(i:Nat) y,ys[i]? =some y->y.cells.length=P.cellsOf e:=by
        intro i y hy;obtain⟨_,cs',c1,c2⟩:=l2 i y hy;obtain⟨_,c3,c4⟩:=World.cells?_some c1;have:=c2.1;simp at this;omega
       have h00:ys[0]? =some (ys[0]'zo):=aE _;have hc0:((ys[0]'zo).cells)[0]? =some (((ys[0]'zo).cells)[0]'(by rw[hlenc 0 _ h00];exact ht.1)):=aE _;obtain⟨u0,hu0,_⟩:=hcell 0 _ 0 _ h00 hc0;have hs:a.spot=none:=by
        simp only[fL,Addr.add,if_true]at hu0;cases hsp:a.spot with
        |none=>rfl
        |some k=>
         unfold World.cell? at hu0;rw[hsp]at hu0;split at hu0
         ·simp at hu0
         ·cases hu0
       obtain⟨b,off,spot⟩:=a;simp only at hs;subst hs;have hadd:∀i j:Nat,((⟨b,off,none⟩:Addr).add (i*P.cellsOf e)).add j=⟨b,off+i*P.cellsOf e+j,none⟩:=by
        intro i j;simp only[Addr.add];by_cases h1:i*P.cellsOf e=0<;>by_cases h2:j=0<;>simp[h1,h2]
       refine .lst ys b off len cap (P.cellsOf e) (fun hh=>hh) ?_ l1.symm hlc hlenc (fun i j=>(w.cell? ⟨b,off+i*P.cellsOf e+j,none⟩).getD (.bool false)) (fun i y j c hy hc=>?_) (fun i y j c hy hc=>?_)
       ·rw[hadd]at hu0;exact nP (a:=⟨b,_,none⟩) (by rw[hu0];rfl)
       ·obtain⟨u,e1,_⟩:=hcell i y j c hy hc;rw[hadd]at e1;rw[e1];rfl
       ·obtain⟨u,e1,e2⟩:=hcell i y j c hy hc;rw[hadd]at e1;simp only[e1,cY];exact e2
   |struct fs=>
    simp only[aJ,bP]at ht;obtain⟨xs,n,_,hxe,hl,hxl,hf⟩:=DataW.trod_struct hu h;subst hxe;obtain⟨ys,a1,a2,a3⟩:=Y2 (w:=w) (cs:=cs) (Q:=fun f y=>TyL P L d f.type y) (aO _) hl ht.1 (fun f hf'=>by
     obtain⟨i,hi⟩:=List.getElem?_of_mem hf';have hi':fs[i]? =some f:=by simpa using hi
     have hlt:i<fs.size:=(eZ.1 hi').1;have e1:=hf i f hi';rw[aE (show i<xs.length by omega)]at e1;exact rR L d (ht.2 f hf') (fun n hn=>hL n (by simp only[DataW.weights,hu];exact vT (t:=f.type) (i:=i) (by simp[hi]) (by rw[bO,aE (show i<xs.length by omega)];rfl) hn)) e1)
    refine⟨.agg (ys.flatMap AV.cells),⟨ys,by simpa using a1,rfl,fun i f y hfi hy=>a3 i f y (by simpa using hfi) hy⟩,?_⟩;simpa[AV.cells]using a2
   |array m e=>
    simp only[aJ,aM]at ht;obtain⟨xs,n,_,hxe,hl,hlx,hf⟩:=DataW.trod_array hu h;subst hxe;obtain⟨ys,a1,a2,a3⟩:=aDM (w:=w) (cs:=cs) (Q:=fun y=>TyL P L d e y) (hl.trans ht.1) (fun i hi=>by
     have e1:=hf i hi;rw[aE (show i<xs.length by omega)]at e1;exact rR L d ht.2 (fun n hn=>hL n (by simp only[DataW.weights,hu];exact sM (eU (cX (show i<xs.length by omega))) hn)) e1)
    exact⟨.agg (ys.flatMap AV.cells),⟨ys,a1,rfl,a3⟩,a2⟩
   |_=>simp at ht
theorem R5(L:Nat){d:Nat}{t:TypeId}{v:Value}{x:DataW H}{ps:List MemPlace}{base:Nat}(ht:E4 P d t=true)(hL:∀n,n∈x.weights P t->n<=L)(hval:Value.okWide P w .any base t v)(h:DataW.Trod enc P w 0 (fun _=>true) held t v x ps):
  ∃a,TyL P L d t a/\Rel NoE w jO a v:=by
 obtain⟨fuel,hf⟩:=h;obtain⟨a,h1,h2⟩:=rR L d ht hL hf;refine⟨a,h1,?_⟩;have single:∀{u:Value},v=u->u.cells=#[u]->a.cells=[a]->Rel NoE w jO a v:=by
  rintro u rfl e1 e2
  rw[e1,e2]at h2;exact h2.2 0 a v rfl rfl
 cases d with
 |zero=>exact h1.elim
 |succ d=>
  simp only[TyL]at h1;cases hu:P.underlying t with
  |none=>simp[hu]at h1
  |some D=>
   simp only[hu]at h1;cases D with
   |bool=>
    obtain⟨b,rfl⟩:=h1;obtain⟨b',hv⟩:=okWide_bool hu hval;exact single hv rfl rfl
   |int k=>
    obtain⟨b,rfl,_⟩:=h1;obtain⟨b',hv⟩:=okWide_int hu hval;exact single hv rfl rfl
   |string=>
    obtain⟨b,rfl,_⟩:=h1;obtain⟨b',hv⟩:=okWide_string hu hval;exact single hv rfl rfl
   |slice e=>
    obtain⟨b,rfl,_⟩:=h1;obtain⟨_,_,_,hv⟩:=okWide_slice hu hval;exact single hv rfl rfl
   |struct fs=>
    obtain⟨ys,_,rfl,_⟩:=h1;obtain⟨cs,rfl,_⟩:=okWide_struct hu hval;exact .agg _ _ (by simpa[AV.cells,Value.cells]using h2.1) (by simpa[AV.cells,Value.cells]using h2.2)
   |array m e=>
    obtain⟨ys,_,rfl,_⟩:=h1;simp only[Value.okWide,hu]at hval;obtain⟨cs,rfl,_⟩:=hval;exact .agg _ _ (by simpa[AV.cells,Value.cells]using h2.1) (by simpa[AV.cells,Value.cells]using h2.2)
   |_=>exact h1.elim
def Xi(P:Program)(L d:Nat):List TypeId->List AV->Prop
 |[],[]=>True
 |t::ts,a::qs=>TyL P L d t a/\Xi P L d ts qs
 |_,_=>False
theorem Ej(L:Nat){d base:Nat}:∀{ts:List TypeId} {vs:List Value} {xs:List (DataW H)} {ps:List MemPlace},(ts.all fun t=>E4 P d t)=true->(∀n,n∈DataW.weightsEach P ts xs->n<=L)->
  (∀(j:Nat) t v,ts[j]? =some t->vs[j]? =some v->Value.okWide P w .any base t v)->DataW.TrodAll enc P w 0 (fun _=>true) held ts vs xs ps->
  ∃qs,Xi P L d ts qs/\RL NoE w jO qs vs.toArray
 |[],vs,xs,ps,_,_,_,h=>by
  match vs,xs,h with
  |[],[],h=>exact⟨[],trivial,⟨rfl,fun i x y hx=>by simp at hx⟩⟩
 |t::ts,vs,xs,ps,ht,hL,hval,h=>by
  match vs,xs,h with
  |v::vs,x::xs,h=>
   obtain⟨p,q,h1,h2,rfl⟩:=h;simp only[eX,aJ]at ht;obtain⟨a,a1,a2⟩:=R5 L ht.1 (fun n hn=>hL n (by simp only[DataW.weightsEach];exact cM _ hn)) (hval 0 t v rfl rfl) h1;obtain⟨qs,b1,b2⟩:=Ej L (base:=base) ht.2 (fun n hn=>hL n (by simp only[DataW.weightsEach];exact fC _ hn)) (fun j t v hj hv=>hval (j+1) t v hj hv) h2;exact⟨a::qs,⟨a1,b1⟩,RL.app (RL.one a2) b2⟩
theorem Ko(L:Nat){f:FuncId}{fn:Func}{s:ChangeSpec}{d base:Nat}{t:TypeId}(hl:laidOutB P=true)(hp:O2 P fn.params.toList=true)(hty:(fn.params.toList.all fun t=>E4 P d t)=true)(hv:s.vars=[])
  (hr:fn.resultTypes=#[t])(ht:P.underlying t=some .bool)(hs:∀ds:List (DataW H),ds.length=fn.params.size->s.fn H ds={results:=[.lit (.bool true)],args:=ds})
  (hc:∀qs,Xi P L d fn.params.toList qs->ACall P f qs [] fun r _=>r=.sb true\/r=.v (.bool true))
  {W:World}(hg:GlobOk NoE W){args:Array Value}{ds gs:List (DataW H)}{before:List MemPlace}(hval:∀(j:Nat) t v,fn.params[j]? =some t->args[j]? =some v->Value.okWide P W .any base t v)
  (hW:DataW.Whole enc P fn.params.toList s.vars false W args.toList ds gs before)(hwt:(DataW.weightsEach P (fn.params.toList++s.plain.varTypes P) (ds++gs)).all (· <=L)=true):
  Calls P f args W fun e W'=>∃v,e=.returned v/\s.post enc P fn false true false false W args v W':=by
 have hW1:=hW;obtain⟨pa,pv,hA,hV,hps,_,_⟩:=hW;have hgs:gs=[]:=by
  rw[hv]at hV;obtain⟨rfl,rfl⟩:=trodVars_none hV;rfl
 subst hgs;obtain⟨qs,h1,h2⟩:=Ej L (d:=d) (base:=base) hty (fun n hn=>by
  have h1:=bP.1 hwt n (by rw[bI];exact rJ hn);simpa using h1) (fun j t v hj hv=>hval j t v (by simpa using hj) (by simpa using hv)) hA
 have hlen:∀{ts:List TypeId} {vs:List Value} {xs:List (DataW H)} {ps:List MemPlace},DataW.TrodAll enc P W 0 (fun _=>true) true ts vs xs ps->xs.length=ts.length:=by
  intro ts
  induction ts with
  |nil=>intro vs xs ps h;match vs,xs,h with|[],[],_=>rfl
  |cons t ts ih=>
   intro vs xs ps h
   match vs,xs,h with
   |v::vs,x::xs,h=>
    obtain⟨p,q,_,h2,_⟩:=h;simp[ih h2]
 have hl2:=hlen hA;refine(ACall.law (hc qs h1) hg (show RL NoE W jO qs args by simpa using h2)).mono ?_
 rintro e W' ⟨rfl,hst⟩
 exact⟨_,rfl,aBY hW1 hst hl hp hv (by rw[bI];exact hs ds (by simpa using hl2)) hr ht⟩
end
end Go.Vm
namespace Go.Proofs.YtnomkooikbhgmaaGreatDoor
open Go Go.Vm
def aRV:Ctx:={N:=8,np:=1,own:=oz [11]}
abbrev aOg:=ofD aRV Tryz.func46
def A4:Sched:=ln [18,21,23,25,26,29,30,32,35,36]
def B4:Sched:=lz [11] (.wch 6 (.alt 7 A4 (.alt 9 (ln [14,21,23,25,26,29,30,32,35,36]) Aa)))
def Bc:Sched:=lz [8,11] (.wch 6 A4)
def B0:Sched:=lz [21,23,25] (.alt 2 (ln [11,13,26,29,30,32,35,36]) (.alt 13 (ln [4,11,13,29,30,32,35,36]) Aa))
def Cc:Sched:=.alt 2 (lz [11] (.wch 6 A4)) (.alt 9 B0 Aa)
def A7:Sched:=ln [26,29,32,35,37,39,40,43,44,46,49,50]
def Bh:Sched:=lz [18,21] (.wch 11 A7)
def A5:Sched:=ln [32,35,37,39,40,43,44,46,49,50]
def B7:Sched:=.alt 7 (lz [21] (.wch 11 A5)) (.alt 16 (ln [35,37,14,21,23,39,40,43,44,46,49,50]) Aa)
def Ck:Sched:=.alt 7 (lz [21] (.wch 11 A7)) (.alt 13 (lz [29] B7) Aa)
def Cu:Sched:=lz [11] (.wch 6 (.alt 7 Bh (.alt 9 Ck Aa)))
def Bw:Sched:=lz [8,11] (.wch 6 Bh)
def Bu:Sched:=.alt 2 (ln [11,13,40,43,44,46,49,50]) (.alt 20 (ln [4,11,13,43,44,46,49,50]) Aa)
def Cd:Sched:=.alt 2 (lz [11] (.wch 6 A5)) (.alt 16 (lz [35,37,39] Bu) Aa)
def Co:Sched:=lz [21] (.wch 11 (.alt 2 (lz [11] (.wch 6 A7)) (.alt 13 (lz [29] Cd) Aa)))
def Cx:Sched:=.alt 2 (lz [11] (.wch 6 Bh)) (.alt 9 Co Aa)
def Az:Sched:=.wch 6 (ln [16,19,20,22,25,26])
def Ar:Sched:=ln [36,39,41,43,44,46,49,50]
def Bb:Sched:=lz [28,31] (.wch 16 Ar)
def B2:Sched:=.alt 12 (lz [31] (.wch 16 Ar)) (.alt 18 (ln [39,41,24,31,33,43,44,46,49,50]) Aa)
def Ci:Sched:=lz [21] (.wch 11 (.alt 12 Bb (.alt 14 B2 Aa)))
def Bg:Sched:=.wch 11 Bb
def Cr:Sched:=.alt 9 Ci (.alt 12 (lz [18,21] Bg) Aa)
def B8:Sched:=lz [31] (.wch 16 (.alt 7 (lz [21] (.wch 11 Ar)) (.alt 18 (ln [39,41,14,21,23,43,44,46,49,50]) Aa)))
def Cl:Sched:=.alt 7 (lz [21] Bg) (.alt 14 B8 Aa)
def Cv:Sched:=.alt 7 (lz [18,21] Bg) (.alt 9 Cl Aa)
def Cy:Sched:=.alt 6 Cr (.alt 12 (lz [12,18,21] Bg) Aa)
def C0:Sched:=.alt 6 Cv (.alt 7 (lz [12,18,21] Bg) Aa)
def Bt:Sched:=lz [6,9,12,18,21] Bg
def A1:Sched:=ln [36,40,43,45,47,48,50,53,54]
def A9:Sched:=.wch 16 A1
def Au:Sched:=ln [40,43,45,47,48,50,53,54]
def B3:Sched:=.alt 12 (lz [31] (.wch 16 Au)) (.alt 20 (ln [43,45,24,31,33,47,48,50,53,54]) Aa)
def Cf:Sched:=.alt 12 (lz [31] A9) (.alt 18 B3 Aa)
def Cm:Sched:=.alt 12 (lz [28,31] A9) (.alt 14 Cf Aa)
def Bf:Sched:=lz [20,23,28,31] A9
def Cw:Sched:=lz [15] (.wch 8 (.alt 10 (lz [23] Cm) (.alt 12 Bf Aa)))
def Bm:Sched:=.wch 8 Bf
def C1:Sched:=.alt 6 Cw (.alt 12 (lz [12,15] Bm) Aa)
def B1:Sched:=.alt 4 (lz [15] (.wch 8 Au)) (.alt 20 (ln [43,45,8,15,17,47,48,50,53,54]) Aa)
def Ch:Sched:=lz [31] (.wch 16 (.alt 4 (lz [15] (.wch 8 A1)) (.alt 18 B1 Aa)))
def Cq:Sched:=.alt 4 (lz [15] (.wch 8 (lz [28,31] A9))) (.alt 14 Ch Aa)
def Cz:Sched:=.alt 4 (lz [15] Bm) (.alt 10 (lz [23] Cq) Aa)
def C2:Sched:=.alt 4 (lz [12,15] Bm) (.alt 6 Cz Aa)
def Al:Sched:=lp 6 [12,14,17,18]
def A6:Sched:=ln [26,30,33,35,37,39,40,42,45,46]
def Bd:Sched:=lz [18,21] (.wch 11 A6)
def A2:Sched:=ln [30,33,35,37,39,40,42,45,46]
def B6:Sched:=.alt 7 (lz [21] (.wch 11 A2)) (.alt 15 (ln [33,35,37,14,21,23,39,40,42,45,46]) Aa)
def Cg:Sched:=.alt 7 (lz [21] (.wch 11 A6)) (.alt 13 B6 Aa)
def Cp:Sched:=lz [11] (.wch 6 (.alt 7 Bd (.alt 9 Cg Aa)))
def Bp:Sched:=lz [8,11] (.wch 6 Bd)
def B5:Sched:=.alt 2 (lz [11] (.wch 6 A2)) (.alt 15 (ln [33,35,37,4,11,13,39,40,42,45,46]) Aa)
def Cj:Sched:=lz [21] (.wch 11 (.alt 2 (lz [11] (.wch 6 A6)) (.alt 13 B5 Aa)))
def Ct:Sched:=.alt 2 (lz [11] (.wch 6 Bd)) (.alt 9 Cj Aa)
def gnSpo:Ctx:={N:=272,np:=1,own:=oz [44,11,47,48,45,46],plan:=p1 6 (lz [1,7,17] (.wch 1 (.alt 2 (.alt 4 B4 (.alt 7 Bc Aa)) (.alt 4 (.alt 2 B4 (.alt 7 Cc (.alt 9 (.alt 2 (ln [11,13,14,21,23,25,26,29,30,32,35,36]) (.alt 7 B0 Aa)) Aa))) (.alt 7 (.alt 2 Bc (.alt 4 Cc Aa)) Aa))))) (p1 9 (lz [1,11,19] (.wch 1 (lz [5,7] (.wch 4 (.alt 6 (lz [15] (.alt 8 (ln [20,23,25,27,29,30]) (.alt 10 (ln [16,23,25,27,29,30]) Aa))) (.alt 8 (ln [12,15,20,23,25,27,29,30]) Aa)))))) (p1 11 (lz [1,7,17,25,31] (.wch 1 (.alt 2 (.alt 4 Cu (.alt 7 Bw Aa)) (.alt 4 (.alt 2 Cu (.alt 7 Cx (.alt 9 (.alt 2 (lz [11] (.wch 6 Ck)) (.alt 7 Co (.alt 13 (lz [29] (.alt 2 (lz [11] (.wch 6 B7)) (.alt 7 (lz [21] (.wch 11 Cd)) (.alt 16 (lz [35,37] (.alt 2 (ln [11,13,14,21,23,39,40,43,44,46,49,50]) (.alt 7 (lz [21,23,39] Bu) Aa))) Aa)))) Aa))) Aa))) (.alt 7 (.alt 2 Bw (.alt 4 Cx Aa)) Aa))))) (p1 13 (lz [1,7] (.wch 1 (.alt 2 (ln [8,11,13,15,16,19,20,22,25,26]) (.alt 4 (ln [4,11,13,15,16,19,20,22,25,26]) Aa)))) (p1 15 (lz [1,7,15] (.wch 1 (.alt 2 (lz [8,11] Az) (.alt 4 (.alt 2 (lz [11] Az) (.alt 8 (ln [4,11,13,19,20,22,25,26]) Aa)) Aa)))) (p1 17 (lz [1,5,11,17,27,35] (.wch 1 (.alt 3 (lz [9] (.alt 6 (.alt 7 Cr (.alt 9 (.alt 7 Ci (.alt 12 Cl (.alt 14 (.alt 7 (lz [21] (.wch 11 B2)) (.alt 12 B8 (.alt 18 (lz [39,41] (.alt 7 (ln [21,23,24,31,33,43,44,46,49,50]) (.alt 12 (ln [31,33,14,21,23,43,44,46,49,50]) Aa))) Aa))) Aa))) (.alt 12 Cv Aa))) (.alt 7 Cy (.alt 12 C0 Aa)))) (.alt 7 (.alt 3 (lz [9] Cy) (.alt 12 Bt Aa)) (.alt 12 (.alt 3 (lz [9] C0) (.alt 7 Bt Aa)) Aa))))) (p1 20 (lz [1,7] (.wch 1 (.alt 2 (ln [8,11,13,15,17,18]) (.alt 4 (ln [4,11,13,15,17,18]) Aa)))) (p1 25 (lz [1,5,11,19,27,35,39] (.wch 1 (.alt 3 (.alt 4 C1 (.alt 6 (.alt 4 Cw (.alt 10 (lz [23] (.alt 4 (lz [15] (.wch 8 Cm)) (.alt 12 Cq (.alt 14 (.alt 4 (lz [15] (.wch 8 Cf)) (.alt 12 Ch (.alt 18 (.alt 4 (lz [15] (.wch 8 B3)) (.alt 12 (lz [31] (.wch 16 B1)) (.alt 20 (lz [43,45] (.alt 4 (ln [15,17,24,31,33,47,48,50,53,54]) (.alt 12 (ln [31,33,8,15,17,47,48,50,53,54]) Aa))) Aa))) Aa))) Aa)))) (.alt 12 Cz Aa))) (.alt 12 C2 Aa))) (.alt 4 (.alt 3 C1 (.alt 12 (lz [6,12,15] Bm) Aa)) (.alt 12 (.alt 3 C2 (.alt 4 (lz [6,12,15] Bm) Aa)) Aa))))) (p1 28 Al (p1 30 (lz [1,7,17,25,29] (.wch 1 (.alt 2 (.alt 4 Cp (.alt 7 Bp Aa)) (.alt 4 (.alt 2 Cp (.alt 7 Ct (.alt 9 (.alt 2 (lz [11] (.wch 6 Cg)) (.alt 7 Cj (.alt 13 (.alt 2 (lz [11] (.wch 6 B6)) (.alt 7 (lz [21] (.wch 11 B5)) (.alt 15 (lz [33,35,37] (.alt 2 (ln [11,13,14,21,23,39,40,42,45,46]) (.alt 7 (ln [21,23,4,11,13,39,40,42,45,46]) Aa))) Aa))) Aa))) Aa))) (.alt 7 (.alt 2 Bp (.alt 4 Ct Aa)) Aa))))) (p1 33 Al pn)))))))))),hints:=h1 6 [.flatB 5 0] (h1 11 [.flatB 5 0] (h1 13 [.flatB 5 0] (h1 15 [.flatB 5 0] (h1 17 [.flatB 5 0] (h1 19 [.flatB 5 0] (h1 22 [.flatB 5 0] (h1 25 [.flatB 5 0] (h1 27 [.flatB 5 0] (h1 30 [.flatB 5 0] (h1 32 [.flatB 5 0] (h1 3 [.flatB 5 0] (h1 37 [.flatB 5 0] hn))))))))))))}
def aLT:Ctx:={N:=88}
abbrev aGK:=ofD aLT Tryz.func13
def aRX:Ctx:={N:=92,np:=2,own:=oz [11,139],plan:=p1 1 (lz [1,7,9,15,17,23,25] (.wch 5 (.wch 9 (.wch 13 (.alt 1 (lz [5] (.alt 6 (.alt 10 (.alt 14 (ln [31,32,34]) (.alt 16 (ln [28,31,34]) Aa)) (.alt 16 (ln [20,28,31,34]) Aa)) (.alt 16 (ln [12,20,28,31,34]) Aa))) (.alt 16 (ln [2,5,12,20,28,31,34]) Aa)))))) (p1 3 (lz [1,3,5,9,11,17] (.wch 6 (ln [6,14,18,21,22,25,26]))) (p1 8 (lz [1,5,7,9,11] (.wch 1 (ln [12,15,17,19,21,22]))) pn)),cut:=oz [4,7,9]}
abbrev aOi:=ofD aRX Tryz.func71
def A8:Sched:=.wch 6 (ln [16,19,36,39,41,42,44,47,48])
def aRT:Ctx:={N:=260,np:=1,own:=oz [11,68,69,70,71,48],plan:=p1 36 (lz [1,5] (.wch 1 (ln [6,9,10,12,15,16]))) (p1 40 (lz [1,5,7,9] (.wch 1 (ln [10,12,14,17,18]))) (p1 43 (lz [1,7,15,21,31,35] (.wch 1 (.wch 11 (lz [25,27] (.wch 14 (.wch 16 (.alt 2 (lz [8,11] A8) (.alt 4 (.alt 2 (lz [11] A8) (.alt 8 (lz [19] (.alt 2 (lz [11] (.wch 6 (ln [36,39,41,42,44,47,48]))) (.alt 18 (ln [39,4,11,13,41,42,44,47,48]) Aa))) Aa)) Aa)))))))) (p1 46 (lz [1,5,9,17] (.wch 1 (.wch 3 (lz [11,13] (.wch 7 (ln [18,21,23,25,27,28,30,33,34])))))) pn))),hints:=h1 2 [.virtB 7 0 2,.virtB 7 1 2,.virtB 7 2 2] (h1 6 [.virtB 9 1 7] (h1 16 [.freezeB 9] (h1 21 [.virtB 14 1 7] (h1 34 [.freezeB 14] (h1 37 [.freezeB 7,.virtB 7 3 10] (h1 41 [.virtB 7 4 6,.virtB 7 5 5] hn)))))),cut:=oz [13,15,31,33,37,44,47]}
abbrev aOe:=ofD aRT Tryz.func25
def aFm:Ctx:={N:=35}
abbrev aCo:=ofD aFm Tryz.func64
def aFn:Ctx:={N:=49,hints:=h1 4 [.virt 5 1] hn}
abbrev aCp:=ofD aFn Tryz.func20
def aFi:Ctx:={N:=18}
abbrev aCk:=ofD aFi Tryz.func294
def aFg:Ctx:={N:=103,np:=3,own:=oz [245],plan:=p1 13 (lp 6 [12,14,17,19,20]) (p1 14 (lp 6 [12,15]) pn),hints:=h1 1 [.renewB 0 1,.renewB 0 2] (h1 6 [.freeze 3] hn),cut:=oz [13],out:=true,lend:=oz [294]}
abbrev D9:=ofD aFg Tryz.func245
def aBr:Ctx:={N:=28,own:=oz [245],hints:=h1 5 [.virtB 9 1 1,.virtB 9 2 7] hn}
abbrev Yo:=ofD aBr Tryz.func178
def aFf:Ctx:={N:=33,plan:=p1 5 (lz [1,3,5,7,9,11,13,15,17] (.alt 9 (ln [21,23,25,26,28,31]) (.alt 13 (ln [18,21,23,25,28,31]) Aa))) pn,hints:=h1 2 [.virt 5 2] hn}
abbrev aCi:=ofD aFf Tryz.func176
def aFb:Ctx:={N:=17,hints:=h1 2 [.virt 3 1] hn}
abbrev aCe:=ofD aFb Tryz.func177
def aFh:Ctx:={N:=78,plan:=p1 4 (ln [1,3,4,6,8,11,13]) (p1 13 (lp 8 [16,18,20,23]) pn),hints:=h1 9 [.virt 10 2] hn}
abbrev aCj:=ofD aFh Tryz.func93
def Bq:Sched:=lz [3] (.alt 0 (ln [4,6,9,11,13,15,17]) (.alt 2 (ln [0,6,9,11,13,15,17]) Aa))
def aFj:Ctx:={N:=26,plan:=p1 4 Bq pn}
abbrev aCl:=ofD aFj Tryz.func180
def aFl:Ctx:={N:=47,hints:=h1 9 [.asL 8] hn}
abbrev aCn:=ofD aFl Tryz.func94
def aFc:Ctx:={N:=41,plan:=p1 9 (lz [1,3,5,7,9,11,13,17] (.alt 7 (ln [18,21,22]) (.alt 9 (ln [15,21,22]) Aa))) pn,hints:=h1 2 [.virt 6 10] hn}
abbrev aCf:=ofD aFc Tryz.func100
def aFk:Ctx:={N:=132}
abbrev aCm:=ofD aFk Tryz.func38
def aFe:Ctx:={N:=21}
abbrev aCh:=ofD aFe Tryz.func95
def Ap:Sched:=lp 8 [16,19,21,23,25,27]
def aFd:Ctx:={N:=162,plan:=p1 6 Ap (p1 12 (lp 7 [14,17,19,21,23,25]) (p1 27 (lp 7 [14,17]) (p1 32 (lp 7 [14,17]) (p1 34 Ap pn))))}
abbrev aCg:=ofD aFd Tryz.func36
def aBq:Ctx:={N:=27,hints:=h1 2 [.virt 5 1] hn}
abbrev Yn:=ofD aBq Tryz.func179
def aFr:Ctx:={N:=9}
abbrev aCr:=ofD aFr Tryz.func174
def aBv:Ctx:={N:=9}
abbrev Ys:=ofD aBv Tryz.func91
def X2:Ctx:={N:=21}
abbrev Ut:=ofD X2 Tryz.func92
def aBt:Ctx:={N:=20}
abbrev Yq:=ofD aBt Tryz.func170
def X1:Ctx:={N:=20}
abbrev Us:=ofD X1 Tryz.func88
def aBu:Ctx:={N:=97}
abbrev Yr:=ofD aBu Tryz.func171
def aBs:Ctx:={N:=73}
abbrev Yp:=ofD aBs Tryz.func86
def aFt:Ctx:={N:=11}
abbrev aCt:=ofD aFt Tryz.func89
def aLO:Ctx:={N:=74}
abbrev aGF:=ofD aLO Tryz.func90
def aFs:Ctx:={N:=161,plan:=p1 6 (lp 6 [12,15,17,19,21,23,25,27,29,31,33,37,34,39,41,43,45,47,49,51,53,55,56,59,61]) pn}
abbrev aCs:=ofD aFs Tryz.func35
def aMr:Ctx:={N:=20,plan:=p1 3 (lz [1,3,7,9,11,13] (.alt 2 (ln [14,16,19,21]) (.alt 7 (.alt 2 (ln [16,19,21]) (.alt 8 (ln [4,19,21]) Aa)) Aa))) pn}
abbrev Wu:=ofD aMr Tryz.func310
def aBx:Ctx:={N:=35,hints:=h1 2 [.virt 5 1] hn}
abbrev L6:=ofD aBx Tryz.func279
def aFy:Ctx:={N:=2}
abbrev aCz:=ofD aFy Tryz.func242
def aMt:Ctx:={N:=19}
abbrev aHj:=ofD aMt Tryz.func280
def aMv:Ctx:={N:=36,plan:=p1 3 (lo 11) pn}
abbrev aHl:=ofD aMv Tryz.func306
def aBy:Ctx:={N:=39,plan:=p1 5 (ln [1,3,7,9,4,10,13,15]) pn}
abbrev Yt:=ofD aBy Tryz.func281
def aFA:Ctx:={N:=32,plan:=p1 4 (ln [1,3,5,9,11,13,15,17,19,6,20,23,25]) pn}
abbrev aCB:=ofD aFA Tryz.func209
def Av:Sched:=ln [1,3,5,9,11,13,6,14,17,19]
def aBA:Ctx:={N:=29,plan:=p1 4 Av pn}
abbrev Yv:=ofD aBA Tryz.func210
def aBz:Ctx:={N:=96,hints:=h1 6 [.virt 4 2] hn}
abbrev Yu:=ofD aBz Tryz.func138
def aMu:Ctx:={N:=10}
abbrev aHk:=ofD aMu Tryz.func293
def aFB:Ctx:={N:=11}
abbrev aCC:=ofD aFB Tryz.func243
def aMw:Ctx:={N:=5}
abbrev aHm:=ofD aMw Tryz.func172
def aFz:Ctx:={N:=70,plan:=p1 16 (ln [1,5,11,13,15,17,19,21,23,25,31,33,35,37,39,41,43,45,47,2,7,9,26,29,48,51,52,54,57]) pn,hints:=h1 6 [.virt 3 1] hn,cut:=oz [16]}
abbrev aCA:=ofD aFz Tryz.func173
def aMs:Ctx:={N:=17}
abbrev aHi:=ofD aMs Tryz.func134
def aSa:Ctx:={N:=47,np:=1,own:=oz [11],plan:=p1 3 (lz [1,3,11,13,4,7] (.wch 4 (ln [14,17,19,20,23]))) (p1 7 (lz [1,3,5,13,15,6,9] (.wch 5 (ln [16,19,21,22,24,27]))) pn)}
abbrev aOl:=ofD aSa Tryz.func70
def aLU:Ctx:={N:=20,np:=1,own:=oz [11]}
abbrev aGL:=ofD aLU Tryz.func139
def aRU:Ctx:={N:=12,np:=1,own:=oz [11]}
abbrev aOf:=ofD aRU Tryz.func26
def aFv:Ctx:={N:=20,np:=1,own:=oz [48]}
abbrev aCu:=ofD aFv Tryz.func69
abbrev aAb(b:Bx):List AV:=[.v (.int .u32 b.r0.lo),.v (.int .u32 b.r0.hi),.v (.int .u32 b.r1.lo),.v (.int .u32 b.r1.hi),.v (.int .u32 b.r2.lo),.v (.int .u32 b.r2.hi),.v (.int .u32 b.r3.lo),.v (.int .u32 b.r3.hi),.v (.int .u32 b.r4.lo),.v (.int .u32 b.r4.hi)]
end Go.Proofs.YtnomkooikbhgmaaGreatDoor
