/- Lemmas. -/
import Derived.Test.YtgicddadddhonaaGreatDoorProg
import Derived.Test.YtgicddadddhonaaGreatDoorM15
set_option linter.unusedVariables false
set_option linter.unusedSimpArgs false
set_option maxRecDepth 100000
set_option maxHeartbeats 4000000
noncomputable section
namespace Go.Proofs.YtgicddadddhonaaGreatDoor
open Go Go.Vm
theorem tV(op op':Bool->Bool->Bool):∀(k:Nat) (a b a' b':List Bx),k<=5->(∀p,InP p->op (jB p k a) (jB p k b)=op' (jB p k a') (jB p k b'))->jH op k a b=jH op' k a' b'
 |0,a,b,a',b',_,h=>by
  have h1:=h _ Jp;rw[oL,oL,oL,oL]at h1;rw[jH,jH,h1]
 |k+1,a,b,a',b',hk,h=>by
  have g:=mU op k a b (mA _ (kF (4-k)).1);have g':=mU op' k a' b' (mA _ (kF (4-k)).1);have part:∀v,0<=v->v<iX (4-k)+1->∀p,InP p->op (jB p k (atF (4-k) v a)) (jB p k (atF (4-k) v b))=op' (jB p k (atF (4-k) v a')) (jB p k (atF (4-k) v b')):=by
   intro v v0 v1 p hp;have hq:InP (fun f=>if f=4-k then v else p f):=fun f=>by
    by_cases e:f=4-k
    ·simp only[e,if_true];omega
    ·simp only[e,if_false];exact hp f
   have h:=h _ hq;rw[pE,pE,pE,pE,aH rfl]at h;have e:∀c:List Bx,jB p k (atF (4-k) v c)=jB (fun f=>if f=4-k then v else p f) k (atF (4-k) v c):=fun c=>oA zo fun f hf h5=>by rw[aF zo]
   rw[e,e,e,e,h]
  have hR:∀v,0<=v->v<iX (4-k)+1->iY op k a b v=iY op' k a' b' v:=fun v v0 v1=>
   tV op op' k _ _ _ _ zo (part v v0 v1)
  rw[kT,kT,(g.congr hR).same g']
theorem lW{p:Nat->Int}{k:Nat}:jB p k []=false:=rfl
theorem Ye(op:Bool->Bool->Bool)(a b:List Bx):jH orB 5 (jH op 5 a b) []=jH op 5 a b:=
 tV orB op 5 _ _ _ _ (aO _) fun p hp=>by rw[pH op hp 5 a b (aO _),lW,orB,fW]
theorem aEj{l:List Bx}(h:okL l):∀x,x∈l->x.ok:=fun x hx=>⟨h x hx 0 zo,h x hx 1 zo,h x hx 2 zo,h x hx 3 zo,h x hx 4 zo⟩
theorem X5{l:List Bx}(h:okL l):kL l=l:=dW.2 fun x hx=>by simpa using aEj h x hx
theorem yA{op:Bool->Bool->Bool}{a b:List Bx}(h:(jH op 5 a b).length<=4096):jW (jH op 5 a b)=true:=by
 have ho:=D8 op a b;unfold jW;rw[X5 ho];simp only[aJ,aL,true_and];refine⟨h,(tU 5 _ (aO _) (fun x hx f hf _=>ho x hx f hf) zo).2 ?_⟩;rw[Ye];exact((eF fun x _=>rC x).trans (List.map_id _)).symm
theorem jP:jW []=true:=by decide+kernel
theorem aEJ(op:Bool->Bool->Bool)(a b:List Bx):jW (nZ (jH op 5 a b))=true:=by
 unfold nZ;split
 ·exact jP
 ·exact yA zo
theorem wX:∀(l s:List Bx),jW s=true->jW (kO s l).1=true
 |[],s,h=>h
 |b::l,s,h=>by
  rw[kO];split
  ·split
   ·exact jP
   ·exact wX l _ (yA (by unfold rI at*;omega))
  ·exact wX l s h
theorem qI(l:List Bx):jW (kX l).1=true:=wX l [] jP
theorem F6(l:List Bx):jW (jK l).1=true:=by
 unfold jK;split
 ·assumption
 ·exact qI l
theorem jV(op:Bool->Bool->Bool)(a b:List Bx):jW (iP op a b).1=true:=by
 unfold iP;split
 ·exact jP
 ·split
  ·exact jP
  ·exact aEJ ..
theorem xK{op:Bool->Bool->Bool}{a b:List Bx}(ha:jW a=true)(hb:jW b=true)(he:(iP op a b).2=0){p:Nat->Int}(hp:InP p):jB p 5 (iP op a b).1=op (jB p 5 a) (jB p 5 b):=by
 rw[rW ha hb]at he⊢;simp only at he⊢;have:(jH op 5 a b).length<=4096:=by
  have:=mt limE_ne.2 (fun h=>h he);omega
 rw[nZ,aF zo,pH op hp 5 a b (aO _)]
theorem Z9(b:Bx)(l:List Bx):kL (b::l)=if b.ok then b::kL l else kL l:=by
 unfold kL;by_cases h:b.ok
 ·rw[gL (by simpa using h),aH h]
 ·rw[List.filter_cons_of_neg (by simpa using h),aF h]
/-! texts in their order -/
def ltS(s t:ByteArray):Bool:=Op.bytesLess s.toList t.toList
theorem Qa:∀(a b:List UInt8),Op.bytesLess a b=true->Op.bytesLess b a=false/\(b==a)=false
 |_,[],h=>by simp[Op.bytesLess]at h
 |[],b::y,_=>by simp[Op.bytesLess]
 |a::x,b::y,h=>by
  simp only[Op.bytesLess,bV,aJ,aL,beq_iff_eq]at h;rcases h with h|⟨rfl,h⟩
  ·have h2:¬b<a:=fun h'=>absurd (UInt8.lt_trans h h') (UInt8.lt_irrefl _);have h3:b≠a:=fun e=>by subst e;exact UInt8.lt_irrefl _ h
   simp[Op.bytesLess,h2,h3]
  ·obtain⟨h1,h2⟩:=Qa x y h;simp only[beq_eq_false_iff_ne,ne_eq]at h2;simp[Op.bytesLess,h1,h2,UInt8.lt_irrefl]
theorem Ig:∀(a b c:List UInt8),Op.bytesLess a b=true->Op.bytesLess b c=true->Op.bytesLess a c=true
 |_,_,[],_,h=>by simp[Op.bytesLess]at h
 |[],_,_::_,_,_=>by simp[Op.bytesLess]
 |_::_,[],_,h,_=>by simp[Op.bytesLess]at h
 |a::x,b::y,c::z,h,h'=>by
  simp only[Op.bytesLess,bV,aJ,aL,beq_iff_eq]at h h'⊢;rcases h with h|⟨rfl,h⟩<;>rcases h' with h'|⟨rfl,h'⟩
  ·exact .inl (UInt8.lt_trans h h')
  ·exact .inl h
  ·exact .inl h'
  ·exact .inr ⟨rfl,Ig x y z h h'⟩
theorem If:∀(a b:List UInt8),Op.bytesLess a b=false->(a==b)=false->Op.bytesLess b a=true
 |[],[],_,h=>by simp at h
 |[],_::_,h,_=>by simp[Op.bytesLess]at h
 |_::_,[],_,_=>by simp[Op.bytesLess]
 |a::x,b::y,h,h'=>by
  simp only[Op.bytesLess,gE,Bool.and_eq_false_iff,decide_eq_false_iff_not,beq_eq_false_iff_ne,ne_eq]at h;simp only[Op.bytesLess,bV,aJ,aL,beq_iff_eq];obtain⟨h1,h2⟩:=h;by_cases e:a=b
  ·subst e;refine .inr ⟨rfl,If x y ?_ ?_⟩
   ·rcases h2 with h2|h2
    ·exact absurd rfl h2
    ·simpa using h2
   ·simpa using h'
  ·refine .inl ?_;have h1':¬a.toNat<b.toNat:=fun h=>h1 (UInt8.lt_iff_toNat_lt.2 h);have:a.toNat≠b.toNat:=fun h=>e (UInt8.toNat_inj.1 h);exact UInt8.lt_iff_toNat_lt.2 zo
/-! the policy of an intent, step by step -/
def Xq(t:Tp)(q:Nat->Int):Prop:=jB q 5 (kL (Fv t.edges))=true/\jB q 5 initS=true
structure AtInv (t:Tp) (rest:List Bx) (p:Pol):Prop where
 rs:jW rest=true
 al:jW p.allow=true
 rr:∀q,InP q->jB q 5 rest=true->Xq t q
 ar:∀q,InP q->jB q 5 p.allow=true->Xq t q
 dj:∀q,InP q->jB q 5 rest=true->jB q 5 p.allow=false
 nm:∀x,x∈p.insp->qF x.cls
 ne:∀x,x∈p.insp->x.set≠[]
 st:∀x,x∈p.insp->jW x.set=true
 sb:∀x,x∈p.insp->∀q,InP q->jB q 5 x.set=true->jB q 5 p.allow=true
 ds:p.insp.Pairwise fun x y=>∀q,InP q->jB q 5 x.set=true->jB q 5 y.set=false
 od:p.insp.Pairwise fun x y=>ltS x.cls y.cls=true
inductive PutR (l:List Insp) (c:ByteArray) (s:List Bx):List Insp->Int->Prop
 |skip:(c.toList=[]\/s=[])->PutR l c s l 0
 |ins (k:Nat):c.toList≠[]->s≠[]->k<=l.length->(∀(j:Nat) y,j<k->l[j]? =some y->ltS y.cls c=true)->(∀y,l[k]? =some y->ltS y.cls c=false/\(y.cls.toList==c.toList)=false)->PutR l c s (l.take k++⟨c,s⟩::l.drop k) 0
 |uni (k:Nat) (y:Insp):c.toList≠[]->s≠[]->l[k]? =some y->(y.cls.toList==c.toList)=true->PutR l c s (l.set k ⟨y.cls,(iP orB y.set s).1⟩) (iP orB y.set s).2
theorem AtInv.permit{t:Tp}{rest s:List Bx}{p:Pol}{c:ByteArray}{l':List Insp}{e:Int}(h:AtInv t rest p)(hs:jW s=true)(hc:c.toList=[]\/qF c)(e1:(iP anB rest s).2=0)
  (e2:(iP woB rest s).2=0)(e3:(iP orB p.allow (iP anB rest s).1).2=0)(hp:PutR p.insp c (iP anB rest s).1 l' e)(he:e=0):
  AtInv t (iP woB rest s).1 ⟨(iP orB p.allow (iP anB rest s).1).1,l'⟩:=by
 have hps:jW (iP anB rest s).1=true:=jV ..;have hpm:∀q,InP q->jB q 5 (iP anB rest s).1=(jB q 5 rest&&jB q 5 s):=fun q hq=>by rw[xK h.rs hs e1 hq];rfl
 have hrm:∀q,InP q->jB q 5 (iP woB rest s).1=(jB q 5 rest&& !jB q 5 s):=fun q hq=>by rw[xK h.rs hs e2 hq];rfl
 have ham:∀q,InP q->jB q 5 (iP orB p.allow (iP anB rest s).1).1=(jB q 5 p.allow||jB q 5 (iP anB rest s).1):=fun q hq=>by rw[xK h.al hps e3 hq];rfl
 have hdis:∀x,x∈p.insp->∀q,InP q->jB q 5 (iP anB rest s).1=true->jB q 5 x.set=false:=fun x hx q hq h1=>by
  rw[hpm q hq]at h1;simp only[aJ]at h1;rw[bY];intro h2;have:=h.dj q hq h1.1;rw[h.sb x hx q hq h2]at this;cases this
 have hsb:∀x,x∈p.insp->∀q,InP q->jB q 5 x.set=true->jB q 5 (iP orB p.allow (iP anB rest s).1).1=true:=fun x hx q hq h1=>by
  rw[ham q hq,h.sb x hx q hq h1];rfl
 have hpb:∀q,InP q->jB q 5 (iP anB rest s).1=true->jB q 5 (iP orB p.allow (iP anB rest s).1).1=true:=fun q hq h1=>by rw[ham q hq,h1,Bool.or_true]
 have f1:jW (iP woB rest s).1=true:=jV ..;have f2:jW (iP orB p.allow (iP anB rest s).1).1=true:=jV ..;have f3:∀q,InP q->jB q 5 (iP woB rest s).1=true->Xq t q:=fun q hq h1=>by
  rw[hrm q hq]at h1;simp only[aJ]at h1;exact h.rr q hq h1.1
 have f4:∀q,InP q->jB q 5 (iP orB p.allow (iP anB rest s).1).1=true->Xq t q:=fun q hq h1=>by
  rw[ham q hq,hpm q hq]at h1;simp only[bV,aJ]at h1;rcases h1 with h1|h1
  ·exact h.ar q hq h1
  ·exact h.rr q hq h1.1
 have f5:∀q,InP q->jB q 5 (iP woB rest s).1=true->jB q 5 (iP orB p.allow (iP anB rest s).1).1=false:=fun q hq h1=>by
  rw[hrm q hq]at h1;simp only[aJ,dX]at h1;rw[ham q hq,hpm q hq,h.dj q hq h1.1,h1.2,Bool.and_false];rfl
 cases hp with
 |skip h0=>exact⟨f1,f2,f3,f4,f5,h.nm,h.ne,h.st,hsb,h.ds,h.od⟩
 |ins k h0 h1 hk hlt hge=>
  have hmem:∀x,x∈p.insp.take k++⟨c,(iP anB rest s).1⟩::p.insp.drop k->x∈p.insp\/x=⟨c,(iP anB rest s).1⟩:=fun x hx=>by
   rcases aX.1 hx with hx|hx
   ·exact .inl (cP hx)
   ·rcases aZ.1 hx with hx|hx
    ·exact .inr hx
    ·exact .inl (dZ hx)
  have hall:∀(Q:Insp->Prop),(∀x,x∈p.insp->Q x)->Q ⟨c,(iP anB rest s).1⟩->∀x,x∈p.insp.take k++⟨c,(iP anB rest s).1⟩::p.insp.drop k->Q x:=fun Q g1 g2 x hx=>by
   rcases hmem x hx with hx|rfl
   ·exact g1 x hx
   ·exact g2
  have hpw:∀(R:Insp->Insp->Prop),p.insp.Pairwise R->(∀x,x∈p.insp.take k->R x ⟨c,(iP anB rest s).1⟩)->(∀x,x∈p.insp.drop k->R ⟨c,(iP anB rest s).1⟩ x)->(p.insp.take k++⟨c,(iP anB rest s).1⟩::p.insp.drop k).Pairwise R:=fun R g g1 g2=>by
   rw[<-cU k p.insp]at g;rw[dN]at g⊢;refine⟨g.1,cG.2 ⟨g2,g.2.1⟩,fun a ha b hb=>?_⟩;rcases aZ.1 hb with rfl|hb
   ·exact g1 a ha
   ·exact g.2.2 a ha b hb
  refine⟨f1,f2,f3,f4,f5,hall _ h.nm (hc.resolve_left h0),hall (fun x=>x.set≠[]) h.ne h1,hall (fun x=>jW x.set=true) h.st hps,hall (fun x=>∀q,InP q->jB q 5 x.set=true->_) hsb hpb,?_,?_⟩
  ·refine hpw _ h.ds (fun x hx q hq h2=>?_) (fun x hx q hq h2=>hdis x (dZ hx) q hq h2);rw[bY];intro h3;rw[hdis x (cP hx) q hq h3]at h2;cases h2
  ·refine hpw _ h.od (fun x hx=>?_) (fun x hx=>?_)
   ·obtain⟨j,hj⟩:=bH.1 hx;rw[cZ]at hj;split at hj
    ·exact hlt j x zp hj
    ·cases hj
   ·obtain⟨j,hj⟩:=bH.1 hx;rw[cJ]at hj;obtain⟨y,hy⟩:∃y,p.insp[k]? =some y:=⟨_,aE (by have:=(aP.1 hj).1;omega)⟩
    obtain⟨g1,g2⟩:=hge y hy;have hcy:ltS c y.cls=true:=If _ _ g1 g2;rcases cV j with rfl|hj0
    ·rw[eN,hy]at hj;cases hj;exact hcy
    ·have:=dL.1 h.od k (k+j) (aP.1 hy).1 (aP.1 hj).1 zo;rw[(aP.1 hy).2,(aP.1 hj).2]at this;exact Ig _ _ _ hcy this
 |uni k y h0 h1 hk hy=>
  have hym:y∈p.insp:=aG hk;have hum:∀q,InP q->jB q 5 (iP orB y.set (iP anB rest s).1).1=(jB q 5 y.set||jB q 5 (iP anB rest s).1):=fun q hq=>by rw[xK (h.st y hym) hps he hq];rfl
  have hall:∀(Q:Insp->Prop),(∀x,x∈p.insp->Q x)->Q ⟨y.cls,(iP orB y.set (iP anB rest s).1).1⟩->∀x,x∈p.insp.set k ⟨y.cls,(iP orB y.set (iP anB rest s).1).1⟩->Q x:=fun Q g1 g2 x hx=>by
   rcases List.mem_or_eq_of_mem_set hx with hx|rfl
   ·exact g1 x hx
   ·exact g2
  have hkl:=(aP.1 hk).1;have hke:=(aP.1 hk).2;have hpw:∀(R:Insp->Insp->Prop),p.insp.Pairwise R->(∀x,x∈p.insp->R x y->R x ⟨y.cls,(iP orB y.set (iP anB rest s).1).1⟩)->(∀x,x∈p.insp->R y x->R ⟨y.cls,(iP orB y.set (iP anB rest s).1).1⟩ x)->(p.insp.set k ⟨y.cls,(iP orB y.set (iP anB rest s).1).1⟩).Pairwise R:=fun R g g1 g2=>by
   rw[dL]at g⊢;intro i j hi hj hij;rw[cL]at hi hj;rw[List.getElem_set,List.getElem_set];by_cases e1:k=i
   ·rw[aH e1,aF zo];refine g2 _ (dE _) ?_;subst e1;have:=g k j hi hj hij
    rwa[hke]at this
   ·rw[aF e1];by_cases e2:k=j
    ·rw[aH e2];refine g1 _ (dE _) ?_;subst e2;have:=g i k hi hj hij
     rwa[hke]at this
    ·rw[aF e2];exact g i j hi hj hij
  refine⟨f1,f2,f3,f4,f5,hall _ h.nm (h.nm y hym),hall (fun x=>x.set≠[]) h.ne ?_,hall (fun x=>jW x.set=true) h.st (jV ..),hall (fun x=>∀q,InP q->jB q 5 x.set=true->_) hsb ?_,?_,?_⟩
  ·intro e0;simp only at e0;have:∀q,InP q->jB q 5 y.set=false:=fun q hq=>by
    have:=hum q hq;rw[e0,lW]at this;cases hy:jB q 5 y.set
    ·rfl
    ·rw[hy]at this;cases this
   obtain⟨b,hb⟩:=List.exists_mem_of_ne_nil _ (h.ne y hym);obtain⟨q,hq,hqb⟩:=E5 (rR (h.st y hym) b hb);have h3:=this q hq;rw[memK_iff.2 ⟨b,hb,hqb⟩]at h3;cases h3
  ·intro q hq h2;simp only at h2;rw[hum q hq,bV]at h2;rcases h2 with h2|h2
   ·exact hsb y hym q hq h2
   ·exact hpb q hq h2
  ·refine hpw _ h.ds (fun x hx hr q hq h2=>?_) (fun x hx hr q hq h2=>?_)
   ·simp only;rw[hum q hq,hr q hq h2,fG,bY];intro h3;rw[hdis x hx q hq h3]at h2;cases h2
   ·simp only at h2;rw[hum q hq,bV]at h2;rcases h2 with h2|h2
    ·exact hr q hq h2
    ·exact hdis x hx q hq h2
  ·exact hpw _ h.od (fun x hx hr=>hr) (fun x hx hr=>hr)
theorem D0:jW initS=true:=by decide+kernel
def aKW(t:Tp):List Bx×Int:=if(kX (Fv t.edges)).2≠0 then([],(kX (Fv t.edges)).2)else iP anB (kX (Fv t.edges)).1 initS
structure It where
 kind:Int
 name:ByteArray
 pf:Pf
 proto:Int
 ports:Rg
structure Df where
 name:ByteArray
 items:List It
structure Wn where
 name:ByteArray
 act:List Rg
structure Sm where
 permit:Bool
 frm:ByteArray
 to:ByteArray
 svc:ByteArray
 exc:Bool
 exF:ByteArray
 exT:ByteArray
 cls:ByteArray
 dur:ByteArray
 pri:Int
structure Pb where
 addr:Int
 proto:Int
 port:Int
 edge:ByteArray
 real:Int
 rport:Int
structure Hn where
 grp:ByteArray
 edge:ByteArray
 addr:Int
 ports:Rg
structure Nt where
 grps:List Df
 svcs:List Df
 wins:List Wn
 sts:List Sm
 pubs:List Pb
 hids:List Hn
abbrev lA(x:It):AV:=.agg [.v (.int .i64 x.kind),.v (.string x.name),.v (.int .u32 x.pf.addr),.v (.int .i64 x.pf.bits),.v (.int .i64 x.proto),.v (.int .u32 x.ports.lo),.v (.int .u32 x.ports.hi)]
abbrev iQ(x:Df):AV:=.agg [.v (.string x.name),.lst (x.items.map lA)]
abbrev jZ(x:Wn):AV:=.agg [.v (.string x.name),iR x.act]
abbrev kC(x:Sm):AV:=.agg [.sb x.permit,.v (.string x.frm),.v (.string x.to),.v (.string x.svc),.sb x.exc,.v (.string x.exF),.v (.string x.exT),.v (.string x.cls),.v (.string x.dur),.v (.int .i64 x.pri)]
abbrev jU(x:Pb):AV:=.agg [.v (.int .u32 x.addr),.v (.int .i64 x.proto),.v (.int .i64 x.port),.v (.string x.edge),.v (.int .u32 x.real),.v (.int .i64 x.rport)]
abbrev jY(x:Hn):AV:=.agg [.v (.string x.grp),.v (.string x.edge),.v (.int .u32 x.addr),.v (.int .u32 x.ports.lo),.v (.int .u32 x.ports.hi)]
abbrev aKk(i:Nt):List AV:=[.lst (i.grps.map iQ),.lst (i.svcs.map iQ),.lst (i.wins.map jZ),.lst (i.sts.map kC),.lst (i.pubs.map jU),.lst (i.hids.map jY)]
abbrev jC(i:Nt):AV:=.agg (aKk i)
abbrev lM(i:Nt):Vm.Obj:=.box (aKk i)
structure Sml (i:Nt):Prop where
 g:i.grps.length<=1000
 s:i.svcs.length<=1000
 w:i.wins.length<=1000
 t:i.sts.length<=1000
 p:i.pubs.length<=1000
 h:i.hids.length<=1000
 gi:∀x,x∈i.grps->x.items.length<=1000
 si:∀x,x∈i.svcs->x.items.length<=1000
 wi:∀x,x∈i.wins->x.act.length<=4000
open Go Go.Vm Go.ChangeShapes Go.WideShapes Go.ChangeAt Go.RowKit
theorem aRu{d:Nat}{x:AV}(h:Ty Tryz.prog (d+1) 3 x):∃i:Int,x=.v (.int .i64 i)/\ -9223372036854775808<=i/\i<=9223372036854775807:=h
theorem X2{d:Nat}{y:AV}(h:Ty Tryz.prog (d+2) 26 y):∃g:Hd,y=lC g/\g.Ok:=by
 obtain⟨ys,hl,rfl,hf⟩:=h
 match ys,hl with
 |[a,b,c,e,f],_=>
  obtain⟨a,rfl,a0,a1⟩:=hf 0 _ a rfl rfl;obtain⟨b,rfl,b0,b1⟩:=hf 1 _ b rfl rfl;obtain⟨c,rfl,c0,c1⟩:=hf 2 _ c rfl rfl;obtain⟨e,rfl,e0,e1⟩:=hf 3 _ e rfl rfl;obtain⟨f,rfl,f0,f1⟩:=hf 4 _ f rfl rfl;exact⟨⟨a,b,c,e,f⟩,rfl,⟨a0,a1,b0,b1,c0,c1,e0,e1,f0,f1⟩⟩
theorem aEU{d:Nat}{y:AV}(h:Ty Tryz.prog (d+2) 55 y):∃r:Rg,y=encR r:=by
 obtain⟨ys,hl,rfl,hf⟩:=h
 match ys,hl with
 |[p,q],_=>
  obtain⟨i,rfl,i0,i1⟩:=hf 0 _ p rfl rfl;obtain⟨j,rfl,j0,j1⟩:=hf 1 _ q rfl rfl;exact⟨⟨i,j,i0,i1,j0,j1⟩,rfl⟩
theorem aWc{d:Nat}{y:AV}(h:Ty Tryz.prog (d+3) 110 y):∃x:It,y=lA x:=by
 obtain⟨ys,hl,rfl,hf⟩:=h
 match ys,hl with
 |[a,b,c,e,f],_=>
  obtain⟨a,rfl,_⟩:=hf 0 _ a rfl rfl;obtain⟨b,rfl,_⟩:=hf 1 _ b rfl rfl;obtain⟨c,rfl⟩:=aES (d:=d) (hf 2 _ c rfl rfl);obtain⟨e,rfl,_⟩:=hf 3 _ e rfl rfl;obtain⟨f,rfl⟩:=aEU (d:=d) (hf 4 _ f rfl rfl);exact⟨⟨a,b,c,e,f⟩,rfl⟩
theorem aWd{d:Nat}{y:AV}(h:Ty Tryz.prog (d+2) 119 y):∃x:Sm,y=kC x:=by
 obtain⟨ys,hl,rfl,hf⟩:=h
 match ys,hl with
 |[a,b,c,e,f,g,i,j,k,l],_=>
  obtain⟨a,rfl⟩:=hf 0 _ a rfl rfl;obtain⟨b,rfl,_⟩:=hf 1 _ b rfl rfl;obtain⟨c,rfl,_⟩:=hf 2 _ c rfl rfl;obtain⟨e,rfl,_⟩:=hf 3 _ e rfl rfl;obtain⟨f,rfl⟩:=hf 4 _ f rfl rfl;obtain⟨g,rfl,_⟩:=hf 5 _ g rfl rfl;obtain⟨i,rfl,_⟩:=hf 6 _ i rfl rfl;obtain⟨j,rfl,_⟩:=hf 7 _ j rfl rfl;obtain⟨k,rfl,_⟩:=hf 8 _ k rfl rfl;obtain⟨l,rfl,_⟩:=hf 9 _ l rfl rfl;exact⟨⟨a,b,c,e,f,g,i,j,k,l⟩,rfl⟩
def aNc:Ctx:={N:=39,plan:=p1 6 (lo 17) pn}
abbrev aIc:=ofD aNc Tryz.func131
def aMY:Ctx:={N:=41}
abbrev aHY:=ofD aMY Tryz.func103
def aTK:Ctx:={N:=6}
abbrev aPH:=ofD aTK Tryz.func55
def aMW:Ctx:={N:=12}
abbrev aHW:=ofD aMW Tryz.func171
def aTx:Ctx:={N:=19}
abbrev aPu:=ofD aTx Tryz.func170
def aTA:Ctx:={N:=8,lend:=oz [170]}
abbrev aPx:=ofD aTA Tryz.func106
def aNd:Ctx:={N:=15}
abbrev aId:=ofD aNd Tryz.func108
def aTm:Ctx:={N:=45,plan:=p1 8 (lp 12 [27,29,24,31,33,34,36]) pn}
abbrev aPj:=ofD aTm Tryz.func57
def aTn:Ctx:={N:=27}
abbrev aPk:=ofD aTn Tryz.func17
def aMX:Ctx:={N:=83,plan:=p1 8 Aa pn,hints:=h1 5 [.virt 9 20] (h1 18 [.freeze 9] hn)}
abbrev aHX:=ofD aMX Tryz.func13
def aTy:Ctx:={N:=23}
abbrev aPv:=ofD aTy Tryz.func50
def Af:Sched:=lp 7 [14,17]
def aTo:Ctx:={N:=71,plan:=p1 7 (lp 6 [12,15]) (p1 14 Af pn)}
abbrev aPl:=ofD aTo Tryz.func18
def aTE:Ctx:={N:=78}
abbrev aPB:=ofD aTE Tryz.func59
def aMT:Ctx:={N:=19}
abbrev aHT:=ofD aMT Tryz.func205
def aMK:Ctx:={N:=9}
abbrev aHK:=ofD aMK Tryz.func118
def aMS:Ctx:={N:=19}
abbrev aHS:=ofD aMS Tryz.func206
def aMJ:Ctx:={N:=9}
abbrev aHJ:=ofD aMJ Tryz.func120
def aTt:Ctx:={N:=24,lend:=oz [118,120]}
abbrev aPq:=ofD aTt Tryz.func60
def aMN:Ctx:={N:=16}
abbrev aHN:=ofD aMN Tryz.func119
def aMO:Ctx:={N:=16}
abbrev aHO:=ofD aMO Tryz.func121
def Bi:Sched:=lz [1,5] (.alt 1 (ln [6,9,10]) (.alt 3 (ln [3,9,10]) Ab))
def aMP:Ctx:={N:=75,plan:=p1 5 Aa (p1 14 Bi pn),hints:=h1 2 [.virt 7 13] (h1 22 [.freeze 7] hn)}
abbrev aHP:=ofD aMP Tryz.func61
def aTv:Ctx:={N:=15,lend:=oz [203]}
abbrev aPs:=ofD aTv Tryz.func117
def aMQ:Ctx:={N:=7}
abbrev aHQ:=ofD aMQ Tryz.func204
def aGj:Ctx:={N:=20}
abbrev aDm:=ofD aGj Tryz.func30
def aGM:Ctx:={N:=24}
abbrev aDN:=ofD aGM Tryz.func127
def Ay:Sched:=ln [1,3,5,9,11,13,6,14,17,19]
def aGN:Ctx:={N:=84,plan:=p1 6 Ay pn}
abbrev aDO:=ofD aGN Tryz.func63
def aGJ:Ctx:={N:=71,plan:=p1 7 (lo 20) (p1 12 (lo 20) pn)}
abbrev aDK:=ofD aGJ Tryz.func64
def Au:Sched:=lp 8 [16,19,21,23,25,27]
def aBY:Ctx:={N:=98,plan:=p1 6 (lp 7 [17,14,19]) (p1 7 Au (p1 14 (lz [3,5,7,9,11,13] (.alt 0 (ln [15,16,18]) (.alt 8 (ln [0,15,18]) Ab))) (p1 15 (lz [1,3,5,7,9,11,13,17,19,23] (.alt 7 (ln [20,25,26]) (.alt 10 (ln [15,25,26]) Ab))) pn))),hints:=h1 3 [.virt 8 13,.freeze 7] (h1 19 [.freeze 8] hn)}
abbrev Zp:=ofD aBY Tryz.func65
def aGI:Ctx:={N:=59}
abbrev aDJ:=ofD aGI Tryz.func19
def aGn:Ctx:={N:=9}
abbrev aDq:=ofD aGn Tryz.func49
def A4:Sched:=ln [1,3,7,9,4,10,13,15,16,19,21]
def Av:Sched:=lp 5 [10,12,15,17,19,21,23]
def aGo:Ctx:={N:=117,own:=oz [9,10],plan:=p1 4 A4 (p1 6 Av (p1 10 (lz [1,3,5,11] (.alt 3 (ln [9,12,15,16]) (.alt 6 (ln [7,9,15,16]) Ab))) pn))}
abbrev aDr:=ofD aGo Tryz.func4
def vS(x n:Nat):Prop:=x<2^n/\(n=0\/2^(n-1)<=x)
instance (x n:Nat):Decidable (vS x n):=by unfold vS;infer_instance
theorem nX{x n s:Nat}(h:vS (x/2^s) n)(hx:2^s<=x):vS x (n+s):=by
 obtain⟨h1,h2⟩:=h;have hp:=fT s;have hn:n≠0:=by
  rintro rfl
  have:=(gT hp).1 h1;omega
 refine⟨by rw[Nat.pow_add];exact(gT hp).1 h1,.inr ?_⟩;rw[show n+s-1=(n-1)+s by omega,Nat.pow_add];exact(Nat.le_div_iff_mul_le hp).1 (h2.resolve_left hn)
theorem Nc{e:Int}{K:Int->Prop}(j:Nat)(h:e=j)(hj:j<256)(hk:K j):Wr .u8 e K:=by
 subst h;refine Wr.intro ?_ hk;simp only[IntKind.wrap,IntKind.signed,IntKind.bits];simp;omega
def aAH(s:ByteArray):Bool:=Nat.beq s.data.size 256&&(List.range 256).all fun j=>match s.data[j]? with
 |some b=>decide (vS j b.toNat)
 |none=>false
theorem Gc{s:ByteArray}{j:Nat}{K:UInt8->Prop}(hc:aAH s=true)(hj:j<256)(hk:∀b:UInt8,vS j b.toNat->b.toNat<256->K b):In (j:Int) s.size fun j'=>∃b,s[j']? =some b/\K b:=by
 simp only[aAH,aJ,bT,eG]at hc;obtain⟨h1,h2⟩:=hc;have h1:s.size=256:=aY h1;have hlt:j<s.size:=by omega
 refine iB j rfl hlt ⟨s[j],by simp[hlt],hk _ ?_ (UInt8.toNat_lt _)⟩;have:=h2 j hj;have e:s.data[j]? =some s[j]:=by rw[bL (show j<s.data.size from hlt)];rfl
 rw[e]at this;simpa using this
structure Pl where
 a:Int
 b:Int
 eg:Bool
 allow:List Bx
structure PlIn (t:Tp) (x:Pl):Prop where
 a0:0<=x.a
 a1:x.a<t.edges.length
 b0:0<=x.b
 b1:x.b<t.edges.length
 len:x.allow.length<=4096
theorem PlIn.eg{t:Tp}{x:Pl}(h:PlIn t x)(b:Bool):PlIn t {x with eg:=b}:=⟨h.a0,h.a1,h.b0,h.b1,h.len⟩
end Go.Proofs.YtgicddadddhonaaGreatDoor
