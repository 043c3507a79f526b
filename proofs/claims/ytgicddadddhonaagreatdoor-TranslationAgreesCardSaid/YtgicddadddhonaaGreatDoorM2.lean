/- Lemmas. -/
import Derived.RowKit3
import Derived.Laws.IdiomCopy
import Derived.Test.YtgicddadddhonaaGreatDoorM1
set_option linter.unusedVariables false
set_option linter.unusedSimpArgs false
set_option maxRecDepth 100000
set_option maxHeartbeats 4000000
namespace Go.Vm
section
variable {P:Program} {E:Nat->Prop} {w:World} {ι:Inj} {n:Nat} {h:Hp}
theorem Keeps.refl:Keeps E w E w:=⟨aO _,fun b _ hE=>⟨rfl,hE⟩,fun _ h=>h,fun _ _=>rfl⟩
theorem Rel.up{x:AV}{y:Value}(h:Rel E w jR x y):Rel E w ι x y:=h.keep Keeps.refl (fun _ _ hn=>by cases hn)
theorem mR{x y:Value}(h:Rel E w ι (.v x) y):y=x:=by cases h;rfl
theorem Ej{X:AV}{b:Bool}{y:Value}(h:Rel E w ι X y)(hb:X.toB=some b):y=.bool b:=by
 cases h<;>simp[AV.toB]at hb
 ·split at hb<;>simp_all
 ·subst hb;rfl
def pA(P:Program)(E:Nat->Prop)(w:World)(ι:Inj)(s:Sem Value)(K:AV->Prop):Prop:=∃v x,(∀w2:World,True->s.run P w2=.ok v w2)/\Rel E w ι x v/\K x
theorem _root_.Int.beq_eq_decide(a b:Int):(a==b)=decide (a=b):=rfl
theorem T4{op:BinOp}{k k':IntKind}{a b:Int}{t:TypeId}{K:AV->Prop}(hq:aOD op k a k' b K):
  pA P E w ι (binOp op t (.int k a) (.int k' b)) K:=by
 unfold aOD at hq;cases op<;>simp only at hq
 case shl=>obtain⟨h1,h2⟩:=hq.elim;exact⟨_,_,fun _ _=>by simp[binOp,Op.shift,show ¬b<0 by omega],.v _,h2.elim⟩
 case shr=>obtain⟨h1,h2⟩:=hq.elim;exact⟨_,_,fun _ _=>by simp[binOp,Op.shift,show ¬b<0 by omega],.v _,h2⟩
 all_goals
  cases hk:kEq k k' with
  |false=>simp only[hk]at hq
  |true=>
   have hkk:=T8 hk;subst hkk;simp only[hk]at hq;first
    |exact False.elim hq
    |(refine⟨_,_,fun _ _=>?_,.v _,hq.elim⟩;(simp[binOp,Op.intArith];done))
    |(refine⟨_,_,fun _ _=>?_,.v _,hq.elim.2.elim⟩;have h1:=hq.elim.1;(simp[binOp,Op.intDiv,h1];done))
    |(refine⟨_,_,fun _ _=>?_,.v _,hq.elim.2⟩;have h1:=hq.elim.1;(simp[binOp,Op.intDiv,h1];done))
    |(refine⟨_,_,fun _ _=>?_,.v _,hq⟩;(simp[binOp,Op.intBits,oM];done))
    |(refine⟨_,_,fun _ _=>?_,.sb _,hq⟩;(simp[binOp,Op.intCmp,Int.beq_eq_decide,bne];done))
theorem Tn{op:BinOp}{t:TypeId}{x y:Operand}{a b:Value}(h:∀xs ys,a=.agg xs->b=.agg ys->P.eqGuardType P.depth t=false)(hn:¬(a=.nilIface/\b=.nilIface)):
  (eqGuard op t x y a b).run P w=.ok () w:=by
 cases op<;>(try(simp[eqGuard];done))
 all_goals
  cases a<;>(try(simp[eqGuard];done))
  all_goals cases b<;>(try(simp[eqGuard];done))
  all_goals first
   |exact absurd ⟨rfl,rfl⟩ hn
   |(have:=h _ _ rfl rfl;simp[eqGuard,this])
theorem aHl:IntKind.i64.max=9223372036854775807:=by decide+kernel
theorem Va{op:BinOp}{s u:ByteArray}{t:TypeId}{K:AV->Prop}(hq:aRr op s u K):pA P E w ι (binOp op t (.string s) (.string u)) K:=by
 unfold aRr at hq;cases op<;>simp only at hq
 case add=>
  obtain⟨h1,h2⟩:=hq.elim;refine⟨_,_,fun _ _=>?_,.v _,h2⟩;have:¬IntKind.i64.max<((s.size+u.size:Nat):Int):=by rw[aHl];omega
  simp only[binOp,Op.stringOp,gt_iff_lt,this,if_false];rfl
 all_goals first
  |exact False.elim hq
  |(refine⟨_,_,fun _ _=>?_,.sb _,hq⟩;(simp[binOp,Op.stringOp];done))
theorem aBs(d:Nat){t e:TypeId}(hu:P.underlying t=some (.slice e)):(Op.equalIn (d+1) t (.slice none 0 0) (.slice none 0 0)).run P w=.ok true w:=by
 simp[Op.equalIn,run_underlying hu]
theorem aBt(d:Nat){t e:TypeId}{a:Addr}(hu:P.underlying t=some (.pointer e)):(Op.equalIn (d+1) t (.pointer (some a)) (.pointer none)).run P w=.ok false w:=by
 simp[Op.equalIn,run_underlying hu]
theorem Dp{t:TypeId}{x y:Value}{b:Bool}(h:∀d,(Op.equalIn (d+1) t x y).run P w=.ok b w):(Op.equal t x y).run P w=.ok b w:=h 9999
theorem Oc{t:TypeId}{a b:Value}{r:Bool}(h:(Op.equal t a b).run P w=.ok r w)(hb:(binOp .eql t a b)=(do pure (.bool (<-Op.equal t a b)))):(binOp .eql t a b).run P w=.ok (.bool r) w:=by
 rw[hb];simp[h]
theorem neq_of{t:TypeId}{a b:Value}{r:Bool}(h:(Op.equal t a b).run P w=.ok r w)(hb:(binOp .neq t a b)=(do pure (.bool (!(<-Op.equal t a b))))):(binOp .neq t a b).run P w=.ok (.bool (!r)) w:=by
 rw[hb];simp[h]
theorem Qb{op:BinOp}{a b:Bool}{t:TypeId}{K:AV->Prop}(hq:aAq P t op a b K):pA P E w ι (binOp op t (.bool a) (.bool b)) K:=by
 unfold aAq at hq;split at hq
 ·rename_i hu;have h:=fun w=>Dp (P:=P) (w:=w) (fun d=>run_equalIn_bool' w d t a b hu);cases op<;>simp only at hq
  case eql=>exact⟨_,_,fun w _=>Oc (h w) rfl,.sb _,hq⟩
  case neq=>exact⟨_,_,fun w _=>neq_of (h w) rfl,.sb _,hq⟩
 ·exact hq.elim
theorem Yn(d:Nat){t e:TypeId}{a:Option Addr}{n c:Nat}(hu:P.underlying t=some (.slice e)):(Op.equalIn (d+1) t (.slice a n c) (.slice none 0 0)).run P w=.ok a.isNone w:=by
 cases a<;>simp[Op.equalIn,run_underlying hu]
theorem sV{op:BinOp}{t:TypeId}{a:Option Addr}{n c:Nat}{K:AV->Prop}(hq:Ur P t op a.isNone K):pA P E w ι (binOp op t (.slice a n c) (.slice none 0 0)) K:=by
 unfold Ur at hq;split at hq
 ·rename_i hu;have h:=fun w=>Dp (P:=P) (w:=w) (fun d=>Yn (a:=a) (n:=n) (c:=c) d hu);cases op<;>simp only at hq
  case eql=>exact⟨_,_,fun w _=>Oc (h w) rfl,.sb _,hq⟩
  case neq=>exact⟨_,_,fun w _=>neq_of (h w) rfl,.sb _,hq⟩
 ·exact hq.elim
theorem Us{op:BinOp}{t:TypeId}{K:AV->Prop}(hq:Ur P t op true K):pA P E w ι (binOp op t (.slice none 0 0) (.slice none 0 0)) K:=by
 unfold Ur at hq;split at hq
 ·rename_i hu;have h:=fun w=>Dp (P:=P) (w:=w) (fun d=>aBs d hu);cases op<;>simp only at hq
  case eql=>exact⟨_,_,fun w _=>Oc (h w) rfl,.sb _,hq⟩
  case neq=>exact⟨_,_,fun w _=>neq_of (h w) rfl,.sb _,hq⟩
 ·exact hq.elim
theorem Mt{op:BinOp}{t:TypeId}{a:Addr}{K:AV->Prop}(hq:match P.underlying t with
  |some (.pointer _)=>(match op with
   |.eql=>K (.sb false)
   |.neq=>K (.sb true)
   |_=>False)
  |_=>False):pA P E w ι (binOp op t (.pointer (some a)) (.pointer none)) K:=by
 split at hq
 ·rename_i hu;have h:=fun w=>Dp (P:=P) (w:=w) (fun d=>aBt (a:=a) d hu);cases op<;>simp only at hq
  case eql=>exact⟨_,_,fun w _=>Oc (h w) rfl,.sb _,hq⟩
  case neq=>exact⟨_,_,fun w _=>neq_of (h w) rfl,.sb _,hq⟩
 ·exact hq.elim
theorem Qq:∀{xs:List AV} {vs:List Value} {c:List Value},Fb xs=some vs->xs.length=c.length->(∀(i:Nat) x y,xs[i]? =some x->c[i]? =some y->Rel E w ι x y)->c=vs
 |[],vs,c,h,hl,_=>by
  cases h;exact dR hl.symm
 |x::xs,vs,[],h,hl,_=>by simp at hl
 |x::xs,vs,y::c,h,hl,hr=>by
  have h0:=hr 0 x y rfl rfl;have ih:=fun us hu=>Qq (xs:=xs) (vs:=us) (c:=c) hu (by simpa using hl) (fun i a b ha hb=>hr (i+1) a b (by simpa using ha) (by simpa using hb));unfold Fb at h;split at h
  ·rename_i he;cases he
  ·rename_i x' r he;cases he;split at h
   ·rename_i us hus;cases h;rw[ih us hus,mR h0]
   ·cases h
  ·rename_i b r he;cases he;split at h
   ·rename_i us hus;cases h;rw[ih us hus];cases h0;rfl
   ·cases h
  ·cases h
theorem R5{xs:List AV}{vs:List Value}{y:Value}(h:Rel E w ι (.agg xs) y)(hd:Fb xs=some vs):y=.agg vs.toArray:=by
 cases h with
 |agg cs c hs h=>
  obtain⟨l⟩:=c;have:=Qq (c:=l) hd (by simpa using hs) (fun i a b ha hb=>h i a b ha (by simpa using hb));rw[this]
theorem S6{op:BinOp}{t:TypeId}{X Y:AV}{a b:Value}{x y:Operand}{K:AV->Prop}(hX:Rel E w ι X a)(hY:Rel E w ι Y b)(hq:aLd P op t X Y K):
  pA P E w ι (do eqGuard op t x y a b;binOp op t a b) K:=by
 have lift:∀{a b:Value},pA P E w ι (binOp op t a b) K->(∀xs ys,a=.agg xs->b=.agg ys->P.eqGuardType P.depth t=false)->¬(a=.nilIface/\b=.nilIface)->
   pA P E w ι (do eqGuard op t x y a b;binOp op t a b) K:=by
  intro a b ⟨v,z,h1,h2,h3⟩ hg hn;exact⟨v,z,fun w2 hw=>by simp[Tn hg hn,h1 w2 hw],h2,h3⟩
 unfold aLd at hq;split at hq
 ·cases hX;cases hY;exact lift (T4 hq) zx zx
 ·cases hX;cases hY;exact lift (Va hq) zx zx
 ·cases op<;>simp only at hq
  all_goals first
   |exact False.elim hq
   |(obtain⟨vs,us,bb,h1,h2,h3,h4,h5⟩:=hq.elim
     cases R5 hX h1;cases R5 hY h2;refine lift ⟨_,_,fun _ _=>?_,.sb _,h5⟩ (fun _ _ _ _=>h3) zx;simp only[run_eql_struct,run_neq_struct,h4,Result.andThen_ok])
 ·cases hX;cases hY;exact lift (Us hq) zx zx
 ·cases hY;cases hX with
  |lnil a c=>
   exact lift (sV (hq a.isNone fun _=>rfl)) zx zx
  |lst xs b off n cap sz hE hb hn hcap hz g hg h=>
   exact lift (sV (hq false fun h=>by cases h)) zx zx
 ·cases hY;cases hX with
  |osz _ _ _ a=>exact lift (sV (hq a.isNone fun _=>rfl)) zx zx
  |os _ _ _ _ b base cap hι hc h=>exact lift (sV (hq false fun h=>by cases h)) zx zx
 ·cases hX;cases hY;exact lift (Mt hq) zx zx
 ·cases hX;cases hY;exact lift (Mt hq) zx zx
 ·split at hq
  ·rename_i h1 h2;cases Ej hX h1;cases Ej hY h2;exact lift (Qb hq) zx zx
  ·exact hq.elim
/-! ### loads -/
theorem sE{t:TypeId}{b:Bool}(ht:K7 P t=some b):(isAgg t).run P w=.ok b w:=by
 unfold K7 at ht;unfold isAgg;split at ht<;>simp_all[run_underlying]
theorem lX{t:TypeId}{n:Nat}(h:tsz P t=some n):(sizeOf t).run P w=.ok n w:=by
 unfold tsz at h;cases hi:P.info? t with
 |none=>simp[hi]at h
 |some i=>simp[hi]at h;simp[sizeOf,typeInfo,hi,h]
def At(E:Nat->Prop)(w:World)(ι:Inj)(b o:Nat)(cs:List AV):Prop:=∀(j:Nat) y,cs[j]? =some y->∃u,w.cell? ⟨b,o+j,none⟩=some u/\Rel E w ι y u
theorem At.drop{b o:Nat}{cs:List AV}(h:At E w ι b o cs)(k:Nat):At E w ι b (o+k) (cs.drop k):=fun j y hy=>by
 rw[cJ]at hy;obtain⟨u,hu,hr⟩:=h _ y hy;exact⟨u,by rw[cD];exact hu,hr⟩
theorem At.up{b o:Nat}{cs:List AV}(h:At E w jR b o cs):At E w ι b o cs:=fun j y hy=>by
 obtain⟨u,hu,hr⟩:=h j y hy;exact⟨u,hu,hr.up⟩
theorem Addr.add_none(b o k:Nat):(⟨b,o,none⟩:Addr).add k=⟨b,o+k,none⟩:=by
 unfold Addr.add;split<;>simp_all
def xI(P:Program)(E:Nat->Prop)(w:World)(ι:Inj)(b:Nat)(s:Sem Value)(K:AV->Prop):Prop:=∃v x,(∀w2,w2.heap[b]? =w.heap[b]? ->s.run P w2=.ok v w2)/\Rel E w ι x v/\K x
theorem D5{t:TypeId}{n b o:Nat}{cs:List AV}{K:AV->Prop}(hn:tsz P t=some n)(hc:At E w ι b o cs)(hq:mk (K7 P t) n cs K):
  xI P E w ι b (loadVar t ⟨b,o,none⟩) K:=by
 unfold mk at hq;simp only[nA]at hq;split at hq
 ·exact hq.elim
 ·rename_i ht;split at hq
  ·rename_i hle;have hle:n<=cs.length:=cB hle
   let g:=fun j=>(w.cell? ⟨b,o+j,none⟩).getD default
   have hg:∀j,j<n->w.cell? ⟨b,o+j,none⟩=some (g j)/\∃y,cs[j]? =some y/\Rel E w ι y (g j):=by
    intro j hj;obtain⟨u,hu,hr⟩:=hc j cs[j] (aE zo);exact⟨by simp[g,hu],cs[j],aE zo,by simp[g,hu];exact hr⟩
   have hl:=fun(w2:World) (hw2:w2.heap[b]? =w.heap[b]?)=>run_loadCells_list (P:=P) w2 ⟨b,o,none⟩ ((List.range n).map g) (fun j v hv=>by
    rw[Addr.add_none];rw[cell_of_heap (a:=⟨b,o+j,none⟩) hw2];rcases aD j n with hj|hj
    ·simp[fC hj]at hv;rw[<-hv];exact(hg j hj).1
    ·simp[hj]at hv)
   simp only[aA,fL]at hl;refine⟨_,_,fun w2 hw2=>?_,.agg (cs.take n) ((List.range n).map g).toArray ?_ ?_,hq⟩
   ·simp[loadVar,sE ht,lX hn,hl w2 hw2]
   ·simp;omega
   ·intro i x y hx hy;have hi:i<n:=by
     rcases aD i n with h|h
     ·exact h
     ·simp[cZ,Nat.not_lt.2 h]at hx
    obtain⟨_,z,hz,hr⟩:=hg i hi;simp[hi]at hx;simp[fC hi]at hy;rw[hx]at hz;cases hz;subst hy;exact hr
  ·exact hq.elim
 ·rename_i ht;split at hq
  ·rename_i c rest;obtain⟨u,hu,hr⟩:=hc 0 c rfl;exact⟨u,c,fun w2 hw2=>by simp[loadVar,sE ht,(cell_of_heap (a:=⟨b,o,none⟩) hw2).trans (show w.cell? ⟨b,o,none⟩=some u from hu)],hr,hq⟩
  ·exact hq.elim
def aLb(E:Nat->Prop)(ι:Inj)(X:AV)(b:Nat):Prop:=
 match X with
 |.fp _=>¬E b
 |.op id _=>∃base,ι id=some (some (b,base))
 |.ep id _ _ _=>∃base,ι id=some (some (b,base))
 |_=>False
theorem Ud(r:Rep ι E w n h){t:TypeId}{X:AV}{a:Value}{K:AV->Prop}(hX:Rel E w ι X a)(hq:ldQ P h t X K):∃b,b<w.heap.size/\xI P E w ι b (Instr.loadAt t a) K/\aLb E ι X b:=by
 unfold ldQ at hq;cases hm:tsz P t with
 |none=>simp only[hm]at hq
 |some m=>
  simp only[hm]at hq;cases X<;>simp only at hq
  case fp cs=>
   cases hX with
   |fp _ b off hE hb g hg h=>
    have:=D5 (ι:=ι) (o:=off) hm (At.up (fun j y hy=>⟨g j,hg j y hy,h j y hy⟩:At E w jR b off _)) hq;exact⟨b,hb,by simpa[xI,Instr.loadAt,Instr.sureAddr]using this,hE⟩
  case op id off=>
   cases hg:get h id with
   |none=>simp[hg]at hq
   |some ob=>
    cases ob with
    |arr _ _=>simp[hg]at hq
    |spc _=>simp[hg]at hq
    |box cs=>
     simp only[hg]at hq;cases hX with
     |op _ _ b base hι=>
      obtain⟨b',base',h1,h2,h3,h4⟩:=r.obj id _ hg;rw[hι]at h1;cases h1;have hat:At E w ι b base cs:=fun j y hy=>by obtain⟨u,hu,_,hr⟩:=h4 j y hy;exact⟨u,hu,hr⟩
      have:=D5 hm (hat.drop off) hq;exact⟨b,h3,by simpa[xI,Instr.loadAt,Instr.sureAddr]using this,base,hι⟩
  case ep id sz i off=>
   cases hg:get h id with
   |none=>simp[hg]at hq
   |some ob=>
    cases ob with
    |box cs=>
     simp only[hg]at hq;cases hX with
     |ep _ _ _ _ b base hι=>
      obtain⟨b',base',h1,h2,h3,h4⟩:=r.obj id _ hg;rw[hι]at h1;cases h1;have hat:At E w ι b base cs:=fun j y hy=>by obtain⟨u,hu,_,hr⟩:=h4 j y hy;exact⟨u,hu,hr⟩
      have:=D5 hm (hat.drop (i*sz+off)) hq;rw[<-cD]at this;exact⟨b,h3,by simpa[xI,Instr.loadAt,Instr.sureAddr]using this,base,hι⟩
    |spc _=>simp[hg]at hq
    |arr sz' xs=>
     simp only[hg]at hq;cases hs:Nat.beq sz sz' with
     |false=>simp[hs]at hq
     |true=>
      simp only[hs]at hq;have hs:=aY hs;subst hs;cases hX with
      |ep _ _ _ _ b base hι=>
       obtain⟨e,he,hk⟩:=hq.elim;rcases r.obj id _ hg with⟨h1,_⟩|⟨b',base',h1,h2,h3,h4,h5⟩
       ·rw[hι]at h1;cases h1
       ·rw[hι]at h1;cases h1;have hat:At E w ι b (base+i*sz) e.cells:=At.up (fun j y hy=>by obtain⟨u,hu,_,hr⟩:=h5 i e j y he hy;exact⟨u,hu,hr⟩);have:=D5 hm (hat.drop off) hk;exact⟨b,h3,by simpa[xI,Instr.loadAt,Instr.sureAddr]using this,base,hι⟩
theorem Pc{b o:Nat}{cs:List AV}(hE:¬E b)(hb:b<w.heap.size)(h:At E w jR b o cs):Rel E w ι (.fp cs) (.pointer (some ⟨b,o,none⟩)):=by
 refine .fp cs b o hE hb (fun j=>(w.cell? ⟨b,o+j,none⟩).getD default) (fun j y hy=>?_) (fun j y hy=>?_)
 ·obtain⟨u,hu,_⟩:=h j y hy;simp[hu]
 ·obtain⟨u,hu,hr⟩:=h j y hy;simpa[hu]using hr
theorem aKJ{b o:Nat}{cs:List AV}(h:Rel E w ι (.fp cs) (.pointer (some ⟨b,o,none⟩))):¬E b/\b<w.heap.size/\At E w jR b o cs:=by
 cases h with
 |fp _ b off hE hb g hg h=>exact⟨hE,hb,fun j y hy=>⟨g j,hg j y hy,h j y hy⟩⟩
theorem Tw{y:Value}{cs:List AV}(h:Rel E w ι (.fp cs) y):∃b o,y=.pointer (some ⟨b,o,none⟩):=by
 cases h with
 |fp _ b off hE hb g hg h=>exact⟨b,off,rfl⟩
theorem Od{s:TypeId}{f:Nat}{X:AV}{a:Value}{K:AV->Prop}(hX:Rel E w ι X a)(hq:Tr P s f X K):pA P E w ι (Instr.fieldAt s a f) K:=by
 unfold Tr at hq;simp only[nA]at hq;split at hq;case h_2=>exact hq.elim
 rename_i fs hs;split at hq;case h_2=>exact hq.elim
 rename_i fd hf;split at hq;case h_2=>exact hq.elim
 rename_i m hm;have hz:=fun w=>lX (P:=P) (w:=w) hm;cases X<;>simp only at hq
 case fp cs=>
  obtain⟨b,o,rfl⟩:=Tw hX;obtain⟨hE,hb,hat⟩:=aKJ hX;exact⟨_,_,fun _ _=>by simp[Instr.fieldAt,run_underlying hs,hf,Instr.sureAddr,fieldPlace,hz,Addr.add_none],Pc hE hb (hat.drop fd.offset),hq⟩
 case op id off=>
  cases hX with
  |op _ _ b base hι=>
   refine⟨_,_,fun _ _=>?_,.op id (off+fd.offset) b base hι,hq⟩;simp[Instr.fieldAt,run_underlying hs,hf,Instr.sureAddr,fieldPlace,hz,Addr.add_none,cD]
 case ep id sz i off=>
  cases hX with
  |ep _ _ _ _ b base hι=>
   refine⟨_,_,fun _ _=>?_,.ep id sz i (off+fd.offset) b base hι,hq⟩;simp[Instr.fieldAt,run_underlying hs,hf,Instr.sureAddr,fieldPlace,hz,Addr.add_none,cD]
theorem G2{t:TypeId}{off:Nat}{cs:List AV}{c:Array Value}{K:AV->Prop}(hX:Rel E w ι (.agg cs) (.agg c))(hq:Xl P t off cs K):pA P E w ι (part t c off) K:=by
 cases hX with
 |agg _ _ hs h=>
  unfold Xl at hq;simp only[nA]at hq;split at hq
  ·exact hq.elim
  ·rename_i ht;split at hq
   ·rename_i m hm;refine⟨_,_,fun _ _=>by simp[part,sE ht,lX hm];rfl,.agg _ _ (by simp;omega) (fun i x y hx hy=>?_),hq⟩;rw[cZ]at hx;split at hx
    ·rename_i hi;rw[cJ]at hx;rw[Array.getElem?_extract]at hy;split at hy
     ·exact h _ x y hx hy
     ·cases hy
    ·cases hx
   ·exact hq.elim
  ·rename_i ht;split at hq
   ·rename_i x rest hd;have hx:cs[off]? =some x:=by
     have:=congrArg (fun l=>l[0]?) hd;simpa[cJ]using this
    have hlt:off<c.size:=by
     rw[<-hs];rcases aD off cs.length with h|h
     ·exact h
     ·simp[h]at hx
    have hy:c[off]? =some c[off]:=bL hlt;exact⟨c[off],x,by simp[part,sE ht,hy],h _ _ _ hx hy,hq⟩
   ·exact hq.elim
theorem T2(r:Rep ι E w n h){t:TypeId}{X I:AV}{a i:Value}{K:AV->Prop}(hX:Rel E w ι X a)(hI:Rel E w ι I i)(hq:aOy P t X I K):pA P E w ι (Instr.indexAt t a i) K:=by
 unfold aOy at hq;simp only[nA]at hq;split at hq;case h_2=>exact hq.elim
 rename_i k iv;cases mR hI;split at hq;case h_3=>exact hq.elim
 case h_1=>
  rename_i e hu;split at hq;case h_2=>exact hq.elim
  rename_i m hm;have hz:=fun w=>lX (P:=P) (w:=w) hm;cases X<;>simp only at hq
  case lst xs=>
   obtain⟨j,rfl,hj,hq1⟩:=hq.elim;obtain⟨x,hx,hq2⟩:=hq1.elim;clear hq hq1;split at hq2;case h_2=>exact hq2.elim
   rename_i hl;have hl:=aY hl;cases hX with
   |lnil=>simp at hj
   |lst _ b off nn cap sz hE hb hn hcap hzz g hg h=>
    have hsz:sz=m:=by rw[<-hl];exact(hzz j x hx).symm
    subst hsz;refine⟨_,_,fun _ _=>?_,Pc (b:=b) (o:=off+j*sz) hE hb (fun q y hy=>⟨g j q,hg j x q y hx hy,h j x q y hx hy⟩),hq2⟩;subst hn;simp[Instr.indexAt,asIntOf,run_underlying hu,hz,hj,Addr.add_none]
  case os id sz off len=>
   split at hq;case h_2=>exact hq.elim
   rename_i hs;have hs:=aY hs;subst hs;obtain⟨j,rfl,hj,hq⟩:=hq.elim;cases hX with
   |osz=>omega
   |os _ _ _ _ b base cap hι hc h=>
    refine⟨_,_,fun _ _=>?_,.ep id sz (off+j) 0 b base hι,hq⟩;simp[Instr.indexAt,asIntOf,run_underlying hu,hz,hj,Addr.add_none,cE,cD]
 case h_2=>
  rename_i len e hu;split at hq;case h_2=>exact hq.elim
  rename_i m hm;have hz:=fun w=>lX (P:=P) (w:=w) hm;obtain⟨j,rfl,hj,hq1⟩:=hq.elim;clear hq;have hq:=hq1;clear hq1;cases X<;>simp only at hq
  case fp cs=>
   obtain⟨b,o,rfl⟩:=Tw hX;obtain⟨hE,hb,hat⟩:=aKJ hX;exact⟨_,_,fun _ _=>by simp[Instr.indexAt,asIntOf,run_underlying hu,Instr.sureAddr,hz,hj,Addr.add_none],Pc hE hb (hat.drop (j*m)),hq⟩
  case op id off=>
   cases hX with
   |op _ _ b base hι=>
    refine⟨_,_,fun _ _=>?_,.op id (off+j*m) b base hι,hq⟩;simp[Instr.indexAt,asIntOf,run_underlying hu,Instr.sureAddr,hz,hj,Addr.add_none,cD]
  case ep id sz i off=>
   cases hX with
   |ep _ _ _ _ b base hι=>
    refine⟨_,_,fun _ _=>?_,.ep id sz i (off+j*m) b base hι,hq⟩;simp[Instr.indexAt,asIntOf,run_underlying hu,Instr.sureAddr,hz,hj,Addr.add_none,cD]
theorem On{t:TypeId}{X I:AV}{a i:Value}{K:AV->Prop}(hX:Rel E w ι X a)(hI:Rel E w ι I i)(hq:T3 P t X I K):pA P E w ι (Instr.index t a i) K:=by
 unfold T3 at hq;split at hq;case h_2=>exact hq.elim
 rename_i k iv;cases mR hI;split at hq;case h_3=>exact hq.elim
 case h_1=>
  rename_i hu;split at hq;case h_2=>exact hq.elim
  rename_i s;cases mR hX;obtain⟨j,rfl,hj,b,hb,hk⟩:=hq.elim;refine⟨_,_,fun _ _=>?_,.v _,hk⟩;simp[Instr.index,asIntOf,run_underlying hu];simp[hb]
 case h_2=>
  rename_i len e hu;split at hq;case h_2=>exact hq.elim
  rename_i cs;split at hq;case h_2=>exact hq.elim
  rename_i m hm;obtain⟨j,rfl,hj,hk⟩:=hq.elim;have hX':=hX;cases hX with
  |agg _ c hs h=>
   obtain⟨v,x,h1,h2,h3⟩:=G2 hX' hk;exact⟨v,x,fun w2 hw=>by simp[Instr.index,asIntOf,run_underlying hu,hj,lX (P:=P) (w:=w2) hm,h1 w2 hw],h2,h3⟩
theorem Uf{t ty:TypeId}{X:AV}{a:Value}{ats:Array TypeId}{args:Array Value}{K:AV->Prop}(hX:Rel E w ι X a)(ht:ats[0]? =some t)(ha:args[0]? =some a)(hq:aOU P t X K):
  pA P E w ι (Builtin.len_ ats ty args) K:=by
 unfold aOU at hq;split at hq;case h_4=>exact hq.elim
 case h_1=>
  rename_i e hu;cases X<;>simp only at hq
  case lst xs=>
   cases hX with
   |lnil=>(refine⟨_,_,fun _ _=>?_,.v _,hq⟩;simp[Builtin.len_,ht,ha,run_underlying hu,goInt])
   |lst _ b off nn cap sz hE hb hn hcap hz g hg h=>
    subst hn;(refine⟨_,_,fun _ _=>?_,.v _,hq⟩;simp[Builtin.len_,ht,ha,run_underlying hu,goInt])
  case os id sz off len=>
   cases hX with
   |osz=>(refine⟨_,_,fun _ _=>?_,.v _,hq⟩;simp[Builtin.len_,ht,ha,run_underlying hu,goInt])
   |os=>(refine⟨_,_,fun _ _=>?_,.v _,hq⟩;simp[Builtin.len_,ht,ha,run_underlying hu,goInt])
  case nils=>
   cases hX;(refine⟨_,_,fun _ _=>?_,.v _,hq⟩;simp[Builtin.len_,ht,ha,run_underlying hu,goInt])
 case h_2=>
  rename_i hu;split at hq;case h_2=>exact hq.elim
  cases mR hX;(refine⟨_,_,fun _ _=>?_,.v _,hq⟩;simp[Builtin.len_,ht,ha,run_underlying hu,goInt])
 case h_3=>
  rename_i m e hu;(refine⟨_,_,fun _ _=>?_,.v _,hq⟩;simp[Builtin.len_,ht,ha,run_underlying hu,goInt])
theorem aOV(a b:Int):(if b>a then b else a)=max a b:=by split<;>omega
theorem aOW(a b:Int):(if b<a then b else a)=min a b:=by split<;>omega
theorem Z0{X Y:AV}{args:Array Value}(hl:args.size=2)(h:∀(i:Nat) x y,[X,Y][i]? =some x->args[i]? =some y->Rel E w ι x y):∃a b,args=#[a,b]/\Rel E w ι X a/\Rel E w ι Y b:=by
 obtain⟨l⟩:=args
 match l,hl with
 |[a,b],_=>exact⟨a,b,rfl,h 0 X a rfl rfl,h 1 Y b rfl rfl⟩
theorem Mc{mx:Bool}{xs:List AV}{ats:Array TypeId}{ty:TypeId}{args:Array Value}{K:AV->Prop}(hl:args.size=xs.length)
  (h:∀(i:Nat) x y,xs[i]? =some x->args[i]? =some y->Rel E w ι x y)(hq:mmQ mx xs K):
  pA P E w ι (if mx then Builtin.max_ ats ty args else Builtin.min_ ats ty args) K:=by
 unfold mmQ at hq;split at hq;case h_2=>exact hq.elim
 rename_i k a k' b;split at hq;case h_2=>exact hq.elim
 rename_i hk;cases T8 hk;obtain⟨u,v,rfl,h1,h2⟩:=Z0 (by simpa using hl) h;cases mR h1;cases mR h2;split at hq
 ·rw[<-aOV]at hq;refine⟨_,_,fun _ _=>?_,.v _,hq⟩;simp[Builtin.max_,Builtin.max2]
 ·rw[<-aOW]at hq;refine⟨_,_,fun _ _=>?_,.v _,hq⟩;simp[Builtin.min_,Builtin.min2]
theorem Ym{src dst:TypeId}{X:AV}{a:Value}{K:AV->Prop}(hX:Rel E w ι X a)(hq:cvQ P src dst X K):pA P E w ι (convert src dst a) K:=by
 unfold cvQ at hq;split at hq;case h_3=>exact hq.elim
 case h_1=>
  rename_i h1 h2;split at hq;case h_2=>exact hq.elim
  cases mR hX;refine⟨_,_,fun _ _=>?_,.v _,hq.elim⟩;simp[convert,run_underlying h1,run_underlying h2,Conv.intToInt]
 case h_2=>
  rename_i h1 h2;split at hq;case h_2=>exact hq.elim
  cases mR hX;refine⟨_,_,fun _ _=>?_,.v _,hq⟩;simp[convert,run_underlying h1,run_underlying h2]
theorem Z8{op:UnOp}{X:AV}{a:Value}{K:AV->Prop}(hX:Rel E w ι X a)(hq:unQ op X K):pA P E w ι (Op.unary op a) K:=by
 unfold unQ at hq;split at hq;case h_4=>exact hq.elim
 case h_1=>
  split at hq;case h_2=>exact hq.elim
  cases mR hX;exact⟨_,_,fun _ _=>by simp only[Op.unary,Op.intArith];rfl,.v _,hq.elim⟩
 case h_2=>
  split at hq;case h_4=>exact hq.elim
  case h_1=>cases mR hX;exact⟨_,_,fun _ _=>by simp only[Op.unary];rfl,.v _,hq⟩
  case h_2=>cases mR hX;exact⟨_,_,fun _ _=>by simp only[Op.unary];rfl,.v _,hq⟩
  case h_3=>cases hX;exact⟨_,_,fun _ _=>by simp only[Op.unary];rfl,.sb _,hq⟩
 case h_3=>
  split at hq;case h_2=>exact hq.elim
  cases mR hX;refine⟨_,_,fun _ _=>?_,.v _,hq⟩;simp[Op.unary,Op.intBits,oM]
/-! ### building values -/
def RL(E:Nat->Prop)(w:World)(ι:Inj)(xs:List AV)(c:Array Value):Prop:=xs.length=c.size/\∀(i:Nat) x y,xs[i]? =some x->c[i]? =some y->Rel E w ι x y
theorem Xu{x:AV}{y:Value}(h:Rel E w ι x y):Rel E w ι (nb1 x) y:=by
 cases h with
 |v=>cases y<;>first|exact .sb _|exact .v _
 |sb b=>exact .sb b
 |agg cs c hs h=>exact .agg cs c hs h
 |nils=>exact .nils
 |lnil a c=>exact .lnil a c
 |lst xs b off n cap sz hE hb hn hcap hz g hg h=>exact .lst xs b off n cap sz hE hb hn hcap hz g hg h
 |fp cs b off hE hb g hg h=>exact .fp cs b off hE hb g hg h
 |op id off b base hι=>exact .op id off b base hι
 |ep id sz i off b base hι=>exact .ep id sz i off b base hι
 |osz id sz off a=>exact .osz id sz off a
 |os id sz off len b base cap hι hc h=>exact .os id sz off len b base cap hι hc h
 |fn f fs cs F C hF hC h1 h2=>exact .fn f fs cs F C hF hC h1 h2
 |tup cs c hs h=>exact .tup cs c hs h
 |junk y=>exact .junk y
 |mp id b base hι=>exact .mp id b base hι
 |dfr id s y=>exact .dfr id s y
theorem Rr:∀(l:List AV) (i:Nat),(Rq l)[i]? =(l[i]?).map nb1
 |[],i=>by simp[Rq]
 |x::xs,0=>by simp[Rq]
 |x::xs,i+1=>by simpa[Rq]using Rr xs i
theorem G0:∀(l:List AV),(Rq l).length=l.length
 |[]=>rfl
 |x::xs=>by simp[Rq,G0 xs]
theorem tE{x:AV}{y:Value}(h:Rel E w ι x y):Rel E w ι (nbA x) y:=by
 cases x with
 |agg cs=>
  cases h with
  |agg _ c hs h=>
   refine .agg _ _ (by rw[G0];exact hs) (fun i a b ha hb=>?_);rw[Rr,bW]at ha;obtain⟨a0,ha,rfl⟩:=ha;exact Xu (h i a0 b ha hb)
 |_=>exact Xu h
theorem Xt{x:AV}{y:Value}(h:Rel E w ι x y):Rel E w ι (ag1 x) y:=by
 cases h with
 |nils=>exact .lnil none 0
 |v=>exact .v _
 |sb b=>exact .sb b
 |agg cs c hs h=>exact .agg cs c hs h
 |lnil a c=>exact .lnil a c
 |lst xs b off n cap sz hE hb hn hcap hz g hg h=>exact .lst xs b off n cap sz hE hb hn hcap hz g hg h
 |fp cs b off hE hb g hg h=>exact .fp cs b off hE hb g hg h
 |op id off b base hι=>exact .op id off b base hι
 |ep id sz i off b base hι=>exact .ep id sz i off b base hι
 |osz id sz off a=>exact .osz id sz off a
 |os id sz off len b base cap hι hc h=>exact .os id sz off len b base cap hι hc h
 |fn f fs cs F C hF hC h1 h2=>exact .fn f fs cs F C hF hC h1 h2
 |tup cs c hs h=>exact .tup cs c hs h
 |junk y=>exact .junk y
 |mp id b base hι=>exact .mp id b base hι
 |dfr id s y=>exact .dfr id s y
theorem P1:∀(l:List AV) (i:Nat),(P0 l)[i]? =(l[i]?).map ag1
 |[],i=>by simp[P0]
 |x::xs,0=>by simp[P0]
 |x::xs,i+1=>by simpa[P0]using P1 xs i
theorem Gh:∀(l:List AV),(P0 l).length=l.length
 |[]=>rfl
 |x::xs=>by simp[P0,Gh xs]
theorem aJB{x:AV}{y:Value}(h:Rel E w ι x y):Rel E w ι (agA x) y:=by
 cases x with
 |agg cs=>
  cases h with
  |agg _ c hs h=>
   refine .agg _ _ (by rw[Gh];exact hs) (fun i a b ha hb=>?_);rw[P1,bW]at ha;obtain⟨a0,ha,rfl⟩:=ha;exact Xt (h i a0 b ha hb)
 |_=>exact Xt h
theorem Vl:∀(l:List AV) (i:Nat),(agL l)[i]? =(l[i]?).map agA
 |[],i=>by simp[agL]
 |x::xs,0=>by simp[agL]
 |x::xs,i+1=>by simpa[agL]using Vl xs i
theorem H8:∀(l:List AV),(agL l).length=l.length
 |[]=>rfl
 |x::xs=>by simp[agL,H8 xs]
theorem RL.agL{xs:List AV}{c:Array Value}(h:RL E w ι xs c):RL E w ι (Go.Vm.agL xs) c:=by
 refine⟨by rw[H8];exact h.1,fun i a b ha hb=>?_⟩;rw[Vl,bW]at ha;obtain⟨a0,ha,rfl⟩:=ha;exact aJB (h.2 i a0 b ha hb)
theorem pF{x:AV}{y:Value}(h:Rel E w ι x y)(hs:x.solid=true):RL E w ι x.cells y.cells:=by
 have one:∀{x:AV} {y:Value},Rel E w ι x y->x.cells=[x]->y.cells=#[y]->RL E w ι x.cells y.cells:=by
  intro x y h h1 h2;rw[h1,h2];refine⟨rfl,fun i a b ha hb=>?_⟩;cases i with
  |zero=>simp at ha hb;subst ha;subst hb;exact h
  |succ i=>simp at ha
 cases h with
 |agg cs c hs' h=>exact⟨hs',h⟩
 |v y=>cases y<;>first|(simp[AV.solid]at hs;done)|exact one (.v _) rfl rfl
 |junk=>simp[AV.solid]at hs
 |sb b=>exact one (.sb b) rfl rfl
 |nils=>exact one .nils rfl rfl
 |lnil a c=>exact one (.lnil a c) rfl rfl
 |lst xs b off n cap sz hE hb hn hcap hz g hg h=>exact one (.lst xs b off n cap sz hE hb hn hcap hz g hg h) rfl rfl
 |fp cs b off hE hb g hg h=>exact one (.fp cs b off hE hb g hg h) rfl rfl
 |op id off b base hι=>exact one (.op id off b base hι) rfl rfl
 |ep id sz i off b base hι=>exact one (.ep id sz i off b base hι) rfl rfl
 |osz id sz off a=>exact one (.osz id sz off a) rfl rfl
 |os id sz off len b base cap hι hc h=>exact one (.os id sz off len b base cap hι hc h) rfl rfl
 |fn f fs cs F C hF hC h1 h2=>exact one (.fn f fs cs F C hF hC h1 h2) rfl rfl
 |tup cs c hs' h=>exact one (.tup cs c hs' h) rfl rfl
 |mp id b base hι=>exact one (.mp id b base hι) rfl rfl
 |dfr=>simp[AV.solid]at hs
theorem Ja(off:Nat):∀(l:List Value) (k:Nat) (cs:Array Value),
  (((l.zipIdx k).foldl (fun cs (p:Value×Nat)=>cs.setIfInBounds (off+p.2) p.1) cs).size=cs.size)/\
  ∀i,((l.zipIdx k).foldl (fun cs (p:Value×Nat)=>cs.setIfInBounds (off+p.2) p.1) cs)[i]? =if off+k<=i/\i<off+k+l.length/\i<cs.size then l[i-(off+k)]? else cs[i]?
 |[],k,cs=>⟨rfl,fun i=>by rw[aF (by simp;omega)];rfl⟩
 |v::l,k,cs=>by
  obtain⟨h1,h2⟩:=Ja off l (k+1) (cs.setIfInBounds (off+k) v);refine⟨by simpa using h1,fun i=>?_⟩;simp only[List.zipIdx_cons,fJ];rw[h2 i];simp only[Array.size_setIfInBounds,aB];by_cases hi:i=off+k
  ·subst hi;rw[aF zo];by_cases hc:off+k<cs.size
   ·rw[aH zo];simp[hc]
   ·rw[aF zo];simp[hc]
  ·rw[Array.getElem?_setIfInBounds_ne zo];by_cases hin:off+(k+1)<=i/\i<off+(k+1)+l.length/\i<cs.size
   ·rw[aH hin,aH zo];have:i-(off+k)=(i-(off+(k+1)))+1:=by omega
    rw[this];rfl
   ·rw[aF hin,aF zo]
theorem RL.setAt{xs vs:List AV}{c u:Array Value}(h:RL E w ι xs c)(hv:RL E w ι vs u){off:Nat}(hle:off+vs.length<=xs.length):
  RL E w ι (setAt xs off vs) (u.zipIdx.foldl (fun cs (c,j)=>cs.setIfInBounds (off+j) c) c):=by
 obtain⟨⟨l⟩⟩:∃l:Array Value,l=u:=⟨u,rfl⟩
 obtain⟨ul⟩:=u;have hf:=Ja off ul 0 c;have he:((⟨ul⟩:Array Value).zipIdx.foldl (fun cs (c,j)=>cs.setIfInBounds (off+j) c) c)=((ul.zipIdx 0).foldl (fun cs (p:Value×Nat)=>cs.setIfInBounds (off+p.2) p.1) c):=by
  rw[<-Array.foldl_toList];simp only[Array.toList_zipIdx]
 rw[he];obtain⟨h1,h2⟩:=h;obtain⟨h3,h4⟩:=hv;have h3':vs.length=ul.length:=h3;refine⟨by rw[hf.1];simp[Go.Vm.setAt];omega,fun i x y hx hy=>?_⟩;rw[hf.2 i]at hy;unfold Go.Vm.setAt at hx;by_cases hi:i<off
 ·rw[aF zo]at hy;rw[bJ (by simp;omega),cZ,aH hi]at hx;exact h2 i x y hx hy
 ·rw[bF (by simp;omega)]at hx;have ht:(xs.take off).length=off:=by simp;omega
  rw[ht]at hx;by_cases hin:i<off+vs.length
  ·rw[aH zo]at hy;rw[bJ zo]at hx;exact h4 (i-off) x y hx (by simpa using hy)
  ·rw[aF zo]at hy;rw[bF zo,cJ]at hx;exact h2 i x y (by rw[<-hx];congr 1;omega) hy
theorem vZ{place place':Nat->Option (Nat×Nat)}:∀(parts:List (Nat×AV)) (vals:List (Nat×Value)) (cs cs':List AV) (c:Array Value),(∀i,i∈parts.map (·.1)->place' i=place i)->RL E w ι cs c->
  vals.length=parts.length->(∀(j:Nat) p q,parts[j]? =some p->vals[j]? =some q->p.1=q.1/\Rel E w ι p.2 q.2)->Ly place cs parts=some cs'->
  ∃c',Instr.fill place' c vals=some c'/\RL E w ι cs' c'
 |[],vals,cs,cs',c,_,h,hl,_,hq=>by
  simp only[aI,cT]at hl;subst hl;simp only[Ly,bN]at hq;subst hq;exact⟨c,rfl,h⟩
 |(i,x)::parts,[],cs,cs',c,_,h,hl,_,hq=>by simp at hl
 |(i,x)::parts,(i',v)::vals,cs,cs',c,hp,h,hl,hr,hq=>by
  obtain⟨h1,h2⟩:=hr 0 _ _ rfl rfl;simp only at h1 h2;subst h1;simp only[Ly]at hq;cases hpl:place i with
  |none=>simp[hpl]at hq
  |some os=>
   obtain⟨off,size⟩:=os;simp only[hpl]at hq;split at hq
   ·cases hq
   ·rename_i hb;simp only[aJ]at hb;obtain⟨hs,hb1,hb2⟩:=hb;have hb1:=aY hb1;have hb2:=cB hb2;have hc:=pF h2 hs;obtain⟨c',h3,h4⟩:=vZ parts vals (setAt cs off x.cells) cs' _ (fun k hk=>hp k (by simp at hk⊢;exact .inr hk)) (h.setAt hc hb2) (by simpa using hl)
     (fun j p q hpj hqj=>hr (j+1) p q (by simpa using hpj) (by simpa using hqj)) hq
    refine⟨c',?_,h4⟩;simp only[Instr.fill,hp i zx,hpl];rw[aF]
    ·exact h3
    ·have e1:=hc.1;have e2:=h.1;simp only[bV,aL,ne_eq,not_or];simp;omega
theorem yJ:∀(fs:List Field) (ps:List (Nat×Nat)),placesOf P fs=some ps->
  (fs.mapM (fun f=>do pure (f.offset,<-sizeOf f.type):Field->Sem (Nat×Nat))).run P w=.ok ps w
 |[],ps,h=>by simp[placesOf]at h;subst h;simp
 |f::fs,ps,h=>by
  simp only[placesOf]at h;split at h
  ·rename_i m r hm hr;cases h;have:=yJ fs r hr;simp only[List.mapM_cons,Sem.run_bind,lX (P:=P) (w:=w) hm,Result.andThen_ok,Sem.run_pure,this]
  ·cases h
theorem K6(x:Value):(ofValue x).solid=true:=by
 unfold ofValue;split
 ·rfl
 ·rfl
 ·split<;>rfl
 ·rename_i h1 _ _;cases x<;>first|rfl|exact absurd rfl (h1 _)
theorem Z4{x:AV}(h:x.solid=true):(nbA x).solid=true:=by
 cases x with
 |v z=>cases z<;>first|rfl|simp[AV.solid]at h
 |junk=>simp[AV.solid]at h
 |dfr=>simp[AV.solid]at h
 |_=>rfl
theorem sU{t:TypeId}{z:List AV}(h:qK P t=some z):∃c i,(zeroValue t).run P w=.ok c w/\RL E w ι z c.cells/\P.info? t=some i/\i.zero=some c:=by
 unfold qK at h;split at h
 ·rename_i i hi;split at h
  ·rename_i zv hz;cases h;exact⟨zv,i,by simp[zeroValue,typeInfo,hi,hz],pF (tE (wU zv)) (Z4 (K6 zv)),hi,hz⟩
  ·cases h
 ·cases h
theorem S7{t:TypeId}{parts:List (Nat×AV)}{vals:Array (Nat×Value)}{K:AV->Prop}(hl:vals.size=parts.length)
  (hr:∀(j:Nat) p q,parts[j]? =some p->vals[j]? =some q->p.1=q.1/\Rel E w ι p.2 q.2)(hq:aLe P t parts K):pA P E w ι (Instr.build t vals) K:=by
 unfold aLe at hq;simp only[nA]at hq;split at hq
 ·exact hq.elim
 ·rename_i z hz;obtain⟨zv,i,_,h2,hi1,hi2⟩:=sU (E:=E) (w:=w) (ι:=ι) hz;have h1:∀w2,(zeroValue t).run P w2=.ok zv w2:=fun w2=>by simp[zeroValue,typeInfo,hi1,hi2]
  split at hq
  ·rename_i fs hu;split at hq
   ·rename_i ps hp;split at hq
    ·rename_i cs hf;obtain⟨c',h3,h4⟩:=vZ (place':=fun i=>ps[i]?) parts vals.toList z cs zv.cells (fun i _=>by simp) h2 (by simpa using hl) (fun j p q hp hq=>hr j p q hp (by simpa using hq)) hf;refine⟨.agg c',.agg cs,fun w _=>?_,.agg _ _ h4.1 h4.2,hq⟩;have hm:=yJ (P:=P) (w:=w) fs.toList ps hp;have hm':(fs.mapM (fun f=>do pure (f.offset,<-sizeOf f.type):Field->Sem (Nat×Nat))).run P w=.ok ps.toArray w:=by
      rw[Array.mapM_eq_mapM_toList];simp only[Sem.run_map,hm,Result.andThen_ok]
     simp only[Instr.build,Sem.run_bind,h1,Result.andThen_ok,run_underlying hu,hm'];simp[h3]
    ·exact hq.elim
   ·exact hq.elim
  ·rename_i m e hu;split at hq
   ·rename_i n hn;split at hq
    ·rename_i cs hf;obtain⟨c',h3,h4⟩:=vZ (place':=fun i=>some (i*n,n)) parts vals.toList z cs zv.cells (fun i _=>rfl) h2 (by simpa using hl) (fun j p q hp hq=>hr j p q hp (by simpa using hq)) hf;refine⟨.agg c',.agg cs,fun w _=>?_,.agg _ _ h4.1 h4.2,hq⟩;simp only[Instr.build,Sem.run_bind,h1,Result.andThen_ok,run_underlying hu,lX (P:=P) (w:=w) hn];simp[h3]
    ·exact hq.elim
   ·exact hq.elim
  ·exact hq.elim
theorem Qc(k:IntKind)(i:Nat)(y:Nat)(code:BoundsCode)(h:i<=y):(Instr.sliceBound (.int k (i:Int)) y code).run P w=.ok i w:=by
 simp[Instr.sliceBound,asIntOf,h]
def Nf(o:Option Value)(d:Nat)(i:Nat):Prop:=(o=none/\i=d)\/∃k,o=some (.int k (i:Int))
theorem pX{isS:Bool}{len cap l h:Nat}{lo hi:Option Value}(hl:Nf lo 0 l)(hh:Nf hi len h)(h1:l<=h)(h2:h<=cap):
  (Instr.sliceBounds isS len cap lo hi none).run P w=.ok (l,h,cap) w:=by
 rcases hl with⟨rfl,rfl⟩|⟨k,rfl⟩<;>rcases hh with⟨rfl,rfl⟩|⟨k',rfl⟩<;>simp[Instr.sliceBounds,Qc _ _ _ _ h1,Qc _ _ _ _ h2]
theorem tS{d:Nat}{o:Option AV}{ov:Option Value}(ho:o=none/\ov=none\/∃x y,o=some x/\ov=some y/\Rel E w ι x y){l:Int}(h:bnd (d:Int) o=some l){l':Nat}(e:l=(l':Int)):Nf ov d l':=by
 subst e;rcases ho with⟨rfl,rfl⟩|⟨x,y,rfl,rfl,hr⟩
 ·simp only[bnd,bN]at h;exact .inl ⟨rfl,by omega⟩
 ·unfold bnd at h;split at h
  ·rename_i hx;cases hx
  ·rename_i hx;cases hx;cases h;cases mR hr;exact .inr ⟨_,rfl⟩
  ·cases h
theorem rA{t e:TypeId}{m len cap l h:Nat}{a:Option Addr}{lo hi:Option Value}(hu:P.underlying t=some (.slice e))(hz:(sizeOf e).run P w=.ok m w)
  (hb:(Instr.sliceBounds true len cap lo hi none).run P w=.ok (l,h,cap) w):
  (Instr.sliceAt t (.slice a len cap) lo hi none).run P w=.ok (.slice (if cap=l then a else a.map (·.add (l*m))) (h-l) (cap-l)) w:=by
 simp[Instr.sliceAt,run_underlying hu,Instr.slice,hb,hz]
theorem Eh(b o c:Nat)(hE:¬E b)(hb:b<w.heap.size):Rel E w ι (.lst []) (.slice (some ⟨b,o,none⟩) 0 c):=
 .lst [] b o 0 c 0 hE hb rfl (aK _) (fun i x hx=>by simp at hx) (fun _ _=>default) (fun i x j y hx=>by simp at hx) (fun i x j y hx=>by simp at hx)
theorem Pm{t:TypeId}{X:AV}{lo hi:Option AV}{a:Value}{lov hiv:Option Value}{K:AV->Prop}(hX:Rel E w ι X a)
  (hlo:lo=none/\lov=none\/∃x y,lo=some x/\lov=some y/\Rel E w ι x y)(hhi:hi=none/\hiv=none\/∃x y,hi=some x/\hiv=some y/\Rel E w ι x y)
  (hq:U9 P t X lo hi K):pA P E w ι (Instr.sliceAt t a lov hiv none) K:=by
 unfold U9 at hq;split at hq
 ·exact hq.elim
 rename_i l hl;have hl':=fun l'=>tS (d:=0) hlo (l':=l') hl;split at hq;case h_4=>exact hq.elim
 case h_3=>
  rename_i len e hu;split at hq;case h_2=>exact hq.elim
  rename_i hm;have hz:=fun w=>lX (P:=P) (w:=w) hm;split at hq;case h_2=>exact hq.elim
  rename_i cs;split at hq;case h_1=>exact hq.elim
  rename_i h hh;split at hq;case h_2=>exact hq.elim
  rename_i hc;simp only[aJ]at hc;obtain⟨hlen,hall⟩:=hc;have hlen:=aY hlen;have hcell:∀x,x∈cs->x.cells=[x]:=fun x hx=>AV.unit1_cells (bT.1 hall x hx);obtain⟨l',h',e1,e2,h1,h2,hk⟩:=hq.elim;obtain⟨h3,hk⟩:=hk.elim;have hh':=tS hhi hh e2;cases hX with
  |fp _ b off hE hbb g hg hr=>
   have hb:=fun w=>pX (P:=P) (w:=w) (isS:=false) (len:=len) (cap:=len) (hl' l' e1) hh' h1 h2;refine⟨.slice (some (if len=l' then⟨b,off,none⟩else(⟨b,off,none⟩:Addr).add (l'*1))) (h'-l') (len-l'),_,fun w2 _=>?_,?_,hk⟩
   ·simp[Instr.sliceAt,run_underlying hu,Instr.sureAddr,hb w2,hz w2]
   ·by_cases hne:h'=l'
    ·subst hne;rw[dH,cA];split
     ·exact Eh _ _ _ hE hbb
     ·simp only[Addr.add_none];exact Eh _ _ _ hE hbb
    ·rw[aF zo];simp only[Addr.add_none];have hget:∀(i:Nat) x,((cs.drop l').take (h'-l'))[i]? =some x->cs[l'+i]? =some x:=by
      intro i x hx;rw[cZ]at hx;split at hx
      ·rwa[cJ]at hx
      ·cases hx
     refine .lst _ b _ _ _ 1 hE hbb (by simp;omega) zo (fun i x hx=>by rw[hcell x (aG (hget i x hx))];rfl) (fun i j=>g (l'+i)) (fun i x j y hx hy=>?_) (fun i x j y hx hy=>?_)
     ·have hx':=hget i x hx;rw[hcell x (aG hx')]at hy;cases j with
      |zero=>
       simp at hy;subst hy;rw[<-hg (l'+i) x hx']
       congr 2
       omega
      |succ j=>simp at hy
     ·have hx':=hget i x hx;rw[hcell x (aG hx')]at hy;cases j with
      |zero=>
       simp at hy;subst hy;exact hr (l'+i) x hx'
      |succ j=>simp at hy
 case h_1=>
  rename_i e hu;split at hq;case h_1=>exact hq.elim
  rename_i m hm;have hz:=fun w=>lX (P:=P) (w:=w) hm;cases X<;>simp only at hq
  case lst xs=>
   split at hq;case h_1=>exact hq.elim
   rename_i h hh;obtain⟨hms,hq⟩:=hq.elim;obtain⟨l',h',e1,e2,h1,h2,hk⟩:=hq.elim;obtain⟨h3,hk⟩:=hk.elim;have hh':=tS hhi hh e2;cases hX with
   |lnil a c=>
    simp only[aI]at h2;have hlen0:h'=0:=by omega
    have hl0:l'=0:=by omega
    subst hlen0;subst hl0;have hb:=fun w=>pX (P:=P) (w:=w) (isS:=true) (len:=0) (cap:=c) (hl' 0 e1) hh' (aO _) (aK _);exact⟨_,_,fun w2 _=>rA hu (hz w2) (hb w2),.lnil _ _,by simpa using hk⟩
   |lst _ b off nn cap sz hE hbb hn hcap hzz g hg hr=>
    subst hn;have hb:=fun w=>pX (P:=P) (w:=w) (isS:=true) (len:=xs.length) (cap:=cap) (hl' l' e1) hh' h1 zo;refine⟨_,_,fun w2 _=>rA hu (hz w2) (hb w2),?_,hk⟩;by_cases hne:h'=l'
    ·subst hne;rw[dH,cA];split
     ·exact Eh _ _ _ hE hbb
     ·simp only[dG,Addr.add_none];exact Eh _ _ _ hE hbb
    ·rw[aF zo];simp only[dG,Addr.add_none];have hx0:xs[l']? =some xs[l']:=aE zo;have hsz:sz=m:=by rw[<-hzz l' _ hx0];exact hms _ (aG hx0)
     subst hsz;have hget:∀(i:Nat) x,((xs.drop l').take (h'-l'))[i]? =some x->xs[l'+i]? =some x:=by
      intro i x hx;rw[cZ]at hx;split at hx
      ·rwa[cJ]at hx
      ·cases hx
     refine .lst _ b _ _ _ sz hE hbb (by simp;omega) zo (fun i x hx=>hzz _ x (hget i x hx)) (fun i j=>g (l'+i) j) (fun i x j y hx hy=>?_) (fun i x j y hx hy=>hr _ x j y (hget i x hx) hy);rw[<-hg (l'+i) x j y (hget i x hx) hy]
     congr 2
     rw[cE];omega
  case os id sz off len=>
   split at hq;case h_1=>exact hq.elim
   rename_i hs;have hs:=aY hs;subst hs;split at hq;case h_1=>exact hq.elim
   rename_i h hh;obtain⟨l',h',e1,e2,h1,h2,hk⟩:=hq.elim;have hh':=tS hhi hh e2;cases hX with
   |osz=>
    have hlen0:h'=0:=by omega
    have hl0:l'=0:=by omega
    subst hlen0;subst hl0;have hb:=fun w=>pX (P:=P) (w:=w) (isS:=true) (len:=0) (cap:=0) (hl' 0 e1) hh' (aO _) (aO _);exact⟨_,_,fun w2 _=>rA hu (hz w2) (hb w2),.osz _ _ _ _,hk⟩
   |os _ _ _ _ b base cap hι hc hcell=>
    have hb:=fun w=>pX (P:=P) (w:=w) (isS:=true) (len:=len) (cap:=cap) (hl' l' e1) hh' h1 zo;refine⟨_,_,fun w2 _=>rA hu (hz w2) (hb w2),?_,hk⟩;by_cases hne:cap=l'
    ·have h0:h'-l'=0:=by omega
     have h00:cap-l'=0:=by omega
     rw[h0,h00];exact .osz _ _ _ _
    ·rw[aF hne];simp only[dG,Addr.add_none];rw[cD,<-cE];refine .os id sz (off+l') (h'-l') b base (cap-l') hι zo (fun j hj=>?_);have:=hcell (l'*sz+j) (by rw[Nat.sub_mul]at hj;omega);rw[cE,<-cD base,cD _ (l'*sz) j];exact this
  case nils=>
   split at hq;case h_1=>exact hq.elim
   rename_i h hh;obtain⟨l',h',e1,e2,h1,h2,hk⟩:=hq.elim;have hlen0:h'=0:=by omega
   have hl0:l'=0:=by omega
   subst hlen0;subst hl0;have hh':=tS (d:=0) hhi hh e2;cases hX;have hb:=fun w=>pX (P:=P) (w:=w) (isS:=true) (len:=0) (cap:=0) (hl' 0 e1) hh' (aO _) (aO _);exact⟨_,_,fun w2 _=>rA hu (hz w2) (hb w2),.nils,hk⟩
 case h_2=>
  rename_i hu;split at hq;case h_2=>exact hq.elim
  rename_i s;split at hq;case h_1=>exact hq.elim
  rename_i h hh;obtain⟨l',h',e1,e2,h1,h2,hk⟩:=hq.elim;have hh':=tS hhi hh e2;cases mR hX;have hb:=fun w=>pX (P:=P) (w:=w) (isS:=false) (len:=s.size) (cap:=s.size) (hl' l' e1) hh' h1 h2;refine⟨_,_,fun _ _=>?_,.v _,hk⟩;simp[Instr.sliceAt,run_underlying hu,Instr.slice,hb]
theorem Pe{ev:Operand->AV}{ρ:Operand->Value}(hev:∀x,Rel E w ι (ev x) (ρ x))(xs:Array Operand):RL E w ι (xs.toList.map ev) (xs.map ρ):=by
 refine⟨by simp,fun i x y hx hy=>?_⟩;simp only[bX,Array.getElem?_map]at hx hy;have e:xs.toList[i]? =xs[i]? :=by simp
 rw[e]at hx;cases h:xs[i]? with
 |none=>simp[h]at hx
 |some o=>simp[h]at hx hy;subst hx;subst hy;exact hev o
theorem Zz(r:Rep ι E w n h){ev:Operand->AV}{ρ:Operand->Value}(hev:∀x,Rel E w ι (ev x) (ρ x)){o:Oper}{K:AV->Prop}(hq:qop P h ev o.op K):
  ∃v x,(∀w2,(Rd o.op=true->Same w w2)->(execOp ρ o).run P w2=.ok (.value v) w2)/\Rel E w ι x v/\K x:=by
 have lift:∀{s:Sem Value},pA P E w ι s K->execOp ρ o=(do pure (.value (<-s)))->∃v x,(∀w2,(Rd o.op=true->Same w w2)->(execOp ρ o).run P w2=.ok (.value v) w2)/\Rel E w ι x v/\K x:=by
  intro s ⟨v,x,h1,h2,h3⟩ he;exact⟨v,x,fun w2 hw=>by rw[he];simp[h1 w2 trivial],h2,h3⟩
 unfold qop at hq;split at hq<;>rename_i ho<;>try exact hq.elim
 ·exact⟨_,_,fun _ _=>by simp only[execOp,ho];rfl,hev _,hq⟩
 ·exact⟨_,_,fun _ _=>by simp only[execOp,ho];rfl,hev _,hq⟩
 ·rename_i c a b;have hc:=hev c;split at hq
  ·rename_i he;rw[he]at hc;have hc:=mR hc;exact⟨_,_,fun _ _=>by simp only[execOp,ho,hc];rfl,hev a,hq⟩
  ·rename_i he;rw[he]at hc;have hc:=mR hc;exact⟨_,_,fun _ _=>by simp only[execOp,ho,hc];rfl,hev b,hq⟩
  ·rename_i bb he;rw[he]at hc;have hc:ρ c=.bool bb:=Ej hc rfl;obtain⟨h1,h2⟩:=hq.elim;cases bb with
   |true=>exact⟨_,_,fun _ _=>by simp only[execOp,ho,hc];rfl,hev a,h1 rfl⟩
   |false=>exact⟨_,_,fun _ _=>by simp only[execOp,ho,hc];rfl,hev b,h2 rfl⟩
  ·exact hq.elim
 ·obtain⟨b,hb,⟨v,x,h1,h2,h3⟩,_⟩:=Ud r (hev _) hq;exact⟨v,x,fun w2 hw=>by simp only[execOp,ho];simp[h1 w2 (hw (by rw[ho];rfl) b hb)],h2,h3⟩
 ·rename_i x;have hx:=hev x;split at hq
  ·rename_i he;rw[he]at hx;obtain⟨b,o',hp⟩:=Tw hx;exact⟨_,_,fun _ _=>by simp only[execOp,ho,hp];rfl,by rw[hp]at hx;exact hx,hq⟩
  ·rename_i he;rw[he]at hx;generalize hy:ρ x=y at hx;have hx':=hx;cases hx with
   |op _ _ b base hι=>exact⟨_,_,fun _ _=>by simp only[execOp,ho,hy];rfl,hx',hq⟩
  ·rename_i he;rw[he]at hx;generalize hy:ρ x=y at hx;have hx':=hx;cases hx with
   |ep _ _ _ _ b base hι=>exact⟨_,_,fun _ _=>by simp only[execOp,ho,hy];rfl,hx',hq⟩
  ·exact hq.elim
 ·rename_i op t x y ty;exact lift (S6 (x:=x) (y:=y) (hev _) (hev _) hq) (by simp only[execOp,ho])
 ·exact lift (Z8 (hev _) hq) (by simp only[execOp,ho])
 ·exact lift (Ym (hev _) hq) (by simp only[execOp,ho])
 ·exact lift (Od (hev _) hq) (by simp only[execOp,ho])
 ·rename_i t x f;have hx:=hev x;split at hq;case h_2=>exact hq.elim
  rename_i fs hu;split at hq;case h_2=>exact hq.elim
  rename_i fd cs hf he;rw[he]at hx;generalize hy:ρ x=y at hx;have hx':=hx;cases hx with
  |agg _ c hs hh=>
   obtain⟨v,z,h1,h2,h3⟩:=G2 hx' hq;exact lift (s:=Instr.field t (ρ x) f) ⟨v,z,fun w2 hw=>by simp[Instr.field,run_underlying hu,hf,hy,asAgg,h1 w2 hw],h2,h3⟩ (by simp only[execOp,ho])
 ·exact lift (T2 r (hev _) (hev _) hq) (by simp only[execOp,ho])
 ·exact lift (On (hev _) (hev _) hq) (by simp only[execOp,ho])
 ·rename_i x i;have hx:=hev x;split at hq;case h_2=>exact hq.elim
  rename_i vs he;split at hq;case h_2=>exact hq.elim
  rename_i y hvi;rw[he]at hx;generalize hz:ρ x=z at hx;cases hx with
  |tup _ c hs hh=>
   have hlt:i<c.size:=by
    rw[<-hs];rcases aD i vs.length with h|h
    ·exact h
    ·simp[h]at hvi
   have hc:c[i]? =some c[i]:=bL hlt;exact lift (s:=Instr.extract (ρ x) i) ⟨c[i],y,by simp[Instr.extract,hz,hc],hh i _ _ hvi hc,hq⟩ (by simp only[execOp,ho])
 ·rename_i t parts;refine lift (S7 (vals:=parts.map fun x=>(x.1,ρ x.2)) zx (fun j p q hp hq=>?_) hq) (by simp only[execOp,ho]);simp only[bX,Array.getElem?_map,eS]at hp hq;cases h:parts[j]? with
  |none=>simp[h]at hp
  |some pr=>
   simp[h]at hp hq;subst hp;subst hq;exact⟨rfl,tE (hev _)⟩
 ·rename_i fn first cap
  have h1:=Pe hev first
  have h2:=Pe hev cap;exact lift ⟨_,_,fun _ _=>rfl,.fn fn _ _ _ _ h1.1 h2.1 h1.2 h2.2,hq⟩ (by simp only[execOp,ho];rfl)
 ·rename_i t x lo hi mx;split at hq;case h_2=>exact hq.elim
  refine lift (Pm (hev x) ?_ ?_ hq) (by simp only[execOp,ho];rfl)
  ·cases lo with
   |none=>exact .inl ⟨rfl,rfl⟩
   |some l=>exact .inr ⟨_,_,rfl,rfl,hev l⟩
  ·cases hi with
   |none=>exact .inl ⟨rfl,rfl⟩
   |some l=>exact .inr ⟨_,_,rfl,rfl,hev l⟩
 ·rename_i c;have hm:=Pe hev c.args;split at hq
  ·rename_i hcal;split at hq;case h_2=>exact hq.elim
   rename_i t x ht hx;exact lift (Uf (ats:=c.argTypes) (args:=c.args.map ρ) (ty:=o.type) (hev x) ht (by simp[hx]) hq) (by simp[execOp,ho,resolve,hcal,invoke,builtin])
  ·rename_i hcal;exact lift (Mc (mx:=true) (ats:=c.argTypes) (ty:=o.type) hm.1.symm hm.2 hq) (by simp[execOp,ho,resolve,hcal,invoke,builtin])
  ·rename_i hcal;exact lift (Mc (mx:=false) (ats:=c.argTypes) (ty:=o.type) hm.1.symm hm.2 hq) (by simp[execOp,ho,resolve,hcal,invoke,builtin])
  ·exact hq.elim
end
def AV.one:AV->Bool
 |.v (.agg _)=>false
 |.v (.tuple _)=>false
 |.agg _=>false
 |.tup _=>false
 |.junk=>false
 |.dfr _ _=>false
 |_=>true
def AV.pure1:AV->Bool
 |.v (.agg _)=>false
 |.v (.tuple _)=>false
 |.v _=>true
 |.sb _=>true
 |.nils=>true
 |.lst _=>true
 |.fp _=>true
 |.fn _ [] []=>true
 |_=>false
def AV.pure:AV->Bool
 |.agg cs=>cs.all AV.pure1
 |x=>x.pure1
section
variable {P:Program} {E:Nat->Prop} {w:World} {ι:Inj} {n:Nat} {h:Hp}
theorem AV.one_of_pure1{x:AV}(h:x.pure1=true):x.one=true:=by
 cases x with
 |v y=>cases y<;>first|rfl|simp[AV.pure1]at h
 |_=>first|rfl|simp[AV.pure1]at h
theorem Xv{x:AV}{y:Value}(h:Rel E w ι x y)(ho:x.one=true):y.oneCell'=true:=by
 cases h with
 |v y=>cases y<;>first|rfl|simp[AV.one]at ho
 |agg=>simp[AV.one]at ho
 |tup=>simp[AV.one]at ho
 |junk=>simp[AV.one]at ho
 |dfr=>simp[AV.one]at ho
 |_=>rfl
theorem Rel.pure1{x:AV}{y:Value}{ι':Inj}(h:Rel E w ι x y)(hp:x.pure1=true):Rel E w ι' x y:=by
 cases h with
 |v y=>exact .v y
 |sb b=>exact .sb b
 |nils=>exact .nils
 |lnil a c=>exact .lnil a c
 |lst xs b off n cap sz hE hb hn hcap hz g hg h=>exact .lst xs b off n cap sz hE hb hn hcap hz g hg h
 |fp cs b off hE hb g hg h=>exact .fp cs b off hE hb g hg h
 |fn f fs cs F C hF hC h1 h2=>
  cases fs<;>cases cs<;>simp[AV.pure1]at hp
  exact .fn f [] [] F C hF hC (fun i x y hx _=>by simp at hx) (fun i x y hx _=>by simp at hx)
 |agg=>simp[AV.pure1]at hp
 |op=>simp[AV.pure1]at hp
 |ep=>simp[AV.pure1]at hp
 |osz=>simp[AV.pure1]at hp
 |os=>simp[AV.pure1]at hp
 |tup=>simp[AV.pure1]at hp
 |junk=>simp[AV.pure1]at hp
 |mp=>simp[AV.pure1]at hp
 |dfr=>simp[AV.pure1]at hp
theorem AV.pure_cells{x:AV}(h:x.pure=true):∀c,c∈x.cells->c.pure1=true:=by
 intro c hc;cases x with
 |agg cs=>simp only[AV.pure,bT]at h;exact h c hc
 |_=>simp only[AV.cells,aU]at hc;subst hc;exact h
theorem AV.solid_of_pure{x:AV}(h:x.pure=true):x.solid=true:=by
 cases x with
 |v y=>cases y<;>first|rfl|simp[AV.pure,AV.pure1]at h
 |junk=>simp[AV.pure,AV.pure1]at h
 |dfr=>simp[AV.pure,AV.pure1]at h
 |_=>rfl
def Sub(h0 h:Hp):Prop:=∀id o,get h0 id=some o->get h id=some o
theorem Sub.refl:Sub h h:=fun _ _ h=>h
def del:Hp->Nat->Hp
 |[],_=>[]
 |(k,x)::r,i=>match Nat.beq k i with
  |true=>del r i
  |false=>(k,x)::del r i
theorem qQ(k:Nat):Nat.beq k k=true:=Nat.beq_refl k
theorem kV(h:Hp)(i j:Nat):get (del h i) j=if i=j then none else get h j:=by
 induction h with
 |nil=>simp[del,get]
 |cons p r ih=>
  obtain⟨k,x⟩:=p;simp only[del];cases hb:Nat.beq k i with
  |true=>
   have:=aY hb;subst this;simp only[ih,jA];split<;>simp_all
  |false=>
   have hne:k≠i:=fun e=>by subst e;rw[qQ]at hb;cases hb
   simp only[jA,ih];by_cases hkj:k=j
   ·subst hkj;simp[Ne.symm hne]
   ·simp[hkj]
theorem Sub.del(i:Nat):Sub (del h i) h:=fun id o hg=>by
 rw[kV]at hg;split at hg
 ·cases hg
 ·exact hg
theorem Sub.trans{h1 h2 h3:Hp}(a:Sub h1 h2)(b:Sub h2 h3):Sub h1 h3:=fun id o hg=>b _ _ (a _ _ hg)
theorem Rep.sub{h0:Hp}(r:Rep ι E w n h)(hs:Sub h0 h):Rep ι E w n h0:=
 ⟨r.fresh,fun id o hg=>r.obj id o (hs _ _ hg),fun id id' o o' b base base' h1 h2=>r.sep id id' o o' b base base' (hs _ _ h1) (hs _ _ h2),r.bound,r.glob⟩
theorem Ext.sub{h0:Hp}(hs:Sub h0 h):Ext ι h E w ι h0 E w:=
 ⟨rfl,rfl,rfl,aO _,fun _ _ h=>h,fun _ _ _=>⟨rfl,Iff.rfl⟩,fun b _ ⟨id,o,base,h1,h2⟩=>⟨id,o,base,hs _ _ h1,h2⟩,fun _ h=>h,fun _ _=>rfl,aO _⟩
theorem Rep.get_n(r:Rep ι E w n h):get h n=none:=by
 cases hg:get h n with
 |none=>rfl
 |some o=>
  have h1:=r.obj n o hg;have h2:=r.fresh n (aO _);cases o with
  |box cs=>obtain⟨b,base,h3,_⟩:=h1;rw[h2]at h3;cases h3
  |arr sz xs=>
   rcases h1 with⟨h3,_⟩|⟨b,base,h3,_⟩
   ·rw[h2]at h3;cases h3
   ·rw[h2]at h3;cases h3
  |spc s=>obtain⟨b,base,h3,_⟩:=h1;rw[h2]at h3;cases h3
def Inj.set(ι:Inj)(n:Nat)(p:Option (Nat×Nat)):Inj:=fun i=>if i=n then some p else ι i
theorem Inj.set_same(p:Option (Nat×Nat)):(ι.set n p) n=some p:=by simp[Inj.set]
theorem Inj.set_ext(r:Rep ι E w n h)(p:Option (Nat×Nat)):∀id q,ι id=some q->(ι.set n p) id=some q:=by
 intro id q hq;unfold Inj.set;split
 ·rename_i e;subst e;rw[r.fresh _ (aO _)]at hq;cases hq
 ·exact hq
theorem ORel.keep{E':Nat->Prop}{w':World}{ι':Inj}(hk:Keeps E w E' w')(hι:∀id q,ι id=some q->ι' id=some q){id:Nat}{o:Obj}(ho:ORel E w ι id o)
  (hE:∀b base,ι id=some (some (b,base))->E' b)(hc:∀b base,ι id=some (some (b,base))->w'.heap[b]? =w.heap[b]?):ORel E' w' ι' id o:=by
 cases o with
 |box cs=>
  obtain⟨b,base,h1,h2,h3,h4⟩:=ho;refine⟨b,base,hι _ _ h1,hE _ _ h1,cN h3 hk.size,fun i c hic=>?_⟩;obtain⟨u,h5,h6,h7⟩:=h4 i c hic;exact⟨u,by rw[cell_of_heap (a:=⟨b,_,none⟩) (hc _ _ h1)];exact h5,by rw[hk.mark _ (by simp[h5])];exact h6,h7.keep hk hι⟩
 |arr sz xs=>
  rcases ho with⟨h1,h2⟩|⟨b,base,h1,h2,h3,h4,h5⟩
  ·exact .inl ⟨hι _ _ h1,h2⟩
  ·refine .inr ⟨b,base,hι _ _ h1,hE _ _ h1,cN h3 hk.size,h4,fun i x j c hx hj=>?_⟩;obtain⟨u,h6,h7,h8⟩:=h5 i x j c hx hj;exact⟨u,by rw[cell_of_heap (a:=⟨b,_,none⟩) (hc _ _ h1)];exact h6,by rw[hk.mark _ (by simp[h6])];exact h7,h8.keep hk (fun _ _ h=>h)⟩
 |spc s=>
  obtain⟨b,base,h1,h2,h3,o,h4,h5⟩:=ho;exact⟨b,base,hι _ _ h1,hE _ _ h1,cN h3 hk.size,o,by rw[hc _ _ h1];exact h4,h5.keep hk hι⟩
theorem own_ne(r:Rep ι E w n h){id:Nat}{o:Obj}{b base:Nat}(hg:get h id=some o)(hι:ι id=some (some (b,base))):b<w.heap.size:=r.bound b (r.own_E ⟨id,o,base,hg,hι⟩)
/-! ### a new block -/
def He(E:Nat->Prop)(w:World):Nat->Prop:=fun b=>E b\/b=w.heap.size
theorem tA(o:Go.Obj):Keeps E w (He E w) (w.alloc o) where
 size:=by simp
 froz:=fun b hb hE=>⟨RowKit.Below.heap_alloc w o b hb,fun h=>by
  rcases h with h|h
  ·exact hE h
  ·omega⟩
 some:=fun a ha=>by
  obtain⟨u,hu⟩:=gH.1 ha;rw[World.cell?_alloc_lt w o a (World.block_lt_of_cell? w a hu)];exact ha
 mark:=fun a ha=>by
  obtain⟨u,hu⟩:=gH.1 ha;exact World.frozen?_alloc_old w o a (Nat.ne_of_lt (World.block_lt_of_cell? w a hu))
theorem wZ(r:Rep ι E w n h)(ob:Obj)(go:Go.Obj)(ho:ORel (He E w) (w.alloc go) (ι.set n (some (w.heap.size,0))) n ob):
  Rep (ι.set n (some (w.heap.size,0))) (He E w) (w.alloc go) (n+1) ((n,ob)::h)/\
  Ext ι h E w (ι.set n (some (w.heap.size,0))) ((n,ob)::h) (He E w) (w.alloc go):=by
 have hk:Keeps E w (He E w) (w.alloc go):=tA _;have hx:=Inj.set_ext r (some (w.heap.size,0));have hne:∀{id o},get h id=some o->id≠n:=fun hg e=>by subst e;rw[r.get_n]at hg;cases hg
 have hset:∀{id},id≠n->(ι.set n (some (w.heap.size,0))) id=ι id:=fun hi=>by simp[Inj.set,hi]
 refine⟨⟨fun id hid=>?_,fun id o hg=>?_,fun id id' o o' b base base' h1 h2 h3 h4=>?_,fun b hb=>?_,r.glob.keep hk⟩,⟨rfl,rfl,rfl,by simp,hx,fun b hb hn=>?_,fun b hb ho=>?_,hk.some,fun a ha=>World.frozen?_alloc_old w _ a (Nat.ne_of_lt ha),aO _⟩⟩
 ·rw[hset zo];exact r.fresh id zo
 ·rw[jA]at hg;split at hg
  ·rename_i e;subst e;cases hg;exact ho
  ·exact(r.obj id o hg).keep hk hx (fun b base hb=>.inl (r.own_E ⟨id,o,base,hg,hb⟩)) (fun b base hb=>RowKit.Below.heap_alloc w _ b (own_ne r hg hb))
 ·rw[jA]at h1 h2;split at h1<;>split at h2
  ·rename_i e1 e2;omega
  ·rename_i e1 e2;subst e1;rw[Inj.set_same]at h3;cases h3;rw[hset (hne h2)]at h4;have:=own_ne r h2 h4;omega
  ·rename_i e1 e2;subst e2;rw[Inj.set_same]at h4;cases h4;rw[hset (hne h1)]at h3;have:=own_ne r h1 h3;omega
  ·rw[hset (hne h1)]at h3;rw[hset (hne h2)]at h4;exact r.sep _ _ _ _ _ _ _ h1 h2 h3 h4
 ·rcases hb with hb|hb
  ·have:=r.bound b hb;simp;omega
  ·simp;omega
 ·exact⟨RowKit.Below.heap_alloc w _ b hb,⟨fun h=>by rcases h with h|h;exact h;omega,.inl⟩⟩
 ·obtain⟨id,o,base,hg,hι⟩:=ho;rw[jA]at hg;split at hg
  ·rename_i e;subst e;rw[Inj.set_same]at hι;cases hι;omega
  ·rw[hset (hne hg)]at hι;exact⟨id,o,base,hg,hι⟩
/-! ### a block that is written -/
structure Writes (w:World) (b:Nat) (w1:World):Prop where
 os:w1.os=w.os
 tape:w1.tape=w.tape
 output:w1.output=w.output
 size:w1.heap.size=w.heap.size
 other:∀k,k≠b->w1.heap[k]? =w.heap[k]?
 some:∀a,(w.cell? a).isSome=true->(w1.cell? a).isSome=true
 mark:∀a,w1.frozen? a=w.frozen? a
 drawn:w1.drawn=w.drawn
theorem Writes.keeps{b:Nat}{w1:World}(hw:Writes w b w1)(hE:E b):Keeps E w E w1 where
 size:=Nat.le_of_eq hw.size.symm
 froz:=fun k hk hn=>⟨hw.other k (fun e=>hn (e▸hE)),hn⟩
 some:=hw.some
 mark:=fun a _=>hw.mark a
theorem lS(w:World)(b:Nat):∀(vs:List Value) (o:Nat),Writes w b (w.setCells b o vs)
 |[],_=>⟨rfl,rfl,rfl,rfl,fun _ _=>rfl,fun _ h=>h,fun _=>rfl,rfl⟩
 |v::vs,o=>by
  have ih:=lS (w.setCell ⟨b,o,none⟩ v) b vs (o+1);exact⟨ih.os,ih.tape,ih.output,by rw[World.setCells,ih.size];simp,fun k hk=>by rw[World.setCells,ih.other k hk];exact RowKit.Below.heap_setCell w _ v k hk,
   fun a ha=>ih.some a (by
    by_cases e:(⟨b,o,none⟩:Addr)=a
    ·subst e;obtain⟨u,hu⟩:=gH.1 ha;rw[World.cell?_setCell_same w _ v hu];rfl
    ·rw[World.cell?_setCell_other w _ _ v e];exact ha),fun a=>by rw[World.setCells,ih.mark a];simp,ih.drawn⟩
theorem oR(r:Rep ι E w n h){h0:Hp}(hs:Sub h0 h){id m b base base1 n1:Nat}{o ob:Obj}{w1:World}{ι1:Inj}(hg:get h id=some o)(hι:ι id=some (some (b,base)))(h0i:get h0 id=none)
  (hw:Writes w b w1)(hx:∀i q,ι i=some q->ι1 i=some q)(h1:ι1 m=some (some (b,base1)))(hm:∀i,i≠m->ι1 i=ι i)(hn:n<=n1)(hfr:∀i,n1<=i->ι1 i=none)(ho:ORel E w1 ι1 m ob)(h0m:get h0 m=none):
  Rep ι1 E w1 n1 ((m,ob)::h0)/\Ext ι h E w ι1 ((m,ob)::h0) E w1:=by
 have hEb:E b:=r.own_E ⟨id,o,base,hg,hι⟩;have hk:=hw.keeps (E:=E) hEb;have hne:∀{i x},get h0 i=some x->i≠m:=fun hi e=>by subst e;rw[h0m]at hi;cases hi
 have hnb:∀{i x b' base'},get h0 i=some x->ι i=some (some (b',base'))->b'≠b:=fun {i x b' base'} hi hb e=>by
  subst e;have:=r.sep i id x o b' base' base (hs _ _ hi) hg hb hι;subst this;rw[h0i]at hi;cases hi
 refine⟨⟨hfr,fun i x hi=>?_,fun i i' x x' b' base' base'' e1 e2 e3 e4=>?_,fun b' hb'=>by rw[hw.size];exact r.bound b' hb',r.glob.keep hk⟩,⟨hw.os,hw.tape,hw.output,Nat.le_of_eq hw.size.symm,hx,fun b' hb' hno=>?_,fun b' hb' hown=>?_,hw.some,fun a _=>hw.mark a,Nat.le_of_eq hw.drawn.symm⟩⟩
 ·rw[jA]at hi;split at hi
  ·rename_i e;subst e;cases hi;exact ho
  ·exact(r.obj i x (hs _ _ hi)).keep hk hx (fun b' base' hb=>r.own_E ⟨i,x,base',hs _ _ hi,hb⟩) (fun b' base' hb=>hw.other b' (hnb hi hb))
 ·rw[jA]at e1 e2;split at e1<;>split at e2
  ·rename_i a1 a2;omega
  ·rename_i a1 a2;subst a1;rw[h1]at e3;cases e3;rw[hm _ (hne e2)]at e4;exact absurd rfl (hnb e2 e4)
  ·rename_i a1 a2;subst a2;rw[h1]at e4;cases e4;rw[hm _ (hne e1)]at e3;exact absurd rfl (hnb e1 e3)
  ·rw[hm _ (hne e1)]at e3;rw[hm _ (hne e2)]at e4;exact r.sep _ _ _ _ _ _ _ (hs _ _ e1) (hs _ _ e2) e3 e4
 ·exact⟨hw.other b' (fun e=>hno (e▸⟨id,o,base,hg,hι⟩)),Iff.rfl⟩
 ·obtain⟨i,x,base',hi,hb⟩:=hown;rw[jA]at hi;split at hi
  ·rename_i e;subst e;rw[h1]at hb;cases hb;exact⟨id,o,base,hg,hι⟩
  ·rw[hm _ (hne hi)]at hb;exact⟨i,x,base',hs _ _ hi,hb⟩
end
end Go.Vm
