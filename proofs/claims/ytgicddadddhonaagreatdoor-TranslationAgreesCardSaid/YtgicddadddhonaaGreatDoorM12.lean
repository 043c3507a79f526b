/- Lemmas. -/
import Derived.ChangeKeysEq
import Derived.Test.YtgicddadddhonaaGreatDoorM11
set_option linter.unusedVariables false
set_option linter.unusedSimpArgs false
set_option maxRecDepth 100000
set_option maxHeartbeats 4000000
noncomputable section
namespace Go.Proofs.YtgicddadddhonaaGreatDoor
open Go Go.Vm
theorem J0(r:Rg):mkR r.lo r.hi=r:=by
 unfold mkR;rw[dif_pos ⟨r.l0,r.l1,r.h0,r.h1⟩]
def jG(k:Nat)(b:Bx):Bx:=⟨if 5<=k then b.r0 else zR,if 4<=k then b.r1 else zR,if 3<=k then b.r2 else zR,if 2<=k then b.r3 else zR,if 1<=k then b.r4 else zR⟩
theorem lT{k:Nat}{b:Bx}{f:Nat}(hf:f<=4):(jG k b).get f=if 5<=f+k then b.get f else zR:=by
 rcases f with _|_|_|_|_|f
 ·simp only[Bx.get,jG,bM]
 ·simp only[Bx.get,jG];congr 1;apply propext;omega
 ·simp only[Bx.get,jG];congr 1;apply propext;omega
 ·simp only[Bx.get,jG];congr 1;apply propext;omega
 ·simp only[Bx.get,jG];congr 1;apply propext;omega
 ·omega
theorem Vj{k:Nat}{b:Bx}(hk:k<=4):(jG k b).put (4-k) (b.get (4-k))=jG (k+1) b:=by
 refine S9 fun f hf=>?_;by_cases e:f=4-k
 ·subst e;rw[get_put zo,lT zo,aH zo]
 ·rw[sK zo hf e,lT hf,lT hf];by_cases h5:5<=f+k
  ·rw[aH h5,aH zo]
  ·rw[aF h5,aF zo]
theorem U1{k:Nat}{b:Bx}(hk:k<=4):(jG (k+1) b).put (4-k) zR=jG k b:=by
 refine S9 fun f hf=>?_;by_cases e:f=4-k
 ·subst e;rw[get_put zo,lT zo,aF zo]
 ·rw[sK zo hf e,lT hf,lT hf];by_cases h5:5<=f+k
  ·rw[aH h5,aH zo]
  ·rw[aF h5,aF zo]
theorem rC(b:Bx):jG 5 b=b:=rfl
theorem aEh{k:Nat}{b:Bx}(hk:k<=4)(h:okK k b):b.put (4-k) zR=b:=by
 have:=D7 zo h (4-k) zo;rw[aF zo]at this;rw[<-this,Xp]
def sQ(f:Nat):List Bx->List (List Bx)
 |[]=>[]
 |x::l=>match sQ f l with
  |[]=>[[x]]
  |[]::rs=>[x]::rs
  |(y::r)::rs=>if y.get f=x.get f then(x::y::r)::rs else [x]::(y::r)::rs
def kK(f:Nat)(p:List Bx):Rg:=match p with
 |x::_=>x.get f
 |[]=>zR
inductive Parts (f:Nat):List (List Bx)->Prop
 |nil:Parts f []
 |one (p:List Bx) (h1:p≠[]) (h2:∀x,x∈p->x.get f=kK f p):Parts f [p]
 |cons (p q:List Bx) (ps:List (List Bx)) (h1:p≠[]) (h2:∀x,x∈p->x.get f=kK f p) (h3:kK f p≠kK f q) (hw:Parts f (q::ps)):Parts f (p::q::ps)
theorem Parts.tail{f:Nat}{p:List Bx}{ps:List (List Bx)}(h:Parts f (p::ps)):Parts f ps:=by
 cases h with
 |one=>exact .nil
 |cons _ _ _ _ _ _ hw=>exact hw
theorem Parts.head{f:Nat}{p:List Bx}{ps:List (List Bx)}(h:Parts f (p::ps)):p≠[]/\∀x,x∈p->x.get f=kK f p:=by
 cases h with
 |one _ h1 h2=>exact⟨h1,h2⟩
 |cons _ _ _ h1 h2 _ _=>exact⟨h1,h2⟩
theorem Parts.mem{f:Nat}:∀{ps:List (List Bx)},Parts f ps->∀p,p∈ps->p≠[]/\∀x,x∈p->x.get f=kK f p
 |[],_,p,hp=>by simp at hp
 |q::ps,h,p,hp=>by
  rcases aZ.1 hp with rfl|hp
  ·exact h.head
  ·exact Parts.mem h.tail p hp
theorem xZ(f:Nat):∀l:List Bx,(sQ f l).flatten=l
 |[]=>rfl
 |x::l=>by
  have ih:=xZ f l;rw[sQ];split
  ·rename_i h;rw[h]at ih;rw[<-ih];rfl
  ·rename_i rs h;rw[h]at ih;rw[<-ih];rfl
  ·rename_i y r rs h;rw[h]at ih;split
   ·rw[<-ih];rfl
   ·rw[<-ih];rfl
theorem uZ(f:Nat):∀l:List Bx,Parts f (sQ f l)
 |[]=>.nil
 |x::l=>by
  have ih:=uZ f l;rw[sQ];split
  ·exact .one _ zx (fun y hy=>by simp only[aU]at hy;subst hy;rfl)
  ·rename_i rs h;rw[h]at ih;exact absurd rfl ih.head.1
  ·rename_i y r rs h;rw[h]at ih;have hh:=ih.head.2;split
   ·rename_i e;have hx:∀z,z∈x::y::r->z.get f=kK f (x::y::r):=fun z hz=>by
     rcases aZ.1 hz with rfl|hz
     ·rfl
     ·rw[hh z hz];exact e
    cases rs with
    |nil=>exact .one _ zx hx
    |cons q ps=>
     cases ih with
     |cons _ _ _ h1 h2 h3 hw=>exact .cons _ _ _ zx hx (by rw[show kK f (x::y::r)=kK f (y::r)from e.symm];exact h3) hw
   ·rename_i e;exact .cons _ _ _ zx (fun z hz=>by simp only[aU]at hz;subst hz;rfl) (fun e2=>e e2.symm) ih
theorem Pg{f:Nat}:∀{ps:List (List Bx)},Parts f ps->sQ f ps.flatten=ps
 |[],_=>rfl
 |p::ps,h=>by
  have ih:=Pg h.tail;obtain⟨h1,h2⟩:=h.head;have hd:∀q qs,ps=q::qs->kK f p≠kK f q:=fun q qs e=>by
   subst e;cases h with
   |cons _ _ _ _ _ h3 _=>exact h3
  have hq:∀q qs,ps=q::qs->q≠[]:=fun q qs e=>by subst e;exact h.tail.head.1
  have go:∀(p:List Bx),p≠[]->(∀x,x∈p->x.get f=kK f p)->(∀q qs,ps=q::qs->kK f p≠kK f q)->sQ f (p++ps.flatten)=p::ps:=by
   intro p
   induction p with
   |nil=>intro h;exact absurd rfl h
   |cons x p ih2=>
    intro _ hc hn;rw[eW,sQ];cases p with
    |nil=>
     rw[dB,ih];cases ps with
     |nil=>rfl
     |cons q qs=>
      cases q with
      |nil=>exact absurd rfl (hq _ _ rfl)
      |cons y r=>
       have:=hn _ _ rfl;simp only;rw[aF (fun e=>this (by simp only[kK];exact e.symm))]
    |cons y p=>
     have e:y.get f=x.get f:=hc y zx;rw[ih2 zx (fun z hz=>by rw[hc z (aS _ hz)];exact e.symm) (fun q qs e2=>by
      have:=hn q qs e2;intro e3;exact this (by rw[<-e3];exact e.symm))]
     simp only;rw[aH e]
  rw[eR];exact go p h1 h2 hd
def tI(f:Nat)(x y:Bx):Bool:=(List.range 5).all fun i=>decide (i<f)||decide (x.get i=y.get i)
def alike(f:Nat)(a b:List Bx):Bool:=a.length==b.length&&(a.zip b).all fun q=>tI f q.1 q.2
theorem S3{k:Nat}{x y:Bx}:tI (5-k) x y=true↔jG k x=jG k y:=by
 unfold tI;rw[bT];constructor
 ·intro h;refine S9 fun f hf=>?_;rw[lT hf,lT hf];by_cases h5:5<=f+k
  ·rw[aH h5,aH h5];have:=h f (eG.2 zo);rw[bV,aL,aL]at this;rcases this with h1|h1
   ·omega
   ·exact h1
  ·rw[aF h5,aF h5]
 ·intro h i hi;have hi:=eG.1 hi;rw[bV,aL,aL];by_cases h5:5<=i+k
  ·right;have:(jG k x).get i=(jG k y).get i:=by rw[h]
   rw[lT zo,lT zo,aH h5,aH h5]at this;exact this
  ·left;omega
theorem E4{k:Nat}:∀{a b:List Bx},alike (5-k) a b=true↔a.map (jG k)=b.map (jG k)
 |[],[]=>by simp[alike]
 |[],y::b=>by simp[alike]
 |x::a,[]=>by simp[alike]
 |x::a,y::b=>by
  have ih:=E4 (k:=k) (a:=a) (b:=b);rw[alike,aJ]at ih⊢;rw[List.zip_cons_cons,eZ,aJ,aR,aR,List.cons.injEq,<-ih,S3];simp only[aB,beq_iff_eq,Nat.add_right_cancel_iff];constructor
  ·rintro⟨h1,h2,h3⟩;exact⟨h2,h1,h3⟩
  ·rintro⟨h2,h1,h3⟩;exact⟨h1,h2,h3⟩
def wN(f:Nat)(p q:List Bx):Bool:= !p.isEmpty&&(decide ((kK f q).lo<=(kK f p).hi)||(decide ((kK f q).lo=(kK f p).hi+1)&&alike (f+1) p q))
def rL(can:List Bx->Bool)(f:Nat):List Bx->List (List Bx)->Bool
 |_,[]=>true
 |last,p::ps=> !wN f last p&&can p&&rL can f p ps
def nL:Nat->List Bx->Bool
 |0,l=>l.length==1
 |k+1,l=>rL (nL k) (4-k) [] (sQ (4-k) l)
def mL(k:Nat)(p:List Bx):Grp (List Bx):=⟨(kK (4-k) p).lo,(kK (4-k) p).hi,p.map (jG k)⟩
theorem Yz{k:Nat}(hk:k<=4){p q:List Bx}(hp:p≠[]):wN (4-k) p q=false↔(mL k p).hi<(mL k q).lo/\((mL k p).hi+1=(mL k q).lo->(mL k p).val≠(mL k q).val):=by
 have he:p.isEmpty=false:=by cases p with
  |nil=>exact absurd rfl hp
  |cons=>rfl
 have e5:4-k+1=5-k:=by omega
 rw[bY,ne_eq,wN,he,e5];simp only[fB,dQ,bV,aJ,aL,E4,mL];constructor
 ·intro h;exact⟨by omega,fun e1 e2=>h (.inr ⟨e1.symm,e2⟩)⟩
 ·rintro⟨h1,h2⟩ (h|⟨h3,h4⟩)
  ·omega
  ·exact h2 h3.symm h4
theorem Vu{can:List Bx->Bool}{k:Nat}(hk:k<=4):∀{ps:List (List Bx)} {last:List Bx},last≠[]->(kK (4-k) last).lo<=(kK (4-k) last).hi->(∀p,p∈ps->p≠[]/\(kK (4-k) p).lo<=(kK (4-k) p).hi)->
  (rL can (4-k) last ps=true↔Wf ((last::ps).map (mL k))/\∀p,p∈ps->can p=true)
 |[],last,hl,hle,_=>by
  simp only[rL,aR,bI,eB,false_implies,implies_true,and_true,true_iff];exact .one _ hle
 |p::ps,last,hl,hle,h=>by
  obtain⟨hp,hple⟩:=h p zx;have ih:=Vu (can:=can) hk (ps:=ps) hp hple fun q hq=>h q (aS _ hq);rw[rL,aJ,aJ,ih,dX,Yz hk hl];constructor
  ·rintro⟨⟨h1,h2⟩,h3,h4⟩
   refine⟨.cons _ _ _ hle h1.1 h1.2 h3,fun q hq=>?_⟩;rcases aZ.1 hq with rfl|hq
   ·exact h2
   ·exact h4 q hq
  ·rintro⟨h1,h2⟩
   cases h1 with
   |cons _ _ _ g1 g2 g3 hw=>exact⟨⟨⟨g2,g3⟩,h2 p zx⟩,hw,fun q hq=>h2 q (aS _ hq)⟩
theorem Yg{can:List Bx->Bool}{k:Nat}(hk:k<=4){ps:List (List Bx)}(h:∀p,p∈ps->p≠[]/\(kK (4-k) p).lo<=(kK (4-k) p).hi):
  rL can (4-k) [] ps=true↔Wf (ps.map (mL k))/\∀p,p∈ps->can p=true:=by
 cases ps with
 |nil=>simp only[rL,bI,eB,false_implies,implies_true,and_true,true_iff];exact .nil
 |cons p ps=>
  obtain⟨hp,hple⟩:=h p zx;rw[rL,aJ,aJ,Vu hk hp hple fun q hq=>h q (aS _ hq)];constructor
  ·rintro⟨⟨_,h2⟩,h3,h4⟩
   refine⟨h3,fun q hq=>?_⟩;rcases aZ.1 hq with rfl|hq
   ·exact h2
   ·exact h4 q hq
  ·rintro⟨h1,h2⟩
   exact⟨⟨rfl,h2 p zx⟩,h1,fun q hq=>h2 q (aS _ hq)⟩
theorem Nl{k:Nat}(hk:k<=4):∀{ps:List (List Bx)},Parts (4-k) ps->Wf (ps.map (mL k))->∀{v:Int} {p:List Bx},p∈ps->(kK (4-k) p).lo<=v->v<=(kK (4-k) p).hi->atF (4-k) v ps.flatten=p
 |[],_,_,v,p,hp,_,_=>by simp at hp
 |q::ps,hP,hw,v,p,hp,h1,h2=>by
  have filt:∀r,r∈q::ps->atF (4-k) v r=if(kK (4-k) r).lo<=v/\v<=(kK (4-k) r).hi then r else []:=fun r hr=>by
   have hc:=(hP.mem r hr).2;split
   ·rename_i hin;refine dW.2 fun x hx=>?_;rw[hc x hx,decide_eq_true hin.1,decide_eq_true hin.2];rfl
   ·rename_i hin;refine fR.2 fun x hx=>?_;rw[hc x hx,aJ,aL,aL];exact hin
  have happ:atF (4-k) v (q::ps).flatten=atF (4-k) v q++atF (4-k) v ps.flatten:=by
   rw[eR,atF,dP];rfl
  rw[happ];have hab:∀r,r∈ps->(kK (4-k) q).hi<(kK (4-k) r).lo:=fun r hr=>(Wf.above (l:=ps.map (mL k)) hw (mL k r) (fD hr)).1;have nil_of:∀{rs:List (List Bx)},(∀r,r∈rs->r∈q::ps)->(∀r,r∈rs->v<(kK (4-k) r).lo)->atF (4-k) v rs.flatten=[]:=by
   intro rs
   induction rs with
   |nil=>intro _ _;rfl
   |cons r rs ih=>
    intro hm hv;rw[eR,atF,dP];have e1:=filt r (hm r zx);rw[aF (by have:=hv r zx;omega)]at e1;have e2:=ih (fun x hx=>hm x (aS _ hx)) (fun x hx=>hv x (aS _ hx));rw[atF]at e1 e2;rw[e1,e2];rfl
  rcases aZ.1 hp with rfl|hp
  ·rw[filt p zx,aH ⟨h1,h2⟩,nil_of (fun r hr=>aS _ hr) (fun r hr=>by have:=hab r hr;omega),bG]
  ·have:=hab p hp;rw[filt q zx,aF zo,dB];exact Nl hk hP.tail hw.tail hp h1 h2
theorem Lh{k:Nat}{v:Int}:∀{ps:List (List Bx)},Parts (4-k) ps->(∀p,p∈ps->¬((kK (4-k) p).lo<=v/\v<=(kK (4-k) p).hi))->atF (4-k) v ps.flatten=[]
 |[],_,_=>rfl
 |q::ps,hP,h=>by
  rw[eR,atF,dP];have e1:q.filter (fun b=>decide ((b.get (4-k)).lo<=v)&&decide (v<=(b.get (4-k)).hi))=[]:=fR.2 fun x hx=>by
   rw[hP.head.2 x hx,aJ,aL,aL];exact h q zx
  have e2:=Lh hP.tail fun p hp=>h p (aS _ hp);rw[atF]at e2;rw[e1,e2];rfl
def orB(x y:Bool):Bool:=x||y
theorem rU(op:Bool->Bool->Bool)(h:op false false=false)(k:Nat):jH op k [] []=[]:=E6 op k [] [] fun p q hp hq=>by
 have h1:p=false:=by cases p with
  |false=>rfl
  |true=>exact absurd (hp rfl) zx
 have h2:q=false:=by cases q with
  |false=>rfl
  |true=>exact absurd (hq rfl) zx
 rw[h1,h2,h]
theorem Gu{k:Nat}(hk:k<=4):∀{ps:List (List Bx)},Parts (4-k) ps->iZ (4-k) (ps.map (mL k))=ps.flatten.map (jG (k+1))
 |[],_=>rfl
 |p::ps,h=>by
  have ih:=Gu hk h.tail;have e:iZ (4-k) ((p::ps).map (mL k))=(p.map (jG k)).map (fun b=>b.put (4-k) (mkR (kK (4-k) p).lo (kK (4-k) p).hi))++iZ (4-k) (ps.map (mL k)):=by
   simp only[iZ,aR,cS,mL]
  rw[e,ih,eR,aQ,J0,gU]
  congr 1
  refine eF fun x hx=>?_;simp only[Function.comp];rw[<-h.head.2 x hx,Vj hk]
theorem tU:∀(k:Nat) (l:List Bx),k<=5->(∀x,x∈l->∀f,f<=4->5<=f+k->(x.get f).lo<=(x.get f).hi/\(x.get f).hi<=iX f)->(k=0->l≠[])->(nL k l=true↔jH orB k l []=l.map (jG k))
 |0,l,_,_,hne=>by
  have hne:=hne rfl;rw[nL,jH];cases l with
  |nil=>exact absurd rfl hne
  |cons x l=>
   simp only[List.isEmpty_cons,fB,List.isEmpty_nil,fV,orB,fW,if_true];cases l with
   |nil=>simp only[aB,aI,beq_self_eq_true,aR,bI,true_iff];rfl
   |cons y l=>simp
 |k+1,l,hk,hv,_=>by
  have hP:=uZ (4-k) l;have hfl:=xZ (4-k) l;have hmem:∀p,p∈sQ (4-k) l->∀x,x∈p->x∈l:=fun p hp x hx=>by rw[<-hfl];exact List.mem_flatten.2 ⟨p,hp,hx⟩
  have hrg:∀p,p∈sQ (4-k) l->(kK (4-k) p).lo<=(kK (4-k) p).hi/\(kK (4-k) p).hi<=iX (4-k):=fun p hp=>by
   obtain⟨h1,h2⟩:=hP.mem p hp;cases p with
   |nil=>exact absurd rfl h1
   |cons x p=>exact hv x (hmem _ hp x zx) (4-k) zo zo
  have hvp:∀p,p∈sQ (4-k) l->∀x,x∈p->∀f,f<=4->5<=f+k->(x.get f).lo<=(x.get f).hi/\(x.get f).hi<=iX f:=fun p hp x hx f hf h5=>hv x (hmem p hp x hx) f hf zo;have g:=cano_wf orB k l [];rw[nL,Yg zo fun p hp=>⟨(hP.mem p hp).1,(hrg p hp).1⟩,kT];generalize sQ (4-k) l=ps at*;constructor
  ·rintro⟨hw,hc⟩
   have g2:GInv (iY orB k l []) (ps.map (mL k)) (iX (4-k)+1):=by
    refine⟨hw,fun v=>?_,fun x hx=>?_,fun x hx=>?_⟩
    ·by_cases hin:∃p,p∈ps/\(kK (4-k) p).lo<=v/\v<=(kK (4-k) p).hi
     ·obtain⟨p,hp,p1,p2⟩:=hin;have hb:=hrg p hp;have hl0:=(kK (4-k) p).l0;rw[hw.at_mem (g:=mL k p) (fD hp) p1 p2,aH zo,lab,iY,<-hfl,Nl zo hP hw hp p1 p2];have hI:=(tU k p zo (hvp p hp) (fun _=>(hP.mem p hp).1)).1 (hc p hp);have hnil:atF (4-k) v []=[]:=rfl;rw[hnil,hI];cases p with
      |nil=>exact absurd rfl (hP.mem _ hp).1
      |cons x p=>rfl
     ·have hno:∀p,p∈ps->¬((kK (4-k) p).lo<=v/\v<=(kK (4-k) p).hi):=fun p hp hh=>hin ⟨p,hp,hh⟩;have e1:gAt (ps.map (mL k)) v=none:=Jf fun x hx=>by
       obtain⟨p,hp,rfl⟩:=bQ.1 hx;have:=hno p hp;simp only[mL];omega
      have e2:iY orB k l [] v=[]:=by
       rw[iY,<-hfl,Lh hP hno];exact rU orB rfl k
      rw[e1,lab,e2];split<;>rfl
    ·obtain⟨p,hp,rfl⟩:=bQ.1 hx;have:=hrg p hp;have hl0:=(kK (4-k) p).l0;simp only[mL];omega
    ·obtain⟨p,hp,rfl⟩:=bQ.1 hx;simp only[mL,ne_eq,fO];exact(hP.mem p hp).1
   rw[g.same g2,Gu zo hP,hfl]
  ·intro he;generalize lD (iY orB k l []) (iX (4-k)) (starts (lO (4-k) l []) (iX (4-k)))=G at g he;have hb:=kF (4-k)
   -- the parts that the groups are
   have hGok:∀x,x∈G->∀y,y∈x.val->y.put (4-k) zR=y:=fun x hx y hy=>by
    have hl:=g.low x hx;have hle:x.lo<=x.hi:=g.wf.le x hx;have hat:=g.wf.at_mem hx (cC x.lo) hle;rw[g.at_,aH ⟨hl.1,by omega⟩,lab]at hat;split at hat
    ·cases hat
    ·have hval:=bB hat;rw[<-hval]at hy;exact aEh zo (Hs orB k _ _ zo y hy)
   have hpg:∀(G:List (Grp (List Bx))),Wf G->(∀x,x∈G->x.val≠[]/\0<=x.lo/\x.hi<=4294967295)->Parts (4-k) (G.map fun x=>x.val.map fun b=>b.put (4-k) (mkR x.lo x.hi)):=by
    intro G;have rgv:∀x:Grp (List Bx),x.val≠[]->kK (4-k) (x.val.map fun b=>b.put (4-k) (mkR x.lo x.hi))=mkR x.lo x.hi:=fun x hx=>by
     cases hval:x.val with
     |nil=>exact absurd hval hx
     |cons b l=>exact get_put zo
    have cst:∀x:Grp (List Bx),x.val≠[]->∀y,y∈(x.val.map fun b=>b.put (4-k) (mkR x.lo x.hi))->y.get (4-k)=kK (4-k) (x.val.map fun b=>b.put (4-k) (mkR x.lo x.hi)):=fun x hx y hy=>by
     obtain⟨b,_,rfl⟩:=bQ.1 hy;rw[rgv x hx,get_put zo]
    induction G with
    |nil=>intro _ _;exact .nil
    |cons x G ih=>
     intro hw hx;have hx1:=hx x zx;have ih:=ih hw.tail fun y hy=>hx y (aS _ hy);cases G with
     |nil=>exact .one _ (by simpa using hx1.1) (cst x hx1.1)
     |cons y G=>
      have hy1:=hx y zx;refine .cons _ _ _ (by simpa using hx1.1) (cst x hx1.1) ?_ ih;rw[rgv x hx1.1,rgv y hy1.1];have h1:=hw.head;have h2:=hw.tail.head;have h3:=hw.above y zx;intro e;have:=congrArg Rg.lo e;rw[kI zo zo zo zo,kI zo zo zo zo]at this;omega
   have hGP:=hpg G g.wf fun x hx=>⟨g.full x hx,(g.low x hx).1,by have:=g.low x hx;omega⟩
   have hr1:=Pg hGP;have hfG:(G.map fun x=>x.val.map fun b=>b.put (4-k) (mkR x.lo x.hi)).flatten=iZ (4-k) G:=by rw[iZ,List.flatMap]
   rw[hfG,he]at hr1;have hmapP:Parts (4-k) (ps.map fun p=>p.map (jG (k+1))):=by
    have hget:∀x:Bx,(jG (k+1) x).get (4-k)=x.get (4-k):=fun x=>by rw[lT zo,aH zo]
    have hro:∀p:List Bx,p≠[]->kK (4-k) (p.map (jG (k+1)))=kK (4-k) p:=fun p hp=>by
     cases p with
     |nil=>exact absurd rfl hp
     |cons x p=>exact hget x
    have hcst:∀p:List Bx,p≠[]->(∀x,x∈p->x.get (4-k)=kK (4-k) p)->∀y,y∈p.map (jG (k+1))->y.get (4-k)=kK (4-k) (p.map (jG (k+1))):=fun p hp hc y hy=>by
     obtain⟨x,hx,rfl⟩:=bQ.1 hy;rw[hget,hro p hp,hc x hx]
    have go:∀{qs:List (List Bx)},Parts (4-k) qs->Parts (4-k) (qs.map fun p=>p.map (jG (k+1))):=by
     intro qs hq
     induction hq with
     |nil=>exact .nil
     |one p h1 h2=>exact .one _ (by simpa using h1) (hcst p h1 h2)
     |cons p q qs h1 h2 h3 hw ih=>exact .cons _ _ _ (by simpa using h1) (hcst p h1 h2) (by rw[hro p h1,hro q hw.head.1];exact h3) ih
    exact go hP
   have hr2:=Pg hmapP;have hfl2:(ps.map fun p=>p.map (jG (k+1))).flatten=l.map (jG (k+1)):=by rw[<-hfl,List.map_flatten]
   rw[hfl2,hr1]at hr2
   -- so the groups are those of the parts
   have hgrp:ps.map (mL k)=G:=by
    have e:∀(ps:List (List Bx)) (G:List (Grp (List Bx))),(∀p,p∈ps->p≠[])->(∀x,x∈G->(x.val≠[]/\0<=x.lo/\x.lo<=4294967295/\0<=x.hi/\x.hi<=4294967295)/\∀y,y∈x.val->y.put (4-k) zR=y)->
      (G.map fun x=>x.val.map fun b=>b.put (4-k) (mkR x.lo x.hi))=(ps.map fun p=>p.map (jG (k+1)))->ps.map (mL k)=G:=by
     intro ps
     induction ps with
     |nil=>intro G _ _ h;cases G with
      |nil=>rfl
      |cons=>simp at h
     |cons p ps ih=>
      intro G hne hx h;cases G with
      |nil=>simp at h
      |cons x G=>
       rw[aR,aR,List.cons.injEq]at h;rw[aR,ih G (fun q hq=>hne q (aS _ hq)) (fun y hy=>hx y (aS _ hy)) h.2]
       congr 1
       obtain⟨⟨x1,x2,x3,x4,x5⟩,x6⟩:=hx x zx;have h1:=h.1;have hval:p.map (jG k)=x.val:=by
        have:=congrArg (List.map fun b=>b.put (4-k) zR) h1;rw[gU,gU]at this;rw[show(x.val.map ((fun b=>b.put (4-k) zR)∘fun b=>b.put (4-k) (mkR x.lo x.hi)))=x.val by
         refine(eF fun y hy=>?_).trans (List.map_id _);simp only[Function.comp];rw[put_put];exact x6 y hy]at this
        rw[this];refine eF fun y hy=>?_;simp only[Function.comp];rw[U1 zo]
       have hrgo:kK (4-k) p=mkR x.lo x.hi:=by
        cases p with
        |nil=>exact absurd rfl (hne _ zx)
        |cons y p=>
         cases hxv:x.val with
         |nil=>exact absurd hxv x1
         |cons b l=>
          rw[hxv,aR,aR,List.cons.injEq]at h1;have:(b.put (4-k) (mkR x.lo x.hi)).get (4-k)=(jG (k+1) y).get (4-k):=by rw[h1.1]
          rw[get_put zo,lT zo,aH zo]at this;exact this.symm
       cases x;simp only at hval hrgo x2 x3 x4 x5;unfold mL;rw[hval,hrgo,kI zo zo zo zo,kP zo zo zo zo]
    refine e ps G (fun p hp=>(hP.mem p hp).1) (fun x hx=>⟨⟨g.full x hx,?_⟩,hGok x hx⟩) hr2;have hl:=g.low x hx;have:=g.wf.le x hx;omega
   refine⟨by rw[hgrp];exact g.wf,fun p hp=>?_⟩;refine(tU k p zo (hvp p hp) (fun _=>(hP.mem p hp).1)).2 ?_;have hw:Wf (ps.map (mL k)):=by rw[hgrp];exact g.wf
   have hb1:=hrg p hp;have hl0:=(kK (4-k) p).l0;have hat:=hw.at_mem (g:=mL k p) (fD hp) (cC _) hb1.1;rw[hgrp,g.at_,aH (by simp only[mL];omega),lab]at hat;split at hat
   ·cases hat
   ·have hval:=bB hat;simp only[mL]at hval;rw[iY,<-hfl,Nl zo hP hw hp (cC _) hb1.1]at hval;exact hval
end Go.Proofs.YtgicddadddhonaaGreatDoor
namespace Go.Vm
def aFQ:List (Nat×Nat)->(List (Nat×Nat)->Prop)->Prop
 |[],K=>K []
 |(i,j)::r,K=>nB i fun i'=>nB j fun j'=>aFQ r fun r'=>K ((i',j')::r')
theorem Wj:∀(ρ:List (Nat×Nat)) (K:List (Nat×Nat)->Prop),aFQ ρ K=K ρ
 |[],K=>rfl
 |(i,j)::r,K=>by simp only[aFQ,mK,Wj r]
abbrev Names:=List (Nat×Nat)
def S2(ρ:Names)(i j:Nat)(K:Names->Prop):Prop:=
 match get ρ i with
 |some _=>K ρ
 |none=>nB i fun i=>nB j fun j=>K ((i,j)::ρ)
theorem Dc{ρ:Names}{i j:Nat}{K:Names->Prop}(h:S2 ρ i j K):∃ρ,K ρ:=by
 unfold S2 at h;split at h
 ·exact⟨_,h⟩
 ·rw[mK,mK]at h;exact⟨_,h⟩
def O4(ρ:Names)(x y:AV)(K:Names->Prop):Prop:=
 match x,y with
 |.op i _,.op j _=>S2 ρ i j K
 |.ep i _ _ _,.ep j _ _ _=>S2 ρ i j K
 |.os i _ _ _,.os j _ _ _=>S2 ρ i j K
 |.mp i,.mp j=>S2 ρ i j K
 |.dfr i _,.dfr j _=>S2 ρ i j K
 |_,_=>K ρ
theorem Mn{ρ:Names}{x y:AV}{K:Names->Prop}(h:O4 ρ x y K):∃ρ,K ρ:=by
 unfold O4 at h;split at h
 ·exact Dc h
 ·exact Dc h
 ·exact Dc h
 ·exact Dc h
 ·exact Dc h
 ·exact⟨_,h⟩
def xX:List AV->List AV->Names->(Names->Prop)->Prop
 |x::xs,y::ys,ρ,K=>O4 ρ x y fun ρ=>xX xs ys ρ K
 |_,_,ρ,K=>K ρ
theorem zJ:∀{xs ys:List AV} {ρ:Names} {K:Names->Prop},xX xs ys ρ K->∃ρ,K ρ
 |x::xs,y::ys,ρ,K,h=>by
  obtain⟨ρ',h'⟩:=Mn h;exact zJ h'
 |[],ys,ρ,K,h=>by simp only[xX]at h;exact⟨_,h⟩
 |x::xs,[],ρ,K,h=>by simp only[xX]at h;exact⟨_,h⟩
def O5(ρ:Names)(x y:AV)(K:Names->Prop):Prop:=
 match x,y with
 |.fn _ a b,.fn _ c d=>xX a c ρ fun ρ=>xX b d ρ K
 |x,y=>O4 ρ x y K
theorem Mo{ρ:Names}{x y:AV}{K:Names->Prop}(h:O5 ρ x y K):∃ρ,K ρ:=by
 unfold O5 at h;split at h
 ·obtain⟨ρ',h'⟩:=zJ h;exact zJ h'
 ·exact Mn h
def wS:List AV->List AV->Names->(Names->Prop)->Prop
 |x::xs,y::ys,ρ,K=>O5 ρ x y fun ρ=>wS xs ys ρ K
 |_,_,ρ,K=>K ρ
theorem uM:∀{xs ys:List AV} {ρ:Names} {K:Names->Prop},wS xs ys ρ K->∃ρ,K ρ
 |x::xs,y::ys,ρ,K,h=>by
  obtain⟨ρ',h'⟩:=Mo h;exact uM h'
 |[],ys,ρ,K,h=>by simp only[wS]at h;exact⟨_,h⟩
 |x::xs,[],ρ,K,h=>by simp only[wS]at h;exact⟨_,h⟩
def Ux(ρ:Names)(x y:AV)(K:Names->Prop):Prop:=
 match x,y with
 |.agg xs,.agg ys=>wS xs ys ρ K
 |.fn _ a b,.fn _ c d=>wS a c ρ fun ρ=>wS b d ρ K
 |x,y=>O5 ρ x y K
theorem Zu{ρ:Names}{x y:AV}{K:Names->Prop}(h:Ux ρ x y K):∃ρ,K ρ:=by
 unfold Ux at h;split at h
 ·exact uM h
 ·obtain⟨ρ',h'⟩:=uM h;exact uM h'
 ·exact Mo h
def J6(σ:St):List (Nat×AV)->Names->(Names->Prop)->Prop
 |[],ρ,K=>K ρ
 |(t,x)::r,ρ,K=>match get σ.s t with
  |some y=>Ux ρ x y fun ρ=>J6 σ r ρ K
  |none=>J6 σ r ρ K
theorem Ft{σ:St}:∀{l:List (Nat×AV)} {ρ:Names} {K:Names->Prop},J6 σ l ρ K->∃ρ,K ρ
 |[],ρ,K,h=>⟨_,h⟩
 |(t,x)::r,ρ,K,h=>by
  simp only[J6]at h;split at h
  ·obtain⟨ρ',h'⟩:=Zu h;exact Ft h'
  ·exact Ft h
def zK(s σ:St):Names->Names->(Names->Prop)->Prop
 |[],ρ,K=>K ρ
 |(i,j)::r,ρ,K=>match get s.h i,get σ.h j with
  |some (.box cs),some (.box ds)=>wS cs ds ρ fun ρ=>zK s σ r ρ K
  |_,_=>zK s σ r ρ K
theorem uL{s σ:St}:∀{l ρ:Names} {K:Names->Prop},zK s σ l ρ K->∃ρ,K ρ
 |[],ρ,K,h=>⟨_,h⟩
 |(i,j)::r,ρ,K,h=>by
  simp only[zK]at h;split at h
  ·obtain⟨ρ',h'⟩:=uM h;exact uL h'
  ·exact uL h
def idP:Nat->Names
 |0=>[]
 |k+1=>(k,k)::idP k
def aKi(p:Nat)(s σ:St)(K:Names->Prop):Prop:=
 aFQ (idP p) fun ρ=>J6 σ s.s ρ fun a=>zK s σ a a fun b=>zK s σ b b fun c=>match Nat.beq c.length b.length with
  |true=>K c
  |false=>zK s σ c c K
theorem Le.auto{p:Nat}{s σ:St}(h:aKi p s σ fun ρ=>(aCw ρ&&(Id s.n ρ&&(aBD ρ p&&aMe s.s σ.s)))=true/\(LeS ρ s.s σ/\LeH ρ s.h σ)):Le p s σ:=by
 unfold aKi at h;rw[Wj]at h;obtain⟨a,h⟩:=Ft h;obtain⟨b,h⟩:=uL h;obtain⟨c,h⟩:=uL h;split at h
 ·exact⟨c,h⟩
 ·obtain⟨d,h⟩:=uL h;exact⟨d,h⟩
theorem leA{p:Nat}{s σ:St}(h:Le p s σ:=by(refine Le.auto ?_;repeat' ((conv=>whnf);first|with_reducible refine And.intro ?_ ?_|with_reducible exact True.intro|rfl));fail_if_success have:=True.intro):Le p s σ:=h
theorem kH{i:Int}{len:Nat}{K:Nat->Prop}(h:decide (0<=i/\i.toNat<len)=true)(hk:K i.toNat):In i len K:=by
 have h:=of_decide_eq_true h;exact iB i.toNat zo h.2 hk
theorem yY{xs:List AV}{i:Nat}{x:AV}{K:AV->Prop}(h:i<xs.length)(hk:K x):Ix (xs.set i x) i K:=iC (by rw[List.getElem?_set_self h]) hk
theorem Weak.agg{xs ys:List AV}(h:WeakL xs ys):Weak (.agg xs) (.agg ys):=fun E w ι v hr=>by
 cases hr with
 |agg _ c hs hc=>
  have:=h.rel (c:=c) ⟨hs,hc⟩;exact .agg _ _ this.1 this.2
abbrev iA:=@Weak.agg
def Mp(P:Program)(t:TypeId)(xs:List Value)(off:Nat):Option Value:=
 match K7 P t with
 |some true=>(match tsz P t with
  |some n=>some (.agg ((xs.drop off).take n).toArray)
  |none=>none)
 |some false=>xs[off]?
 |none=>none
def eqT(P:Program):Nat->TypeId->Value->Value->Option Bool
 |0,_,_,_=>none
 |d+1,t,x,y=>match P.underlying t with
  |some (.int _)=>(match x,y with
   |.int k a,.int k' b=>(match kEq k k' with
    |true=>some (a==b)
    |false=>none)
   |_,_=>none)
  |some .bool=>(match x,y with
   |.bool a,.bool b=>some (a==b)
   |_,_=>none)
  |some .string=>(match x,y with
   |.string a,.string b=>some (a.toList==b.toList)
   |_,_=>none)
  |some (.struct fs)=>(match P.stoodInHeld t,x,y with
   |false,.agg xs,.agg ys=>eqFs (fun t a b=>eqT P d t a b) xs.toList ys.toList fs.toList
   |_,_,_=>none)
  |some (.array n e)=>(match tsz P e,x,y with
   |some m,.agg xs,.agg ys=>eqIs (fun a b=>eqT P d e a b) e m xs.toList ys.toList (List.range n)
   |_,_,_=>none)
  |_=>none
where
 eqIs (e:Value->Value->Option Bool) (el:TypeId) (m:Nat) (xs ys:List Value):List Nat->Option Bool
  |[]=>some true
  |i::r=>(match Mp P el xs (i*m),Mp P el ys (i*m)with
   |some a,some b=>(match e a b,eqIs e el m xs ys r with
    |some p,some q=>some (p&&q)
    |_,_=>none)
   |_,_=>none)
 eqFs (e:TypeId->Value->Value->Option Bool) (xs ys:List Value):List Field->Option Bool
  |[]=>some true
  |f::r=>match f.name== "_" with
   |true=>eqFs e xs ys r
   |false=>(match Mp P f.type xs f.offset,Mp P f.type ys f.offset with
    |some a,some b=>(match e f.type a b,eqFs e xs ys r with
     |some p,some q=>some (p&&q)
     |_,_=>none)
    |_,_=>none)
section
variable {P:Program}
theorem xY{t:TypeId}{xs:Array Value}{off:Nat}{v:Value}(h:Mp P t xs.toList off=some v)(w:World):(part t xs off).run P w=.ok v w:=by
 unfold Mp at h;split at h
 ·rename_i ht;split at h
  ·rename_i n hn;cases h;have e:(xs.extract off (off+n))=((xs.toList.drop off).take n).toArray:=by
    apply Array.ext';rw[Array.toList_extract];simp[List.extract]
   simp[part,sE ht,lX hn,e]
  ·cases h
 ·rename_i ht;have h':xs[off]? =some v:=by simpa using h
  simp[part,sE ht,h']
 ·cases h
theorem Oa:∀(d:Nat) {t:TypeId} {x y:Value} {b:Bool},eqT P d t x y=some b->∀(D:Nat) (w:World),d<=D->(Op.equalIn D t x y).run P w=.ok b w
 |0,t,x,y,b,h=>by simp[eqT]at h
 |d+1,t,x,y,b,h=>by
  intro D w hD;obtain⟨D,rfl⟩:∃k,D=k+1:=⟨D-1,by omega⟩
  simp only[eqT]at h;split at h
  ·rename_i q hu;split at h
   ·split at h
    ·rename_i hk;cases T8 hk;cases h;exact run_equalIn_int w D t _ _ _ _ hu
    ·cases h
   ·cases h
  ·rename_i hu;split at h
   ·cases h;exact run_equalIn_bool' w D t _ _ hu
   ·cases h
  ·rename_i hu;split at h
   ·cases h;exact run_equalIn_string w D t _ _ hu
   ·cases h
  ·rename_i fs hu;split at h
   ·rename_i xs ys hs;have hf:P.fieldsOf t=fs:=by simp[Program.fieldsOf,hu]
    rw[run_equalIn_struct w D t xs ys (by rw[hf];exact hu) hs,hf];have go:∀(l:List Field) (b:Bool),eqT.eqFs P (fun t a b=>eqT P d t a b) xs.toList ys.toList l=some b->(Op.eqFields D xs ys l).run P w=.ok b w:=by
     intro l
     induction l with
     |nil=>intro b h;simp only[eqT.eqFs,bN]at h;subst h;simp[Op.eqFields]
     |cons f r ih=>
      intro b h;simp only[eqT.eqFs]at h;split at h
      ·rename_i hn;have hn:f.name= "_":=by simpa using hn
       simp only[Op.eqFields,hn,ne_eq,not_true_eq_false,if_false];exact ih b h
      ·rename_i hn;have hn:f.name≠ "_":=by simpa using hn
       split at h;case h_2=>cases h
       rename_i a c ha hc;split at h;case h_2=>cases h
       rename_i p q hp hq;cases h;simp only[Op.eqFields,ne_eq,hn,not_false_eq_true,if_true,Sem.run_bind,xY ha w,xY hc w,Result.andThen_ok,Oa d hp D w zo,Sem.run_ite,Sem.run_pure];cases p
       ·simp
       ·simpa using ih q hq
    exact go _ _ h
   ·cases h
  ·rename_i n e hu;split at h
   ·rename_i m xs ys hm;obtain⟨i,hi,him⟩:∃i,P.info? e=some i/\i.size=m:=by
     unfold tsz at hm;rw[bW]at hm;exact hm
    rw[run_equalIn_array w D xs ys hu hi,show P.cellsOf e=m by simp[Program.cellsOf,hi,him]];have go:∀(l:List Nat) (b:Bool),eqT.eqIs P (fun a b=>eqT P d e a b) e m xs.toList ys.toList l=some b->(Op.eqItems D e m xs ys l).run P w=.ok b w:=by
     intro l
     induction l with
     |nil=>intro b h;simp only[eqT.eqIs,bN]at h;subst h;simp[Op.eqItems]
     |cons j r ih=>
      intro b h;simp only[eqT.eqIs]at h;split at h;case h_2=>cases h
      rename_i a c ha hc;split at h;case h_2=>cases h
      rename_i p q hp hq;cases h;simp only[Op.eqItems,Sem.run_bind,xY ha w,xY hc w,Result.andThen_ok,Oa d hp D w zo,Sem.run_ite,Sem.run_pure];cases p
      ·simp
      ·simpa using ih q hq
    exact go _ _ h
   ·cases h
  ·cases h
end
theorem yT{P:Program}{t:TypeId}{xs ys:List AV}{K:Bool->Prop}{vs us:List Value}{b:Bool}(h1:Fb xs=some vs)(h2:Fb ys=some us)(hg:P.eqGuardType P.depth t=false)(h:eqT P 10 t (.agg vs.toArray) (.agg us.toArray)=some b)(hk:K b):EqV P t xs ys K:=
 EqV.intro vs us b h1 h2 hg (fun w=>Oa 10 h 10000 w zd) hk
end Go.Vm
namespace Go.Proofs.YtgicddadddhonaaGreatDoor
open Go Go.Vm
abbrev iV(b:Bx):AV:=.agg [.v (.int .u32 b.r0.lo),.v (.int .u32 b.r0.hi),.v (.int .u32 b.r1.lo),.v (.int .u32 b.r1.hi),.v (.int .u32 b.r2.lo),.v (.int .u32 b.r2.hi),.v (.int .u32 b.r3.lo),.v (.int .u32 b.r3.hi),.v (.int .u32 b.r4.lo),.v (.int .u32 b.r4.hi)]
abbrev iN(l:List Bx):AV:=.lst (l.map iV)
def pU(f:Int):Int:=if f=0\/f=1 then 4294967295 else if f=2 then 255 else if f=3\/f=4 then 65535 else 0
theorem pJ(f:Int){K:KT}(hK:K (.v (.int .u32 (pU f))) []):AC 53 [.v (.int .i64 f)] [] K:=by
 refine aIv rfl rfl ?_;(repeat' ((conv=>whnf);first|refine zG ?_|apply zA|intro h|exact zT));all_goals conv=>whnf
 all_goals
  unfold pU at hK;simp_all only[or_self,or_true,true_or,if_true,if_false,Int.reduceEq,or_false,false_or,reduceIte];exact hK
def fullB:Bx:=⟨mkR 0 4294967295,mkR 0 4294967295,mkR 0 255,mkR 0 65535,mkR 0 65535⟩
def Rg.okF(r:Rg)(f:Nat):Prop:=r.lo<=r.hi/\r.hi<=iX f
def Bx.ok(b:Bx):Prop:=b.r0.okF 0/\b.r1.okF 1/\b.r2.okF 2/\b.r3.okF 3/\b.r4.okF 4
instance (b:Bx):Decidable b.ok:=by unfold Bx.ok Rg.okF;infer_instance
theorem cr3Val(b:Bx){K:KT}(hK:K (.sb (decide b.ok)) []):AC 140 [iV b] [] K:=by
 refine gZ (aIw rfl rfl ?_);(repeat' ((conv=>whnf);first|(with_reducible refine Lp.times 6 ?_)|(refine kH zd ?_)|(with_reducible refine pJ _ ?_)|refine zG ?_|apply zA|intro h|exact zT));all_goals conv=>whnf
 all_goals
  have hb:b.ok↔((b.r0.lo<=b.r0.hi/\b.r0.hi<=4294967295)/\(b.r1.lo<=b.r1.hi/\b.r1.hi<=4294967295)/\(b.r2.lo<=b.r2.hi/\b.r2.hi<=255)/\(b.r3.lo<=b.r3.hi/\b.r3.hi<=65535)/\(b.r4.lo<=b.r4.hi/\b.r4.hi<=65535)):=Iff.rfl;have t0:pU 0=4294967295:=rfl;have t1:pU (0+1)=4294967295:=rfl;have t2:pU (0+1+1)=255:=rfl;have t3:pU (0+1+1+1)=65535:=rfl;have t4:pU (0+1+1+1+1)=65535:=rfl;first
   |exact iU hK (decide_eq_false (by rw[hb];omega))
   |exact kE hK (decide_eq_true (by rw[hb];omega))
theorem cr3Full{K:KT}(hK:K (iV fullB) []):AC 88 [] [] K:=by
 refine aDz rfl rfl ?_;(repeat' ((conv=>whnf);first|(with_reducible refine Lp.times 6 ?_)|(refine kH zd ?_)|(with_reducible refine pJ _ ?_)|refine zG ?_|apply zA|intro h|exact zT));all_goals conv=>whnf
 exact hK
theorem aVQ{r s:Rg}:r=s↔r.lo=s.lo/\r.hi=s.hi:=by
 constructor
 ·rintro rfl;exact⟨rfl,rfl⟩
 ·rintro⟨h1,h2⟩
  cases r;cases s;simp only at h1 h2;subst h1;subst h2;rfl
theorem eqv_X{p q:Bx}{K:Bool->Prop}(hk:K (decide (p=q))):EqV Tryz.prog 57 [.v (.int .u32 p.r0.lo),.v (.int .u32 p.r0.hi),.v (.int .u32 p.r1.lo),.v (.int .u32 p.r1.hi),.v (.int .u32 p.r2.lo),.v (.int .u32 p.r2.hi),.v (.int .u32 p.r3.lo),.v (.int .u32 p.r3.hi),.v (.int .u32 p.r4.lo),.v (.int .u32 p.r4.hi)]
  [.v (.int .u32 q.r0.lo),.v (.int .u32 q.r0.hi),.v (.int .u32 q.r1.lo),.v (.int .u32 q.r1.hi),.v (.int .u32 q.r2.lo),.v (.int .u32 q.r2.hi),.v (.int .u32 q.r3.lo),.v (.int .u32 q.r3.hi),.v (.int .u32 q.r4.lo),.v (.int .u32 q.r4.hi)] K:=by
 refine yT (b:=((p.r0.lo==q.r0.lo&&(p.r0.hi==q.r0.hi&&true))&&((p.r1.lo==q.r1.lo&&(p.r1.hi==q.r1.hi&&true))&&((p.r2.lo==q.r2.lo&&(p.r2.hi==q.r2.hi&&true))&&((p.r3.lo==q.r3.lo&&(p.r3.hi==q.r3.hi&&true))&&((p.r4.lo==q.r4.lo&&(p.r4.hi==q.r4.hi&&true))&&true)))))) rfl rfl zk zk ?_;have e:((p.r0.lo==q.r0.lo&&(p.r0.hi==q.r0.hi&&true))&&((p.r1.lo==q.r1.lo&&(p.r1.hi==q.r1.hi&&true))&&((p.r2.lo==q.r2.lo&&(p.r2.hi==q.r2.hi&&true))&&((p.r3.lo==q.r3.lo&&(p.r3.hi==q.r3.hi&&true))&&((p.r4.lo==q.r4.lo&&(p.r4.hi==q.r4.hi&&true))&&true)))))=decide (p=q):=by
  rw[bK];cases p;cases q;simp[aVQ]
 rw[e];exact hk
theorem Vx(a b:List Bx)(ha:a.length<1000000000000)(hb:b.length<1000000000000){K:KT}(hK:K (.sb (decide (a=b))) []):AC 165 [iN a,iN b] [] K:=by
 refine gZ (aDA rfl rfl ?_);(repeat' ((conv=>whnf);first|refine zG ?_|apply zA|intro h|exact zT));all_goals conv=>whnf
 ·have hl:a.length=b.length:=by
   rw[aA,aA]at h;omega
  refine gV Nat (fun k=>⟨0,[],[(0,iN a),(1,iN b),(5,.v (.int .i64 k))]⟩) (fun k=>k<=a.length/\∀i,i<k->a[i]? =b[i]?) (fun k=>a.length-k) 0 ?_ ?_ ?_
  ·exact⟨aK _,fun i h=>absurd h (bD _)⟩
  ·exact leA
  intro k ⟨hk,hinv⟩;rcases aD k a.length with hkl|hkl
  ·have hkb:k<b.length:=by omega
   obtain⟨p,hp⟩:=gex hkl;obtain⟨q,hq⟩:=gex hkb;(repeat' ((conv=>whnf);first|(with_reducible first|refine iI hkl ?_|refine iI hkb ?_|refine iH hp ?_|refine iH hq ?_|refine eqv_X ?_)|refine zG ?_|apply zA|intro h|exact zT));all_goals conv=>whnf
   ·refine⟨k+1,⟨by omega,fun i hi=>?_⟩,by omega,?_⟩
    ·rcases aD i k with h1|h1
     ·exact hinv i h1
     ·rw[show i=k by omega,hp,hq,h]
    ·exact leA
   ·refine iU hK (decide_eq_false fun e=>?_);subst e;rw[hp]at hq;cases hq;exact h rfl
  ·have hab:a=b:=by
    apply List.ext_getElem?;intro i;rcases aD i k with h1|h1
    ·exact hinv i h1
    ·rw[bS zo,bS zo]
   (repeat' ((conv=>whnf);first|refine zG ?_|apply zA|intro h|exact zT));all_goals conv=>whnf
   exact kE hK (decide_eq_true hab)
 ·exact iU hK (decide_eq_false fun e=>h (by rw[e]))
theorem P8{f:Nat}{v:Int}{l:List Bx}{k:Nat}{x:Bx}(h:l[k]? =some x):atF f v (l.take (k+1))=atF f v (l.take k)++(if(x.get f).lo<=v/\v<=(x.get f).hi then [x]else []):=by
 rw[bE,h,atF,dP]
 congr 1
 by_cases hc:(x.get f).lo<=v/\v<=(x.get f).hi
 ·simp[hc]
 ·have:(decide ((x.get f).lo<=v)&&decide (v<=(x.get f).hi))=false:=by
   rw[bY,ne_eq,aJ,aL,aL];exact hc
  simp[this,hc]
theorem xJ(f:Nat)(v:Int)(l:List Bx):(atF f v l).length<=l.length:=dK ..
theorem Vy(l:List Bx)(f:Nat)(hf:f<=4)(v:Int)(hl:l.length<1000000000000){K:KT}(hK:K (iN (atF f v l)) []):AC 230 [iN l,.v (.int .i64 f),.v (.int .u64 v)] [] K:=by
 refine aQd rfl rfl ?_;(repeat' ((conv=>whnf);first|refine zG ?_|apply zA|intro h|exact zT));all_goals conv=>whnf
 refine gV Nat (fun k=>⟨1,[(0,.arr 10 ((atF f v (l.take k)).map iV))],[(0,iN l),(1,.v (.int .i64 f)),(2,.v (.int .u64 v)),(7,.os 0 10 0 (atF f v (l.take k)).length),(8,.v (.int .i64 k))]⟩) (fun k=>k<=l.length) (fun k=>l.length-k) 0 (aK _) ?_ ?_
 ·exact leA
 intro k hk;have hlen:=xJ f v (l.take k);rw[aV]at hlen;rcases aD k l.length with hkl|hkl
 ·obtain⟨x,hx⟩:=gex hkl;have hs:=P8 (f:=f) (v:=v) hx;have b0:=x.r0.l0;have b1:=x.r0.l1;have b2:=x.r0.h0;have b3:=x.r0.h1;have c0:=x.r1.l0;have c1:=x.r1.l1;have c2:=x.r1.h0;have c3:=x.r1.h1;have d0:=x.r2.l0;have d1:=x.r2.l1;have d2:=x.r2.h0;have d3:=x.r2.h1;have e0:=x.r3.l0;have e1:=x.r3.l1;have e2:=x.r3.h0;have e3:=x.r3.h1;have f0:=x.r4.l0;have f1:=x.r4.l1;have f2:=x.r4.h0;have f3:=x.r4.h1;rcases f with _|_|_|_|_|f
  case succ.succ.succ.succ.succ=>omega
  all_goals
   simp only[Bx.get]at hs;(repeat' ((conv=>whnf);first|(with_reducible first|refine iI hkl ?_|refine iH hx ?_)|(refine kH zd ?_)|refine zG ?_|apply zA|intro h|exact zT));all_goals conv=>whnf
   all_goals
    refine⟨k+1,by omega,by omega,?_⟩;first
     |(rw[aH zo]at hs
       rw[hs,aQ,aC];exact leA)
     |(rw[aF zo,bG]at hs
       rw[hs];exact leA)
 ·(repeat' ((conv=>whnf);first|refine zG ?_|apply zA|intro h|exact zT));all_goals conv=>whnf
  rw[aW hkl]at*;(repeat' ((conv=>whnf);first|refine zG ?_|apply zA|intro h|exact zT));all_goals conv=>whnf
  exact hK
theorem aLD(a b:List Bx)(f:Nat)(hf:f<=4)(ha:a.length<1000000000)(hb:b.length<1000000000){K:KT}(hK:K (iR (lO f a b)) []):AC 229 [iN a,iN b,.v (.int .i64 f)] [] K:=by
 refine aIA rfl rfl ?_;(repeat' ((conv=>whnf);first|refine zG ?_|apply zA|intro h|exact zT));all_goals conv=>whnf
 refine gV Nat (fun k=>⟨1,[(0,.arr 2 ((a.take k).map fun x=>encR (x.get f)))],[(0,iN a),(1,iN b),(2,.v (.int .i64 f)),(7,.os 0 2 0 k),(8,.v (.int .i64 k))]⟩) (fun k=>k<=a.length) (fun k=>a.length-k) 0 (aK _) ?_ ?_
 ·exact leA
 intro k hk;have hlen:((a.take k).map fun x=>encR (x.get f)).length=k:=by rw[aA,aV];omega
 rcases aD k a.length with hkl|hkl
 ·obtain⟨x,hx⟩:=gex hkl;have hs:(a.take (k+1)).map (fun x=>encR (x.get f))=(a.take k).map (fun x=>encR (x.get f))++[.agg [.v (.int .u32 (x.get f).lo),.v (.int .u32 (x.get f).hi)]]:=by
   rw[bE,hx,aQ];rfl
  rcases f with _|_|_|_|_|f
  case succ.succ.succ.succ.succ=>omega
  all_goals
   (repeat' ((conv=>whnf);first|(with_reducible first|refine iI hkl ?_|refine iH hx ?_)|(refine kH zd ?_)|refine zG ?_|apply zA|intro h|exact zT));all_goals conv=>whnf
   refine⟨k+1,by omega,by omega,?_⟩;rw[hs];exact leA
 ·rw[aW hkl]at hlen⊢;(repeat' ((conv=>whnf);first|refine zG ?_|apply zA|intro h|exact zT));all_goals conv=>whnf
  have hkk:k=a.length:=by omega
  subst hkk;refine gV Nat (fun k=>⟨1,[(0,.arr 2 (a.map (fun x=>encR (x.get f))++(b.take k).map fun x=>encR (x.get f)))],[(1,iN b),(2,.v (.int .i64 f)),(7,.os 0 2 0 (a.length+k)),(9,.v (.int .i64 k))]⟩) (fun k=>k<=b.length) (fun k=>b.length-k) 0 (aK _) ?_ ?_
  ·rw[cA,bI,bG];exact leA
  intro k hk2;have hlen:(a.map (fun x=>encR (x.get f))++(b.take k).map fun x=>encR (x.get f)).length=a.length+k:=by rw[aC,aA,aA,aV];omega
  rcases aD k b.length with hkl|hkl
  ·obtain⟨x,hx⟩:=gex hkl;have hs:a.map (fun x=>encR (x.get f))++(b.take (k+1)).map (fun x=>encR (x.get f))=(a.map (fun x=>encR (x.get f))++(b.take k).map (fun x=>encR (x.get f)))++[.agg [.v (.int .u32 (x.get f).lo),.v (.int .u32 (x.get f).hi)]]:=by
    rw[bE,hx,aQ,cM];rfl
   rcases f with _|_|_|_|_|f
   case succ.succ.succ.succ.succ=>omega
   all_goals
    (repeat' ((conv=>whnf);first|(with_reducible first|refine iI hkl ?_|refine iH hx ?_)|(refine kH zd ?_)|refine zG ?_|apply zA|intro h|exact zT));all_goals conv=>whnf
    refine⟨k+1,by omega,by omega,?_⟩;rw[hs];exact leA
  ·rw[aW hkl]at hlen⊢;(repeat' ((conv=>whnf);first|refine zG ?_|apply zA|intro h|exact zT));all_goals conv=>whnf
   have e:a.map (fun x=>encR (x.get f))++b.map (fun x=>encR (x.get f))=(lO f a b).map encR:=by
    rw[lO,aQ,gU,gU];rfl
   rw[e];exact hK
def opI(c:Int)(x y:Bool):Bool:=if c=0 then x||y else if c=1 then x&&y else if c=2 then x&& !y else !(x==y)
def Xa(c:Int)(x y:Bool):Bool:=if c=1 then !x|| !y else if c=2 then !x else !x&& !y
theorem aFn(c:Int)(x y:Bool){K:KT}(hK:K (.sb (opI c x y)) []):AC 227 [.v (.int .i64 c),.sb x,.sb y] [] K:=by
 refine gZ (aDC rfl rfl ?_);(repeat' ((conv=>whnf);first|refine zG ?_|apply zA|intro h|exact zT));all_goals conv=>whnf
 all_goals
  unfold opI at hK;first
   |exact kB hK (by cases x<;>cases y<;>simp_all)
   |exact kE hK (by cases x<;>cases y<;>simp_all)
   |exact iU hK (by cases x<;>cases y<;>simp_all)
theorem aFo(c:Int)(x y:Bool){K:KT}(hK:K (.sb (Xa c x y)) []):AC 228 [.v (.int .i64 c),.sb x,.sb y] [] K:=by
 refine gZ (aDF rfl rfl ?_);(repeat' ((conv=>whnf);first|refine zG ?_|apply zA|intro h|exact zT));all_goals conv=>whnf
 all_goals
  unfold Xa at hK;first
   |exact kB hK (by cases x<;>cases y<;>simp_all)
   |exact kE hK (by cases x<;>cases y<;>simp_all)
   |exact iU hK (by cases x<;>cases y<;>simp_all)
theorem Za{c:Int}{x y:Bool}(h:Xa c x y=true):aRA (opI c) x y:=by
 unfold Xa at h;intro p q hp hq;unfold opI;by_cases h0:c=0
 ·subst h0;cases x<;>cases y<;>cases p<;>cases q<;>simp_all
 ·by_cases h1:c=1
  ·subst h1;cases x<;>cases y<;>cases p<;>cases q<;>simp_all
  ·by_cases h2:c=2
   ·subst h2;cases x<;>cases y<;>cases p<;>cases q<;>simp_all
   ·rw[aF h1,aF h2]at h;rw[aF h0,aF h1,aF h2];cases x<;>cases y<;>cases p<;>cases q<;>simp_all
theorem Sv{f:Nat}(h:f<=4):pU (f:Int)=iX f:=by
 rcases f with _|_|_|_|_|f
 all_goals first|rfl|omega
theorem GInv.last_some{R:Int->List Bx}{gs:List (Grp (List Bx))}{s:Int}(h:GInv R gs s)(hs:1<=s)(hne:R (s-1)≠[]):∃ini g,gs=ini++[g]/\g.val=R (s-1)/\g.hi+1=s:=by
 have hat:=h.at_ (s-1);rw[aH zo,lab,aF (fun e=>hne (gI.1 e))]at hat;obtain⟨g,hg,g1,g2,g3⟩:=Dw hat;have hlow:=h.low g hg;rcases dI gs with hn|⟨ini,g',hc⟩
 ·subst hn;simp at hg
 ·rw[dJ]at hc;subst hc;refine⟨ini,g',rfl,?_⟩;rcases aX.1 hg with hm|hm
  ·have h1:=Wf.under h.wf g hm;have h2:=h.low g' zx;have h3:=h.wf.le g' zx;omega
  ·simp only[aU]at hm;subst hm;exact⟨g3,by omega⟩
theorem Ji{gs:List (Grp (List Bx))}{s:Int×Int}:grow eqB gs s []=gs:=rfl
theorem Yu{ini:List (Grp (List Bx))}{g:Grp (List Bx)}{s to:Int}{rest:List Bx}(hne:rest≠[])(hv:g.val=rest)(hh:g.hi+1=s):grow eqB (ini++[g]) (s,to) rest=ini++[⟨g.lo,to,rest⟩]:=by
 unfold grow;rw[aF (fun e=>hne (gI.1 e))];simp only[cW,cO,dT,dM];rw[aH ⟨hh,(uP _ _).2 hv⟩,hv]
theorem Yv{R:Int->List Bx}{gs:List (Grp (List Bx))}{s to:Int}{rest:List Bx}(h:GInv R gs s)(hne:rest≠[])(hd:s=0\/R (s-1)≠rest):grow eqB gs (s,to) rest=gs++[⟨s,to,rest⟩]:=by
 unfold grow;rw[aF (fun e=>hne (gI.1 e))];rcases dI gs with hn|⟨ini,g,hc⟩
 ·subst hn;rfl
 ·rw[dJ]at hc;subst hc;simp only[cW,cO,dT,dM];rw[aF]
  rintro⟨h1,h2⟩
  have h2:=(uP _ _).1 h2;have hl:=h.low g zx;have hle:=h.wf.le g zx;rcases hd with hd|hd
  ·omega
  ·have hat:=h.wf.at_mem (g:=g) zx (v:=s-1) zo zo;rw[h.at_,aH zo,lab]at hat;split at hat
   ·cases hat
   ·exact hd ((bB hat).trans h2)
theorem uR{f:Nat}{ini:List (Grp (List Bx))}{g:Grp (List Bx)}:iZ f (ini++[g])=iZ f ini++g.val.map fun b=>b.put f (mkR g.lo g.hi):=by
 rw[iZ,gJ];simp[iZ]
def pL(R:Int->List Bx)(top:Int)(st:List Int)(i:Nat):List (Grp (List Bx)):=((mC top st).take i).foldl (fun out s=>grow eqB out s (R s.1)) []
def pW(top:Int)(st:List Int)(i:Nat):Int:=match st[i+1]? with
 |some y=>y-1
 |none=>top
theorem Pi{top:Int}{st:List Int}{i:Nat}{x:Int}(h:st[i]? =some x):(mC top st)[i]? =some (x,pW top st i):=Kh top st i x h
theorem xP{R:Int->List Bx}{top:Int}{st:List Int}{i:Nat}{x:Int}(h:st[i]? =some x):pL R top st (i+1)=grow eqB (pL R top st i) (x,pW top st i) (R x):=by
 rw[pL,uS (Pi h)];rfl
theorem Q8{R:Int->List Bx}{top:Int}{st:List Int}{i:Nat}(h:st.length<=i):pL R top st i=lD R top st:=by
 rw[pL,aW (by rw[tG];exact h)];rfl
theorem Fm{R:Int->List Bx}{top:Int}{l:List Rg}{st:List Int}(hc:Cuts top l st)(hR:∀u v,(∀r,r∈l->((r.lo<=u/\u<=r.hi)↔(r.lo<=v/\v<=r.hi)))->R u=R v):∀(i:Nat) (x:Int),st[i]? =some x->GInv R (pL R top st i) x
 |0,x,h=>by
  obtain⟨r,hr⟩:=hc.zero;rw[hr]at h;simp at h;subst h;exact GInv.start R
 |i+1,x,h=>by
  have hi:=(aP.1 h).1;obtain⟨y,hy⟩:∃y,st[i]? =some y:=⟨_,aE zo⟩
  have ih:=Fm hc hR i y hy;have hseg:=aG (Pi (top:=top) hy);have hto:pW top st i=x-1:=by rw[pW,h]
  have hyx:y<x:=by
   have:=dL.1 hc.sorted i (i+1) zo hi zo;rw[aE zo]at hy h;have e1:=bB hy;have e2:=bB h;omega
  have hy0:=(hc.range y (aG hy)).1;rw[hto]at hseg;have hst:=ih.step uP (hi:=x-1) hy0 zo (fun v v1 v2=>hR v y fun r hr=>hc.const hseg v1 v2 hr);rw[show x-1+1=x by omega]at hst;rw[xP hy,hto];exact hst
theorem Fy{R:Int->List Bx}{top:Int}{l:List Rg}{st:List Int}(hc:Cuts top l st)(hR:∀u v,(∀r,r∈l->((r.lo<=u/\u<=r.hi)↔(r.lo<=v/\v<=r.hi)))->R u=R v){i:Nat}{x y:Int}(hx:st[i]? =some x)(hy:st[i+1]? =some y):R (y-1)=R x/\x<=y-1:=by
 have hi:=(aP.1 hy).1;have hseg:=aG (Pi (top:=top) hx);have hto:pW top st i=y-1:=by rw[pW,hy]
 have hxy:x<y:=by
  have:=dL.1 hc.sorted i (i+1) zo hi zo;rw[aE zo]at hx hy;have e1:=bB hx;have e2:=bB hy;omega
 rw[hto]at hseg;exact⟨hR _ _ fun r hr=>hc.const hseg zs (cC _) hr,by omega⟩
theorem xO{R:Int->List Bx}{top:Int}{st:List Int}(i:Nat):kG (pL R top st i)<=kG (lD R top st):=by
 have e:lD R top st=((mC top st).drop i).foldl (fun out s=>grow eqB out s (R s.1)) (pL R top st i):=by
  rw[lD,pL,<-List.foldl_append,cU]
 rw[e];exact fold_size R _ _
theorem Mw{R:Int->List Bx}{top:Int}{st:List Int}{i:Nat}{x:Int}(h:st[i]? =some x):(R x).length<=kG (lD R top st):=by
 have h1:=(Fl (pL R top st i) (x,pW top st i) (R x)).2;rw[<-xP h]at h1;exact bC h1 (xO _)
theorem G6{top:Int}{l:List Rg}{st:List Int}(hc:Cuts top l st){i:Nat}{x:Int}(hx:st[i]? =some x):x<=pW top st i/\pW top st i<=top/\0<=x:=by
 have hr:=hc.range x (aG hx);unfold pW;cases hy:st[i+1]? with
 |none=>simp only;omega
 |some y=>
  have hi:=(aP.1 hy).1;have:=dL.1 hc.sorted i (i+1) zo hi zo;have hry:=hc.range y (aG hy);rw[aE zo]at hx hy;have e1:=bB hx;have e2:=bB hy;simp only;omega
end Go.Proofs.YtgicddadddhonaaGreatDoor
