/- Lemmas. -/
import Derived.ChangeKeysEq
import Derived.Test.YtnomkooikbhgmaaGreatDoorK11
set_option linter.unusedVariables false
set_option linter.unusedSimpArgs false
set_option maxRecDepth 100000
set_option maxHeartbeats 4000000
noncomputable section
namespace Go.Proofs.YtnomkooikbhgmaaGreatDoor
open Go Go.Vm
theorem aCb(r:Rg):mkR r.lo r.hi=r:=by
 unfold mkR;rw[dif_pos ⟨r.l0,r.l1,r.h0,r.h1⟩]
def iW(k:Nat)(b:Bx):Bx:=⟨if 5<=k then b.r0 else zR,if 4<=k then b.r1 else zR,if 3<=k then b.r2 else zR,if 2<=k then b.r3 else zR,if 1<=k then b.r4 else zR⟩
theorem lM{k:Nat}{b:Bx}{f:Nat}(hf:f<=4):(iW k b).get f=if 5<=f+k then b.get f else zR:=by
 rcases f with _|_|_|_|_|f
 ·simp only[Bx.get,iW,bD]
 ·simp only[Bx.get,iW];congr 1;apply propext;omega
 ·simp only[Bx.get,iW];congr 1;apply propext;omega
 ·simp only[Bx.get,iW];congr 1;apply propext;omega
 ·simp only[Bx.get,iW];congr 1;apply propext;omega
 ·omega
theorem Vb{k:Nat}{b:Bx}(hk:k<=4):(iW k b).put (4-k) (b.get (4-k))=iW (k+1) b:=by
 refine S9 fun f hf=>?_;by_cases e:f=4-k
 ·subst e;rw[oR zo,lM zo,aH zo]
 ·rw[qA zo hf e,lM hf,lM hf];by_cases h5:5<=f+k
  ·rw[aH h5,aH zo]
  ·rw[aF h5,aF zo]
theorem Ux{k:Nat}{b:Bx}(hk:k<=4):(iW (k+1) b).put (4-k) zR=iW k b:=by
 refine S9 fun f hf=>?_;by_cases e:f=4-k
 ·subst e;rw[oR zo,lM zo,aF zo]
 ·rw[qA zo hf e,lM hf,lM hf];by_cases h5:5<=f+k
  ·rw[aH h5,aH zo]
  ·rw[aF h5,aF zo]
theorem xR(b:Bx):iW 5 b=b:=rfl
theorem aDm{k:Nat}{b:Bx}(hk:k<=4)(h:okK k b):b.put (4-k) zR=b:=by
 have:=Ea zo h (4-k) zo;rw[aF zo]at this;rw[<-this,W1]
def sQ(f:Nat):List Bx->List (List Bx)
 |[]=>[]
 |x::l=>match sQ f l with
  |[]=>[[x]]
  |[]::rs=>[x]::rs
  |(y::r)::rs=>if y.get f=x.get f then(x::y::r)::rs else [x]::(y::r)::rs
def jX(f:Nat)(p:List Bx):Rg:=match p with
 |x::_=>x.get f
 |[]=>zR
inductive Parts (f:Nat):List (List Bx)->Prop
 |nil:Parts f []
 |one (p:List Bx) (h1:p≠[]) (h2:∀x,x∈p->x.get f=jX f p):Parts f [p]
 |cons (p q:List Bx) (ps:List (List Bx)) (h1:p≠[]) (h2:∀x,x∈p->x.get f=jX f p) (h3:jX f p≠jX f q) (hw:Parts f (q::ps)):Parts f (p::q::ps)
theorem Parts.tail{f:Nat}{p:List Bx}{ps:List (List Bx)}(h:Parts f (p::ps)):Parts f ps:=by
 cases h with
 |one=>exact .nil
 |cons _ _ _ _ _ _ hw=>exact hw
theorem Parts.head{f:Nat}{p:List Bx}{ps:List (List Bx)}(h:Parts f (p::ps)):p≠[]/\∀x,x∈p->x.get f=jX f p:=by
 cases h with
 |one _ h1 h2=>exact⟨h1,h2⟩
 |cons _ _ _ h1 h2 _ _=>exact⟨h1,h2⟩
theorem Parts.mem{f:Nat}:∀{ps:List (List Bx)},Parts f ps->∀p,p∈ps->p≠[]/\∀x,x∈p->x.get f=jX f p
 |[],_,p,hp=>by simp at hp
 |q::ps,h,p,hp=>by
  rcases aV.1 hp with rfl|hp
  ·exact h.head
  ·exact Parts.mem h.tail p hp
theorem yJ(f:Nat):∀l:List Bx,(sQ f l).flatten=l
 |[]=>rfl
 |x::l=>by
  have ih:=yJ f l;rw[sQ];split
  ·rename_i h;rw[h]at ih;rw[<-ih];rfl
  ·rename_i rs h;rw[h]at ih;rw[<-ih];rfl
  ·rename_i y r rs h;rw[h]at ih;split
   ·rw[<-ih];rfl
   ·rw[<-ih];rfl
theorem vJ(f:Nat):∀l:List Bx,Parts f (sQ f l)
 |[]=>.nil
 |x::l=>by
  have ih:=vJ f l;rw[sQ];split
  ·exact .one _ zx (fun y hy=>by simp only[aW]at hy;subst hy;rfl)
  ·rename_i rs h;rw[h]at ih;exact absurd rfl ih.head.1
  ·rename_i y r rs h;rw[h]at ih;have hh:=ih.head.2;split
   ·rename_i e;have hx:∀z,z∈x::y::r->z.get f=jX f (x::y::r):=fun z hz=>by
     rcases aV.1 hz with rfl|hz
     ·rfl
     ·rw[hh z hz];exact e
    cases rs with
    |nil=>exact .one _ zx hx
    |cons q ps=>
     cases ih with
     |cons _ _ _ h1 h2 h3 hw=>exact .cons _ _ _ zx hx (by rw[show jX f (x::y::r)=jX f (y::r)from e.symm];exact h3) hw
   ·rename_i e;exact .cons _ _ _ zx (fun z hz=>by simp only[aW]at hz;subst hz;rfl) (fun e2=>e e2.symm) ih
theorem O9{f:Nat}:∀{ps:List (List Bx)},Parts f ps->sQ f ps.flatten=ps
 |[],_=>rfl
 |p::ps,h=>by
  have ih:=O9 h.tail;obtain⟨h1,h2⟩:=h.head;have hd:∀q qs,ps=q::qs->jX f p≠jX f q:=fun q qs e=>by
   subst e;cases h with
   |cons _ _ _ _ _ h3 _=>exact h3
  have hq:∀q qs,ps=q::qs->q≠[]:=fun q qs e=>by subst e;exact h.tail.head.1
  have go:∀(p:List Bx),p≠[]->(∀x,x∈p->x.get f=jX f p)->(∀q qs,ps=q::qs->jX f p≠jX f q)->sQ f (p++ps.flatten)=p::ps:=by
   intro p
   induction p with
   |nil=>intro h;exact absurd rfl h
   |cons x p ih2=>
    intro _ hc hn;rw[fY,sQ];cases p with
    |nil=>
     rw[dL,ih];cases ps with
     |nil=>rfl
     |cons q qs=>
      cases q with
      |nil=>exact absurd rfl (hq _ _ rfl)
      |cons y r=>
       have:=hn _ _ rfl;simp only;rw[aF (fun e=>this (by simp only[jX];exact e.symm))]
    |cons y p=>
     have e:y.get f=x.get f:=hc y zx;rw[ih2 zx (fun z hz=>by rw[hc z (aS _ hz)];exact e.symm) (fun q qs e2=>by
      have:=hn q qs e2;intro e3;exact this (by rw[<-e3];exact e.symm))]
     simp only;rw[aH e]
  rw[eL];exact go p h1 h2 hd
def tK(f:Nat)(x y:Bx):Bool:=(List.range 5).all fun i=>decide (i<f)||decide (x.get i=y.get i)
def sW(f:Nat)(a b:List Bx):Bool:=a.length==b.length&&(a.zip b).all fun q=>tK f q.1 q.2
theorem S2{k:Nat}{x y:Bx}:tK (5-k) x y=true↔iW k x=iW k y:=by
 unfold tK;rw[bP];constructor
 ·intro h;refine S9 fun f hf=>?_;rw[lM hf,lM hf];by_cases h5:5<=f+k
  ·rw[aH h5,aH h5];have:=h f (dJ.2 zo);rw[bR,aM,aM]at this;rcases this with h1|h1
   ·omega
   ·exact h1
  ·rw[aF h5,aF h5]
 ·intro h i hi;have hi:=dJ.1 hi;rw[bR,aM,aM];by_cases h5:5<=i+k
  ·right;have:(iW k x).get i=(iW k y).get i:=by rw[h]
   rw[lM zo,lM zo,aH h5,aH h5]at this;exact this
  ·left;omega
theorem E8{k:Nat}:∀{a b:List Bx},sW (5-k) a b=true↔a.map (iW k)=b.map (iW k)
 |[],[]=>by simp[sW]
 |[],y::b=>by simp[sW]
 |x::a,[]=>by simp[sW]
 |x::a,y::b=>by
  have ih:=E8 (k:=k) (a:=a) (b:=b);rw[sW,aJ]at ih⊢;rw[List.zip_cons_cons,eX,aJ,aR,aR,List.cons.injEq,<-ih,S2];simp only[aB,beq_iff_eq,Nat.add_right_cancel_iff];constructor
  ·rintro⟨h1,h2,h3⟩;exact⟨h2,h1,h3⟩
  ·rintro⟨h2,h1,h3⟩;exact⟨h1,h2,h3⟩
def wV(f:Nat)(p q:List Bx):Bool:= !p.isEmpty&&(decide ((jX f q).lo<=(jX f p).hi)||(decide ((jX f q).lo=(jX f p).hi+1)&&sW (f+1) p q))
def sU(can:List Bx->Bool)(f:Nat):List Bx->List (List Bx)->Bool
 |_,[]=>true
 |last,p::ps=> !wV f last p&&can p&&sU can f p ps
def oA:Nat->List Bx->Bool
 |0,l=>l.length==1
 |k+1,l=>sU (oA k) (4-k) [] (sQ (4-k) l)
def mL(k:Nat)(p:List Bx):Grp (List Bx):=⟨(jX (4-k) p).lo,(jX (4-k) p).hi,p.map (iW k)⟩
theorem X8{k:Nat}(hk:k<=4){p q:List Bx}(hp:p≠[]):wV (4-k) p q=false↔(mL k p).hi<(mL k q).lo/\((mL k p).hi+1=(mL k q).lo->(mL k p).val≠(mL k q).val):=by
 have he:p.isEmpty=false:=by cases p with
  |nil=>exact absurd rfl hp
  |cons=>rfl
 have e5:4-k+1=5-k:=by omega
 rw[cB,ne_eq,wV,he,e5];simp only[dO,dQ,bR,aJ,aM,E8,mL];constructor
 ·intro h;exact⟨by omega,fun e1 e2=>h (.inr ⟨e1.symm,e2⟩)⟩
 ·rintro⟨h1,h2⟩ (h|⟨h3,h4⟩)
  ·omega
  ·exact h2 h3.symm h4
theorem Vj{can:List Bx->Bool}{k:Nat}(hk:k<=4):∀{ps:List (List Bx)} {last:List Bx},last≠[]->(jX (4-k) last).lo<=(jX (4-k) last).hi->(∀p,p∈ps->p≠[]/\(jX (4-k) p).lo<=(jX (4-k) p).hi)->
  (sU can (4-k) last ps=true↔Wf ((last::ps).map (mL k))/\∀p,p∈ps->can p=true)
 |[],last,hl,hle,_=>by
  simp only[sU,aR,bL,dR,false_implies,implies_true,and_true,true_iff];exact .one _ hle
 |p::ps,last,hl,hle,h=>by
  obtain⟨hp,hple⟩:=h p zx;have ih:=Vj (can:=can) hk (ps:=ps) hp hple fun q hq=>h q (aS _ hq);rw[sU,aJ,aJ,ih,eA,X8 hk hl];constructor
  ·rintro⟨⟨h1,h2⟩,h3,h4⟩
   refine⟨.cons _ _ _ hle h1.1 h1.2 h3,fun q hq=>?_⟩;rcases aV.1 hq with rfl|hq
   ·exact h2
   ·exact h4 q hq
  ·rintro⟨h1,h2⟩
   cases h1 with
   |cons _ _ _ g1 g2 g3 hw=>exact⟨⟨⟨g2,g3⟩,h2 p zx⟩,hw,fun q hq=>h2 q (aS _ hq)⟩
theorem Xu{can:List Bx->Bool}{k:Nat}(hk:k<=4){ps:List (List Bx)}(h:∀p,p∈ps->p≠[]/\(jX (4-k) p).lo<=(jX (4-k) p).hi):
  sU can (4-k) [] ps=true↔Wf (ps.map (mL k))/\∀p,p∈ps->can p=true:=by
 cases ps with
 |nil=>simp only[sU,bL,dR,false_implies,implies_true,and_true,true_iff];exact .nil
 |cons p ps=>
  obtain⟨hp,hple⟩:=h p zx;rw[sU,aJ,aJ,Vj hk hp hple fun q hq=>h q (aS _ hq)];constructor
  ·rintro⟨⟨_,h2⟩,h3,h4⟩
   refine⟨h3,fun q hq=>?_⟩;rcases aV.1 hq with rfl|hq
   ·exact h2
   ·exact h4 q hq
  ·rintro⟨h1,h2⟩
   exact⟨⟨rfl,h2 p zx⟩,h1,fun q hq=>h2 q (aS _ hq)⟩
theorem M8{k:Nat}(hk:k<=4):∀{ps:List (List Bx)},Parts (4-k) ps->Wf (ps.map (mL k))->∀{v:Int} {p:List Bx},p∈ps->(jX (4-k) p).lo<=v->v<=(jX (4-k) p).hi->atF (4-k) v ps.flatten=p
 |[],_,_,v,p,hp,_,_=>by simp at hp
 |q::ps,hP,hw,v,p,hp,h1,h2=>by
  have filt:∀r,r∈q::ps->atF (4-k) v r=if(jX (4-k) r).lo<=v/\v<=(jX (4-k) r).hi then r else []:=fun r hr=>by
   have hc:=(hP.mem r hr).2;split
   ·rename_i hin;refine eT.2 fun x hx=>?_;rw[hc x hx,decide_eq_true hin.1,decide_eq_true hin.2];rfl
   ·rename_i hin;refine List.filter_eq_nil_iff.2 fun x hx=>?_;rw[hc x hx,aJ,aM,aM];exact hin
  have happ:atF (4-k) v (q::ps).flatten=atF (4-k) v q++atF (4-k) v ps.flatten:=by
   rw[eL,atF,cZ];rfl
  rw[happ];have hab:∀r,r∈ps->(jX (4-k) q).hi<(jX (4-k) r).lo:=fun r hr=>(Wf.above (l:=ps.map (mL k)) hw (mL k r) (eU hr)).1;have nil_of:∀{rs:List (List Bx)},(∀r,r∈rs->r∈q::ps)->(∀r,r∈rs->v<(jX (4-k) r).lo)->atF (4-k) v rs.flatten=[]:=by
   intro rs
   induction rs with
   |nil=>intro _ _;rfl
   |cons r rs ih=>
    intro hm hv;rw[eL,atF,cZ];have e1:=filt r (hm r zx);rw[aF (by have:=hv r zx;omega)]at e1;have e2:=ih (fun x hx=>hm x (aS _ hx)) (fun x hx=>hv x (aS _ hx));rw[atF]at e1 e2;rw[e1,e2];rfl
  rcases aV.1 hp with rfl|hp
  ·rw[filt p zx,aH ⟨h1,h2⟩,nil_of (fun r hr=>aS _ hr) (fun r hr=>by have:=hab r hr;omega),bI]
  ·have:=hab p hp;rw[filt q zx,aF zo,dL];exact M8 hk hP.tail hw.tail hp h1 h2
theorem K2{k:Nat}{v:Int}:∀{ps:List (List Bx)},Parts (4-k) ps->(∀p,p∈ps->¬((jX (4-k) p).lo<=v/\v<=(jX (4-k) p).hi))->atF (4-k) v ps.flatten=[]
 |[],_,_=>rfl
 |q::ps,hP,h=>by
  rw[eL,atF,cZ];have e1:q.filter (fun b=>decide ((b.get (4-k)).lo<=v)&&decide (v<=(b.get (4-k)).hi))=[]:=List.filter_eq_nil_iff.2 fun x hx=>by
   rw[hP.head.2 x hx,aJ,aM,aM];exact h q zx
  have e2:=K2 hP.tail fun p hp=>h p (aS _ hp);rw[atF]at e2;rw[e1,e2];rfl
def orB(x y:Bool):Bool:=x||y
theorem Fc(op:Bool->Bool->Bool)(h:op false false=false)(k:Nat):iX op k [] []=[]:=Fb op k [] [] fun p q hp hq=>by
 have h1:p=false:=by cases p with
  |false=>rfl
  |true=>exact absurd (hp rfl) zx
 have h2:q=false:=by cases q with
  |false=>rfl
  |true=>exact absurd (hq rfl) zx
 rw[h1,h2,h]
theorem Gl{k:Nat}(hk:k<=4):∀{ps:List (List Bx)},Parts (4-k) ps->iR (4-k) (ps.map (mL k))=ps.flatten.map (iW (k+1))
 |[],_=>rfl
 |p::ps,h=>by
  have ih:=Gl hk h.tail;have e:iR (4-k) ((p::ps).map (mL k))=(p.map (iW k)).map (fun b=>b.put (4-k) (mkR (jX (4-k) p).lo (jX (4-k) p).hi))++iR (4-k) (ps.map (mL k)):=by
   simp only[iR,aR,dD,mL]
  rw[e,ih,eL,aQ,aCb,fM]
  congr 1
  refine eE fun x hx=>?_;simp only[Function.comp];rw[<-h.head.2 x hx,Vb hk]
theorem wF:∀(k:Nat) (l:List Bx),k<=5->(∀x,x∈l->∀f,f<=4->5<=f+k->(x.get f).lo<=(x.get f).hi/\(x.get f).hi<=iN f)->(k=0->l≠[])->(oA k l=true↔iX orB k l []=l.map (iW k))
 |0,l,_,_,hne=>by
  have hne:=hne rfl;rw[oA,iX];cases l with
  |nil=>exact absurd rfl hne
  |cons x l=>
   simp only[List.isEmpty_cons,dO,List.isEmpty_nil,eF,orB,Bool.or_false,if_true];cases l with
   |nil=>simp only[aB,aG,beq_self_eq_true,aR,bL,true_iff];rfl
   |cons y l=>simp
 |k+1,l,hk,hv,_=>by
  have hP:=vJ (4-k) l;have hfl:=yJ (4-k) l;have hmem:∀p,p∈sQ (4-k) l->∀x,x∈p->x∈l:=fun p hp x hx=>by rw[<-hfl];exact List.mem_flatten.2 ⟨p,hp,hx⟩
  have hrg:∀p,p∈sQ (4-k) l->(jX (4-k) p).lo<=(jX (4-k) p).hi/\(jX (4-k) p).hi<=iN (4-k):=fun p hp=>by
   obtain⟨h1,h2⟩:=hP.mem p hp;cases p with
   |nil=>exact absurd rfl h1
   |cons x p=>exact hv x (hmem _ hp x zx) (4-k) zo zo
  have hvp:∀p,p∈sQ (4-k) l->∀x,x∈p->∀f,f<=4->5<=f+k->(x.get f).lo<=(x.get f).hi/\(x.get f).hi<=iN f:=fun p hp x hx f hf h5=>hv x (hmem p hp x hx) f hf zo;have g:=cano_wf orB k l [];rw[oA,Xu zo fun p hp=>⟨(hP.mem p hp).1,(hrg p hp).1⟩,lI];generalize sQ (4-k) l=ps at*;constructor
  ·rintro⟨hw,hc⟩
   have g2:GInv (iM orB k l []) (ps.map (mL k)) (iN (4-k)+1):=by
    refine⟨hw,fun v=>?_,fun x hx=>?_,fun x hx=>?_⟩
    ·by_cases hin:∃p,p∈ps/\(jX (4-k) p).lo<=v/\v<=(jX (4-k) p).hi
     ·obtain⟨p,hp,p1,p2⟩:=hin;have hb:=hrg p hp;have hl0:=(jX (4-k) p).l0;rw[hw.at_mem (g:=mL k p) (eU hp) p1 p2,aH zo,lab,iM,<-hfl,M8 zo hP hw hp p1 p2];have hI:=(wF k p zo (hvp p hp) (fun _=>(hP.mem p hp).1)).1 (hc p hp);have hnil:atF (4-k) v []=[]:=rfl;rw[hnil,hI];cases p with
      |nil=>exact absurd rfl (hP.mem _ hp).1
      |cons x p=>rfl
     ·have hno:∀p,p∈ps->¬((jX (4-k) p).lo<=v/\v<=(jX (4-k) p).hi):=fun p hp hh=>hin ⟨p,hp,hh⟩;have e1:gAt (ps.map (mL k)) v=none:=Jc fun x hx=>by
       obtain⟨p,hp,rfl⟩:=bU.1 hx;have:=hno p hp;simp only[mL];omega
      have e2:iM orB k l [] v=[]:=by
       rw[iM,<-hfl,K2 hP hno];exact Fc orB rfl k
      rw[e1,lab,e2];split<;>rfl
    ·obtain⟨p,hp,rfl⟩:=bU.1 hx;have:=hrg p hp;have hl0:=(jX (4-k) p).l0;simp only[mL];omega
    ·obtain⟨p,hp,rfl⟩:=bU.1 hx;simp only[mL,ne_eq,List.map_eq_nil_iff];exact(hP.mem p hp).1
   rw[g.same g2,Gl zo hP,hfl]
  ·intro he;generalize kD (iM orB k l []) (iN (4-k)) (jH (lH (4-k) l []) (iN (4-k)))=G at g he;have hb:=kA (4-k)
   -- the parts that the groups are
   have hGok:∀x,x∈G->∀y,y∈x.val->y.put (4-k) zR=y:=fun x hx y hy=>by
    have hl:=g.low x hx;have hle:x.lo<=x.hi:=g.wf.le x hx;have hat:=g.wf.at_mem hx (cC x.lo) hle;rw[g.at_,aH ⟨hl.1,by omega⟩,lab]at hat;split at hat
    ·cases hat
    ·have hval:=bG hat;rw[<-hval]at hy;exact aDm zo (Hi orB k _ _ zo y hy)
   have hpg:∀(G:List (Grp (List Bx))),Wf G->(∀x,x∈G->x.val≠[]/\0<=x.lo/\x.hi<=4294967295)->Parts (4-k) (G.map fun x=>x.val.map fun b=>b.put (4-k) (mkR x.lo x.hi)):=by
    intro G;have rgv:∀x:Grp (List Bx),x.val≠[]->jX (4-k) (x.val.map fun b=>b.put (4-k) (mkR x.lo x.hi))=mkR x.lo x.hi:=fun x hx=>by
     cases hval:x.val with
     |nil=>exact absurd hval hx
     |cons b l=>exact oR zo
    have cst:∀x:Grp (List Bx),x.val≠[]->∀y,y∈(x.val.map fun b=>b.put (4-k) (mkR x.lo x.hi))->y.get (4-k)=jX (4-k) (x.val.map fun b=>b.put (4-k) (mkR x.lo x.hi)):=fun x hx y hy=>by
     obtain⟨b,_,rfl⟩:=bU.1 hy;rw[rgv x hx,oR zo]
    induction G with
    |nil=>intro _ _;exact .nil
    |cons x G ih=>
     intro hw hx;have hx1:=hx x zx;have ih:=ih hw.tail fun y hy=>hx y (aS _ hy);cases G with
     |nil=>exact .one _ (by simpa using hx1.1) (cst x hx1.1)
     |cons y G=>
      have hy1:=hx y zx;refine .cons _ _ _ (by simpa using hx1.1) (cst x hx1.1) ?_ ih;rw[rgv x hx1.1,rgv y hy1.1];have h1:=hw.head;have h2:=hw.tail.head;have h3:=hw.above y zx;intro e;have:=congrArg Rg.lo e;rw[kC zo zo zo zo,kC zo zo zo zo]at this;omega
   have hGP:=hpg G g.wf fun x hx=>⟨g.full x hx,(g.low x hx).1,by have:=g.low x hx;omega⟩
   have hr1:=O9 hGP;have hfG:(G.map fun x=>x.val.map fun b=>b.put (4-k) (mkR x.lo x.hi)).flatten=iR (4-k) G:=by rw[iR,List.flatMap]
   rw[hfG,he]at hr1;have hmapP:Parts (4-k) (ps.map fun p=>p.map (iW (k+1))):=by
    have hget:∀x:Bx,(iW (k+1) x).get (4-k)=x.get (4-k):=fun x=>by rw[lM zo,aH zo]
    have hro:∀p:List Bx,p≠[]->jX (4-k) (p.map (iW (k+1)))=jX (4-k) p:=fun p hp=>by
     cases p with
     |nil=>exact absurd rfl hp
     |cons x p=>exact hget x
    have hcst:∀p:List Bx,p≠[]->(∀x,x∈p->x.get (4-k)=jX (4-k) p)->∀y,y∈p.map (iW (k+1))->y.get (4-k)=jX (4-k) (p.map (iW (k+1))):=fun p hp hc y hy=>by
     obtain⟨x,hx,rfl⟩:=bU.1 hy;rw[hget,hro p hp,hc x hx]
    have go:∀{qs:List (List Bx)},Parts (4-k) qs->Parts (4-k) (qs.map fun p=>p.map (iW (k+1))):=by
     intro qs hq
     induction hq with
     |nil=>exact .nil
     |one p h1 h2=>exact .one _ (by simpa using h1) (hcst p h1 h2)
     |cons p q qs h1 h2 h3 hw ih=>exact .cons _ _ _ (by simpa using h1) (hcst p h1 h2) (by rw[hro p h1,hro q hw.head.1];exact h3) ih
    exact go hP
   have hr2:=O9 hmapP;have hfl2:(ps.map fun p=>p.map (iW (k+1))).flatten=l.map (iW (k+1)):=by rw[<-hfl,List.map_flatten]
   rw[hfl2,hr1]at hr2
   -- so the groups are those of the parts
   have hgrp:ps.map (mL k)=G:=by
    have e:∀(ps:List (List Bx)) (G:List (Grp (List Bx))),(∀p,p∈ps->p≠[])->(∀x,x∈G->(x.val≠[]/\0<=x.lo/\x.lo<=4294967295/\0<=x.hi/\x.hi<=4294967295)/\∀y,y∈x.val->y.put (4-k) zR=y)->
      (G.map fun x=>x.val.map fun b=>b.put (4-k) (mkR x.lo x.hi))=(ps.map fun p=>p.map (iW (k+1)))->ps.map (mL k)=G:=by
     intro ps
     induction ps with
     |nil=>intro G _ _ h;cases G with
      |nil=>rfl
      |cons=>simp at h
     |cons p ps ih=>
      intro G hne hx h;cases G with
      |nil=>simp at h
      |cons x G=>
       rw[aR,aR,List.cons.injEq]at h;rw[aR,ih G (fun q hq=>hne q (aS _ hq)) (fun y hy=>hx y (aS _ hy)) h.2]
       congr 1
       obtain⟨⟨x1,x2,x3,x4,x5⟩,x6⟩:=hx x zx;have h1:=h.1;have hval:p.map (iW k)=x.val:=by
        have:=congrArg (List.map fun b=>b.put (4-k) zR) h1;rw[fM,fM]at this;rw[show(x.val.map ((fun b=>b.put (4-k) zR)∘fun b=>b.put (4-k) (mkR x.lo x.hi)))=x.val by
         refine(eE fun y hy=>?_).trans (List.map_id _);simp only[Function.comp];rw[O3];exact x6 y hy]at this
        rw[this];refine eE fun y hy=>?_;simp only[Function.comp];rw[Ux zo]
       have hrgo:jX (4-k) p=mkR x.lo x.hi:=by
        cases p with
        |nil=>exact absurd rfl (hne _ zx)
        |cons y p=>
         cases hxv:x.val with
         |nil=>exact absurd hxv x1
         |cons b l=>
          rw[hxv,aR,aR,List.cons.injEq]at h1;have:(b.put (4-k) (mkR x.lo x.hi)).get (4-k)=(iW (k+1) y).get (4-k):=by rw[h1.1]
          rw[oR zo,lM zo,aH zo]at this;exact this.symm
       cases x;simp only at hval hrgo x2 x3 x4 x5;unfold mL;rw[hval,hrgo,kC zo zo zo zo,kO zo zo zo zo]
    refine e ps G (fun p hp=>(hP.mem p hp).1) (fun x hx=>⟨⟨g.full x hx,?_⟩,hGok x hx⟩) hr2;have hl:=g.low x hx;have:=g.wf.le x hx;omega
   refine⟨by rw[hgrp];exact g.wf,fun p hp=>?_⟩;refine(wF k p zo (hvp p hp) (fun _=>(hP.mem p hp).1)).2 ?_;have hw:Wf (ps.map (mL k)):=by rw[hgrp];exact g.wf
   have hb1:=hrg p hp;have hl0:=(jX (4-k) p).l0;have hat:=hw.at_mem (g:=mL k p) (eU hp) (cC _) hb1.1;rw[hgrp,g.at_,aH (by simp only[mL];omega),lab]at hat;split at hat
   ·cases hat
   ·have hval:=bG hat;simp only[mL]at hval;rw[iM,<-hfl,M8 zo hP hw hp (cC _) hb1.1]at hval;exact hval
end Go.Proofs.YtnomkooikbhgmaaGreatDoor
namespace Go.Vm
def aEZ:List (Nat×Nat)->(List (Nat×Nat)->Prop)->Prop
 |[],K=>K []
 |(i,j)::r,K=>nB i fun i'=>nB j fun j'=>aEZ r fun r'=>K ((i',j')::r')
theorem Wb:∀(ρ:List (Nat×Nat)) (K:List (Nat×Nat)->Prop),aEZ ρ K=K ρ
 |[],K=>rfl
 |(i,j)::r,K=>by simp only[aEZ,mJ,Wb r]
abbrev kY:=List (Nat×Nat)
def S1(ρ:kY)(i j:Nat)(K:kY->Prop):Prop:=
 match get ρ i with
 |some _=>K ρ
 |none=>nB i fun i=>nB j fun j=>K ((i,j)::ρ)
theorem Dk{ρ:kY}{i j:Nat}{K:kY->Prop}(h:S1 ρ i j K):∃ρ,K ρ:=by
 unfold S1 at h;split at h
 ·exact⟨_,h⟩
 ·rw[mJ,mJ]at h;exact⟨_,h⟩
def Oz(ρ:kY)(x y:AV)(K:kY->Prop):Prop:=
 match x,y with
 |.op i _,.op j _=>S1 ρ i j K
 |.ep i _ _ _,.ep j _ _ _=>S1 ρ i j K
 |.os i _ _ _,.os j _ _ _=>S1 ρ i j K
 |.mp i,.mp j=>S1 ρ i j K
 |.dfr i _,.dfr j _=>S1 ρ i j K
 |_,_=>K ρ
theorem L9{ρ:kY}{x y:AV}{K:kY->Prop}(h:Oz ρ x y K):∃ρ,K ρ:=by
 unfold Oz at h;split at h
 ·exact Dk h
 ·exact Dk h
 ·exact Dk h
 ·exact Dk h
 ·exact Dk h
 ·exact⟨_,h⟩
def yG:List AV->List AV->kY->(kY->Prop)->Prop
 |x::xs,y::ys,ρ,K=>Oz ρ x y fun ρ=>yG xs ys ρ K
 |_,_,ρ,K=>K ρ
theorem zZ:∀{xs ys:List AV} {ρ:kY} {K:kY->Prop},yG xs ys ρ K->∃ρ,K ρ
 |x::xs,y::ys,ρ,K,h=>by
  obtain⟨ρ',h'⟩:=L9 h;exact zZ h'
 |[],ys,ρ,K,h=>by simp only[yG]at h;exact⟨_,h⟩
 |x::xs,[],ρ,K,h=>by simp only[yG]at h;exact⟨_,h⟩
def O0(ρ:kY)(x y:AV)(K:kY->Prop):Prop:=
 match x,y with
 |.fn _ a b,.fn _ c d=>yG a c ρ fun ρ=>yG b d ρ K
 |x,y=>Oz ρ x y K
theorem Ma{ρ:kY}{x y:AV}{K:kY->Prop}(h:O0 ρ x y K):∃ρ,K ρ:=by
 unfold O0 at h;split at h
 ·obtain⟨ρ',h'⟩:=zZ h;exact zZ h'
 ·exact L9 h
def xA:List AV->List AV->kY->(kY->Prop)->Prop
 |x::xs,y::ys,ρ,K=>O0 ρ x y fun ρ=>xA xs ys ρ K
 |_,_,ρ,K=>K ρ
theorem uL:∀{xs ys:List AV} {ρ:kY} {K:kY->Prop},xA xs ys ρ K->∃ρ,K ρ
 |x::xs,y::ys,ρ,K,h=>by
  obtain⟨ρ',h'⟩:=Ma h;exact uL h'
 |[],ys,ρ,K,h=>by simp only[xA]at h;exact⟨_,h⟩
 |x::xs,[],ρ,K,h=>by simp only[xA]at h;exact⟨_,h⟩
def Uu(ρ:kY)(x y:AV)(K:kY->Prop):Prop:=
 match x,y with
 |.agg xs,.agg ys=>xA xs ys ρ K
 |.fn _ a b,.fn _ c d=>xA a c ρ fun ρ=>xA b d ρ K
 |x,y=>O0 ρ x y K
theorem Y1{ρ:kY}{x y:AV}{K:kY->Prop}(h:Uu ρ x y K):∃ρ,K ρ:=by
 unfold Uu at h;split at h
 ·exact uL h
 ·obtain⟨ρ',h'⟩:=uL h;exact uL h'
 ·exact Ma h
def Jx(σ:St):List (Nat×AV)->kY->(kY->Prop)->Prop
 |[],ρ,K=>K ρ
 |(t,x)::r,ρ,K=>match get σ.s t with
  |some y=>Uu ρ x y fun ρ=>Jx σ r ρ K
  |none=>Jx σ r ρ K
theorem Fr{σ:St}:∀{l:List (Nat×AV)} {ρ:kY} {K:kY->Prop},Jx σ l ρ K->∃ρ,K ρ
 |[],ρ,K,h=>⟨_,h⟩
 |(t,x)::r,ρ,K,h=>by
  simp only[Jx]at h;split at h
  ·obtain⟨ρ',h'⟩:=Y1 h;exact Fr h'
  ·exact Fr h
def C3(s σ:St):kY->kY->(kY->Prop)->Prop
 |[],ρ,K=>K ρ
 |(i,j)::r,ρ,K=>match get s.h i,get σ.h j with
  |some (.box cs),some (.box ds)=>xA cs ds ρ fun ρ=>C3 s σ r ρ K
  |_,_=>C3 s σ r ρ K
theorem uK{s σ:St}:∀{l ρ:kY} {K:kY->Prop},C3 s σ l ρ K->∃ρ,K ρ
 |[],ρ,K,h=>⟨_,h⟩
 |(i,j)::r,ρ,K,h=>by
  simp only[C3]at h;split at h
  ·obtain⟨ρ',h'⟩:=uL h;exact uK h'
  ·exact uK h
def idP:Nat->kY
 |0=>[]
 |k+1=>(k,k)::idP k
def aJf(p:Nat)(s σ:St)(K:kY->Prop):Prop:=
 aEZ (idP p) fun ρ=>Jx σ s.s ρ fun a=>C3 s σ a a fun b=>C3 s σ b b fun c=>match Nat.beq c.length b.length with
  |true=>K c
  |false=>C3 s σ c c K
theorem Le.auto{p:Nat}{s σ:St}(h:aJf p s σ fun ρ=>(aBP ρ&&(H9 s.n ρ&&(aBk ρ p&&aLk s.s σ.s)))=true/\(LeS ρ s.s σ/\LeH ρ s.h σ)):Le p s σ:=by
 unfold aJf at h;rw[Wb]at h;obtain⟨a,h⟩:=Fr h;obtain⟨b,h⟩:=uK h;obtain⟨c,h⟩:=uK h;split at h
 ·exact⟨c,h⟩
 ·obtain⟨d,h⟩:=uK h;exact⟨d,h⟩
theorem leA{p:Nat}{s σ:St}(h:Le p s σ:=by(refine Le.auto ?_;repeat' ((conv=>whnf);first|with_reducible refine And.intro ?_ ?_|with_reducible exact True.intro|rfl));fail_if_success have:=True.intro):Le p s σ:=h
theorem kP{i:Int}{len:Nat}{K:Nat->Prop}(h:decide (0<=i/\i.toNat<len)=true)(hk:K i.toNat):In i len K:=by
 have h:=of_decide_eq_true h;exact gU i.toNat zo h.2 hk
theorem aBW{xs:List AV}{i:Nat}{x:AV}{K:AV->Prop}(h:i<xs.length)(hk:K x):Ix (xs.set i x) i K:=gV (by rw[gE h]) hk
theorem Weak.agg{xs ys:List AV}(h:WeakL xs ys):Weak (.agg xs) (.agg ys):=fun E w ι v hr=>by
 cases hr with
 |agg _ c hs hc=>
  have:=h.rel (c:=c) ⟨hs,hc⟩;exact .agg _ _ this.1 this.2
abbrev gT:=@Weak.agg
def Mb(P:Program)(t:TypeId)(xs:List Value)(off:Nat):Option Value:=
 match Kv P t with
 |some true=>(match tsz P t with
  |some n=>some (.agg ((xs.drop off).take n).toArray)
  |none=>none)
 |some false=>xs[off]?
 |none=>none
def eqT(P:Program):Nat->TypeId->Value->Value->Option Bool
 |0,_,_,_=>none
 |d+1,t,x,y=>match P.underlying t with
  |some (.int _)=>(match x,y with
   |.int k a,.int k' b=>(match kEq k k' with
    |true=>some (a==b)
    |false=>none)
   |_,_=>none)
  |some .bool=>(match x,y with
   |.bool a,.bool b=>some (a==b)
   |_,_=>none)
  |some .string=>(match x,y with
   |.string a,.string b=>some (a.toList==b.toList)
   |_,_=>none)
  |some (.struct fs)=>(match P.stoodInHeld t,x,y with
   |false,.agg xs,.agg ys=>eqFs (fun t a b=>eqT P d t a b) xs.toList ys.toList fs.toList
   |_,_,_=>none)
  |some (.array n e)=>(match tsz P e,x,y with
   |some m,.agg xs,.agg ys=>eqIs (fun a b=>eqT P d e a b) e m xs.toList ys.toList (List.range n)
   |_,_,_=>none)
  |_=>none
where
 eqIs (e:Value->Value->Option Bool) (el:TypeId) (m:Nat) (xs ys:List Value):List Nat->Option Bool
  |[]=>some true
  |i::r=>(match Mb P el xs (i*m),Mb P el ys (i*m)with
   |some a,some b=>(match e a b,eqIs e el m xs ys r with
    |some p,some q=>some (p&&q)
    |_,_=>none)
   |_,_=>none)
 eqFs (e:TypeId->Value->Value->Option Bool) (xs ys:List Value):List Field->Option Bool
  |[]=>some true
  |f::r=>match f.name== "_" with
   |true=>eqFs e xs ys r
   |false=>(match Mb P f.type xs f.offset,Mb P f.type ys f.offset with
    |some a,some b=>(match e f.type a b,eqFs e xs ys r with
     |some p,some q=>some (p&&q)
     |_,_=>none)
    |_,_=>none)
section
variable {P:Program}
theorem yH{t:TypeId}{xs:Array Value}{off:Nat}{v:Value}(h:Mb P t xs.toList off=some v)(w:World):(part t xs off).run P w=.ok v w:=by
 unfold Mb at h;split at h
 ·rename_i ht;split at h
  ·rename_i n hn;cases h;have e:(xs.extract off (off+n))=((xs.toList.drop off).take n).toArray:=by
    apply Array.ext';rw[Array.toList_extract];simp[List.extract]
   simp[part,rY ht,lO hn,e]
  ·cases h
 ·rename_i ht;have h':xs[off]? =some v:=by simpa using h
  simp[part,rY ht,h']
 ·cases h
theorem N2:∀(d:Nat) {t:TypeId} {x y:Value} {b:Bool},eqT P d t x y=some b->∀(D:Nat) (w:World),d<=D->(Op.equalIn D t x y).run P w=.ok b w
 |0,t,x,y,b,h=>by simp[eqT]at h
 |d+1,t,x,y,b,h=>by
  intro D w hD;obtain⟨D,rfl⟩:∃k,D=k+1:=⟨D-1,by omega⟩
  simp only[eqT]at h;split at h
  ·rename_i q hu;split at h
   ·split at h
    ·rename_i hk;cases T8 hk;cases h;exact run_equalIn_int w D t _ _ _ _ hu
    ·cases h
   ·cases h
  ·rename_i hu;split at h
   ·cases h;exact run_equalIn_bool' w D t _ _ hu
   ·cases h
  ·rename_i hu;split at h
   ·cases h;exact run_equalIn_string w D t _ _ hu
   ·cases h
  ·rename_i fs hu;split at h
   ·rename_i xs ys hs;have hf:P.fieldsOf t=fs:=by simp[Program.fieldsOf,hu]
    rw[run_equalIn_struct w D t xs ys (by rw[hf];exact hu) hs,hf];have go:∀(l:List Field) (b:Bool),eqT.eqFs P (fun t a b=>eqT P d t a b) xs.toList ys.toList l=some b->(Op.eqFields D xs ys l).run P w=.ok b w:=by
     intro l
     induction l with
     |nil=>intro b h;simp only[eqT.eqFs,bQ]at h;subst h;simp[Op.eqFields]
     |cons f r ih=>
      intro b h;simp only[eqT.eqFs]at h;split at h
      ·rename_i hn;have hn:f.name= "_":=by simpa using hn
       simp only[Op.eqFields,hn,ne_eq,not_true_eq_false,if_false];exact ih b h
      ·rename_i hn;have hn:f.name≠ "_":=by simpa using hn
       split at h;case h_2=>cases h
       rename_i a c ha hc;split at h;case h_2=>cases h
       rename_i p q hp hq;cases h;simp only[Op.eqFields,ne_eq,hn,not_false_eq_true,if_true,Sem.run_bind,yH ha w,yH hc w,Result.andThen_ok,N2 d hp D w zo,Sem.run_ite,Sem.run_pure];cases p
       ·simp
       ·simpa using ih q hq
    exact go _ _ h
   ·cases h
  ·rename_i n e hu;split at h
   ·rename_i m xs ys hm;obtain⟨i,hi,him⟩:∃i,P.info? e=some i/\i.size=m:=by
     unfold tsz at hm;rw[bS]at hm;exact hm
    rw[run_equalIn_array w D xs ys hu hi,show P.cellsOf e=m by simp[Program.cellsOf,hi,him]];have go:∀(l:List Nat) (b:Bool),eqT.eqIs P (fun a b=>eqT P d e a b) e m xs.toList ys.toList l=some b->(Op.eqItems D e m xs ys l).run P w=.ok b w:=by
     intro l
     induction l with
     |nil=>intro b h;simp only[eqT.eqIs,bQ]at h;subst h;simp[Op.eqItems]
     |cons j r ih=>
      intro b h;simp only[eqT.eqIs]at h;split at h;case h_2=>cases h
      rename_i a c ha hc;split at h;case h_2=>cases h
      rename_i p q hp hq;cases h;simp only[Op.eqItems,Sem.run_bind,yH ha w,yH hc w,Result.andThen_ok,N2 d hp D w zo,Sem.run_ite,Sem.run_pure];cases p
      ·simp
      ·simpa using ih q hq
    exact go _ _ h
   ·cases h
  ·cases h
end
theorem Ts{P:Program}{t:TypeId}{xs ys:List AV}{K:Bool->Prop}{vs us:List Value}{b:Bool}(h1:Fg xs=some vs)(h2:Fg ys=some us)(hg:P.eqGuardType P.depth t=false)(h:eqT P 10 t (.agg vs.toArray) (.agg us.toArray)=some b)(hk:K b):EqV P t xs ys K:=
 EqV.intro vs us b h1 h2 hg (fun w=>N2 10 h 10000 w zd) hk
end Go.Vm
namespace Go.Proofs.YtnomkooikbhgmaaGreatDoor
open Go Go.Vm
abbrev iY(b:Bx):AV:=.agg [.v (.int .u32 b.r0.lo),.v (.int .u32 b.r0.hi),.v (.int .u32 b.r1.lo),.v (.int .u32 b.r1.hi),.v (.int .u32 b.r2.lo),.v (.int .u32 b.r2.hi),.v (.int .u32 b.r3.lo),.v (.int .u32 b.r3.hi),.v (.int .u32 b.r4.lo),.v (.int .u32 b.r4.hi)]
abbrev iE(l:List Bx):AV:=.lst (l.map iY)
def pT(f:Int):Int:=if f=0\/f=1 then 4294967295 else if f=2 then 255 else if f=3\/f=4 then 65535 else 0
theorem pI(f:Int){K:KT}(hK:K (.v (.int .u32 (pT f))) []):AC 109 [.v (.int .i64 f)] [] K:=by
 refine aHn rfl rfl ?_;(repeat' ((conv=>whnf);first|refine zG ?_|apply zA|intro h|exact zT));all_goals conv=>whnf
 all_goals
  unfold pT at hK;simp_all only[or_self,or_true,true_or,if_true,if_false,Int.reduceEq,or_false,false_or,reduceIte];exact hK
def fullB:Bx:=⟨mkR 0 4294967295,mkR 0 4294967295,mkR 0 255,mkR 0 65535,mkR 0 65535⟩
def Rg.okF(r:Rg)(f:Nat):Prop:=r.lo<=r.hi/\r.hi<=iN f
def Bx.ok(b:Bx):Prop:=b.r0.okF 0/\b.r1.okF 1/\b.r2.okF 2/\b.r3.okF 3/\b.r4.okF 4
instance (b:Bx):Decidable b.ok:=by unfold Bx.ok Rg.okF;infer_instance
theorem Te(b:Bx){K:KT}(hK:K (.sb (decide b.ok)) []):AC 182 [iY b] [] K:=by
 refine gP (aHo rfl rfl ?_);(repeat' ((conv=>whnf);first|(with_reducible refine Lp.times 6 ?_)|(refine kP zd ?_)|(with_reducible refine pI _ ?_)|refine zG ?_|apply zA|intro h|exact zT));all_goals conv=>whnf
 all_goals
  have hb:b.ok↔((b.r0.lo<=b.r0.hi/\b.r0.hi<=4294967295)/\(b.r1.lo<=b.r1.hi/\b.r1.hi<=4294967295)/\(b.r2.lo<=b.r2.hi/\b.r2.hi<=255)/\(b.r3.lo<=b.r3.hi/\b.r3.hi<=65535)/\(b.r4.lo<=b.r4.hi/\b.r4.hi<=65535)):=Iff.rfl;have t0:pT 0=4294967295:=rfl;have t1:pT (0+1)=4294967295:=rfl;have t2:pT (0+1+1)=255:=rfl;have t3:pT (0+1+1+1)=65535:=rfl;have t4:pT (0+1+1+1+1)=65535:=rfl;first
   |exact iL hK (decide_eq_false (by rw[hb];omega))
   |exact jU hK (decide_eq_true (by rw[hb];omega))
theorem Nn{K:KT}(hK:K (iY fullB) []):AC 181 [] [] K:=by
 refine aCD rfl rfl ?_;(repeat' ((conv=>whnf);first|(with_reducible refine Lp.times 6 ?_)|(refine kP zd ?_)|(with_reducible refine pI _ ?_)|refine zG ?_|apply zA|intro h|exact zT));all_goals conv=>whnf
 exact hK
theorem aTO{r s:Rg}:r=s↔r.lo=s.lo/\r.hi=s.hi:=by
 constructor
 ·rintro rfl;exact⟨rfl,rfl⟩
 ·rintro⟨h1,h2⟩
  cases r;cases s;simp only at h1 h2;subst h1;subst h2;rfl
theorem aJG{p q:Bx}{K:Bool->Prop}(hk:K (decide (p=q))):EqV Tryz.prog 159 [.v (.int .u32 p.r0.lo),.v (.int .u32 p.r0.hi),.v (.int .u32 p.r1.lo),.v (.int .u32 p.r1.hi),.v (.int .u32 p.r2.lo),.v (.int .u32 p.r2.hi),.v (.int .u32 p.r3.lo),.v (.int .u32 p.r3.hi),.v (.int .u32 p.r4.lo),.v (.int .u32 p.r4.hi)]
  [.v (.int .u32 q.r0.lo),.v (.int .u32 q.r0.hi),.v (.int .u32 q.r1.lo),.v (.int .u32 q.r1.hi),.v (.int .u32 q.r2.lo),.v (.int .u32 q.r2.hi),.v (.int .u32 q.r3.lo),.v (.int .u32 q.r3.hi),.v (.int .u32 q.r4.lo),.v (.int .u32 q.r4.hi)] K:=by
 refine Ts (b:=((p.r0.lo==q.r0.lo&&(p.r0.hi==q.r0.hi&&true))&&((p.r1.lo==q.r1.lo&&(p.r1.hi==q.r1.hi&&true))&&((p.r2.lo==q.r2.lo&&(p.r2.hi==q.r2.hi&&true))&&((p.r3.lo==q.r3.lo&&(p.r3.hi==q.r3.hi&&true))&&((p.r4.lo==q.r4.lo&&(p.r4.hi==q.r4.hi&&true))&&true)))))) rfl rfl zk zk ?_;have e:((p.r0.lo==q.r0.lo&&(p.r0.hi==q.r0.hi&&true))&&((p.r1.lo==q.r1.lo&&(p.r1.hi==q.r1.hi&&true))&&((p.r2.lo==q.r2.lo&&(p.r2.hi==q.r2.hi&&true))&&((p.r3.lo==q.r3.lo&&(p.r3.hi==q.r3.hi&&true))&&((p.r4.lo==q.r4.lo&&(p.r4.hi==q.r4.hi&&true))&&true)))))=decide (p=q):=by
  rw[bK];cases p;cases q;simp[aTO]
 rw[e];exact hk
theorem aEu(a b:List Bx)(ha:a.length<1000000000000)(hb:b.length<1000000000000){K:KT}(hK:K (.sb (decide (a=b))) []):AC 102 [iE a,iE b] [] K:=by
 refine gP (aCE rfl rfl ?_);(repeat' ((conv=>whnf);first|refine zG ?_|apply zA|intro h|exact zT));all_goals conv=>whnf
 ·have hl:a.length=b.length:=by
   rw[aA,aA]at h;omega
  refine gM Nat (fun k=>⟨0,[],[(0,iE a),(1,iE b),(5,.v (.int .i64 k))]⟩) (fun k=>k<=a.length/\∀i,i<k->a[i]? =b[i]?) (fun k=>a.length-k) 0 ?_ ?_ ?_
  ·exact⟨aO _,fun i h=>absurd h (bC _)⟩
  ·exact leA
  intro k ⟨hk,hinv⟩;rcases aC k a.length with hkl|hkl
  ·have hkb:k<b.length:=by omega
   obtain⟨p,hp⟩:=gex hkl;obtain⟨q,hq⟩:=gex hkb;(repeat' ((conv=>whnf);first|(with_reducible first|refine hZ hkl ?_|refine hZ hkb ?_|refine hU hp ?_|refine hU hq ?_|refine aJG ?_)|refine zG ?_|apply zA|intro h|exact zT));all_goals conv=>whnf
   ·refine⟨k+1,⟨by omega,fun i hi=>?_⟩,by omega,?_⟩
    ·rcases aC i k with h1|h1
     ·exact hinv i h1
     ·rw[show i=k by omega,hp,hq,h]
    ·exact leA
   ·refine iL hK (decide_eq_false fun e=>?_);subst e;rw[hp]at hq;cases hq;exact h rfl
  ·have hab:a=b:=by
    apply List.ext_getElem?;intro i;rcases aC i k with h1|h1
    ·exact hinv i h1
    ·rw[bN zo,bN zo]
   (repeat' ((conv=>whnf);first|refine zG ?_|apply zA|intro h|exact zT));all_goals conv=>whnf
   exact jU hK (decide_eq_true hab)
 ·exact iL hK (decide_eq_false fun e=>h (by rw[e]))
theorem P1{f:Nat}{v:Int}{l:List Bx}{k:Nat}{x:Bx}(h:l[k]? =some x):atF f v (l.take (k+1))=atF f v (l.take k)++(if(x.get f).lo<=v/\v<=(x.get f).hi then [x]else []):=by
 rw[bF,h,atF,cZ]
 congr 1
 by_cases hc:(x.get f).lo<=v/\v<=(x.get f).hi
 ·simp[hc]
 ·have:(decide ((x.get f).lo<=v)&&decide (v<=(x.get f).hi))=false:=by
   rw[cB,ne_eq,aJ,aM,aM];exact hc
  simp[this,hc]
theorem sY(f:Nat)(v:Int)(l:List Bx):(atF f v l).length<=l.length:=dK ..
theorem Vp(l:List Bx)(f:Nat)(hf:f<=4)(v:Int)(hl:l.length<1000000000000){K:KT}(hK:K (iE (atF f v l)) []):AC 250 [iE l,.v (.int .i64 f),.v (.int .u64 v)] [] K:=by
 refine aOC rfl rfl ?_;(repeat' ((conv=>whnf);first|refine zG ?_|apply zA|intro h|exact zT));all_goals conv=>whnf
 refine gM Nat (fun k=>⟨1,[(0,.arr 10 ((atF f v (l.take k)).map iY))],[(0,iE l),(1,.v (.int .i64 f)),(2,.v (.int .u64 v)),(7,.os 0 10 0 (atF f v (l.take k)).length),(8,.v (.int .i64 k))]⟩) (fun k=>k<=l.length) (fun k=>l.length-k) 0 (aO _) ?_ ?_
 ·exact leA
 intro k hk;have hlen:=sY f v (l.take k);rw[aZ]at hlen;rcases aC k l.length with hkl|hkl
 ·obtain⟨x,hx⟩:=gex hkl;have hs:=P1 (f:=f) (v:=v) hx;have b0:=x.r0.l0;have b1:=x.r0.l1;have b2:=x.r0.h0;have b3:=x.r0.h1;have c0:=x.r1.l0;have c1:=x.r1.l1;have c2:=x.r1.h0;have c3:=x.r1.h1;have d0:=x.r2.l0;have d1:=x.r2.l1;have d2:=x.r2.h0;have d3:=x.r2.h1;have e0:=x.r3.l0;have e1:=x.r3.l1;have e2:=x.r3.h0;have e3:=x.r3.h1;have f0:=x.r4.l0;have f1:=x.r4.l1;have f2:=x.r4.h0;have f3:=x.r4.h1;rcases f with _|_|_|_|_|f
  case succ.succ.succ.succ.succ=>omega
  all_goals
   simp only[Bx.get]at hs;(repeat' ((conv=>whnf);first|(with_reducible first|refine hZ hkl ?_|refine hU hx ?_)|(refine kP zd ?_)|refine zG ?_|apply zA|intro h|exact zT));all_goals conv=>whnf
   all_goals
    refine⟨k+1,by omega,by omega,?_⟩;first
     |(rw[aH zo]at hs
       rw[hs,aQ,aD];exact leA)
     |(rw[aF zo,bI]at hs
       rw[hs];exact leA)
 ·(repeat' ((conv=>whnf);first|refine zG ?_|apply zA|intro h|exact zT));all_goals conv=>whnf
  rw[aU hkl]at*;(repeat' ((conv=>whnf);first|refine zG ?_|apply zA|intro h|exact zT));all_goals conv=>whnf
  exact hK
theorem aKE(a b:List Bx)(f:Nat)(hf:f<=4)(ha:a.length<1000000000)(hb:b.length<1000000000){K:KT}(hK:K (iH (lH f a b)) []):AC 249 [iE a,iE b,.v (.int .i64 f)] [] K:=by
 refine aHt rfl rfl ?_;(repeat' ((conv=>whnf);first|refine zG ?_|apply zA|intro h|exact zT));all_goals conv=>whnf
 refine gM Nat (fun k=>⟨1,[(0,.arr 2 ((a.take k).map fun x=>jR (x.get f)))],[(0,iE a),(1,iE b),(2,.v (.int .i64 f)),(7,.os 0 2 0 k),(8,.v (.int .i64 k))]⟩) (fun k=>k<=a.length) (fun k=>a.length-k) 0 (aO _) ?_ ?_
 ·exact leA
 intro k hk;have hlen:((a.take k).map fun x=>jR (x.get f)).length=k:=by rw[aA,aZ];omega
 rcases aC k a.length with hkl|hkl
 ·obtain⟨x,hx⟩:=gex hkl;have hs:(a.take (k+1)).map (fun x=>jR (x.get f))=(a.take k).map (fun x=>jR (x.get f))++[.agg [.v (.int .u32 (x.get f).lo),.v (.int .u32 (x.get f).hi)]]:=by
   rw[bF,hx,aQ];rfl
  rcases f with _|_|_|_|_|f
  case succ.succ.succ.succ.succ=>omega
  all_goals
   (repeat' ((conv=>whnf);first|(with_reducible first|refine hZ hkl ?_|refine hU hx ?_)|(refine kP zd ?_)|refine zG ?_|apply zA|intro h|exact zT));all_goals conv=>whnf
   refine⟨k+1,by omega,by omega,?_⟩;rw[hs];exact leA
 ·rw[aU hkl]at hlen⊢;(repeat' ((conv=>whnf);first|refine zG ?_|apply zA|intro h|exact zT));all_goals conv=>whnf
  have hkk:k=a.length:=by omega
  subst hkk;refine gM Nat (fun k=>⟨1,[(0,.arr 2 (a.map (fun x=>jR (x.get f))++(b.take k).map fun x=>jR (x.get f)))],[(1,iE b),(2,.v (.int .i64 f)),(7,.os 0 2 0 (a.length+k)),(9,.v (.int .i64 k))]⟩) (fun k=>k<=b.length) (fun k=>b.length-k) 0 (aO _) ?_ ?_
  ·rw[cP,bL,bI];exact leA
  intro k hk2;have hlen:(a.map (fun x=>jR (x.get f))++(b.take k).map fun x=>jR (x.get f)).length=a.length+k:=by rw[aD,aA,aA,aZ];omega
  rcases aC k b.length with hkl|hkl
  ·obtain⟨x,hx⟩:=gex hkl;have hs:a.map (fun x=>jR (x.get f))++(b.take (k+1)).map (fun x=>jR (x.get f))=(a.map (fun x=>jR (x.get f))++(b.take k).map (fun x=>jR (x.get f)))++[.agg [.v (.int .u32 (x.get f).lo),.v (.int .u32 (x.get f).hi)]]:=by
    rw[bF,hx,aQ,cV];rfl
   rcases f with _|_|_|_|_|f
   case succ.succ.succ.succ.succ=>omega
   all_goals
    (repeat' ((conv=>whnf);first|(with_reducible first|refine hZ hkl ?_|refine hU hx ?_)|(refine kP zd ?_)|refine zG ?_|apply zA|intro h|exact zT));all_goals conv=>whnf
    refine⟨k+1,by omega,by omega,?_⟩;rw[hs];exact leA
  ·rw[aU hkl]at hlen⊢;(repeat' ((conv=>whnf);first|refine zG ?_|apply zA|intro h|exact zT));all_goals conv=>whnf
   have e:a.map (fun x=>jR (x.get f))++b.map (fun x=>jR (x.get f))=(lH f a b).map jR:=by
    rw[lH,aQ,fM,fM];rfl
   rw[e];exact hK
def opI(c:Int)(x y:Bool):Bool:=if c=0 then x||y else if c=1 then x&&y else if c=2 then x&& !y else !(x==y)
def Wq(c:Int)(x y:Bool):Bool:=if c=1 then !x|| !y else if c=2 then !x else !x&& !y
theorem aEv(c:Int)(x y:Bool){K:KT}(hK:K (.sb (opI c x y)) []):AC 246 [.v (.int .i64 c),.sb x,.sb y] [] K:=by
 refine gP (aCG rfl rfl ?_);(repeat' ((conv=>whnf);first|refine zG ?_|apply zA|intro h|exact zT));all_goals conv=>whnf
 all_goals
  unfold opI at hK;first
   |exact jP hK (by cases x<;>cases y<;>simp_all)
   |exact jU hK (by cases x<;>cases y<;>simp_all)
   |exact iL hK (by cases x<;>cases y<;>simp_all)
theorem aEw(c:Int)(x y:Bool){K:KT}(hK:K (.sb (Wq c x y)) []):AC 247 [.v (.int .i64 c),.sb x,.sb y] [] K:=by
 refine gP (aCJ rfl rfl ?_);(repeat' ((conv=>whnf);first|refine zG ?_|apply zA|intro h|exact zT));all_goals conv=>whnf
 all_goals
  unfold Wq at hK;first
   |exact jP hK (by cases x<;>cases y<;>simp_all)
   |exact jU hK (by cases x<;>cases y<;>simp_all)
   |exact iL hK (by cases x<;>cases y<;>simp_all)
theorem Yl{c:Int}{x y:Bool}(h:Wq c x y=true):aPS (opI c) x y:=by
 unfold Wq at h;intro p q hp hq;unfold opI;by_cases h0:c=0
 ·subst h0;cases x<;>cases y<;>cases p<;>cases q<;>simp_all
 ·by_cases h1:c=1
  ·subst h1;cases x<;>cases y<;>cases p<;>cases q<;>simp_all
  ·by_cases h2:c=2
   ·subst h2;cases x<;>cases y<;>cases p<;>cases q<;>simp_all
   ·rw[aF h1,aF h2]at h;rw[aF h0,aF h1,aF h2];cases x<;>cases y<;>cases p<;>cases q<;>simp_all
theorem Kd{f:Nat}(h:f<=4):pT (f:Int)=iN f:=by
 rcases f with _|_|_|_|_|f
 all_goals first|rfl|omega
theorem GInv.last_some{R:Int->List Bx}{gs:List (Grp (List Bx))}{s:Int}(h:GInv R gs s)(hs:1<=s)(hne:R (s-1)≠[]):∃ini g,gs=ini++[g]/\g.val=R (s-1)/\g.hi+1=s:=by
 have hat:=h.at_ (s-1);rw[aH zo,lab,aF (fun e=>hne (fB.1 e))]at hat;obtain⟨g,hg,g1,g2,g3⟩:=Je hat;have hlow:=h.low g hg;rcases cT gs with hn|⟨ini,g',hc⟩
 ·subst hn;simp at hg
 ·rw[cU]at hc;subst hc;refine⟨ini,g',rfl,?_⟩;rcases aY.1 hg with hm|hm
  ·have h1:=Wf.under h.wf g hm;have h2:=h.low g' zx;have h3:=h.wf.le g' zx;omega
  ·simp only[aW]at hm;subst hm;exact⟨g3,by omega⟩
theorem D1{gs:List (Grp (List Bx))}{s:Int×Int}:nH eqB gs s []=gs:=rfl
theorem X5{ini:List (Grp (List Bx))}{g:Grp (List Bx)}{s to:Int}{rest:List Bx}(hne:rest≠[])(hv:g.val=rest)(hh:g.hi+1=s):nH eqB (ini++[g]) (s,to) rest=ini++[⟨g.lo,to,rest⟩]:=by
 unfold nH;rw[aF (fun e=>hne (fB.1 e))];simp only[cS,cH,dN,dI];rw[aH ⟨hh,(uY _ _).2 hv⟩,hv]
theorem X6{R:Int->List Bx}{gs:List (Grp (List Bx))}{s to:Int}{rest:List Bx}(h:GInv R gs s)(hne:rest≠[])(hd:s=0\/R (s-1)≠rest):nH eqB gs (s,to) rest=gs++[⟨s,to,rest⟩]:=by
 unfold nH;rw[aF (fun e=>hne (fB.1 e))];rcases cT gs with hn|⟨ini,g,hc⟩
 ·subst hn;rfl
 ·rw[cU]at hc;subst hc;simp only[cS,cH,dN,dI];rw[aF]
  rintro⟨h1,h2⟩
  have h2:=(uY _ _).1 h2;have hl:=h.low g zx;have hle:=h.wf.le g zx;rcases hd with hd|hd
  ·omega
  ·have hat:=h.wf.at_mem (g:=g) zx (v:=s-1) zo zo;rw[h.at_,aH zo,lab]at hat;split at hat
   ·cases hat
   ·exact hd ((bG hat).trans h2)
theorem vA{f:Nat}{ini:List (Grp (List Bx))}{g:Grp (List Bx)}:iR f (ini++[g])=iR f ini++g.val.map fun b=>b.put f (mkR g.lo g.hi):=by
 rw[iR,eD];simp[iR]
def oM(R:Int->List Bx)(top:Int)(st:List Int)(i:Nat):List (Grp (List Bx)):=((lQ top st).take i).foldl (fun out s=>nH eqB out s (R s.1)) []
def pO(top:Int)(st:List Int)(i:Nat):Int:=match st[i+1]? with
 |some y=>y-1
 |none=>top
theorem Pc{top:Int}{st:List Int}{i:Nat}{x:Int}(h:st[i]? =some x):(lQ top st)[i]? =some (x,pO top st i):=J6 top st i x h
theorem rW{R:Int->List Bx}{top:Int}{st:List Int}{i:Nat}{x:Int}(h:st[i]? =some x):oM R top st (i+1)=nH eqB (oM R top st i) (x,pO top st i) (R x):=by
 rw[oM,vB (Pc h)];rfl
theorem wS{R:Int->List Bx}{top:Int}{st:List Int}{i:Nat}(h:st.length<=i):oM R top st i=kD R top st:=by
 rw[oM,aU (by rw[tH];exact h)];rfl
theorem Fm{R:Int->List Bx}{top:Int}{l:List Rg}{st:List Int}(hc:Cuts top l st)(hR:∀u v,(∀r,r∈l->((r.lo<=u/\u<=r.hi)↔(r.lo<=v/\v<=r.hi)))->R u=R v):∀(i:Nat) (x:Int),st[i]? =some x->GInv R (oM R top st i) x
 |0,x,h=>by
  obtain⟨r,hr⟩:=hc.zero;rw[hr]at h;simp at h;subst h;exact GInv.start R
 |i+1,x,h=>by
  have hi:=(aP.1 h).1;obtain⟨y,hy⟩:∃y,st[i]? =some y:=⟨_,aE zo⟩
  have ih:=Fm hc hR i y hy;have hseg:=aI (Pc (top:=top) hy);have hto:pO top st i=x-1:=by rw[pO,h]
  have hyx:y<x:=by
   have:=cJ.1 hc.sorted i (i+1) zo hi zo;rw[aE zo]at hy h;have e1:=bG hy;have e2:=bG h;omega
  have hy0:=(hc.range y (aI hy)).1;rw[hto]at hseg;have hst:=ih.step uY (hi:=x-1) hy0 zo (fun v v1 v2=>hR v y fun r hr=>hc.const hseg v1 v2 hr);rw[show x-1+1=x by omega]at hst;rw[rW hy,hto];exact hst
theorem Fv{R:Int->List Bx}{top:Int}{l:List Rg}{st:List Int}(hc:Cuts top l st)(hR:∀u v,(∀r,r∈l->((r.lo<=u/\u<=r.hi)↔(r.lo<=v/\v<=r.hi)))->R u=R v){i:Nat}{x y:Int}(hx:st[i]? =some x)(hy:st[i+1]? =some y):R (y-1)=R x/\x<=y-1:=by
 have hi:=(aP.1 hy).1;have hseg:=aI (Pc (top:=top) hx);have hto:pO top st i=y-1:=by rw[pO,hy]
 have hxy:x<y:=by
  have:=cJ.1 hc.sorted i (i+1) zo hi zo;rw[aE zo]at hx hy;have e1:=bG hx;have e2:=bG hy;omega
 rw[hto]at hseg;exact⟨hR _ _ fun r hr=>hc.const hseg zs (cC _) hr,by omega⟩
theorem xY{R:Int->List Bx}{top:Int}{st:List Int}(i:Nat):jV (oM R top st i)<=jV (kD R top st):=by
 have e:kD R top st=((lQ top st).drop i).foldl (fun out s=>nH eqB out s (R s.1)) (oM R top st i):=by
  rw[kD,oM,<-List.foldl_append,cN]
 rw[e];exact Ln R _ _
theorem Mh{R:Int->List Bx}{top:Int}{st:List Int}{i:Nat}{x:Int}(h:st[i]? =some x):(R x).length<=jV (kD R top st):=by
 have h1:=(Fl (oM R top st i) (x,pO top st i) (R x)).2;rw[<-rW h]at h1;exact bA h1 (xY _)
theorem G0{top:Int}{l:List Rg}{st:List Int}(hc:Cuts top l st){i:Nat}{x:Int}(hx:st[i]? =some x):x<=pO top st i/\pO top st i<=top/\0<=x:=by
 have hr:=hc.range x (aI hx);unfold pO;cases hy:st[i+1]? with
 |none=>simp only;omega
 |some y=>
  have hi:=(aP.1 hy).1;have:=cJ.1 hc.sorted i (i+1) zo hi zo;have hry:=hc.range y (aI hy);rw[aE zo]at hx hy;have e1:=bG hx;have e2:=bG hy;simp only;omega
end Go.Proofs.YtnomkooikbhgmaaGreatDoor
