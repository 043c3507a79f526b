/- Lemmas. -/
import Derived.ChangeKeysEq
import Derived.Test.YtnomkooikbhgmaaGreatDoorM11
set_option linter.unusedVariables false
set_option linter.unusedSimpArgs false
set_option maxRecDepth 100000
set_option maxHeartbeats 4000000
noncomputable section
namespace Go.Proofs.YtnomkooikbhgmaaGreatDoor
open Go Go.Vm
theorem mkR_self(r:Rg):mkR r.lo r.hi=r:=by
 unfold mkR;rw[dif_pos ⟨r.l0,r.l1,r.h0,r.h1⟩]
def zeroTo(k:Nat)(b:Bx):Bx:=⟨if 5<=k then b.r0 else zR,if 4<=k then b.r1 else zR,if 3<=k then b.r2 else zR,if 2<=k then b.r3 else zR,if 1<=k then b.r4 else zR⟩
theorem zeroTo_get{k:Nat}{b:Bx}{f:Nat}(hf:f<=4):(zeroTo k b).get f=if 5<=f+k then b.get f else zR:=by
 rcases f with _|_|_|_|_|f
 ·simp only[Bx.get,zeroTo,bK]
 ·simp only[Bx.get,zeroTo];congr 1;apply propext;omega
 ·simp only[Bx.get,zeroTo];congr 1;apply propext;omega
 ·simp only[Bx.get,zeroTo];congr 1;apply propext;omega
 ·simp only[Bx.get,zeroTo];congr 1;apply propext;omega
 ·omega
theorem zeroTo_put{k:Nat}{b:Bx}(hk:k<=4):(zeroTo k b).put (4-k) (b.get (4-k))=zeroTo (k+1) b:=by
 refine bx_ext fun f hf=>?_;by_cases e:f=4-k
 ·subst e;rw[get_put zo,zeroTo_get zo,aG zo]
 ·rw[get_put_ne zo hf e,zeroTo_get hf,zeroTo_get hf];by_cases h5:5<=f+k
  ·rw[aG h5,aG zo]
  ·rw[aD h5,aD zo]
theorem put_zeroTo{k:Nat}{b:Bx}(hk:k<=4):(zeroTo (k+1) b).put (4-k) zR=zeroTo k b:=by
 refine bx_ext fun f hf=>?_;by_cases e:f=4-k
 ·subst e;rw[get_put zo,zeroTo_get zo,aD zo]
 ·rw[get_put_ne zo hf e,zeroTo_get hf,zeroTo_get hf];by_cases h5:5<=f+k
  ·rw[aG h5,aG zo]
  ·rw[aD h5,aD zo]
theorem zeroTo_five(b:Bx):zeroTo 5 b=b:=rfl
theorem okK_zero{k:Nat}{b:Bx}(hk:k<=4)(h:okK k b):b.put (4-k) zR=b:=by
 have:=okK_get zo h (4-k) zo;rw[aD zo]at this;rw[<-this,put_get]
def runsF(f:Nat):List Bx->List (List Bx)
 |[]=>[]
 |x::l=>match runsF f l with
  |[]=>[[x]]
  |[]::rs=>[x]::rs
  |(y::r)::rs=>if y.get f=x.get f then(x::y::r)::rs else [x]::(y::r)::rs
def rgOf(f:Nat)(p:List Bx):Rg:=match p with
 |x::_=>x.get f
 |[]=>zR
inductive Parts (f:Nat):List (List Bx)->Prop
 |nil:Parts f []
 |one (p:List Bx) (h1:p≠[]) (h2:∀x,x∈p->x.get f=rgOf f p):Parts f [p]
 |cons (p q:List Bx) (ps:List (List Bx)) (h1:p≠[]) (h2:∀x,x∈p->x.get f=rgOf f p) (h3:rgOf f p≠rgOf f q) (hw:Parts f (q::ps)):Parts f (p::q::ps)
theorem Parts.tail{f:Nat}{p:List Bx}{ps:List (List Bx)}(h:Parts f (p::ps)):Parts f ps:=by
 cases h with
 |one=>exact .nil
 |cons _ _ _ _ _ _ hw=>exact hw
theorem Parts.head{f:Nat}{p:List Bx}{ps:List (List Bx)}(h:Parts f (p::ps)):p≠[]/\∀x,x∈p->x.get f=rgOf f p:=by
 cases h with
 |one _ h1 h2=>exact⟨h1,h2⟩
 |cons _ _ _ h1 h2 _ _=>exact⟨h1,h2⟩
theorem Parts.mem{f:Nat}:∀{ps:List (List Bx)},Parts f ps->∀p,p∈ps->p≠[]/\∀x,x∈p->x.get f=rgOf f p
 |[],_,p,hp=>by simp at hp
 |q::ps,h,p,hp=>by
  rcases aU.1 hp with rfl|hp
  ·exact h.head
  ·exact Parts.mem h.tail p hp
theorem runs_flat(f:Nat):∀l:List Bx,(runsF f l).flatten=l
 |[]=>rfl
 |x::l=>by
  have ih:=runs_flat f l;rw[runsF];split
  ·rename_i h;rw[h]at ih;rw[<-ih];rfl
  ·rename_i rs h;rw[h]at ih;rw[<-ih];rfl
  ·rename_i y r rs h;rw[h]at ih;split
   ·rw[<-ih];rfl
   ·rw[<-ih];rfl
theorem runs_parts(f:Nat):∀l:List Bx,Parts f (runsF f l)
 |[]=>.nil
 |x::l=>by
  have ih:=runs_parts f l;rw[runsF];split
  ·exact .one _ zx (fun y hy=>by simp only[aV]at hy;subst hy;rfl)
  ·rename_i rs h;rw[h]at ih;exact absurd rfl ih.head.1
  ·rename_i y r rs h;rw[h]at ih;have hh:=ih.head.2;split
   ·rename_i e;have hx:∀z,z∈x::y::r->z.get f=rgOf f (x::y::r):=fun z hz=>by
     rcases aU.1 hz with rfl|hz
     ·rfl
     ·rw[hh z hz];exact e
    cases rs with
    |nil=>exact .one _ zx hx
    |cons q ps=>
     cases ih with
     |cons _ _ _ h1 h2 h3 hw=>exact .cons _ _ _ zx hx (by rw[show rgOf f (x::y::r)=rgOf f (y::r)from e.symm];exact h3) hw
   ·rename_i e;exact .cons _ _ _ zx (fun z hz=>by simp only[aV]at hz;subst hz;rfl) (fun e2=>e e2.symm) ih
theorem runs_of{f:Nat}:∀{ps:List (List Bx)},Parts f ps->runsF f ps.flatten=ps
 |[],_=>rfl
 |p::ps,h=>by
  have ih:=runs_of h.tail;obtain⟨h1,h2⟩:=h.head;have hd:∀q qs,ps=q::qs->rgOf f p≠rgOf f q:=fun q qs e=>by
   subst e;cases h with
   |cons _ _ _ _ _ h3 _=>exact h3
  have hq:∀q qs,ps=q::qs->q≠[]:=fun q qs e=>by subst e;exact h.tail.head.1
  have go:∀(p:List Bx),p≠[]->(∀x,x∈p->x.get f=rgOf f p)->(∀q qs,ps=q::qs->rgOf f p≠rgOf f q)->runsF f (p++ps.flatten)=p::ps:=by
   intro p
   induction p with
   |nil=>intro h;exact absurd rfl h
   |cons x p ih2=>
    intro _ hc hn;rw[fU,runsF];cases p with
    |nil=>
     rw[cZ,ih];cases ps with
     |nil=>rfl
     |cons q qs=>
      cases q with
      |nil=>exact absurd rfl (hq _ _ rfl)
      |cons y r=>
       have:=hn _ _ rfl;simp only;rw[aD (fun e=>this (by simp only[rgOf];exact e.symm))]
    |cons y p=>
     have e:y.get f=x.get f:=hc y zx;rw[ih2 zx (fun z hz=>by rw[hc z (aS _ hz)];exact e.symm) (fun q qs e2=>by
      have:=hn q qs e2;intro e3;exact this (by rw[<-e3];exact e.symm))]
     simp only;rw[aG e]
  rw[eI];exact go p h1 h2 hd
def alikeB(f:Nat)(x y:Bx):Bool:=(List.range 5).all fun i=>decide (i<f)||decide (x.get i=y.get i)
def alike(f:Nat)(a b:List Bx):Bool:=a.length==b.length&&(a.zip b).all fun q=>alikeB f q.1 q.2
theorem alikeB_iff{k:Nat}{x y:Bx}:alikeB (5-k) x y=true↔zeroTo k x=zeroTo k y:=by
 unfold alikeB;rw[bR];constructor
 ·intro h;refine bx_ext fun f hf=>?_;rw[zeroTo_get hf,zeroTo_get hf];by_cases h5:5<=f+k
  ·rw[aG h5,aG h5];have:=h f (dN.2 zo);rw[bS,aL,aL]at this;rcases this with h1|h1
   ·omega
   ·exact h1
  ·rw[aD h5,aD h5]
 ·intro h i hi;have hi:=dN.1 hi;rw[bS,aL,aL];by_cases h5:5<=i+k
  ·right;have:(zeroTo k x).get i=(zeroTo k y).get i:=by rw[h]
   rw[zeroTo_get zo,zeroTo_get zo,aG h5,aG h5]at this;exact this
  ·left;omega
theorem alike_iff{k:Nat}:∀{a b:List Bx},alike (5-k) a b=true↔a.map (zeroTo k)=b.map (zeroTo k)
 |[],[]=>by simp[alike]
 |[],y::b=>by simp[alike]
 |x::a,[]=>by simp[alike]
 |x::a,y::b=>by
  have ih:=alike_iff (k:=k) (a:=a) (b:=b);rw[alike,aJ]at ih⊢;rw[List.zip_cons_cons,eV,aJ,aR,aR,List.cons.injEq,<-ih,alikeB_iff];simp only[aB,beq_iff_eq,Nat.add_right_cancel_iff];constructor
  ·rintro⟨h1,h2,h3⟩;exact⟨h2,h1,h3⟩
  ·rintro⟨h2,h1,h3⟩;exact⟨h1,h2,h3⟩
def joinB(f:Nat)(p q:List Bx):Bool:= !p.isEmpty&&(decide ((rgOf f q).lo<=(rgOf f p).hi)||(decide ((rgOf f q).lo=(rgOf f p).hi+1)&&alike (f+1) p q))
def chkR(can:List Bx->Bool)(f:Nat):List Bx->List (List Bx)->Bool
 |_,[]=>true
 |last,p::ps=> !joinB f last p&&can p&&chkR can f p ps
def canB:Nat->List Bx->Bool
 |0,l=>l.length==1
 |k+1,l=>chkR (canB k) (4-k) [] (runsF (4-k) l)
def grpOf(k:Nat)(p:List Bx):Grp (List Bx):=⟨(rgOf (4-k) p).lo,(rgOf (4-k) p).hi,p.map (zeroTo k)⟩
theorem joinB_iff{k:Nat}(hk:k<=4){p q:List Bx}(hp:p≠[]):joinB (4-k) p q=false↔(grpOf k p).hi<(grpOf k q).lo/\((grpOf k p).hi+1=(grpOf k q).lo->(grpOf k p).val≠(grpOf k q).val):=by
 have he:p.isEmpty=false:=by cases p with
  |nil=>exact absurd rfl hp
  |cons=>rfl
 have e5:4-k+1=5-k:=by omega
 rw[bV,ne_eq,joinB,he,e5];simp only[fB,eG,bS,aJ,aL,alike_iff,grpOf];constructor
 ·intro h;exact⟨by omega,fun e1 e2=>h (.inr ⟨e1.symm,e2⟩)⟩
 ·rintro⟨h1,h2⟩ (h|⟨h3,h4⟩)
  ·omega
  ·exact h2 h3.symm h4
theorem chk_iff{can:List Bx->Bool}{k:Nat}(hk:k<=4):∀{ps:List (List Bx)} {last:List Bx},last≠[]->(rgOf (4-k) last).lo<=(rgOf (4-k) last).hi->(∀p,p∈ps->p≠[]/\(rgOf (4-k) p).lo<=(rgOf (4-k) p).hi)->
  (chkR can (4-k) last ps=true↔Wf ((last::ps).map (grpOf k))/\∀p,p∈ps->can p=true)
 |[],last,hl,hle,_=>by
  simp only[chkR,aR,bL,dM,false_implies,implies_true,and_true,true_iff];exact .one _ hle
 |p::ps,last,hl,hle,h=>by
  obtain⟨hp,hple⟩:=h p zx;have ih:=chk_iff (can:=can) hk (ps:=ps) hp hple fun q hq=>h q (aS _ hq);rw[chkR,aJ,aJ,ih,dT,joinB_iff hk hl];constructor
  ·rintro⟨⟨h1,h2⟩,h3,h4⟩
   refine⟨.cons _ _ _ hle h1.1 h1.2 h3,fun q hq=>?_⟩;rcases aU.1 hq with rfl|hq
   ·exact h2
   ·exact h4 q hq
  ·rintro⟨h1,h2⟩
   cases h1 with
   |cons _ _ _ g1 g2 g3 hw=>exact⟨⟨⟨g2,g3⟩,h2 p zx⟩,hw,fun q hq=>h2 q (aS _ hq)⟩
theorem chk_start{can:List Bx->Bool}{k:Nat}(hk:k<=4){ps:List (List Bx)}(h:∀p,p∈ps->p≠[]/\(rgOf (4-k) p).lo<=(rgOf (4-k) p).hi):
  chkR can (4-k) [] ps=true↔Wf (ps.map (grpOf k))/\∀p,p∈ps->can p=true:=by
 cases ps with
 |nil=>simp only[chkR,bL,dM,false_implies,implies_true,and_true,true_iff];exact .nil
 |cons p ps=>
  obtain⟨hp,hple⟩:=h p zx;rw[chkR,aJ,aJ,chk_iff hk hp hple fun q hq=>h q (aS _ hq)];constructor
  ·rintro⟨⟨_,h2⟩,h3,h4⟩
   refine⟨h3,fun q hq=>?_⟩;rcases aU.1 hq with rfl|hq
   ·exact h2
   ·exact h4 q hq
  ·rintro⟨h1,h2⟩
   exact⟨⟨rfl,h2 p zx⟩,h1,fun q hq=>h2 q (aS _ hq)⟩
theorem at_part{k:Nat}(hk:k<=4):∀{ps:List (List Bx)},Parts (4-k) ps->Wf (ps.map (grpOf k))->∀{v:Int} {p:List Bx},p∈ps->(rgOf (4-k) p).lo<=v->v<=(rgOf (4-k) p).hi->atF (4-k) v ps.flatten=p
 |[],_,_,v,p,hp,_,_=>by simp at hp
 |q::ps,hP,hw,v,p,hp,h1,h2=>by
  have filt:∀r,r∈q::ps->atF (4-k) v r=if(rgOf (4-k) r).lo<=v/\v<=(rgOf (4-k) r).hi then r else []:=fun r hr=>by
   have hc:=(hP.mem r hr).2;split
   ·rename_i hin;refine eQ.2 fun x hx=>?_;rw[hc x hx,decide_eq_true hin.1,decide_eq_true hin.2];rfl
   ·rename_i hin;refine List.filter_eq_nil_iff.2 fun x hx=>?_;rw[hc x hx,aJ,aL,aL];exact hin
  have happ:atF (4-k) v (q::ps).flatten=atF (4-k) v q++atF (4-k) v ps.flatten:=by
   rw[eI,atF,dF];rfl
  rw[happ];have hab:∀r,r∈ps->(rgOf (4-k) q).hi<(rgOf (4-k) r).lo:=fun r hr=>(Wf.above (l:=ps.map (grpOf k)) hw (grpOf k r) (eR hr)).1;have nil_of:∀{rs:List (List Bx)},(∀r,r∈rs->r∈q::ps)->(∀r,r∈rs->v<(rgOf (4-k) r).lo)->atF (4-k) v rs.flatten=[]:=by
   intro rs
   induction rs with
   |nil=>intro _ _;rfl
   |cons r rs ih=>
    intro hm hv;rw[eI,atF,dF];have e1:=filt r (hm r zx);rw[aD (by have:=hv r zx;omega)]at e1;have e2:=ih (fun x hx=>hm x (aS _ hx)) (fun x hx=>hv x (aS _ hx));rw[atF]at e1 e2;rw[e1,e2];rfl
  rcases aU.1 hp with rfl|hp
  ·rw[filt p zx,aG ⟨h1,h2⟩,nil_of (fun r hr=>aS _ hr) (fun r hr=>by have:=hab r hr;omega),bF]
  ·have:=hab p hp;rw[filt q zx,aD zo,cZ];exact at_part hk hP.tail hw.tail hp h1 h2
theorem at_nopart{k:Nat}{v:Int}:∀{ps:List (List Bx)},Parts (4-k) ps->(∀p,p∈ps->¬((rgOf (4-k) p).lo<=v/\v<=(rgOf (4-k) p).hi))->atF (4-k) v ps.flatten=[]
 |[],_,_=>rfl
 |q::ps,hP,h=>by
  rw[eI,atF,dF];have e1:q.filter (fun b=>decide ((b.get (4-k)).lo<=v)&&decide (v<=(b.get (4-k)).hi))=[]:=List.filter_eq_nil_iff.2 fun x hx=>by
   rw[hP.head.2 x hx,aJ,aL,aL];exact h q zx
  have e2:=at_nopart hP.tail fun p hp=>h p (aS _ hp);rw[atF]at e2;rw[e1,e2];rfl
def orB(x y:Bool):Bool:=x||y
theorem cano_nils(op:Bool->Bool->Bool)(h:op false false=false)(k:Nat):cano op k [] []=[]:=cano_dead op k [] [] fun p q hp hq=>by
 have h1:p=false:=by cases p with
  |false=>rfl
  |true=>exact absurd (hp rfl) zx
 have h2:q=false:=by cases q with
  |false=>rfl
  |true=>exact absurd (hq rfl) zx
 rw[h1,h2,h]
theorem flatG_parts{k:Nat}(hk:k<=4):∀{ps:List (List Bx)},Parts (4-k) ps->flatG (4-k) (ps.map (grpOf k))=ps.flatten.map (zeroTo (k+1))
 |[],_=>rfl
 |p::ps,h=>by
  have ih:=flatG_parts hk h.tail;have e:flatG (4-k) ((p::ps).map (grpOf k))=(p.map (zeroTo k)).map (fun b=>b.put (4-k) (mkR (rgOf (4-k) p).lo (rgOf (4-k) p).hi))++flatG (4-k) (ps.map (grpOf k)):=by
   simp only[flatG,aR,cX,grpOf]
  rw[e,ih,eI,aQ,mkR_self,List.map_map]
  congr 1
  refine eA fun x hx=>?_;simp only[Function.comp];rw[<-h.head.2 x hx,zeroTo_put hk]
theorem canB_iff:∀(k:Nat) (l:List Bx),k<=5->(∀x,x∈l->∀f,f<=4->5<=f+k->(x.get f).lo<=(x.get f).hi/\(x.get f).hi<=topF f)->(k=0->l≠[])->(canB k l=true↔cano orB k l []=l.map (zeroTo k))
 |0,l,_,_,hne=>by
  have hne:=hne rfl;rw[canB,cano];cases l with
  |nil=>exact absurd rfl hne
  |cons x l=>
   simp only[List.isEmpty_cons,fB,List.isEmpty_nil,fW,orB,Bool.or_false,if_true];cases l with
   |nil=>simp only[aB,aH,beq_self_eq_true,aR,bL,true_iff];rfl
   |cons y l=>simp
 |k+1,l,hk,hv,_=>by
  have hP:=runs_parts (4-k) l;have hfl:=runs_flat (4-k) l;have hmem:∀p,p∈runsF (4-k) l->∀x,x∈p->x∈l:=fun p hp x hx=>by rw[<-hfl];exact List.mem_flatten.2 ⟨p,hp,hx⟩
  have hrg:∀p,p∈runsF (4-k) l->(rgOf (4-k) p).lo<=(rgOf (4-k) p).hi/\(rgOf (4-k) p).hi<=topF (4-k):=fun p hp=>by
   obtain⟨h1,h2⟩:=hP.mem p hp;cases p with
   |nil=>exact absurd rfl h1
   |cons x p=>exact hv x (hmem _ hp x zx) (4-k) zo zo
  have hvp:∀p,p∈runsF (4-k) l->∀x,x∈p->∀f,f<=4->5<=f+k->(x.get f).lo<=(x.get f).hi/\(x.get f).hi<=topF f:=fun p hp x hx f hf h5=>hv x (hmem p hp x hx) f hf zo;have g:=cano_wf orB k l [];rw[canB,chk_start zo fun p hp=>⟨(hP.mem p hp).1,(hrg p hp).1⟩,cano_succ];generalize runsF (4-k) l=ps at*;constructor
  ·rintro⟨hw,hc⟩
   have g2:GInv (restAt orB k l []) (ps.map (grpOf k)) (topF (4-k)+1):=by
    refine⟨hw,fun v=>?_,fun x hx=>?_,fun x hx=>?_⟩
    ·by_cases hin:∃p,p∈ps/\(rgOf (4-k) p).lo<=v/\v<=(rgOf (4-k) p).hi
     ·obtain⟨p,hp,p1,p2⟩:=hin;have hb:=hrg p hp;have hl0:=(rgOf (4-k) p).l0;rw[hw.at_mem (g:=grpOf k p) (eR hp) p1 p2,aG zo,lab,restAt,<-hfl,at_part zo hP hw hp p1 p2];have hI:=(canB_iff k p zo (hvp p hp) (fun _=>(hP.mem p hp).1)).1 (hc p hp);have hnil:atF (4-k) v []=[]:=rfl;rw[hnil,hI];cases p with
      |nil=>exact absurd rfl (hP.mem _ hp).1
      |cons x p=>rfl
     ·have hno:∀p,p∈ps->¬((rgOf (4-k) p).lo<=v/\v<=(rgOf (4-k) p).hi):=fun p hp hh=>hin ⟨p,hp,hh⟩;have e1:gAt (ps.map (grpOf k)) v=none:=gAt_none fun x hx=>by
       obtain⟨p,hp,rfl⟩:=cD.1 hx;have:=hno p hp;simp only[grpOf];omega
      have e2:restAt orB k l [] v=[]:=by
       rw[restAt,<-hfl,at_nopart hP hno];exact cano_nils orB rfl k
      rw[e1,lab,e2];split<;>rfl
    ·obtain⟨p,hp,rfl⟩:=cD.1 hx;have:=hrg p hp;have hl0:=(rgOf (4-k) p).l0;simp only[grpOf];omega
    ·obtain⟨p,hp,rfl⟩:=cD.1 hx;simp only[grpOf,ne_eq,List.map_eq_nil_iff];exact(hP.mem p hp).1
   rw[g.same g2,flatG_parts zo hP,hfl]
  ·intro he;generalize groupsOf (restAt orB k l []) (topF (4-k)) (starts (rngs (4-k) l []) (topF (4-k)))=G at g he;have hb:=topF_pos (4-k)
   -- the parts that the groups are
   have hGok:∀x,x∈G->∀y,y∈x.val->y.put (4-k) zR=y:=fun x hx y hy=>by
    have hl:=g.low x hx;have hle:x.lo<=x.hi:=g.wf.le x hx;have hat:=g.wf.at_mem hx (cI x.lo) hle;rw[g.at_,aG ⟨hl.1,by omega⟩,lab]at hat;split at hat
    ·cases hat
    ·have hval:=bE hat;rw[<-hval]at hy;exact okK_zero zo (cano_ok orB k _ _ zo y hy)
   have hpg:∀(G:List (Grp (List Bx))),Wf G->(∀x,x∈G->x.val≠[]/\0<=x.lo/\x.hi<=4294967295)->Parts (4-k) (G.map fun x=>x.val.map fun b=>b.put (4-k) (mkR x.lo x.hi)):=by
    intro G;have rgv:∀x:Grp (List Bx),x.val≠[]->rgOf (4-k) (x.val.map fun b=>b.put (4-k) (mkR x.lo x.hi))=mkR x.lo x.hi:=fun x hx=>by
     cases hval:x.val with
     |nil=>exact absurd hval hx
     |cons b l=>exact get_put zo
    have cst:∀x:Grp (List Bx),x.val≠[]->∀y,y∈(x.val.map fun b=>b.put (4-k) (mkR x.lo x.hi))->y.get (4-k)=rgOf (4-k) (x.val.map fun b=>b.put (4-k) (mkR x.lo x.hi)):=fun x hx y hy=>by
     obtain⟨b,_,rfl⟩:=cD.1 hy;rw[rgv x hx,get_put zo]
    induction G with
    |nil=>intro _ _;exact .nil
    |cons x G ih=>
     intro hw hx;have hx1:=hx x zx;have ih:=ih hw.tail fun y hy=>hx y (aS _ hy);cases G with
     |nil=>exact .one _ (by simpa using hx1.1) (cst x hx1.1)
     |cons y G=>
      have hy1:=hx y zx;refine .cons _ _ _ (by simpa using hx1.1) (cst x hx1.1) ?_ ih;rw[rgv x hx1.1,rgv y hy1.1];have h1:=hw.head;have h2:=hw.tail.head;have h3:=hw.above y zx;intro e;have:=congrArg Rg.lo e;rw[mkR_lo zo zo zo zo,mkR_lo zo zo zo zo]at this;omega
   have hGP:=hpg G g.wf fun x hx=>⟨g.full x hx,(g.low x hx).1,by have:=g.low x hx;omega⟩
   have hr1:=runs_of hGP;have hfG:(G.map fun x=>x.val.map fun b=>b.put (4-k) (mkR x.lo x.hi)).flatten=flatG (4-k) G:=by rw[flatG,List.flatMap]
   rw[hfG,he]at hr1;have hmapP:Parts (4-k) (ps.map fun p=>p.map (zeroTo (k+1))):=by
    have hget:∀x:Bx,(zeroTo (k+1) x).get (4-k)=x.get (4-k):=fun x=>by rw[zeroTo_get zo,aG zo]
    have hro:∀p:List Bx,p≠[]->rgOf (4-k) (p.map (zeroTo (k+1)))=rgOf (4-k) p:=fun p hp=>by
     cases p with
     |nil=>exact absurd rfl hp
     |cons x p=>exact hget x
    have hcst:∀p:List Bx,p≠[]->(∀x,x∈p->x.get (4-k)=rgOf (4-k) p)->∀y,y∈p.map (zeroTo (k+1))->y.get (4-k)=rgOf (4-k) (p.map (zeroTo (k+1))):=fun p hp hc y hy=>by
     obtain⟨x,hx,rfl⟩:=cD.1 hy;rw[hget,hro p hp,hc x hx]
    have go:∀{qs:List (List Bx)},Parts (4-k) qs->Parts (4-k) (qs.map fun p=>p.map (zeroTo (k+1))):=by
     intro qs hq
     induction hq with
     |nil=>exact .nil
     |one p h1 h2=>exact .one _ (by simpa using h1) (hcst p h1 h2)
     |cons p q qs h1 h2 h3 hw ih=>exact .cons _ _ _ (by simpa using h1) (hcst p h1 h2) (by rw[hro p h1,hro q hw.head.1];exact h3) ih
    exact go hP
   have hr2:=runs_of hmapP;have hfl2:(ps.map fun p=>p.map (zeroTo (k+1))).flatten=l.map (zeroTo (k+1)):=by rw[<-hfl,List.map_flatten]
   rw[hfl2,hr1]at hr2
   -- so the groups are those of the parts
   have hgrp:ps.map (grpOf k)=G:=by
    have e:∀(ps:List (List Bx)) (G:List (Grp (List Bx))),(∀p,p∈ps->p≠[])->(∀x,x∈G->(x.val≠[]/\0<=x.lo/\x.lo<=4294967295/\0<=x.hi/\x.hi<=4294967295)/\∀y,y∈x.val->y.put (4-k) zR=y)->
      (G.map fun x=>x.val.map fun b=>b.put (4-k) (mkR x.lo x.hi))=(ps.map fun p=>p.map (zeroTo (k+1)))->ps.map (grpOf k)=G:=by
     intro ps
     induction ps with
     |nil=>intro G _ _ h;cases G with
      |nil=>rfl
      |cons=>simp at h
     |cons p ps ih=>
      intro G hne hx h;cases G with
      |nil=>simp at h
      |cons x G=>
       rw[aR,aR,List.cons.injEq]at h;rw[aR,ih G (fun q hq=>hne q (aS _ hq)) (fun y hy=>hx y (aS _ hy)) h.2]
       congr 1
       obtain⟨⟨x1,x2,x3,x4,x5⟩,x6⟩:=hx x zx;have h1:=h.1;have hval:p.map (zeroTo k)=x.val:=by
        have:=congrArg (List.map fun b=>b.put (4-k) zR) h1;rw[List.map_map,List.map_map]at this;rw[show(x.val.map ((fun b=>b.put (4-k) zR)∘fun b=>b.put (4-k) (mkR x.lo x.hi)))=x.val by
         refine(eA fun y hy=>?_).trans (List.map_id _);simp only[Function.comp];rw[put_put];exact x6 y hy]at this
        rw[this];refine eA fun y hy=>?_;simp only[Function.comp];rw[put_zeroTo zo]
       have hrgo:rgOf (4-k) p=mkR x.lo x.hi:=by
        cases p with
        |nil=>exact absurd rfl (hne _ zx)
        |cons y p=>
         cases hxv:x.val with
         |nil=>exact absurd hxv x1
         |cons b l=>
          rw[hxv,aR,aR,List.cons.injEq]at h1;have:(b.put (4-k) (mkR x.lo x.hi)).get (4-k)=(zeroTo (k+1) y).get (4-k):=by rw[h1.1]
          rw[get_put zo,zeroTo_get zo,aG zo]at this;exact this.symm
       cases x;simp only at hval hrgo x2 x3 x4 x5;unfold grpOf;rw[hval,hrgo,mkR_lo zo zo zo zo,mkR_hi zo zo zo zo]
    refine e ps G (fun p hp=>(hP.mem p hp).1) (fun x hx=>⟨⟨g.full x hx,?_⟩,hGok x hx⟩) hr2;have hl:=g.low x hx;have:=g.wf.le x hx;omega
   refine⟨by rw[hgrp];exact g.wf,fun p hp=>?_⟩;refine(canB_iff k p zo (hvp p hp) (fun _=>(hP.mem p hp).1)).2 ?_;have hw:Wf (ps.map (grpOf k)):=by rw[hgrp];exact g.wf
   have hb1:=hrg p hp;have hl0:=(rgOf (4-k) p).l0;have hat:=hw.at_mem (g:=grpOf k p) (eR hp) (cI _) hb1.1;rw[hgrp,g.at_,aG (by simp only[grpOf];omega),lab]at hat;split at hat
   ·cases hat
   ·have hval:=bE hat;simp only[grpOf]at hval;rw[restAt,<-hfl,at_part zo hP hw hp (cI _) hb1.1]at hval;exact hval
end Go.Proofs.YtnomkooikbhgmaaGreatDoor
namespace Go.Vm
def frcP:List (Nat×Nat)->(List (Nat×Nat)->Prop)->Prop
 |[],K=>K []
 |(i,j)::r,K=>frcN i fun i'=>frcN j fun j'=>frcP r fun r'=>K ((i',j')::r')
theorem frcP_eq:∀(ρ:List (Nat×Nat)) (K:List (Nat×Nat)->Prop),frcP ρ K=K ρ
 |[],K=>rfl
 |(i,j)::r,K=>by simp only[frcP,frcN_eq,frcP_eq r]
abbrev Names:=List (Nat×Nat)
def addK(ρ:Names)(i j:Nat)(K:Names->Prop):Prop:=
 match get ρ i with
 |some _=>K ρ
 |none=>frcN i fun i=>frcN j fun j=>K ((i,j)::ρ)
theorem addK_ex{ρ:Names}{i j:Nat}{K:Names->Prop}(h:addK ρ i j K):∃ρ,K ρ:=by
 unfold addK at h;split at h
 ·exact⟨_,h⟩
 ·rw[frcN_eq,frcN_eq]at h;exact⟨_,h⟩
def pair0K(ρ:Names)(x y:AV)(K:Names->Prop):Prop:=
 match x,y with
 |.op i _,.op j _=>addK ρ i j K
 |.ep i _ _ _,.ep j _ _ _=>addK ρ i j K
 |.os i _ _ _,.os j _ _ _=>addK ρ i j K
 |.mp i,.mp j=>addK ρ i j K
 |.dfr i _,.dfr j _=>addK ρ i j K
 |_,_=>K ρ
theorem pair0K_ex{ρ:Names}{x y:AV}{K:Names->Prop}(h:pair0K ρ x y K):∃ρ,K ρ:=by
 unfold pair0K at h;split at h
 ·exact addK_ex h
 ·exact addK_ex h
 ·exact addK_ex h
 ·exact addK_ex h
 ·exact addK_ex h
 ·exact⟨_,h⟩
def pair0LK:List AV->List AV->Names->(Names->Prop)->Prop
 |x::xs,y::ys,ρ,K=>pair0K ρ x y fun ρ=>pair0LK xs ys ρ K
 |_,_,ρ,K=>K ρ
theorem pair0LK_ex:∀{xs ys:List AV} {ρ:Names} {K:Names->Prop},pair0LK xs ys ρ K->∃ρ,K ρ
 |x::xs,y::ys,ρ,K,h=>by
  obtain⟨ρ',h'⟩:=pair0K_ex h;exact pair0LK_ex h'
 |[],ys,ρ,K,h=>by simp only[pair0LK]at h;exact⟨_,h⟩
 |x::xs,[],ρ,K,h=>by simp only[pair0LK]at h;exact⟨_,h⟩
def pair1K(ρ:Names)(x y:AV)(K:Names->Prop):Prop:=
 match x,y with
 |.fn _ a b,.fn _ c d=>pair0LK a c ρ fun ρ=>pair0LK b d ρ K
 |x,y=>pair0K ρ x y K
theorem pair1K_ex{ρ:Names}{x y:AV}{K:Names->Prop}(h:pair1K ρ x y K):∃ρ,K ρ:=by
 unfold pair1K at h;split at h
 ·obtain⟨ρ',h'⟩:=pair0LK_ex h;exact pair0LK_ex h'
 ·exact pair0K_ex h
def pairLK:List AV->List AV->Names->(Names->Prop)->Prop
 |x::xs,y::ys,ρ,K=>pair1K ρ x y fun ρ=>pairLK xs ys ρ K
 |_,_,ρ,K=>K ρ
theorem pairLK_ex:∀{xs ys:List AV} {ρ:Names} {K:Names->Prop},pairLK xs ys ρ K->∃ρ,K ρ
 |x::xs,y::ys,ρ,K,h=>by
  obtain⟨ρ',h'⟩:=pair1K_ex h;exact pairLK_ex h'
 |[],ys,ρ,K,h=>by simp only[pairLK]at h;exact⟨_,h⟩
 |x::xs,[],ρ,K,h=>by simp only[pairLK]at h;exact⟨_,h⟩
def pairAK(ρ:Names)(x y:AV)(K:Names->Prop):Prop:=
 match x,y with
 |.agg xs,.agg ys=>pairLK xs ys ρ K
 |.fn _ a b,.fn _ c d=>pairLK a c ρ fun ρ=>pairLK b d ρ K
 |x,y=>pair1K ρ x y K
theorem pairAK_ex{ρ:Names}{x y:AV}{K:Names->Prop}(h:pairAK ρ x y K):∃ρ,K ρ:=by
 unfold pairAK at h;split at h
 ·exact pairLK_ex h
 ·obtain⟨ρ',h'⟩:=pairLK_ex h;exact pairLK_ex h'
 ·exact pair1K_ex h
def pairSK(σ:St):List (Nat×AV)->Names->(Names->Prop)->Prop
 |[],ρ,K=>K ρ
 |(t,x)::r,ρ,K=>match get σ.s t with
  |some y=>pairAK ρ x y fun ρ=>pairSK σ r ρ K
  |none=>pairSK σ r ρ K
theorem pairSK_ex{σ:St}:∀{l:List (Nat×AV)} {ρ:Names} {K:Names->Prop},pairSK σ l ρ K->∃ρ,K ρ
 |[],ρ,K,h=>⟨_,h⟩
 |(t,x)::r,ρ,K,h=>by
  simp only[pairSK]at h;split at h
  ·obtain⟨ρ',h'⟩:=pairAK_ex h;exact pairSK_ex h'
  ·exact pairSK_ex h
def pairHK(s σ:St):Names->Names->(Names->Prop)->Prop
 |[],ρ,K=>K ρ
 |(i,j)::r,ρ,K=>match get s.h i,get σ.h j with
  |some (.box cs),some (.box ds)=>pairLK cs ds ρ fun ρ=>pairHK s σ r ρ K
  |_,_=>pairHK s σ r ρ K
theorem pairHK_ex{s σ:St}:∀{l ρ:Names} {K:Names->Prop},pairHK s σ l ρ K->∃ρ,K ρ
 |[],ρ,K,h=>⟨_,h⟩
 |(i,j)::r,ρ,K,h=>by
  simp only[pairHK]at h;split at h
  ·obtain⟨ρ',h'⟩:=pairLK_ex h;exact pairHK_ex h'
  ·exact pairHK_ex h
def idP:Nat->Names
 |0=>[]
 |k+1=>(k,k)::idP k
def autoK(p:Nat)(s σ:St)(K:Names->Prop):Prop:=
 frcP (idP p) fun ρ=>pairSK σ s.s ρ fun a=>pairHK s σ a a fun b=>pairHK s σ b b fun c=>match Nat.beq c.length b.length with
  |true=>K c
  |false=>pairHK s σ c c K
theorem Le.auto{p:Nat}{s σ:St}(h:autoK p s σ fun ρ=>(injB ρ&&(belowB s.n ρ&&(fixB ρ p&&defB s.s σ.s)))=true/\(LeS ρ s.s σ/\LeH ρ s.h σ)):Le p s σ:=by
 unfold autoK at h;rw[frcP_eq]at h;obtain⟨a,h⟩:=pairSK_ex h;obtain⟨b,h⟩:=pairHK_ex h;obtain⟨c,h⟩:=pairHK_ex h;split at h
 ·exact⟨c,h⟩
 ·obtain⟨d,h⟩:=pairHK_ex h;exact⟨d,h⟩
theorem leA{p:Nat}{s σ:St}(h:Le p s σ:=by(refine Le.auto ?_;repeat' ((conv=>whnf);first|with_reducible refine And.intro ?_ ?_|with_reducible exact True.intro|rfl));fail_if_success have:=True.intro):Le p s σ:=h
theorem in_c{i:Int}{len:Nat}{K:Nat->Prop}(h:decide (0<=i/\i.toNat<len)=true)(hk:K i.toNat):In i len K:=by
 have h:=of_decide_eq_true h;exact gT i.toNat zo h.2 hk
theorem ix_set{xs:List AV}{i:Nat}{x:AV}{K:AV->Prop}(h:i<xs.length)(hk:K x):Ix (xs.set i x) i K:=gU (by rw[List.getElem?_set_self h]) hk
theorem Weak.agg{xs ys:List AV}(h:WeakL xs ys):Weak (.agg xs) (.agg ys):=fun E w ι v hr=>by
 cases hr with
 |agg _ c hs hc=>
  have:=h.rel (c:=c) ⟨hs,hc⟩;exact .agg _ _ this.1 this.2
abbrev gS:=@Weak.agg
def partV(P:Program)(t:TypeId)(xs:List Value)(off:Nat):Option Value:=
 match tagg P t with
 |some true=>(match tsz P t with
  |some n=>some (.agg ((xs.drop off).take n).toArray)
  |none=>none)
 |some false=>xs[off]?
 |none=>none
def eqT(P:Program):Nat->TypeId->Value->Value->Option Bool
 |0,_,_,_=>none
 |d+1,t,x,y=>match P.underlying t with
  |some (.int _)=>(match x,y with
   |.int k a,.int k' b=>(match kEq k k' with
    |true=>some (a==b)
    |false=>none)
   |_,_=>none)
  |some .bool=>(match x,y with
   |.bool a,.bool b=>some (a==b)
   |_,_=>none)
  |some .string=>(match x,y with
   |.string a,.string b=>some (a.toList==b.toList)
   |_,_=>none)
  |some (.struct fs)=>(match P.stoodInHeld t,x,y with
   |false,.agg xs,.agg ys=>eqFs (fun t a b=>eqT P d t a b) xs.toList ys.toList fs.toList
   |_,_,_=>none)
  |some (.array n e)=>(match tsz P e,x,y with
   |some m,.agg xs,.agg ys=>eqIs (fun a b=>eqT P d e a b) e m xs.toList ys.toList (List.range n)
   |_,_,_=>none)
  |_=>none
where
 eqIs (e:Value->Value->Option Bool) (el:TypeId) (m:Nat) (xs ys:List Value):List Nat->Option Bool
  |[]=>some true
  |i::r=>(match partV P el xs (i*m),partV P el ys (i*m)with
   |some a,some b=>(match e a b,eqIs e el m xs ys r with
    |some p,some q=>some (p&&q)
    |_,_=>none)
   |_,_=>none)
 eqFs (e:TypeId->Value->Value->Option Bool) (xs ys:List Value):List Field->Option Bool
  |[]=>some true
  |f::r=>match f.name== "_" with
   |true=>eqFs e xs ys r
   |false=>(match partV P f.type xs f.offset,partV P f.type ys f.offset with
    |some a,some b=>(match e f.type a b,eqFs e xs ys r with
     |some p,some q=>some (p&&q)
     |_,_=>none)
    |_,_=>none)
section
variable {P:Program}
theorem partV_run{t:TypeId}{xs:Array Value}{off:Nat}{v:Value}(h:partV P t xs.toList off=some v)(w:World):(part t xs off).run P w=.ok v w:=by
 unfold partV at h;split at h
 ·rename_i ht;split at h
  ·rename_i n hn;cases h;have e:(xs.extract off (off+n))=((xs.toList.drop off).take n).toArray:=by
    apply Array.ext';rw[Array.toList_extract];simp[List.extract]
   simp[part,run_isAgg ht,tsz_spec hn,e]
  ·cases h
 ·rename_i ht;have h':xs[off]? =some v:=by simpa using h
  simp[part,run_isAgg ht,h']
 ·cases h
theorem eqT_run:∀(d:Nat) {t:TypeId} {x y:Value} {b:Bool},eqT P d t x y=some b->∀(D:Nat) (w:World),d<=D->(Op.equalIn D t x y).run P w=.ok b w
 |0,t,x,y,b,h=>by simp[eqT]at h
 |d+1,t,x,y,b,h=>by
  intro D w hD;obtain⟨D,rfl⟩:∃k,D=k+1:=⟨D-1,by omega⟩
  simp only[eqT]at h;split at h
  ·rename_i q hu;split at h
   ·split at h
    ·rename_i hk;cases kEq_eq hk;cases h;exact run_equalIn_int w D t _ _ _ _ hu
    ·cases h
   ·cases h
  ·rename_i hu;split at h
   ·cases h;exact run_equalIn_bool' w D t _ _ hu
   ·cases h
  ·rename_i hu;split at h
   ·cases h;exact run_equalIn_string w D t _ _ hu
   ·cases h
  ·rename_i fs hu;split at h
   ·rename_i xs ys hs;have hf:P.fieldsOf t=fs:=by simp[Program.fieldsOf,hu]
    rw[run_equalIn_struct w D t xs ys (by rw[hf];exact hu) hs,hf];have go:∀(l:List Field) (b:Bool),eqT.eqFs P (fun t a b=>eqT P d t a b) xs.toList ys.toList l=some b->(Op.eqFields D xs ys l).run P w=.ok b w:=by
     intro l
     induction l with
     |nil=>intro b h;simp only[eqT.eqFs,bQ]at h;subst h;simp[Op.eqFields]
     |cons f r ih=>
      intro b h;simp only[eqT.eqFs]at h;split at h
      ·rename_i hn;have hn:f.name= "_":=by simpa using hn
       simp only[Op.eqFields,hn,ne_eq,not_true_eq_false,if_false];exact ih b h
      ·rename_i hn;have hn:f.name≠ "_":=by simpa using hn
       split at h;case h_2=>cases h
       rename_i a c ha hc;split at h;case h_2=>cases h
       rename_i p q hp hq;cases h;simp only[Op.eqFields,ne_eq,hn,not_false_eq_true,if_true,Sem.run_bind,partV_run ha w,partV_run hc w,Result.andThen_ok,eqT_run d hp D w zo,Sem.run_ite,Sem.run_pure];cases p
       ·simp
       ·simpa using ih q hq
    exact go _ _ h
   ·cases h
  ·rename_i n e hu;split at h
   ·rename_i m xs ys hm;obtain⟨i,hi,him⟩:∃i,P.info? e=some i/\i.size=m:=by
     unfold tsz at hm;rw[bM]at hm;exact hm
    rw[run_equalIn_array w D xs ys hu hi,show P.cellsOf e=m by simp[Program.cellsOf,hi,him]];have go:∀(l:List Nat) (b:Bool),eqT.eqIs P (fun a b=>eqT P d e a b) e m xs.toList ys.toList l=some b->(Op.eqItems D e m xs ys l).run P w=.ok b w:=by
     intro l
     induction l with
     |nil=>intro b h;simp only[eqT.eqIs,bQ]at h;subst h;simp[Op.eqItems]
     |cons j r ih=>
      intro b h;simp only[eqT.eqIs]at h;split at h;case h_2=>cases h
      rename_i a c ha hc;split at h;case h_2=>cases h
      rename_i p q hp hq;cases h;simp only[Op.eqItems,Sem.run_bind,partV_run ha w,partV_run hc w,Result.andThen_ok,eqT_run d hp D w zo,Sem.run_ite,Sem.run_pure];cases p
      ·simp
      ·simpa using ih q hq
    exact go _ _ h
   ·cases h
  ·cases h
end
theorem eqv_of{P:Program}{t:TypeId}{xs ys:List AV}{K:Bool->Prop}{vs us:List Value}{b:Bool}(h1:denL xs=some vs)(h2:denL ys=some us)(hg:P.eqGuardType P.depth t=false)(h:eqT P 10 t (.agg vs.toArray) (.agg us.toArray)=some b)(hk:K b):EqV P t xs ys K:=
 EqV.intro vs us b h1 h2 hg (fun w=>eqT_run 10 h 10000 w zd) hk
end Go.Vm
namespace Go.Proofs.YtnomkooikbhgmaaGreatDoor
open Go Go.Vm
abbrev encX(b:Bx):AV:=.agg [.v (.int .u32 b.r0.lo),.v (.int .u32 b.r0.hi),.v (.int .u32 b.r1.lo),.v (.int .u32 b.r1.hi),.v (.int .u32 b.r2.lo),.v (.int .u32 b.r2.hi),.v (.int .u32 b.r3.lo),.v (.int .u32 b.r3.hi),.v (.int .u32 b.r4.lo),.v (.int .u32 b.r4.hi)]
abbrev encXs(l:List Bx):AV:=.lst (l.map encX)
def topI(f:Int):Int:=if f=0\/f=1 then 4294967295 else if f=2 then 255 else if f=3\/f=4 then 65535 else 0
theorem cr3Top(f:Int){K:KT}(hK:K (.v (.int .u32 (topI f))) []):AC 109 [.v (.int .i64 f)] [] K:=by
 refine ofr3Top rfl rfl ?_;(repeat' ((conv=>whnf);first|refine zG ?_|apply zA|intro h|exact zT));all_goals conv=>whnf
 all_goals
  unfold topI at hK;simp_all only[or_self,or_true,true_or,if_true,if_false,Int.reduceEq,or_false,false_or,reduceIte];exact hK
def fullB:Bx:=⟨mkR 0 4294967295,mkR 0 4294967295,mkR 0 255,mkR 0 65535,mkR 0 65535⟩
def Rg.okF(r:Rg)(f:Nat):Prop:=r.lo<=r.hi/\r.hi<=topF f
def Bx.ok(b:Bx):Prop:=b.r0.okF 0/\b.r1.okF 1/\b.r2.okF 2/\b.r3.okF 3/\b.r4.okF 4
instance (b:Bx):Decidable b.ok:=by unfold Bx.ok Rg.okF;infer_instance
theorem cr3Val(b:Bx){K:KT}(hK:K (.sb (decide b.ok)) []):AC 182 [encX b] [] K:=by
 refine gO (ofr3Val rfl rfl ?_);(repeat' ((conv=>whnf);first|(with_reducible refine Lp.times 6 ?_)|(refine in_c zd ?_)|(with_reducible refine cr3Top _ ?_)|refine zG ?_|apply zA|intro h|exact zT));all_goals conv=>whnf
 all_goals
  have hb:b.ok↔((b.r0.lo<=b.r0.hi/\b.r0.hi<=4294967295)/\(b.r1.lo<=b.r1.hi/\b.r1.hi<=4294967295)/\(b.r2.lo<=b.r2.hi/\b.r2.hi<=255)/\(b.r3.lo<=b.r3.hi/\b.r3.hi<=65535)/\(b.r4.lo<=b.r4.hi/\b.r4.hi<=65535)):=Iff.rfl;have t0:topI 0=4294967295:=rfl;have t1:topI (0+1)=4294967295:=rfl;have t2:topI (0+1+1)=255:=rfl;have t3:topI (0+1+1+1)=65535:=rfl;have t4:topI (0+1+1+1+1)=65535:=rfl;first
   |exact fin_f hK (decide_eq_false (by rw[hb];omega))
   |exact fin_t hK (decide_eq_true (by rw[hb];omega))
theorem cr3Full{K:KT}(hK:K (encX fullB) []):AC 181 [] [] K:=by
 refine ofr3Full rfl rfl ?_;(repeat' ((conv=>whnf);first|(with_reducible refine Lp.times 6 ?_)|(refine in_c zd ?_)|(with_reducible refine cr3Top _ ?_)|refine zG ?_|apply zA|intro h|exact zT));all_goals conv=>whnf
 exact hK
theorem rg_eq{r s:Rg}:r=s↔r.lo=s.lo/\r.hi=s.hi:=by
 constructor
 ·rintro rfl;exact⟨rfl,rfl⟩
 ·rintro⟨h1,h2⟩
  cases r;cases s;simp only at h1 h2;subst h1;subst h2;rfl
theorem eqv_X{p q:Bx}{K:Bool->Prop}(hk:K (decide (p=q))):EqV Tryz.prog 159 [.v (.int .u32 p.r0.lo),.v (.int .u32 p.r0.hi),.v (.int .u32 p.r1.lo),.v (.int .u32 p.r1.hi),.v (.int .u32 p.r2.lo),.v (.int .u32 p.r2.hi),.v (.int .u32 p.r3.lo),.v (.int .u32 p.r3.hi),.v (.int .u32 p.r4.lo),.v (.int .u32 p.r4.hi)]
  [.v (.int .u32 q.r0.lo),.v (.int .u32 q.r0.hi),.v (.int .u32 q.r1.lo),.v (.int .u32 q.r1.hi),.v (.int .u32 q.r2.lo),.v (.int .u32 q.r2.hi),.v (.int .u32 q.r3.lo),.v (.int .u32 q.r3.hi),.v (.int .u32 q.r4.lo),.v (.int .u32 q.r4.hi)] K:=by
 refine eqv_of (b:=((p.r0.lo==q.r0.lo&&(p.r0.hi==q.r0.hi&&true))&&((p.r1.lo==q.r1.lo&&(p.r1.hi==q.r1.hi&&true))&&((p.r2.lo==q.r2.lo&&(p.r2.hi==q.r2.hi&&true))&&((p.r3.lo==q.r3.lo&&(p.r3.hi==q.r3.hi&&true))&&((p.r4.lo==q.r4.lo&&(p.r4.hi==q.r4.hi&&true))&&true)))))) rfl rfl zk zk ?_;have e:((p.r0.lo==q.r0.lo&&(p.r0.hi==q.r0.hi&&true))&&((p.r1.lo==q.r1.lo&&(p.r1.hi==q.r1.hi&&true))&&((p.r2.lo==q.r2.lo&&(p.r2.hi==q.r2.hi&&true))&&((p.r3.lo==q.r3.lo&&(p.r3.hi==q.r3.hi&&true))&&((p.r4.lo==q.r4.lo&&(p.r4.hi==q.r4.hi&&true))&&true)))))=decide (p=q):=by
  rw[bJ];cases p;cases q;simp[rg_eq]
 rw[e];exact hk
theorem cr3Same(a b:List Bx)(ha:a.length<1000000000000)(hb:b.length<1000000000000){K:KT}(hK:K (.sb (decide (a=b))) []):AC 102 [encXs a,encXs b] [] K:=by
 refine gO (ofr3Same rfl rfl ?_);(repeat' ((conv=>whnf);first|refine zG ?_|apply zA|intro h|exact zT));all_goals conv=>whnf
 ·have hl:a.length=b.length:=by
   rw[aA,aA]at h;omega
  refine gL Nat (fun k=>⟨0,[],[(0,encXs a),(1,encXs b),(5,.v (.int .i64 k))]⟩) (fun k=>k<=a.length/\∀i,i<k->a[i]? =b[i]?) (fun k=>a.length-k) 0 ?_ ?_ ?_
  ·exact⟨aK _,fun i h=>absurd h (bC _)⟩
  ·exact leA
  intro k ⟨hk,hinv⟩;rcases aF k a.length with hkl|hkl
  ·have hkb:k<b.length:=by omega
   obtain⟨p,hp⟩:=gex hkl;obtain⟨q,hq⟩:=gex hkb;(repeat' ((conv=>whnf);first|(with_reducible first|refine hU hkl ?_|refine hU hkb ?_|refine hJ hp ?_|refine hJ hq ?_|refine eqv_X ?_)|refine zG ?_|apply zA|intro h|exact zT));all_goals conv=>whnf
   ·refine⟨k+1,⟨by omega,fun i hi=>?_⟩,by omega,?_⟩
    ·rcases aF i k with h1|h1
     ·exact hinv i h1
     ·rw[show i=k by omega,hp,hq,h]
    ·exact leA
   ·refine fin_f hK (decide_eq_false fun e=>?_);subst e;rw[hp]at hq;cases hq;exact h rfl
  ·have hab:a=b:=by
    apply List.ext_getElem?;intro i;rcases aF i k with h1|h1
    ·exact hinv i h1
    ·rw[bO zo,bO zo]
   (repeat' ((conv=>whnf);first|refine zG ?_|apply zA|intro h|exact zT));all_goals conv=>whnf
   exact fin_t hK (decide_eq_true hab)
 ·exact fin_f hK (decide_eq_false fun e=>h (by rw[e]))
theorem atF_succ{f:Nat}{v:Int}{l:List Bx}{k:Nat}{x:Bx}(h:l[k]? =some x):atF f v (l.take (k+1))=atF f v (l.take k)++(if(x.get f).lo<=v/\v<=(x.get f).hi then [x]else []):=by
 rw[bI,h,atF,dF]
 congr 1
 by_cases hc:(x.get f).lo<=v/\v<=(x.get f).hi
 ·simp[hc]
 ·have:(decide ((x.get f).lo<=v)&&decide (v<=(x.get f).hi))=false:=by
   rw[bV,ne_eq,aJ,aL,aL];exact hc
  simp[this,hc]
theorem atF_len(f:Nat)(v:Int)(l:List Bx):(atF f v l).length<=l.length:=dL ..
theorem cr4At(l:List Bx)(f:Nat)(hf:f<=4)(v:Int)(hl:l.length<1000000000000){K:KT}(hK:K (encXs (atF f v l)) []):AC 250 [encXs l,.v (.int .i64 f),.v (.int .u64 v)] [] K:=by
 refine ofr4At rfl rfl ?_;(repeat' ((conv=>whnf);first|refine zG ?_|apply zA|intro h|exact zT));all_goals conv=>whnf
 refine gL Nat (fun k=>⟨1,[(0,.arr 10 ((atF f v (l.take k)).map encX))],[(0,encXs l),(1,.v (.int .i64 f)),(2,.v (.int .u64 v)),(7,.os 0 10 0 (atF f v (l.take k)).length),(8,.v (.int .i64 k))]⟩) (fun k=>k<=l.length) (fun k=>l.length-k) 0 (aK _) ?_ ?_
 ·exact leA
 intro k hk;have hlen:=atF_len f v (l.take k);rw[bA]at hlen;rcases aF k l.length with hkl|hkl
 ·obtain⟨x,hx⟩:=gex hkl;have hs:=atF_succ (f:=f) (v:=v) hx;have b0:=x.r0.l0;have b1:=x.r0.l1;have b2:=x.r0.h0;have b3:=x.r0.h1;have c0:=x.r1.l0;have c1:=x.r1.l1;have c2:=x.r1.h0;have c3:=x.r1.h1;have d0:=x.r2.l0;have d1:=x.r2.l1;have d2:=x.r2.h0;have d3:=x.r2.h1;have e0:=x.r3.l0;have e1:=x.r3.l1;have e2:=x.r3.h0;have e3:=x.r3.h1;have f0:=x.r4.l0;have f1:=x.r4.l1;have f2:=x.r4.h0;have f3:=x.r4.h1;rcases f with _|_|_|_|_|f
  case succ.succ.succ.succ.succ=>omega
  all_goals
   simp only[Bx.get]at hs;(repeat' ((conv=>whnf);first|(with_reducible first|refine hU hkl ?_|refine hJ hx ?_)|(refine in_c zd ?_)|refine zG ?_|apply zA|intro h|exact zT));all_goals conv=>whnf
   all_goals
    refine⟨k+1,by omega,by omega,?_⟩;first
     |(rw[aG zo]at hs
       rw[hs,aQ,aC];exact leA)
     |(rw[aD zo,bF]at hs
       rw[hs];exact leA)
 ·(repeat' ((conv=>whnf);first|refine zG ?_|apply zA|intro h|exact zT));all_goals conv=>whnf
  rw[aY hkl]at*;(repeat' ((conv=>whnf);first|refine zG ?_|apply zA|intro h|exact zT));all_goals conv=>whnf
  exact hK
theorem cr4Rgs(a b:List Bx)(f:Nat)(hf:f<=4)(ha:a.length<1000000000)(hb:b.length<1000000000){K:KT}(hK:K (encRs (rngs f a b)) []):AC 249 [encXs a,encXs b,.v (.int .i64 f)] [] K:=by
 refine ofr4Rgs rfl rfl ?_;(repeat' ((conv=>whnf);first|refine zG ?_|apply zA|intro h|exact zT));all_goals conv=>whnf
 refine gL Nat (fun k=>⟨1,[(0,.arr 2 ((a.take k).map fun x=>encR (x.get f)))],[(0,encXs a),(1,encXs b),(2,.v (.int .i64 f)),(7,.os 0 2 0 k),(8,.v (.int .i64 k))]⟩) (fun k=>k<=a.length) (fun k=>a.length-k) 0 (aK _) ?_ ?_
 ·exact leA
 intro k hk;have hlen:((a.take k).map fun x=>encR (x.get f)).length=k:=by rw[aA,bA];omega
 rcases aF k a.length with hkl|hkl
 ·obtain⟨x,hx⟩:=gex hkl;have hs:(a.take (k+1)).map (fun x=>encR (x.get f))=(a.take k).map (fun x=>encR (x.get f))++[.agg [.v (.int .u32 (x.get f).lo),.v (.int .u32 (x.get f).hi)]]:=by
   rw[bI,hx,aQ];rfl
  rcases f with _|_|_|_|_|f
  case succ.succ.succ.succ.succ=>omega
  all_goals
   (repeat' ((conv=>whnf);first|(with_reducible first|refine hU hkl ?_|refine hJ hx ?_)|(refine in_c zd ?_)|refine zG ?_|apply zA|intro h|exact zT));all_goals conv=>whnf
   refine⟨k+1,by omega,by omega,?_⟩;rw[hs];exact leA
 ·rw[aY hkl]at hlen⊢;(repeat' ((conv=>whnf);first|refine zG ?_|apply zA|intro h|exact zT));all_goals conv=>whnf
  have hkk:k=a.length:=by omega
  subst hkk;refine gL Nat (fun k=>⟨1,[(0,.arr 2 (a.map (fun x=>encR (x.get f))++(b.take k).map fun x=>encR (x.get f)))],[(1,encXs b),(2,.v (.int .i64 f)),(7,.os 0 2 0 (a.length+k)),(9,.v (.int .i64 k))]⟩) (fun k=>k<=b.length) (fun k=>b.length-k) 0 (aK _) ?_ ?_
  ·rw[cW,bL,bF];exact leA
  intro k hk2;have hlen:(a.map (fun x=>encR (x.get f))++(b.take k).map fun x=>encR (x.get f)).length=a.length+k:=by rw[aC,aA,aA,bA];omega
  rcases aF k b.length with hkl|hkl
  ·obtain⟨x,hx⟩:=gex hkl;have hs:a.map (fun x=>encR (x.get f))++(b.take (k+1)).map (fun x=>encR (x.get f))=(a.map (fun x=>encR (x.get f))++(b.take k).map (fun x=>encR (x.get f)))++[.agg [.v (.int .u32 (x.get f).lo),.v (.int .u32 (x.get f).hi)]]:=by
    rw[bI,hx,aQ,cN];rfl
   rcases f with _|_|_|_|_|f
   case succ.succ.succ.succ.succ=>omega
   all_goals
    (repeat' ((conv=>whnf);first|(with_reducible first|refine hU hkl ?_|refine hJ hx ?_)|(refine in_c zd ?_)|refine zG ?_|apply zA|intro h|exact zT));all_goals conv=>whnf
    refine⟨k+1,by omega,by omega,?_⟩;rw[hs];exact leA
  ·rw[aY hkl]at hlen⊢;(repeat' ((conv=>whnf);first|refine zG ?_|apply zA|intro h|exact zT));all_goals conv=>whnf
   have e:a.map (fun x=>encR (x.get f))++b.map (fun x=>encR (x.get f))=(rngs f a b).map encR:=by
    rw[rngs,aQ,List.map_map,List.map_map];rfl
   rw[e];exact hK
def opI(c:Int)(x y:Bool):Bool:=if c=0 then x||y else if c=1 then x&&y else if c=2 then x&& !y else !(x==y)
def noneI(c:Int)(x y:Bool):Bool:=if c=1 then !x|| !y else if c=2 then !x else !x&& !y
theorem cr4Hold(c:Int)(x y:Bool){K:KT}(hK:K (.sb (opI c x y)) []):AC 246 [.v (.int .i64 c),.sb x,.sb y] [] K:=by
 refine gO (ofr4Hold rfl rfl ?_);(repeat' ((conv=>whnf);first|refine zG ?_|apply zA|intro h|exact zT));all_goals conv=>whnf
 all_goals
  unfold opI at hK;first
   |exact fin_s hK (by cases x<;>cases y<;>simp_all)
   |exact fin_t hK (by cases x<;>cases y<;>simp_all)
   |exact fin_f hK (by cases x<;>cases y<;>simp_all)
theorem cr4None(c:Int)(x y:Bool){K:KT}(hK:K (.sb (noneI c x y)) []):AC 247 [.v (.int .i64 c),.sb x,.sb y] [] K:=by
 refine gO (ofr4None rfl rfl ?_);(repeat' ((conv=>whnf);first|refine zG ?_|apply zA|intro h|exact zT));all_goals conv=>whnf
 all_goals
  unfold noneI at hK;first
   |exact fin_s hK (by cases x<;>cases y<;>simp_all)
   |exact fin_t hK (by cases x<;>cases y<;>simp_all)
   |exact fin_f hK (by cases x<;>cases y<;>simp_all)
theorem none_dead{c:Int}{x y:Bool}(h:noneI c x y=true):Dead (opI c) x y:=by
 unfold noneI at h;intro p q hp hq;unfold opI;by_cases h0:c=0
 ·subst h0;cases x<;>cases y<;>cases p<;>cases q<;>simp_all
 ·by_cases h1:c=1
  ·subst h1;cases x<;>cases y<;>cases p<;>cases q<;>simp_all
  ·by_cases h2:c=2
   ·subst h2;cases x<;>cases y<;>cases p<;>cases q<;>simp_all
   ·rw[aD h1,aD h2]at h;rw[aD h0,aD h1,aD h2];cases x<;>cases y<;>cases p<;>cases q<;>simp_all
theorem topI_nat{f:Nat}(h:f<=4):topI (f:Int)=topF f:=by
 rcases f with _|_|_|_|_|f
 all_goals first|rfl|omega
theorem GInv.last_some{R:Int->List Bx}{gs:List (Grp (List Bx))}{s:Int}(h:GInv R gs s)(hs:1<=s)(hne:R (s-1)≠[]):∃ini g,gs=ini++[g]/\g.val=R (s-1)/\g.hi+1=s:=by
 have hat:=h.at_ (s-1);rw[aG zo,lab,aD (fun e=>hne (eZ.1 e))]at hat;obtain⟨g,hg,g1,g2,g3⟩:=gAt_some hat;have hlow:=h.low g hg;rcases cQ gs with hn|⟨ini,g',hc⟩
 ·subst hn;simp at hg
 ·rw[cR]at hc;subst hc;refine⟨ini,g',rfl,?_⟩;rcases aX.1 hg with hm|hm
  ·have h1:=Wf.under h.wf g hm;have h2:=h.low g' zx;have h3:=h.wf.le g' zx;omega
  ·simp only[aV]at hm;subst hm;exact⟨g3,by omega⟩
theorem grow_nil{gs:List (Grp (List Bx))}{s:Int×Int}:grow eqB gs s []=gs:=rfl
theorem grow_join{ini:List (Grp (List Bx))}{g:Grp (List Bx)}{s to:Int}{rest:List Bx}(hne:rest≠[])(hv:g.val=rest)(hh:g.hi+1=s):grow eqB (ini++[g]) (s,to) rest=ini++[⟨g.lo,to,rest⟩]:=by
 unfold grow;rw[aD (fun e=>hne (eZ.1 e))];simp only[cU,cE,dO,dG];rw[aG ⟨hh,(eqB_iff _ _).2 hv⟩,hv]
theorem grow_push{R:Int->List Bx}{gs:List (Grp (List Bx))}{s to:Int}{rest:List Bx}(h:GInv R gs s)(hne:rest≠[])(hd:s=0\/R (s-1)≠rest):grow eqB gs (s,to) rest=gs++[⟨s,to,rest⟩]:=by
 unfold grow;rw[aD (fun e=>hne (eZ.1 e))];rcases cQ gs with hn|⟨ini,g,hc⟩
 ·subst hn;rfl
 ·rw[cR]at hc;subst hc;simp only[cU,cE,dO,dG];rw[aD]
  rintro⟨h1,h2⟩
  have h2:=(eqB_iff _ _).1 h2;have hl:=h.low g zx;have hle:=h.wf.le g zx;rcases hd with hd|hd
  ·omega
  ·have hat:=h.wf.at_mem (g:=g) zx (v:=s-1) zo zo;rw[h.at_,aG zo,lab]at hat;split at hat
   ·cases hat
   ·exact hd ((bE hat).trans h2)
theorem flatG_snoc{f:Nat}{ini:List (Grp (List Bx))}{g:Grp (List Bx)}:flatG f (ini++[g])=flatG f ini++g.val.map fun b=>b.put f (mkR g.lo g.hi):=by
 rw[flatG,dZ];simp[flatG]
def gsAt(R:Int->List Bx)(top:Int)(st:List Int)(i:Nat):List (Grp (List Bx)):=((segs top st).take i).foldl (fun out s=>grow eqB out s (R s.1)) []
def segTo(top:Int)(st:List Int)(i:Nat):Int:=match st[i+1]? with
 |some y=>y-1
 |none=>top
theorem segs_at{top:Int}{st:List Int}{i:Nat}{x:Int}(h:st[i]? =some x):(segs top st)[i]? =some (x,segTo top st i):=segs_get top st i x h
theorem gsAt_succ{R:Int->List Bx}{top:Int}{st:List Int}{i:Nat}{x:Int}(h:st[i]? =some x):gsAt R top st (i+1)=grow eqB (gsAt R top st i) (x,segTo top st i) (R x):=by
 rw[gsAt,foldl_succ (segs_at h)];rfl
theorem gsAt_all{R:Int->List Bx}{top:Int}{st:List Int}{i:Nat}(h:st.length<=i):gsAt R top st i=groupsOf R top st:=by
 rw[gsAt,aY (by rw[segs_length];exact h)];rfl
theorem gsAt_ginv{R:Int->List Bx}{top:Int}{l:List Rg}{st:List Int}(hc:Cuts top l st)(hR:∀u v,(∀r,r∈l->((r.lo<=u/\u<=r.hi)↔(r.lo<=v/\v<=r.hi)))->R u=R v):∀(i:Nat) (x:Int),st[i]? =some x->GInv R (gsAt R top st i) x
 |0,x,h=>by
  obtain⟨r,hr⟩:=hc.zero;rw[hr]at h;simp at h;subst h;exact GInv.start R
 |i+1,x,h=>by
  have hi:=(aP.1 h).1;obtain⟨y,hy⟩:∃y,st[i]? =some y:=⟨_,aE zo⟩
  have ih:=gsAt_ginv hc hR i y hy;have hseg:=aI (segs_at (top:=top) hy);have hto:segTo top st i=x-1:=by rw[segTo,h]
  have hyx:y<x:=by
   have:=cV.1 hc.sorted i (i+1) zo hi zo;rw[aE zo]at hy h;have e1:=bE hy;have e2:=bE h;omega
  have hy0:=(hc.range y (aI hy)).1;rw[hto]at hseg;have hst:=ih.step eqB_iff (hi:=x-1) hy0 zo (fun v v1 v2=>hR v y fun r hr=>hc.const hseg v1 v2 hr);rw[show x-1+1=x by omega]at hst;rw[gsAt_succ hy,hto];exact hst
theorem prev_same{R:Int->List Bx}{top:Int}{l:List Rg}{st:List Int}(hc:Cuts top l st)(hR:∀u v,(∀r,r∈l->((r.lo<=u/\u<=r.hi)↔(r.lo<=v/\v<=r.hi)))->R u=R v){i:Nat}{x y:Int}(hx:st[i]? =some x)(hy:st[i+1]? =some y):R (y-1)=R x/\x<=y-1:=by
 have hi:=(aP.1 hy).1;have hseg:=aI (segs_at (top:=top) hx);have hto:segTo top st i=y-1:=by rw[segTo,hy]
 have hxy:x<y:=by
  have:=cV.1 hc.sorted i (i+1) zo hi zo;rw[aE zo]at hx hy;have e1:=bE hx;have e2:=bE hy;omega
 rw[hto]at hseg;exact⟨hR _ _ fun r hr=>hc.const hseg zs (cI _) hr,by omega⟩
theorem gsAt_size{R:Int->List Bx}{top:Int}{st:List Int}(i:Nat):sizeG (gsAt R top st i)<=sizeG (groupsOf R top st):=by
 have e:groupsOf R top st=((segs top st).drop i).foldl (fun out s=>grow eqB out s (R s.1)) (gsAt R top st i):=by
  rw[groupsOf,gsAt,<-List.foldl_append,cO]
 rw[e];exact fold_size R _ _
theorem rest_size{R:Int->List Bx}{top:Int}{st:List Int}{i:Nat}{x:Int}(h:st[i]? =some x):(R x).length<=sizeG (groupsOf R top st):=by
 have h1:=(grow_size (gsAt R top st i) (x,segTo top st i) (R x)).2;rw[<-gsAt_succ h]at h1;exact aZ h1 (gsAt_size _)
theorem segTo_range{top:Int}{l:List Rg}{st:List Int}(hc:Cuts top l st){i:Nat}{x:Int}(hx:st[i]? =some x):x<=segTo top st i/\segTo top st i<=top/\0<=x:=by
 have hr:=hc.range x (aI hx);unfold segTo;cases hy:st[i+1]? with
 |none=>simp only;omega
 |some y=>
  have hi:=(aP.1 hy).1;have:=cV.1 hc.sorted i (i+1) zo hi zo;have hry:=hc.range y (aI hy);rw[aE zo]at hx hy;have e1:=bE hx;have e2:=bE hy;simp only;omega
end Go.Proofs.YtnomkooikbhgmaaGreatDoor
