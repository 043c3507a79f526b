/- Packet sets: when a list of boxes is a canonical form. -/
import Derived.ChangeKeysEq
import Derived.Test.YtbdikofefjljoaaGreatDoorM10
set_option linter.unusedVariables false
set_option linter.unusedSimpArgs false
set_option maxRecDepth 100000
set_option maxHeartbeats 4000000
namespace Go.Proofs.YtbdikofefjljoaaGreatDoor
open Go Go.Vm
theorem mkR_self(r:Rg):mkR r.lo r.hi=r:=by
 unfold mkR
 rw[dif_pos ⟨r.l0,r.l1,r.h0,r.h1⟩]
def zeroTo(k:Nat)(b:Bx):Bx:=⟨if 5<=k then b.r0 else zR,if 4<=k then b.r1 else zR,if 3<=k then b.r2 else zR,if 2<=k then b.r3 else zR,if 1<=k then b.r4 else zR⟩
theorem zeroTo_get{k:Nat}{b:Bx}{f:Nat}(hf:f<=4):(zeroTo k b).get f=if 5<=f+k then b.get f else zR:=by
 rcases f with _|_|_|_|_|f
 ·simp only[Bx.get,zeroTo,bL]
 ·simp only[Bx.get,zeroTo];congr 1;apply propext;omega
 ·simp only[Bx.get,zeroTo];congr 1;apply propext;omega
 ·simp only[Bx.get,zeroTo];congr 1;apply propext;omega
 ·simp only[Bx.get,zeroTo];congr 1;apply propext;omega
 ·omega
theorem zeroTo_put{k:Nat}{b:Bx}(hk:k<=4):(zeroTo k b).put (4-k) (b.get (4-k))=zeroTo (k+1) b:=by
 refine bx_ext fun f hf=>?_
 by_cases e:f=4-k
 ·subst e
  rw[get_put zo,zeroTo_get zo,aG zo]
 ·rw[get_put_ne zo hf e,zeroTo_get hf,zeroTo_get hf]
  by_cases h5:5<=f+k
  ·rw[aG h5,aG zo]
  ·rw[aE h5,aE zo]
theorem put_zeroTo{k:Nat}{b:Bx}(hk:k<=4):(zeroTo (k+1) b).put (4-k) zR=zeroTo k b:=by
 refine bx_ext fun f hf=>?_
 by_cases e:f=4-k
 ·subst e
  rw[get_put zo,zeroTo_get zo,aE zo]
 ·rw[get_put_ne zo hf e,zeroTo_get hf,zeroTo_get hf]
  by_cases h5:5<=f+k
  ·rw[aG h5,aG zo]
  ·rw[aE h5,aE zo]
theorem zeroTo_five(b:Bx):zeroTo 5 b=b:=rfl
theorem okK_zero{k:Nat}{b:Bx}(hk:k<=4)(h:okK k b):b.put (4-k) zR=b:=by
 have:=okK_get zo h (4-k) zo
 rw[aE zo]at this
 rw[<-this,put_get]
def runsF(f:Nat):List Bx->List (List Bx)
 |[]=>[]
 |x::l=>match runsF f l with
  |[]=>[[x]]
  |[]::rs=>[x]::rs
  |(y::r)::rs=>if y.get f=x.get f then(x::y::r)::rs else [x]::(y::r)::rs
def rgOf(f:Nat)(p:List Bx):Rg:=match p with
 |x::_=>x.get f
 |[]=>zR
inductive Parts (f:Nat):List (List Bx)->Prop
 |nil:Parts f []
 |one (p:List Bx) (h1:p≠[]) (h2:∀x,x∈p->x.get f=rgOf f p):Parts f [p]
 |cons (p q:List Bx) (ps:List (List Bx)) (h1:p≠[]) (h2:∀x,x∈p->x.get f=rgOf f p) (h3:rgOf f p≠rgOf f q) (hw:Parts f (q::ps)):Parts f (p::q::ps)
theorem Parts.tail{f:Nat}{p:List Bx}{ps:List (List Bx)}(h:Parts f (p::ps)):Parts f ps:=by
 cases h with
 |one=>exact .nil
 |cons _ _ _ _ _ _ hw=>exact hw
theorem Parts.head{f:Nat}{p:List Bx}{ps:List (List Bx)}(h:Parts f (p::ps)):p≠[]/\∀x,x∈p->x.get f=rgOf f p:=by
 cases h with
 |one _ h1 h2=>exact⟨h1,h2⟩
 |cons _ _ _ h1 h2 _ _=>exact⟨h1,h2⟩
theorem Parts.mem{f:Nat}:∀{ps:List (List Bx)},Parts f ps->∀p,p∈ps->p≠[]/\∀x,x∈p->x.get f=rgOf f p
 |[],_,p,hp=>by simp at hp
 |q::ps,h,p,hp=>by
  rcases aW.1 hp with rfl|hp
  ·exact h.head
  ·exact Parts.mem h.tail p hp
theorem runs_flat(f:Nat):∀l:List Bx,(runsF f l).flatten=l
 |[]=>rfl
 |x::l=>by
  have ih:=runs_flat f l
  rw[runsF]
  split
  ·rename_i h;rw[h]at ih;rw[<-ih];rfl
  ·rename_i rs h;rw[h]at ih;rw[<-ih];rfl
  ·rename_i y r rs h
   rw[h]at ih
   split
   ·rw[<-ih];rfl
   ·rw[<-ih];rfl
theorem runs_parts(f:Nat):∀l:List Bx,Parts f (runsF f l)
 |[]=>.nil
 |x::l=>by
  have ih:=runs_parts f l
  rw[runsF]
  split
  ·exact .one _ zx (fun y hy=>by simp only[aR]at hy;subst hy;rfl)
  ·rename_i rs h;rw[h]at ih;exact absurd rfl ih.head.1
  ·rename_i y r rs h
   rw[h]at ih
   have hh:=ih.head.2
   split
   ·rename_i e
    have hx:∀z,z∈x::y::r->z.get f=rgOf f (x::y::r):=fun z hz=>by
     rcases aW.1 hz with rfl|hz
     ·rfl
     ·rw[hh z hz];exact e
    cases rs with
    |nil=>exact .one _ zx hx
    |cons q ps=>
     cases ih with
     |cons _ _ _ h1 h2 h3 hw=>exact .cons _ _ _ zx hx (by rw[show rgOf f (x::y::r)=rgOf f (y::r)from e.symm];exact h3) hw
   ·rename_i e
    exact .cons _ _ _ zx (fun z hz=>by simp only[aR]at hz;subst hz;rfl) (fun e2=>e e2.symm) ih
theorem runs_of{f:Nat}:∀{ps:List (List Bx)},Parts f ps->runsF f ps.flatten=ps
 |[],_=>rfl
 |p::ps,h=>by
  have ih:=runs_of h.tail
  obtain⟨h1,h2⟩:=h.head
  have hd:∀q qs,ps=q::qs->rgOf f p≠rgOf f q:=fun q qs e=>by
   subst e
   cases h with
   |cons _ _ _ _ _ h3 _=>exact h3
  have hq:∀q qs,ps=q::qs->q≠[]:=fun q qs e=>by subst e;exact h.tail.head.1
  have go:∀(p:List Bx),p≠[]->(∀x,x∈p->x.get f=rgOf f p)->(∀q qs,ps=q::qs->rgOf f p≠rgOf f q)->runsF f (p++ps.flatten)=p::ps:=by
   intro p
   induction p with
   |nil=>intro h;exact absurd rfl h
   |cons x p ih2=>
    intro _ hc hn
    rw[List.cons_append,runsF]
    cases p with
    |nil=>
     rw[cZ,ih]
     cases ps with
     |nil=>rfl
     |cons q qs=>
      cases q with
      |nil=>exact absurd rfl (hq _ _ rfl)
      |cons y r=>
       have:=hn _ _ rfl
       simp only
       rw[aE (fun e=>this (by simp only[rgOf];exact e.symm))]
    |cons y p=>
     have e:y.get f=x.get f:=hc y zx
     rw[ih2 zx (fun z hz=>by rw[hc z (bA _ hz)];exact e.symm) (fun q qs e2=>by
      have:=hn q qs e2
      intro e3
      exact this (by rw[<-e3];exact e.symm))]
     simp only
     rw[aG e]
  rw[eI]
  exact go p h1 h2 hd
def alikeB(f:Nat)(x y:Bx):Bool:=(List.range 5).all fun i=>decide (i<f)||decide (x.get i=y.get i)
def alike(f:Nat)(a b:List Bx):Bool:=a.length==b.length&&(a.zip b).all fun q=>alikeB f q.1 q.2
theorem alikeB_iff{k:Nat}{x y:Bx}:alikeB (5-k) x y=true↔zeroTo k x=zeroTo k y:=by
 unfold alikeB
 rw[bX]
 constructor
 ·intro h
  refine bx_ext fun f hf=>?_
  rw[zeroTo_get hf,zeroTo_get hf]
  by_cases h5:5<=f+k
  ·rw[aG h5,aG h5]
   have:=h f (dJ.2 zo)
   rw[bV,aK,aK]at this
   rcases this with h1|h1
   ·omega
   ·exact h1
  ·rw[aE h5,aE h5]
 ·intro h i hi
  have hi:=dJ.1 hi
  rw[bV,aK,aK]
  by_cases h5:5<=i+k
  ·right
   have:(zeroTo k x).get i=(zeroTo k y).get i:=by rw[h]
   rw[zeroTo_get zo,zeroTo_get zo,aG h5,aG h5]at this
   exact this
  ·left;omega
theorem alike_iff{k:Nat}:∀{a b:List Bx},alike (5-k) a b=true↔a.map (zeroTo k)=b.map (zeroTo k)
 |[],[]=>by simp[alike]
 |[],y::b=>by simp[alike]
 |x::a,[]=>by simp[alike]
 |x::a,y::b=>by
  have ih:=alike_iff (k:=k) (a:=a) (b:=b)
  rw[alike,aI]at ih⊢
  rw[List.zip_cons_cons,List.all_cons,aI,aU,aU,List.cons.injEq,<-ih,alikeB_iff]
  simp only[aJ,beq_iff_eq,Nat.add_right_cancel_iff]
  constructor
  ·rintro⟨h1,h2,h3⟩;exact⟨h2,h1,h3⟩
  ·rintro⟨h2,h1,h3⟩;exact⟨h1,h2,h3⟩
def joinB(f:Nat)(p q:List Bx):Bool:= !p.isEmpty&&(decide ((rgOf f q).lo<=(rgOf f p).hi)||(decide ((rgOf f q).lo=(rgOf f p).hi+1)&&alike (f+1) p q))
def chkR(can:List Bx->Bool)(f:Nat):List Bx->List (List Bx)->Bool
 |_,[]=>true
 |last,p::ps=> !joinB f last p&&can p&&chkR can f p ps
def canB:Nat->List Bx->Bool
 |0,l=>l.length==1
 |k+1,l=>chkR (canB k) (4-k) [] (runsF (4-k) l)
def grpOf(k:Nat)(p:List Bx):Grp (List Bx):=⟨(rgOf (4-k) p).lo,(rgOf (4-k) p).hi,p.map (zeroTo k)⟩
theorem joinB_iff{k:Nat}(hk:k<=4){p q:List Bx}(hp:p≠[]):joinB (4-k) p q=false↔(grpOf k p).hi<(grpOf k q).lo/\((grpOf k p).hi+1=(grpOf k q).lo->(grpOf k p).val≠(grpOf k q).val):=by
 have he:p.isEmpty=false:=by cases p with
  |nil=>exact absurd rfl hp
  |cons=>rfl
 have e5:4-k+1=5-k:=by omega
 rw[cA,ne_eq,joinB,he,e5]
 simp only[fF,fC,bV,aI,aK,alike_iff,grpOf]
 constructor
 ·intro h
  exact⟨by omega,fun e1 e2=>h (.inr ⟨e1.symm,e2⟩)⟩
 ·rintro⟨h1,h2⟩ (h|⟨h3,h4⟩)
  ·omega
  ·exact h2 h3.symm h4
theorem chk_iff{can:List Bx->Bool}{k:Nat}(hk:k<=4):∀{ps:List (List Bx)} {last:List Bx},last≠[]->(rgOf (4-k) last).lo<=(rgOf (4-k) last).hi->(∀p,p∈ps->p≠[]/\(rgOf (4-k) p).lo<=(rgOf (4-k) p).hi)->
  (chkR can (4-k) last ps=true↔Wf ((last::ps).map (grpOf k))/\∀p,p∈ps->can p=true)
 |[],last,hl,hle,_=>by
  simp only[chkR,aU,bF,dI,false_implies,implies_true,and_true,true_iff]
  exact .one _ hle
 |p::ps,last,hl,hle,h=>by
  obtain⟨hp,hple⟩:=h p zx
  have ih:=chk_iff (can:=can) hk (ps:=ps) hp hple fun q hq=>h q (bA _ hq)
  rw[chkR,aI,aI,ih,eH,joinB_iff hk hl]
  constructor
  ·rintro⟨⟨h1,h2⟩,h3,h4⟩
   refine⟨.cons _ _ _ hle h1.1 h1.2 h3,fun q hq=>?_⟩
   rcases aW.1 hq with rfl|hq
   ·exact h2
   ·exact h4 q hq
  ·rintro⟨h1,h2⟩
   cases h1 with
   |cons _ _ _ g1 g2 g3 hw=>exact⟨⟨⟨g2,g3⟩,h2 p zx⟩,hw,fun q hq=>h2 q (bA _ hq)⟩
theorem chk_start{can:List Bx->Bool}{k:Nat}(hk:k<=4){ps:List (List Bx)}(h:∀p,p∈ps->p≠[]/\(rgOf (4-k) p).lo<=(rgOf (4-k) p).hi):
  chkR can (4-k) [] ps=true↔Wf (ps.map (grpOf k))/\∀p,p∈ps->can p=true:=by
 cases ps with
 |nil=>simp only[chkR,bF,dI,false_implies,implies_true,and_true,true_iff];exact .nil
 |cons p ps=>
  obtain⟨hp,hple⟩:=h p zx
  rw[chkR,aI,aI,chk_iff hk hp hple fun q hq=>h q (bA _ hq)]
  constructor
  ·rintro⟨⟨_,h2⟩,h3,h4⟩
   refine⟨h3,fun q hq=>?_⟩
   rcases aW.1 hq with rfl|hq
   ·exact h2
   ·exact h4 q hq
  ·rintro⟨h1,h2⟩
   exact⟨⟨rfl,h2 p zx⟩,h1,fun q hq=>h2 q (bA _ hq)⟩
theorem at_part{k:Nat}(hk:k<=4):∀{ps:List (List Bx)},Parts (4-k) ps->Wf (ps.map (grpOf k))->∀{v:Int} {p:List Bx},p∈ps->(rgOf (4-k) p).lo<=v->v<=(rgOf (4-k) p).hi->atF (4-k) v ps.flatten=p
 |[],_,_,v,p,hp,_,_=>by simp at hp
 |q::ps,hP,hw,v,p,hp,h1,h2=>by
  have filt:∀r,r∈q::ps->atF (4-k) v r=if(rgOf (4-k) r).lo<=v/\v<=(rgOf (4-k) r).hi then r else []:=fun r hr=>by
   have hc:=(hP.mem r hr).2
   split
   ·rename_i hin
    refine dV.2 fun x hx=>?_
    rw[hc x hx,decide_eq_true hin.1,decide_eq_true hin.2];rfl
   ·rename_i hin
    refine List.filter_eq_nil_iff.2 fun x hx=>?_
    rw[hc x hx,aI,aK,aK];exact hin
  have happ:atF (4-k) v (q::ps).flatten=atF (4-k) v q++atF (4-k) v ps.flatten:=by
   rw[eI,atF,dB];rfl
  rw[happ]
  have hab:∀r,r∈ps->(rgOf (4-k) q).hi<(rgOf (4-k) r).lo:=fun r hr=>(Wf.above (l:=ps.map (grpOf k)) hw (grpOf k r) (fQ hr)).1
  have nil_of:∀{rs:List (List Bx)},(∀r,r∈rs->r∈q::ps)->(∀r,r∈rs->v<(rgOf (4-k) r).lo)->atF (4-k) v rs.flatten=[]:=by
   intro rs
   induction rs with
   |nil=>intro _ _;rfl
   |cons r rs ih=>
    intro hm hv
    rw[eI,atF,dB]
    have e1:=filt r (hm r zx)
    rw[aE (by have:=hv r zx;omega)]at e1
    have e2:=ih (fun x hx=>hm x (bA _ hx)) (fun x hx=>hv x (bA _ hx))
    rw[atF]at e1 e2
    rw[e1,e2];rfl
  rcases aW.1 hp with rfl|hp
  ·rw[filt p zx,aG ⟨h1,h2⟩,nil_of (fun r hr=>bA _ hr) (fun r hr=>by have:=hab r hr;omega),bD]
  ·have:=hab p hp
   rw[filt q zx,aE zo,cZ]
   exact at_part hk hP.tail hw.tail hp h1 h2
theorem at_nopart{k:Nat}{v:Int}:∀{ps:List (List Bx)},Parts (4-k) ps->(∀p,p∈ps->¬((rgOf (4-k) p).lo<=v/\v<=(rgOf (4-k) p).hi))->atF (4-k) v ps.flatten=[]
 |[],_,_=>rfl
 |q::ps,hP,h=>by
  rw[eI,atF,dB]
  have e1:q.filter (fun b=>decide ((b.get (4-k)).lo<=v)&&decide (v<=(b.get (4-k)).hi))=[]:=List.filter_eq_nil_iff.2 fun x hx=>by
   rw[hP.head.2 x hx,aI,aK,aK];exact h q zx
  have e2:=at_nopart hP.tail fun p hp=>h p (bA _ hp)
  rw[atF]at e2
  rw[e1,e2];rfl
def orB(x y:Bool):Bool:=x||y
theorem cano_nils(op:Bool->Bool->Bool)(h:op false false=false)(k:Nat):cano op k [] []=[]:=cano_dead op k [] [] fun p q hp hq=>by
 have h1:p=false:=by cases p with
  |false=>rfl
  |true=>exact absurd (hp rfl) zx
 have h2:q=false:=by cases q with
  |false=>rfl
  |true=>exact absurd (hq rfl) zx
 rw[h1,h2,h]
theorem flatG_parts{k:Nat}(hk:k<=4):∀{ps:List (List Bx)},Parts (4-k) ps->flatG (4-k) (ps.map (grpOf k))=ps.flatten.map (zeroTo (k+1))
 |[],_=>rfl
 |p::ps,h=>by
  have ih:=flatG_parts hk h.tail
  have e:flatG (4-k) ((p::ps).map (grpOf k))=(p.map (zeroTo k)).map (fun b=>b.put (4-k) (mkR (rgOf (4-k) p).lo (rgOf (4-k) p).hi))++flatG (4-k) (ps.map (grpOf k)):=by
   simp only[flatG,aU,cR,grpOf]
  rw[e,ih,eI,aQ,mkR_self,List.map_map]
  congr 1
  refine dY fun x hx=>?_
  simp only[Function.comp]
  rw[<-h.head.2 x hx,zeroTo_put hk]
theorem canB_iff:∀(k:Nat) (l:List Bx),k<=5->(∀x,x∈l->∀f,f<=4->5<=f+k->(x.get f).lo<=(x.get f).hi/\(x.get f).hi<=topF f)->(k=0->l≠[])->(canB k l=true↔cano orB k l []=l.map (zeroTo k))
 |0,l,_,_,hne=>by
  have hne:=hne rfl
  rw[canB,cano]
  cases l with
  |nil=>exact absurd rfl hne
  |cons x l=>
   simp only[List.isEmpty_cons,fF,List.isEmpty_nil,fS,orB,Bool.or_false,if_true]
   cases l with
   |nil=>simp only[aJ,aO,beq_self_eq_true,aU,bF,true_iff];rfl
   |cons y l=>simp
 |k+1,l,hk,hv,_=>by
  have hP:=runs_parts (4-k) l
  have hfl:=runs_flat (4-k) l
  have hmem:∀p,p∈runsF (4-k) l->∀x,x∈p->x∈l:=fun p hp x hx=>by rw[<-hfl];exact List.mem_flatten.2 ⟨p,hp,hx⟩
  have hrg:∀p,p∈runsF (4-k) l->(rgOf (4-k) p).lo<=(rgOf (4-k) p).hi/\(rgOf (4-k) p).hi<=topF (4-k):=fun p hp=>by
   obtain⟨h1,h2⟩:=hP.mem p hp
   cases p with
   |nil=>exact absurd rfl h1
   |cons x p=>exact hv x (hmem _ hp x zx) (4-k) zo zo
  have hvp:∀p,p∈runsF (4-k) l->∀x,x∈p->∀f,f<=4->5<=f+k->(x.get f).lo<=(x.get f).hi/\(x.get f).hi<=topF f:=fun p hp x hx f hf h5=>hv x (hmem p hp x hx) f hf zo
  have g:=cano_wf orB k l []
  rw[canB,chk_start zo fun p hp=>⟨(hP.mem p hp).1,(hrg p hp).1⟩,cano_succ]
  generalize runsF (4-k) l=ps at*
  constructor
  ·rintro⟨hw,hc⟩
   have g2:GInv (restAt orB k l []) (ps.map (grpOf k)) (topF (4-k)+1):=by
    refine⟨hw,fun v=>?_,fun x hx=>?_,fun x hx=>?_⟩
    ·by_cases hin:∃p,p∈ps/\(rgOf (4-k) p).lo<=v/\v<=(rgOf (4-k) p).hi
     ·obtain⟨p,hp,p1,p2⟩:=hin
      have hb:=hrg p hp
      have hl0:=(rgOf (4-k) p).l0
      rw[hw.at_mem (g:=grpOf k p) (fQ hp) p1 p2,aG zo,lab,restAt,<-hfl,at_part zo hP hw hp p1 p2]
      have hI:=(canB_iff k p zo (hvp p hp) (fun _=>(hP.mem p hp).1)).1 (hc p hp)
      have hnil:atF (4-k) v []=[]:=rfl
      rw[hnil,hI]
      cases p with
      |nil=>exact absurd rfl (hP.mem _ hp).1
      |cons x p=>rfl
     ·have hno:∀p,p∈ps->¬((rgOf (4-k) p).lo<=v/\v<=(rgOf (4-k) p).hi):=fun p hp hh=>hin ⟨p,hp,hh⟩
      have e1:gAt (ps.map (grpOf k)) v=none:=gAt_none fun x hx=>by
       obtain⟨p,hp,rfl⟩:=bU.1 hx
       have:=hno p hp
       simp only[grpOf];omega
      have e2:restAt orB k l [] v=[]:=by
       rw[restAt,<-hfl,at_nopart hP hno]
       exact cano_nils orB rfl k
      rw[e1,lab,e2]
      split<;>rfl
    ·obtain⟨p,hp,rfl⟩:=bU.1 hx
     have:=hrg p hp
     have hl0:=(rgOf (4-k) p).l0
     simp only[grpOf];omega
    ·obtain⟨p,hp,rfl⟩:=bU.1 hx
     simp only[grpOf,ne_eq,List.map_eq_nil_iff]
     exact(hP.mem p hp).1
   rw[g.same g2,flatG_parts zo hP,hfl]
  ·intro he
   generalize groupsOf (restAt orB k l []) (topF (4-k)) (starts (rngs (4-k) l []) (topF (4-k)))=G at g he
   have hb:=topF_pos (4-k)
   -- the parts that the groups are
   have hGok:∀x,x∈G->∀y,y∈x.val->y.put (4-k) zR=y:=fun x hx y hy=>by
    have hl:=g.low x hx
    have hle:x.lo<=x.hi:=g.wf.le x hx
    have hat:=g.wf.at_mem hx (cF x.lo) hle
    rw[g.at_,aG ⟨hl.1,by omega⟩,lab]at hat
    split at hat
    ·cases hat
    ·have hval:=bH hat
     rw[<-hval]at hy
     exact okK_zero zo (cano_ok orB k _ _ zo y hy)
   have hpg:∀(G:List (Grp (List Bx))),Wf G->(∀x,x∈G->x.val≠[]/\0<=x.lo/\x.hi<=4294967295)->Parts (4-k) (G.map fun x=>x.val.map fun b=>b.put (4-k) (mkR x.lo x.hi)):=by
    intro G
    have rgv:∀x:Grp (List Bx),x.val≠[]->rgOf (4-k) (x.val.map fun b=>b.put (4-k) (mkR x.lo x.hi))=mkR x.lo x.hi:=fun x hx=>by
     cases hval:x.val with
     |nil=>exact absurd hval hx
     |cons b l=>exact get_put zo
    have cst:∀x:Grp (List Bx),x.val≠[]->∀y,y∈(x.val.map fun b=>b.put (4-k) (mkR x.lo x.hi))->y.get (4-k)=rgOf (4-k) (x.val.map fun b=>b.put (4-k) (mkR x.lo x.hi)):=fun x hx y hy=>by
     obtain⟨b,_,rfl⟩:=bU.1 hy
     rw[rgv x hx,get_put zo]
    induction G with
    |nil=>intro _ _;exact .nil
    |cons x G ih=>
     intro hw hx
     have hx1:=hx x zx
     have ih:=ih hw.tail fun y hy=>hx y (bA _ hy)
     cases G with
     |nil=>exact .one _ (by simpa using hx1.1) (cst x hx1.1)
     |cons y G=>
      have hy1:=hx y zx
      refine .cons _ _ _ (by simpa using hx1.1) (cst x hx1.1) ?_ ih
      rw[rgv x hx1.1,rgv y hy1.1]
      have h1:=hw.head
      have h2:=hw.tail.head
      have h3:=hw.above y zx
      intro e
      have:=congrArg Rg.lo e
      rw[mkR_lo zo zo zo zo,mkR_lo zo zo zo zo]at this
      omega
   have hGP:=hpg G g.wf fun x hx=>⟨g.full x hx,(g.low x hx).1,by have:=g.low x hx;omega⟩
   have hr1:=runs_of hGP
   have hfG:(G.map fun x=>x.val.map fun b=>b.put (4-k) (mkR x.lo x.hi)).flatten=flatG (4-k) G:=by rw[flatG,List.flatMap]
   rw[hfG,he]at hr1
   have hmapP:Parts (4-k) (ps.map fun p=>p.map (zeroTo (k+1))):=by
    have hget:∀x:Bx,(zeroTo (k+1) x).get (4-k)=x.get (4-k):=fun x=>by rw[zeroTo_get zo,aG zo]
    have hro:∀p:List Bx,p≠[]->rgOf (4-k) (p.map (zeroTo (k+1)))=rgOf (4-k) p:=fun p hp=>by
     cases p with
     |nil=>exact absurd rfl hp
     |cons x p=>exact hget x
    have hcst:∀p:List Bx,p≠[]->(∀x,x∈p->x.get (4-k)=rgOf (4-k) p)->∀y,y∈p.map (zeroTo (k+1))->y.get (4-k)=rgOf (4-k) (p.map (zeroTo (k+1))):=fun p hp hc y hy=>by
     obtain⟨x,hx,rfl⟩:=bU.1 hy
     rw[hget,hro p hp,hc x hx]
    have go:∀{qs:List (List Bx)},Parts (4-k) qs->Parts (4-k) (qs.map fun p=>p.map (zeroTo (k+1))):=by
     intro qs hq
     induction hq with
     |nil=>exact .nil
     |one p h1 h2=>exact .one _ (by simpa using h1) (hcst p h1 h2)
     |cons p q qs h1 h2 h3 hw ih=>exact .cons _ _ _ (by simpa using h1) (hcst p h1 h2) (by rw[hro p h1,hro q hw.head.1];exact h3) ih
    exact go hP
   have hr2:=runs_of hmapP
   have hfl2:(ps.map fun p=>p.map (zeroTo (k+1))).flatten=l.map (zeroTo (k+1)):=by rw[<-hfl,List.map_flatten]
   rw[hfl2,hr1]at hr2
   -- so the groups are those of the parts
   have hgrp:ps.map (grpOf k)=G:=by
    have e:∀(ps:List (List Bx)) (G:List (Grp (List Bx))),(∀p,p∈ps->p≠[])->(∀x,x∈G->(x.val≠[]/\0<=x.lo/\x.lo<=4294967295/\0<=x.hi/\x.hi<=4294967295)/\∀y,y∈x.val->y.put (4-k) zR=y)->
      (G.map fun x=>x.val.map fun b=>b.put (4-k) (mkR x.lo x.hi))=(ps.map fun p=>p.map (zeroTo (k+1)))->ps.map (grpOf k)=G:=by
     intro ps
     induction ps with
     |nil=>intro G _ _ h;cases G with
      |nil=>rfl
      |cons=>simp at h
     |cons p ps ih=>
      intro G hne hx h
      cases G with
      |nil=>simp at h
      |cons x G=>
       rw[aU,aU,List.cons.injEq]at h
       rw[aU,ih G (fun q hq=>hne q (bA _ hq)) (fun y hy=>hx y (bA _ hy)) h.2]
       congr 1
       obtain⟨⟨x1,x2,x3,x4,x5⟩,x6⟩:=hx x zx
       have h1:=h.1
       have hval:p.map (zeroTo k)=x.val:=by
        have:=congrArg (List.map fun b=>b.put (4-k) zR) h1
        rw[List.map_map,List.map_map]at this
        rw[show(x.val.map ((fun b=>b.put (4-k) zR)∘fun b=>b.put (4-k) (mkR x.lo x.hi)))=x.val by
         refine(dY fun y hy=>?_).trans (List.map_id _)
         simp only[Function.comp]
         rw[put_put];exact x6 y hy]at this
        rw[this]
        refine dY fun y hy=>?_
        simp only[Function.comp]
        rw[put_zeroTo zo]
       have hrgo:rgOf (4-k) p=mkR x.lo x.hi:=by
        cases p with
        |nil=>exact absurd rfl (hne _ zx)
        |cons y p=>
         cases hxv:x.val with
         |nil=>exact absurd hxv x1
         |cons b l=>
          rw[hxv,aU,aU,List.cons.injEq]at h1
          have:(b.put (4-k) (mkR x.lo x.hi)).get (4-k)=(zeroTo (k+1) y).get (4-k):=by rw[h1.1]
          rw[get_put zo,zeroTo_get zo,aG zo]at this
          exact this.symm
       cases x
       simp only at hval hrgo x2 x3 x4 x5
       unfold grpOf
       rw[hval,hrgo,mkR_lo zo zo zo zo,mkR_hi zo zo zo zo]
    refine e ps G (fun p hp=>(hP.mem p hp).1) (fun x hx=>⟨⟨g.full x hx,?_⟩,hGok x hx⟩) hr2
    have hl:=g.low x hx
    have:=g.wf.le x hx
    omega
   refine⟨by rw[hgrp];exact g.wf,fun p hp=>?_⟩
   refine(canB_iff k p zo (hvp p hp) (fun _=>(hP.mem p hp).1)).2 ?_
   have hw:Wf (ps.map (grpOf k)):=by rw[hgrp];exact g.wf
   have hb1:=hrg p hp
   have hl0:=(rgOf (4-k) p).l0
   have hat:=hw.at_mem (g:=grpOf k p) (fQ hp) (cF _) hb1.1
   rw[hgrp,g.at_,aG (by simp only[grpOf];omega),lab]at hat
   split at hat
   ·cases hat
   ·have hval:=bH hat
    simp only[grpOf]at hval
    rw[restAt,<-hfl,at_part zo hP hw hp (cF _) hb1.1]at hval
    exact hval
end Go.Proofs.YtbdikofefjljoaaGreatDoor
namespace Go.Vm
def frcP:List (Nat×Nat)->(List (Nat×Nat)->Prop)->Prop
 |[],K=>K []
 |(i,j)::r,K=>frcN i fun i'=>frcN j fun j'=>frcP r fun r'=>K ((i',j')::r')
theorem frcP_eq:∀(ρ:List (Nat×Nat)) (K:List (Nat×Nat)->Prop),frcP ρ K=K ρ
 |[],K=>rfl
 |(i,j)::r,K=>by simp only[frcP,frcN_eq,frcP_eq r]
abbrev Names:=List (Nat×Nat)
def addK(ρ:Names)(i j:Nat)(K:Names->Prop):Prop:=
 match get ρ i with
 |some _=>K ρ
 |none=>frcN i fun i=>frcN j fun j=>K ((i,j)::ρ)
theorem addK_ex{ρ:Names}{i j:Nat}{K:Names->Prop}(h:addK ρ i j K):∃ρ,K ρ:=by
 unfold addK at h
 split at h
 ·exact⟨_,h⟩
 ·rw[frcN_eq,frcN_eq]at h;exact⟨_,h⟩
def pair0K(ρ:Names)(x y:AV)(K:Names->Prop):Prop:=
 match x,y with
 |.op i _,.op j _=>addK ρ i j K
 |.ep i _ _ _,.ep j _ _ _=>addK ρ i j K
 |.os i _ _ _,.os j _ _ _=>addK ρ i j K
 |.mp i,.mp j=>addK ρ i j K
 |.dfr i _,.dfr j _=>addK ρ i j K
 |_,_=>K ρ
theorem pair0K_ex{ρ:Names}{x y:AV}{K:Names->Prop}(h:pair0K ρ x y K):∃ρ,K ρ:=by
 unfold pair0K at h
 split at h
 ·exact addK_ex h
 ·exact addK_ex h
 ·exact addK_ex h
 ·exact addK_ex h
 ·exact addK_ex h
 ·exact⟨_,h⟩
def pair0LK:List AV->List AV->Names->(Names->Prop)->Prop
 |x::xs,y::ys,ρ,K=>pair0K ρ x y fun ρ=>pair0LK xs ys ρ K
 |_,_,ρ,K=>K ρ
theorem pair0LK_ex:∀{xs ys:List AV} {ρ:Names} {K:Names->Prop},pair0LK xs ys ρ K->∃ρ,K ρ
 |x::xs,y::ys,ρ,K,h=>by
  obtain⟨ρ',h'⟩:=pair0K_ex h
  exact pair0LK_ex h'
 |[],ys,ρ,K,h=>by simp only[pair0LK]at h;exact⟨_,h⟩
 |x::xs,[],ρ,K,h=>by simp only[pair0LK]at h;exact⟨_,h⟩
def pair1K(ρ:Names)(x y:AV)(K:Names->Prop):Prop:=
 match x,y with
 |.fn _ a b,.fn _ c d=>pair0LK a c ρ fun ρ=>pair0LK b d ρ K
 |x,y=>pair0K ρ x y K
theorem pair1K_ex{ρ:Names}{x y:AV}{K:Names->Prop}(h:pair1K ρ x y K):∃ρ,K ρ:=by
 unfold pair1K at h
 split at h
 ·obtain⟨ρ',h'⟩:=pair0LK_ex h;exact pair0LK_ex h'
 ·exact pair0K_ex h
def pairLK:List AV->List AV->Names->(Names->Prop)->Prop
 |x::xs,y::ys,ρ,K=>pair1K ρ x y fun ρ=>pairLK xs ys ρ K
 |_,_,ρ,K=>K ρ
theorem pairLK_ex:∀{xs ys:List AV} {ρ:Names} {K:Names->Prop},pairLK xs ys ρ K->∃ρ,K ρ
 |x::xs,y::ys,ρ,K,h=>by
  obtain⟨ρ',h'⟩:=pair1K_ex h
  exact pairLK_ex h'
 |[],ys,ρ,K,h=>by simp only[pairLK]at h;exact⟨_,h⟩
 |x::xs,[],ρ,K,h=>by simp only[pairLK]at h;exact⟨_,h⟩
def pairAK(ρ:Names)(x y:AV)(K:Names->Prop):Prop:=
 match x,y with
 |.agg xs,.agg ys=>pairLK xs ys ρ K
 |.fn _ a b,.fn _ c d=>pairLK a c ρ fun ρ=>pairLK b d ρ K
 |x,y=>pair1K ρ x y K
theorem pairAK_ex{ρ:Names}{x y:AV}{K:Names->Prop}(h:pairAK ρ x y K):∃ρ,K ρ:=by
 unfold pairAK at h
 split at h
 ·exact pairLK_ex h
 ·obtain⟨ρ',h'⟩:=pairLK_ex h;exact pairLK_ex h'
 ·exact pair1K_ex h
def pairSK(σ:St):List (Nat×AV)->Names->(Names->Prop)->Prop
 |[],ρ,K=>K ρ
 |(t,x)::r,ρ,K=>match get σ.s t with
  |some y=>pairAK ρ x y fun ρ=>pairSK σ r ρ K
  |none=>pairSK σ r ρ K
theorem pairSK_ex{σ:St}:∀{l:List (Nat×AV)} {ρ:Names} {K:Names->Prop},pairSK σ l ρ K->∃ρ,K ρ
 |[],ρ,K,h=>⟨_,h⟩
 |(t,x)::r,ρ,K,h=>by
  simp only[pairSK]at h
  split at h
  ·obtain⟨ρ',h'⟩:=pairAK_ex h;exact pairSK_ex h'
  ·exact pairSK_ex h
def pairHK(s σ:St):Names->Names->(Names->Prop)->Prop
 |[],ρ,K=>K ρ
 |(i,j)::r,ρ,K=>match get s.h i,get σ.h j with
  |some (.box cs),some (.box ds)=>pairLK cs ds ρ fun ρ=>pairHK s σ r ρ K
  |_,_=>pairHK s σ r ρ K
theorem pairHK_ex{s σ:St}:∀{l ρ:Names} {K:Names->Prop},pairHK s σ l ρ K->∃ρ,K ρ
 |[],ρ,K,h=>⟨_,h⟩
 |(i,j)::r,ρ,K,h=>by
  simp only[pairHK]at h
  split at h
  ·obtain⟨ρ',h'⟩:=pairLK_ex h;exact pairHK_ex h'
  ·exact pairHK_ex h
def idP:Nat->Names
 |0=>[]
 |k+1=>(k,k)::idP k
def autoK(p:Nat)(s σ:St)(K:Names->Prop):Prop:=
 frcP (idP p) fun ρ=>pairSK σ s.s ρ fun a=>pairHK s σ a a fun b=>pairHK s σ b b fun c=>match Nat.beq c.length b.length with
  |true=>K c
  |false=>pairHK s σ c c K
theorem Le.auto{p:Nat}{s σ:St}(h:autoK p s σ fun ρ=>(injB ρ&&(belowB s.n ρ&&(fixB ρ p&&defB s.s σ.s)))=true/\(LeS ρ s.s σ/\LeH ρ s.h σ)):Le p s σ:=by
 unfold autoK at h
 rw[frcP_eq]at h
 obtain⟨a,h⟩:=pairSK_ex h
 obtain⟨b,h⟩:=pairHK_ex h
 obtain⟨c,h⟩:=pairHK_ex h
 split at h
 ·exact⟨c,h⟩
 ·obtain⟨d,h⟩:=pairHK_ex h
  exact⟨d,h⟩
theorem leA{p:Nat}{s σ:St}(h:Le p s σ:=by(refine Le.auto ?_;repeat' ((conv=>whnf);first|with_reducible refine And.intro ?_ ?_|with_reducible exact True.intro|rfl));fail_if_success have:=True.intro):Le p s σ:=h
theorem in_c{i:Int}{len:Nat}{K:Nat->Prop}(h:decide (0<=i/\i.toNat<len)=true)(hk:K i.toNat):In i len K:=by
 have h:=of_decide_eq_true h
 exact In.intro i.toNat zo h.2 hk
theorem ix_set{xs:List AV}{i:Nat}{x:AV}{K:AV->Prop}(h:i<xs.length)(hk:K x):Ix (xs.set i x) i K:=Ix.intro (by rw[List.getElem?_set_self h]) hk
theorem Weak.agg{xs ys:List AV}(h:WeakL xs ys):Weak (.agg xs) (.agg ys):=fun E w ι v hr=>by
 cases hr with
 |agg _ c hs hc=>
  have:=h.rel (c:=c) ⟨hs,hc⟩
  exact .agg _ _ this.1 this.2
def partV(P:Program)(t:TypeId)(xs:List Value)(off:Nat):Option Value:=
 match tagg P t with
 |some true=>(match tsz P t with
  |some n=>some (.agg ((xs.drop off).take n).toArray)
  |none=>none)
 |some false=>xs[off]?
 |none=>none
def eqT(P:Program):Nat->TypeId->Value->Value->Option Bool
 |0,_,_,_=>none
 |d+1,t,x,y=>match P.underlying t with
  |some (.int _)=>(match x,y with
   |.int k a,.int k' b=>(match kEq k k' with
    |true=>some (a==b)
    |false=>none)
   |_,_=>none)
  |some .bool=>(match x,y with
   |.bool a,.bool b=>some (a==b)
   |_,_=>none)
  |some .string=>(match x,y with
   |.string a,.string b=>some (a.toList==b.toList)
   |_,_=>none)
  |some (.struct fs)=>(match P.stoodInHeld t,x,y with
   |false,.agg xs,.agg ys=>eqFs (fun t a b=>eqT P d t a b) xs.toList ys.toList fs.toList
   |_,_,_=>none)
  |some (.array n e)=>(match tsz P e,x,y with
   |some m,.agg xs,.agg ys=>eqIs (fun a b=>eqT P d e a b) e m xs.toList ys.toList (List.range n)
   |_,_,_=>none)
  |_=>none
where
 eqIs (e:Value->Value->Option Bool) (el:TypeId) (m:Nat) (xs ys:List Value):List Nat->Option Bool
  |[]=>some true
  |i::r=>(match partV P el xs (i*m),partV P el ys (i*m)with
   |some a,some b=>(match e a b,eqIs e el m xs ys r with
    |some p,some q=>some (p&&q)
    |_,_=>none)
   |_,_=>none)
 eqFs (e:TypeId->Value->Value->Option Bool) (xs ys:List Value):List Field->Option Bool
  |[]=>some true
  |f::r=>match f.name== "_" with
   |true=>eqFs e xs ys r
   |false=>(match partV P f.type xs f.offset,partV P f.type ys f.offset with
    |some a,some b=>(match e f.type a b,eqFs e xs ys r with
     |some p,some q=>some (p&&q)
     |_,_=>none)
    |_,_=>none)
section
variable {P:Program}
theorem partV_run{t:TypeId}{xs:Array Value}{off:Nat}{v:Value}(h:partV P t xs.toList off=some v)(w:World):(part t xs off).run P w=.ok v w:=by
 unfold partV at h
 split at h
 ·rename_i ht
  split at h
  ·rename_i n hn
   cases h
   have e:(xs.extract off (off+n))=((xs.toList.drop off).take n).toArray:=by
    apply Array.ext'
    rw[Array.toList_extract]
    simp[List.extract]
   simp[part,run_isAgg ht,tsz_spec hn,e]
  ·cases h
 ·rename_i ht
  have h':xs[off]? =some v:=by simpa using h
  simp[part,run_isAgg ht,h']
 ·cases h
theorem eqT_run:∀(d:Nat) {t:TypeId} {x y:Value} {b:Bool},eqT P d t x y=some b->∀(D:Nat) (w:World),d<=D->(Op.equalIn D t x y).run P w=.ok b w
 |0,t,x,y,b,h=>by simp[eqT]at h
 |d+1,t,x,y,b,h=>by
  intro D w hD
  obtain⟨D,rfl⟩:∃k,D=k+1:=⟨D-1,by omega⟩
  simp only[eqT]at h
  split at h
  ·rename_i q hu
   split at h
   ·split at h
    ·rename_i hk
     cases kEq_eq hk
     cases h
     exact run_equalIn_int w D t _ _ _ _ hu
    ·cases h
   ·cases h
  ·rename_i hu
   split at h
   ·cases h;exact run_equalIn_bool' w D t _ _ hu
   ·cases h
  ·rename_i hu
   split at h
   ·cases h;exact run_equalIn_string w D t _ _ hu
   ·cases h
  ·rename_i fs hu
   split at h
   ·rename_i xs ys hs
    have hf:P.fieldsOf t=fs:=by simp[Program.fieldsOf,hu]
    rw[run_equalIn_struct w D t xs ys (by rw[hf];exact hu) hs,hf]
    have go:∀(l:List Field) (b:Bool),eqT.eqFs P (fun t a b=>eqT P d t a b) xs.toList ys.toList l=some b->(Op.eqFields D xs ys l).run P w=.ok b w:=by
     intro l
     induction l with
     |nil=>intro b h;simp only[eqT.eqFs,bO]at h;subst h;simp[Op.eqFields]
     |cons f r ih=>
      intro b h
      simp only[eqT.eqFs]at h
      split at h
      ·rename_i hn
       have hn:f.name= "_":=by simpa using hn
       simp only[Op.eqFields,hn,ne_eq,not_true_eq_false,if_false]
       exact ih b h
      ·rename_i hn
       have hn:f.name≠ "_":=by simpa using hn
       split at h
       case h_2=>cases h
       rename_i a c ha hc
       split at h
       case h_2=>cases h
       rename_i p q hp hq
       cases h
       simp only[Op.eqFields,ne_eq,hn,not_false_eq_true,if_true,Sem.run_bind,partV_run ha w,partV_run hc w,Result.andThen_ok,eqT_run d hp D w zo,Sem.run_ite,Sem.run_pure]
       cases p
       ·simp
       ·simpa using ih q hq
    exact go _ _ h
   ·cases h
  ·rename_i n e hu
   split at h
   ·rename_i m xs ys hm
    obtain⟨i,hi,him⟩:∃i,P.info? e=some i/\i.size=m:=by
     unfold tsz at hm
     rw[bK]at hm
     exact hm
    rw[run_equalIn_array w D xs ys hu hi,show P.cellsOf e=m by simp[Program.cellsOf,hi,him]]
    have go:∀(l:List Nat) (b:Bool),eqT.eqIs P (fun a b=>eqT P d e a b) e m xs.toList ys.toList l=some b->(Op.eqItems D e m xs ys l).run P w=.ok b w:=by
     intro l
     induction l with
     |nil=>intro b h;simp only[eqT.eqIs,bO]at h;subst h;simp[Op.eqItems]
     |cons j r ih=>
      intro b h
      simp only[eqT.eqIs]at h
      split at h
      case h_2=>cases h
      rename_i a c ha hc
      split at h
      case h_2=>cases h
      rename_i p q hp hq
      cases h
      simp only[Op.eqItems,Sem.run_bind,partV_run ha w,partV_run hc w,Result.andThen_ok,eqT_run d hp D w zo,Sem.run_ite,Sem.run_pure]
      cases p
      ·simp
      ·simpa using ih q hq
    exact go _ _ h
   ·cases h
  ·cases h
end
theorem eqv_of{P:Program}{t:TypeId}{xs ys:List AV}{K:Bool->Prop}{vs us:List Value}{b:Bool}(h1:denL xs=some vs)(h2:denL ys=some us)(hg:P.eqGuardType P.depth t=false)(h:eqT P 10 t (.agg vs.toArray) (.agg us.toArray)=some b)(hk:K b):EqV P t xs ys K:=
 EqV.intro vs us b h1 h2 hg (fun w=>eqT_run 10 h 10000 w zd) hk
end Go.Vm
namespace Go.Proofs.YtbdikofefjljoaaGreatDoor
open Go Go.Vm
noncomputable abbrev encX(b:Bx):AV:=.agg [.v (.int .u32 b.r0.lo),.v (.int .u32 b.r0.hi),.v (.int .u32 b.r1.lo),.v (.int .u32 b.r1.hi),.v (.int .u32 b.r2.lo),.v (.int .u32 b.r2.hi),.v (.int .u32 b.r3.lo),.v (.int .u32 b.r3.hi),.v (.int .u32 b.r4.lo),.v (.int .u32 b.r4.hi)]
noncomputable abbrev encXs(l:List Bx):AV:=.lst (l.map encX)
def topI(f:Int):Int:=if f=0\/f=1 then 4294967295 else if f=2 then 255 else if f=3\/f=4 then 65535 else 0
theorem cr3Top(f:Int){K:KT}(hK:K (.v (.int .u32 (topI f))) []):ACall Tryz.prog 133 [.v (.int .i64 f)] [] K:=by
 refine ofr3Top rfl rfl ?_
 (repeat' ((conv=>whnf);first|refine zG ?_|apply zA|(apply zI;intro h)|exact zT));(all_goals conv=>whnf)
 all_goals
  unfold topI at hK
  simp_all only[or_self,or_true,true_or,if_true,if_false,Int.reduceEq,or_false,false_or,reduceIte]
  exact hK
def fullB:Bx:=⟨mkR 0 4294967295,mkR 0 4294967295,mkR 0 255,mkR 0 65535,mkR 0 65535⟩
def Rg.okF(r:Rg)(f:Nat):Prop:=r.lo<=r.hi/\r.hi<=topF f
def Bx.ok(b:Bx):Prop:=b.r0.okF 0/\b.r1.okF 1/\b.r2.okF 2/\b.r3.okF 3/\b.r4.okF 4
instance (b:Bx):Decidable b.ok:=by unfold Bx.ok Rg.okF;infer_instance
theorem cr3Val(b:Bx){K:KT}(hK:K (.sb (decide b.ok)) []):ACall Tryz.prog 145 [encX b] [] K:=by
 refine ACall.bool (ofr3Val rfl rfl ?_)
 (repeat' ((conv=>whnf);first|(with_reducible refine Lp.times 6 ?_)|(refine in_c zd ?_)|(with_reducible refine cr3Top _ ?_)|refine zG ?_|apply zA|(apply zI;intro h)|exact zT));(all_goals conv=>whnf)
 all_goals
  have hb:b.ok↔((b.r0.lo<=b.r0.hi/\b.r0.hi<=4294967295)/\(b.r1.lo<=b.r1.hi/\b.r1.hi<=4294967295)/\(b.r2.lo<=b.r2.hi/\b.r2.hi<=255)/\(b.r3.lo<=b.r3.hi/\b.r3.hi<=65535)/\(b.r4.lo<=b.r4.hi/\b.r4.hi<=65535)):=Iff.rfl
  have t0:topI 0=4294967295:=rfl
  have t1:topI (0+1)=4294967295:=rfl
  have t2:topI (0+1+1)=255:=rfl
  have t3:topI (0+1+1+1)=65535:=rfl
  have t4:topI (0+1+1+1+1)=65535:=rfl
  first
   |exact fin_f hK (decide_eq_false (by rw[hb];omega))
   |exact fin_t hK (decide_eq_true (by rw[hb];omega))
theorem cr3Full{K:KT}(hK:K (encX fullB) []):ACall Tryz.prog 218 [] [] K:=by
 refine ofr3Full rfl rfl ?_
 (repeat' ((conv=>whnf);first|(with_reducible refine Lp.times 6 ?_)|(refine in_c zd ?_)|(with_reducible refine cr3Top _ ?_)|refine zG ?_|apply zA|(apply zI;intro h)|exact zT));(all_goals conv=>whnf)
 exact hK
theorem rg_eq{r s:Rg}:r=s↔r.lo=s.lo/\r.hi=s.hi:=by
 constructor
 ·rintro rfl;exact⟨rfl,rfl⟩
 ·rintro⟨h1,h2⟩
  cases r;cases s
  simp only at h1 h2
  subst h1;subst h2;rfl
theorem eqv_X{p q:Bx}{K:Bool->Prop}(hk:K (decide (p=q))):EqV Tryz.prog 134 [.v (.int .u32 p.r0.lo),.v (.int .u32 p.r0.hi),.v (.int .u32 p.r1.lo),.v (.int .u32 p.r1.hi),.v (.int .u32 p.r2.lo),.v (.int .u32 p.r2.hi),.v (.int .u32 p.r3.lo),.v (.int .u32 p.r3.hi),.v (.int .u32 p.r4.lo),.v (.int .u32 p.r4.hi)]
  [.v (.int .u32 q.r0.lo),.v (.int .u32 q.r0.hi),.v (.int .u32 q.r1.lo),.v (.int .u32 q.r1.hi),.v (.int .u32 q.r2.lo),.v (.int .u32 q.r2.hi),.v (.int .u32 q.r3.lo),.v (.int .u32 q.r3.hi),.v (.int .u32 q.r4.lo),.v (.int .u32 q.r4.hi)] K:=by
 refine eqv_of (b:=((p.r0.lo==q.r0.lo&&(p.r0.hi==q.r0.hi&&true))&&((p.r1.lo==q.r1.lo&&(p.r1.hi==q.r1.hi&&true))&&((p.r2.lo==q.r2.lo&&(p.r2.hi==q.r2.hi&&true))&&((p.r3.lo==q.r3.lo&&(p.r3.hi==q.r3.hi&&true))&&((p.r4.lo==q.r4.lo&&(p.r4.hi==q.r4.hi&&true))&&true)))))) rfl rfl zk zk ?_
 have e:((p.r0.lo==q.r0.lo&&(p.r0.hi==q.r0.hi&&true))&&((p.r1.lo==q.r1.lo&&(p.r1.hi==q.r1.hi&&true))&&((p.r2.lo==q.r2.lo&&(p.r2.hi==q.r2.hi&&true))&&((p.r3.lo==q.r3.lo&&(p.r3.hi==q.r3.hi&&true))&&((p.r4.lo==q.r4.lo&&(p.r4.hi==q.r4.hi&&true))&&true)))))=decide (p=q):=by
  rw[bG]
  cases p;cases q
  simp[rg_eq]
 rw[e]
 exact hk
theorem cr3Same(a b:List Bx)(ha:a.length<1000000000000)(hb:b.length<1000000000000){K:KT}(hK:K (.sb (decide (a=b))) []):ACall Tryz.prog 131 [encXs a,encXs b] [] K:=by
 refine ACall.bool (ofr3Same rfl rfl ?_)
 (repeat' ((conv=>whnf);first|refine zG ?_|apply zA|(apply zI;intro h)|exact zT));(all_goals conv=>whnf)
 ·have hl:a.length=b.length:=by
   rw[aA,aA]at h;omega
  refine Lp.intro Nat (fun k=>⟨0,[],[(0,encXs a),(1,encXs b),(5,.v (.int .i64 k))]⟩) (fun k=>k<=a.length/\∀i,i<k->a[i]? =b[i]?) (fun k=>a.length-k) 0 ?_ ?_ ?_
  ·exact⟨aH _,fun i h=>absurd h (aZ _)⟩
  ·(exact leA)
  intro k ⟨hk,hinv⟩
  rcases aB k a.length with hkl|hkl
  ·have hkb:k<b.length:=by omega
   obtain⟨p,hp⟩:=gex hkl
   obtain⟨q,hq⟩:=gex hkb
   (repeat' ((conv=>whnf);first|(with_reducible first|refine in_map hkl ?_|refine in_map hkb ?_|refine ix_map hp ?_|refine ix_map hq ?_|refine eqv_X ?_)|refine zG ?_|apply zA|(apply zI;intro h)|exact zT));(all_goals conv=>whnf)
   ·refine⟨k+1,⟨by omega,fun i hi=>?_⟩,by omega,?_⟩
    ·rcases aB i k with h1|h1
     ·exact hinv i h1
     ·rw[show i=k by omega,hp,hq,h]
    ·(exact leA)
   ·refine fin_f hK (decide_eq_false fun e=>?_)
    subst e
    rw[hp]at hq;cases hq
    exact h rfl
  ·have hab:a=b:=by
    apply List.ext_getElem?
    intro i
    rcases aB i k with h1|h1
    ·exact hinv i h1
    ·rw[bN zo,bN zo]
   (repeat' ((conv=>whnf);first|refine zG ?_|apply zA|(apply zI;intro h)|exact zT));(all_goals conv=>whnf)
   exact fin_t hK (decide_eq_true hab)
 ·exact fin_f hK (decide_eq_false fun e=>h (by rw[e]))
theorem atF_succ{f:Nat}{v:Int}{l:List Bx}{k:Nat}{x:Bx}(h:l[k]? =some x):atF f v (l.take (k+1))=atF f v (l.take k)++(if(x.get f).lo<=v/\v<=(x.get f).hi then [x]else []):=by
 rw[bJ,h,atF,dB]
 congr 1
 by_cases hc:(x.get f).lo<=v/\v<=(x.get f).hi
 ·simp[hc]
 ·have:(decide ((x.get f).lo<=v)&&decide (v<=(x.get f).hi))=false:=by
   rw[cA,ne_eq,aI,aK,aK];exact hc
  simp[this,hc]
theorem atF_len(f:Nat)(v:Int)(l:List Bx):(atF f v l).length<=l.length:=dL ..
theorem cr4At(l:List Bx)(f:Nat)(hf:f<=4)(v:Int)(hl:l.length<1000000000000){K:KT}(hK:K (encXs (atF f v l)) []):ACall Tryz.prog 172 [encXs l,.v (.int .i64 f),.v (.int .u64 v)] [] K:=by
 refine ofr4At rfl rfl ?_
 (repeat' ((conv=>whnf);first|refine zG ?_|apply zA|(apply zI;intro h)|exact zT));(all_goals conv=>whnf)
 refine Lp.intro Nat (fun k=>⟨1,[(0,.arr 10 ((atF f v (l.take k)).map encX))],[(0,encXs l),(1,.v (.int .i64 f)),(2,.v (.int .u64 v)),(7,.os 0 10 0 (atF f v (l.take k)).length),(8,.v (.int .i64 k))]⟩) (fun k=>k<=l.length) (fun k=>l.length-k) 0 (aH _) ?_ ?_
 ·(exact leA)
 intro k hk
 have hlen:=atF_len f v (l.take k)
 rw[bI]at hlen
 rcases aB k l.length with hkl|hkl
 ·obtain⟨x,hx⟩:=gex hkl
  have hs:=atF_succ (f:=f) (v:=v) hx
  have b0:=x.r0.l0;have b1:=x.r0.l1;have b2:=x.r0.h0;have b3:=x.r0.h1
  have c0:=x.r1.l0;have c1:=x.r1.l1;have c2:=x.r1.h0;have c3:=x.r1.h1
  have d0:=x.r2.l0;have d1:=x.r2.l1;have d2:=x.r2.h0;have d3:=x.r2.h1
  have e0:=x.r3.l0;have e1:=x.r3.l1;have e2:=x.r3.h0;have e3:=x.r3.h1
  have f0:=x.r4.l0;have f1:=x.r4.l1;have f2:=x.r4.h0;have f3:=x.r4.h1
  rcases f with _|_|_|_|_|f
  case succ.succ.succ.succ.succ=>omega
  all_goals
   simp only[Bx.get]at hs
   (repeat' ((conv=>whnf);first|(with_reducible first|refine in_map hkl ?_|refine ix_map hx ?_)|(refine in_c zd ?_)|refine zG ?_|apply zA|(apply zI;intro h)|exact zT));(all_goals conv=>whnf)
   all_goals
    refine⟨k+1,by omega,by omega,?_⟩
    first
     |(rw[aG zo]at hs
       rw[hs,aQ,aC]
       (exact leA)
       done)
     |(rw[aE zo,bD]at hs
       rw[hs]
       (exact leA)
       done)
 ·(repeat' ((conv=>whnf);first|refine zG ?_|apply zA|(apply zI;intro h)|exact zT));(all_goals conv=>whnf)
  rw[aX hkl]at*
  (repeat' ((conv=>whnf);first|refine zG ?_|apply zA|(apply zI;intro h)|exact zT));(all_goals conv=>whnf)
  exact hK
theorem cr4Rgs(a b:List Bx)(f:Nat)(hf:f<=4)(ha:a.length<1000000000)(hb:b.length<1000000000){K:KT}(hK:K (encRs (rngs f a b)) []):ACall Tryz.prog 171 [encXs a,encXs b,.v (.int .i64 f)] [] K:=by
 refine ofr4Rgs rfl rfl ?_
 (repeat' ((conv=>whnf);first|refine zG ?_|apply zA|(apply zI;intro h)|exact zT));(all_goals conv=>whnf)
 refine Lp.intro Nat (fun k=>⟨1,[(0,.arr 2 ((a.take k).map fun x=>encR (x.get f)))],[(0,encXs a),(1,encXs b),(2,.v (.int .i64 f)),(7,.os 0 2 0 k),(8,.v (.int .i64 k))]⟩) (fun k=>k<=a.length) (fun k=>a.length-k) 0 (aH _) ?_ ?_
 ·(exact leA)
 intro k hk
 have hlen:((a.take k).map fun x=>encR (x.get f)).length=k:=by rw[aA,bI];omega
 rcases aB k a.length with hkl|hkl
 ·obtain⟨x,hx⟩:=gex hkl
  have hs:(a.take (k+1)).map (fun x=>encR (x.get f))=(a.take k).map (fun x=>encR (x.get f))++[.agg [.v (.int .u32 (x.get f).lo),.v (.int .u32 (x.get f).hi)]]:=by
   rw[bJ,hx,aQ];rfl
  rcases f with _|_|_|_|_|f
  case succ.succ.succ.succ.succ=>omega
  all_goals
   (repeat' ((conv=>whnf);first|(with_reducible first|refine in_map hkl ?_|refine ix_map hx ?_)|(refine in_c zd ?_)|refine zG ?_|apply zA|(apply zI;intro h)|exact zT));(all_goals conv=>whnf)
   refine⟨k+1,by omega,by omega,?_⟩
   rw[hs]
   (exact leA)
 ·rw[aX hkl]at hlen⊢
  (repeat' ((conv=>whnf);first|refine zG ?_|apply zA|(apply zI;intro h)|exact zT));(all_goals conv=>whnf)
  have hkk:k=a.length:=by omega
  subst hkk
  refine Lp.intro Nat (fun k=>⟨1,[(0,.arr 2 (a.map (fun x=>encR (x.get f))++(b.take k).map fun x=>encR (x.get f)))],[(1,encXs b),(2,.v (.int .i64 f)),(7,.os 0 2 0 (a.length+k)),(9,.v (.int .i64 k))]⟩) (fun k=>k<=b.length) (fun k=>b.length-k) 0 (aH _) ?_ ?_
  ·rw[cW,bF,bD]
   (exact leA)
  intro k hk2
  have hlen:(a.map (fun x=>encR (x.get f))++(b.take k).map fun x=>encR (x.get f)).length=a.length+k:=by rw[aC,aA,aA,bI];omega
  rcases aB k b.length with hkl|hkl
  ·obtain⟨x,hx⟩:=gex hkl
   have hs:a.map (fun x=>encR (x.get f))++(b.take (k+1)).map (fun x=>encR (x.get f))=(a.map (fun x=>encR (x.get f))++(b.take k).map (fun x=>encR (x.get f)))++[.agg [.v (.int .u32 (x.get f).lo),.v (.int .u32 (x.get f).hi)]]:=by
    rw[bJ,hx,aQ,cJ];rfl
   rcases f with _|_|_|_|_|f
   case succ.succ.succ.succ.succ=>omega
   all_goals
    (repeat' ((conv=>whnf);first|(with_reducible first|refine in_map hkl ?_|refine ix_map hx ?_)|(refine in_c zd ?_)|refine zG ?_|apply zA|(apply zI;intro h)|exact zT));(all_goals conv=>whnf)
    refine⟨k+1,by omega,by omega,?_⟩
    rw[hs]
    (exact leA)
  ·rw[aX hkl]at hlen⊢
   (repeat' ((conv=>whnf);first|refine zG ?_|apply zA|(apply zI;intro h)|exact zT));(all_goals conv=>whnf)
   have e:a.map (fun x=>encR (x.get f))++b.map (fun x=>encR (x.get f))=(rngs f a b).map encR:=by
    rw[rngs,aQ,List.map_map,List.map_map];rfl
   rw[e]
   exact hK
def opI(c:Int)(x y:Bool):Bool:=if c=0 then x||y else if c=1 then x&&y else if c=2 then x&& !y else !(x==y)
def noneI(c:Int)(x y:Bool):Bool:=if c=1 then !x|| !y else if c=2 then !x else !x&& !y
theorem cr4Hold(c:Int)(x y:Bool){K:KT}(hK:K (.sb (opI c x y)) []):ACall Tryz.prog 168 [.v (.int .i64 c),.sb x,.sb y] [] K:=by
 refine ACall.bool (ofr4Hold rfl rfl ?_)
 (repeat' ((conv=>whnf);first|refine zG ?_|apply zA|(apply zI;intro h)|exact zT));(all_goals conv=>whnf)
 all_goals
  unfold opI at hK
  first
   |exact fin_s hK (by cases x<;>cases y<;>simp_all)
   |exact fin_t hK (by cases x<;>cases y<;>simp_all)
   |exact fin_f hK (by cases x<;>cases y<;>simp_all)
theorem cr4None(c:Int)(x y:Bool){K:KT}(hK:K (.sb (noneI c x y)) []):ACall Tryz.prog 169 [.v (.int .i64 c),.sb x,.sb y] [] K:=by
 refine ACall.bool (ofr4None rfl rfl ?_)
 (repeat' ((conv=>whnf);first|refine zG ?_|apply zA|(apply zI;intro h)|exact zT));(all_goals conv=>whnf)
 all_goals
  unfold noneI at hK
  first
   |exact fin_s hK (by cases x<;>cases y<;>simp_all)
   |exact fin_t hK (by cases x<;>cases y<;>simp_all)
   |exact fin_f hK (by cases x<;>cases y<;>simp_all)
theorem none_dead{c:Int}{x y:Bool}(h:noneI c x y=true):Dead (opI c) x y:=by
 unfold noneI at h
 intro p q hp hq
 unfold opI
 by_cases h0:c=0
 ·subst h0
  cases x<;>cases y<;>cases p<;>cases q<;>simp_all
 ·by_cases h1:c=1
  ·subst h1;cases x<;>cases y<;>cases p<;>cases q<;>simp_all
  ·by_cases h2:c=2
   ·subst h2;cases x<;>cases y<;>cases p<;>cases q<;>simp_all
   ·rw[aE h1,aE h2]at h
    rw[aE h0,aE h1,aE h2]
    cases x<;>cases y<;>cases p<;>cases q<;>simp_all
theorem topI_nat{f:Nat}(h:f<=4):topI (f:Int)=topF f:=by
 rcases f with _|_|_|_|_|f
 all_goals first|rfl|omega
theorem GInv.last_some{R:Int->List Bx}{gs:List (Grp (List Bx))}{s:Int}(h:GInv R gs s)(hs:1<=s)(hne:R (s-1)≠[]):∃ini g,gs=ini++[g]/\g.val=R (s-1)/\g.hi+1=s:=by
 have hat:=h.at_ (s-1)
 rw[aG zo,lab,aE (fun e=>hne (eW.1 e))]at hat
 obtain⟨g,hg,g1,g2,g3⟩:=gAt_some hat
 have hlow:=h.low g hg
 rcases cK gs with hn|⟨ini,g',hc⟩
 ·subst hn;simp at hg
 ·rw[cL]at hc
  subst hc
  refine⟨ini,g',rfl,?_⟩
  rcases aS.1 hg with hm|hm
  ·have h1:=Wf.under h.wf g hm
   have h2:=h.low g' zx
   have h3:=h.wf.le g' zx
   omega
  ·simp only[aR]at hm
   subst hm
   exact⟨g3,by omega⟩
theorem grow_nil{gs:List (Grp (List Bx))}{s:Int×Int}:grow eqB gs s []=gs:=rfl
theorem grow_join{ini:List (Grp (List Bx))}{g:Grp (List Bx)}{s to:Int}{rest:List Bx}(hne:rest≠[])(hv:g.val=rest)(hh:g.hi+1=s):grow eqB (ini++[g]) (s,to) rest=ini++[⟨g.lo,to,rest⟩]:=by
 unfold grow
 rw[aE (fun e=>hne (eW.1 e))]
 simp only[cN,cB,dK,cX]
 rw[aG ⟨hh,(eqB_iff _ _).2 hv⟩,hv]
theorem grow_push{R:Int->List Bx}{gs:List (Grp (List Bx))}{s to:Int}{rest:List Bx}(h:GInv R gs s)(hne:rest≠[])(hd:s=0\/R (s-1)≠rest):grow eqB gs (s,to) rest=gs++[⟨s,to,rest⟩]:=by
 unfold grow
 rw[aE (fun e=>hne (eW.1 e))]
 rcases cK gs with hn|⟨ini,g,hc⟩
 ·subst hn;rfl
 ·rw[cL]at hc
  subst hc
  simp only[cN,cB,dK,cX]
  rw[aE]
  rintro⟨h1,h2⟩
  have h2:=(eqB_iff _ _).1 h2
  have hl:=h.low g zx
  have hle:=h.wf.le g zx
  rcases hd with hd|hd
  ·omega
  ·have hat:=h.wf.at_mem (g:=g) zx (v:=s-1) zo zo
   rw[h.at_,aG zo,lab]at hat
   split at hat
   ·cases hat
   ·exact hd ((bH hat).trans h2)
theorem flatG_snoc{f:Nat}{ini:List (Grp (List Bx))}{g:Grp (List Bx)}:flatG f (ini++[g])=flatG f ini++g.val.map fun b=>b.put f (mkR g.lo g.hi):=by
 rw[flatG,eJ]
 simp[flatG]
def gsAt(R:Int->List Bx)(top:Int)(st:List Int)(i:Nat):List (Grp (List Bx)):=((segs top st).take i).foldl (fun out s=>grow eqB out s (R s.1)) []
def segTo(top:Int)(st:List Int)(i:Nat):Int:=match st[i+1]? with
 |some y=>y-1
 |none=>top
theorem segs_at{top:Int}{st:List Int}{i:Nat}{x:Int}(h:st[i]? =some x):(segs top st)[i]? =some (x,segTo top st i):=segs_get top st i x h
theorem gsAt_succ{R:Int->List Bx}{top:Int}{st:List Int}{i:Nat}{x:Int}(h:st[i]? =some x):gsAt R top st (i+1)=grow eqB (gsAt R top st i) (x,segTo top st i) (R x):=by
 rw[gsAt,foldl_succ (segs_at h)];rfl
theorem gsAt_all{R:Int->List Bx}{top:Int}{st:List Int}{i:Nat}(h:st.length<=i):gsAt R top st i=groupsOf R top st:=by
 rw[gsAt,aX (by rw[segs_length];exact h)];rfl
theorem gsAt_ginv{R:Int->List Bx}{top:Int}{l:List Rg}{st:List Int}(hc:Cuts top l st)(hR:∀u v,(∀r,r∈l->((r.lo<=u/\u<=r.hi)↔(r.lo<=v/\v<=r.hi)))->R u=R v):∀(i:Nat) (x:Int),st[i]? =some x->GInv R (gsAt R top st i) x
 |0,x,h=>by
  obtain⟨r,hr⟩:=hc.zero
  rw[hr]at h
  simp at h
  subst h
  exact GInv.start R
 |i+1,x,h=>by
  have hi:=(aP.1 h).1
  obtain⟨y,hy⟩:∃y,st[i]? =some y:=⟨_,aD zo⟩
  have ih:=gsAt_ginv hc hR i y hy
  have hseg:=aF (segs_at (top:=top) hy)
  have hto:segTo top st i=x-1:=by rw[segTo,h]
  have hyx:y<x:=by
   have:=cO.1 hc.sorted i (i+1) zo hi zo
   rw[aD zo]at hy h
   have e1:=bH hy
   have e2:=bH h
   omega
  have hy0:=(hc.range y (aF hy)).1
  rw[hto]at hseg
  have hst:=ih.step eqB_iff (hi:=x-1) hy0 zo (fun v v1 v2=>hR v y fun r hr=>hc.const hseg v1 v2 hr)
  rw[show x-1+1=x by omega]at hst
  rw[gsAt_succ hy,hto]
  exact hst
theorem prev_same{R:Int->List Bx}{top:Int}{l:List Rg}{st:List Int}(hc:Cuts top l st)(hR:∀u v,(∀r,r∈l->((r.lo<=u/\u<=r.hi)↔(r.lo<=v/\v<=r.hi)))->R u=R v){i:Nat}{x y:Int}(hx:st[i]? =some x)(hy:st[i+1]? =some y):R (y-1)=R x/\x<=y-1:=by
 have hi:=(aP.1 hy).1
 have hseg:=aF (segs_at (top:=top) hx)
 have hto:segTo top st i=y-1:=by rw[segTo,hy]
 have hxy:x<y:=by
  have:=cO.1 hc.sorted i (i+1) zo hi zo
  rw[aD zo]at hx hy
  have e1:=bH hx
  have e2:=bH hy
  omega
 rw[hto]at hseg
 exact⟨hR _ _ fun r hr=>hc.const hseg (by simp only;omega) (cF _) hr,by omega⟩
theorem gsAt_size{R:Int->List Bx}{top:Int}{st:List Int}(i:Nat):sizeG (gsAt R top st i)<=sizeG (groupsOf R top st):=by
 have e:groupsOf R top st=((segs top st).drop i).foldl (fun out s=>grow eqB out s (R s.1)) (gsAt R top st i):=by
  rw[groupsOf,gsAt,<-List.foldl_append,cQ]
 rw[e]
 exact fold_size R _ _
theorem rest_size{R:Int->List Bx}{top:Int}{st:List Int}{i:Nat}{x:Int}(h:st[i]? =some x):(R x).length<=sizeG (groupsOf R top st):=by
 have h1:=(grow_size (gsAt R top st i) (x,segTo top st i) (R x)).2
 rw[<-gsAt_succ h]at h1
 exact bR h1 (gsAt_size _)
theorem segTo_range{top:Int}{l:List Rg}{st:List Int}(hc:Cuts top l st){i:Nat}{x:Int}(hx:st[i]? =some x):x<=segTo top st i/\segTo top st i<=top/\0<=x:=by
 have hr:=hc.range x (aF hx)
 unfold segTo
 cases hy:st[i+1]? with
 |none=>simp only;omega
 |some y=>
  have hi:=(aP.1 hy).1
  have:=cO.1 hc.sorted i (i+1) zo hi zo
  have hry:=hc.range y (aF hy)
  rw[aD zo]at hx hy
  have e1:=bH hx
  have e2:=bH hy
  simp only
  omega
theorem set_step{α:Type}{A:List α}{n:Nat}{L M:List α}{j:Nat}{v:α}(hA:A.length=n)(h:L.length=M.length)(hj:L[j]? =some v):(A++(L.take j++M.drop j)).set (n+j) v=A++(L.take (j+1)++M.drop (j+1)):=by
 have hl:=(aP.1 hj).1
 obtain⟨y,hd⟩:∃y,M.drop j=y::M.drop (j+1):=⟨M[j]'zo,bE zo⟩
 rw[eA _ _ zo,hA,fD,hd,eA _ _ (by rw[bI];omega),bI,fJ zo,dS,List.set_cons_zero,bJ,hj,cJ]
 rfl
theorem put0(b:Bx)(r:Rg):b.put 0 r=⟨r,b.r1,b.r2,b.r3,b.r4⟩:=rfl
theorem put1(b:Bx)(r:Rg):b.put 1 r=⟨b.r0,r,b.r2,b.r3,b.r4⟩:=rfl
theorem put2(b:Bx)(r:Rg):b.put 2 r=⟨b.r0,b.r1,r,b.r3,b.r4⟩:=rfl
theorem put3(b:Bx)(r:Rg):b.put 3 r=⟨b.r0,b.r1,b.r2,r,b.r4⟩:=rfl
theorem put4(b:Bx)(r:Rg):b.put 4 r=⟨b.r0,b.r1,b.r2,b.r3,r⟩:=rfl
theorem dec_pos{α:Type}{f:α->AV}(l:List α):decide ((0:Int)<((l.map f).length:Int))= !l.isEmpty:=by
 cases l with
 |nil=>rfl
 |cons x l=>simp
theorem rests_step(c:Int)(k:Nat)(hk:k<=4)
  (hIH:∀(a b:List Bx) {K:KT},a.length+b.length<50000->(cano (opI c) k a b).length<=900000000000->K (encXs (cano (opI c) k a b)) []->ACall Tryz.prog 92 [encXs a,encXs b,.v (.int .i64 c),.v (.int .i64 (((4-k:Nat):Int)+1))] [] K)
  (a b:List Bx){K:KT}(hab:a.length+b.length<50000)(hN:(cano (opI c) (k+1) a b).length<=900000000000)(hK:K (encXs (cano (opI c) (k+1) a b)) []):
  ACall Tryz.prog 92 [encXs a,encXs b,.v (.int .i64 c),.v (.int .i64 ((4-k:Nat):Int))] [] K:=by
 have hf4:4-k<=4:=by omega
 have ht:=topF_pos (4-k)
 have hTop:∀{K:KT},K (.v (.int .u32 (topF (4-k)))) []->ACall Tryz.prog 133 [.v (.int .i64 ((4-k:Nat):Int))] [] K:=fun h=>cr3Top _ (by rw[topI_nat hf4];exact h)
 have hcuts:=starts_cuts (rngs (4-k) a b) ht.1
 have hR:∀u v,(∀r,r∈rngs (4-k) a b->((r.lo<=u/\u<=r.hi)↔(r.lo<=v/\v<=r.hi)))->restAt (opI c) k a b u=restAt (opI c) k a b v:=fun u v h=>restAt_congr h
 have hrl:(rngs (4-k) a b).length<100000:=by rw[rngs,aC,aA,aA];omega
 have hstl:=starts_length (rngs (4-k) a b) ht.1
 rw[cano_succ]at hN hK
 rw[flatG_len]at hN
 refine ACall.weak (ofr4Rests rfl rfl ?_)
 (repeat' ((conv=>whnf);first|(with_reducible first|refine cr4None c _ _ ?_|refine cr4Rgs a b (4-k) hf4 zo zo ?_|refine hTop ?_|refine c45 (rngs (4-k) a b) (topF (4-k)) ht.1 ht.2 hrl ?_)|refine zG ?_|apply zA|(apply zI;intro h)|exact zT));(all_goals conv=>whnf)
 ·refine⟨.lst [],Weak.nils,?_⟩
  rw[dec_pos,dec_pos]at h
  have hd:=cano_dead (opI c) (k+1) a b (none_dead h)
  rw[cano_succ]at hd
  rw[hd]at hK
  exact hK
 generalize hst:starts (rngs (4-k) a b) (topF (4-k))=st at*
 have hgs:∀i,sizeG (gsAt (restAt (opI c) k a b) (topF (4-k)) st i)<=900000000000:=fun i=>bR (gsAt_size i) hN
 have hrs:∀(i:Nat) x,st[i]? =some x->(restAt (opI c) k a b x).length<=900000000000:=fun i x hx=>bR (rest_size hx) hN
 refine Lp.intro (Nat×AV) (fun g=>⟨1,[(0,.arr 10 ((flatG (4-k) (gsAt (restAt (opI c) k a b) (topF (4-k)) st g.1)).map encX))],[(0,encXs a),(1,encXs b),(2,.v (.int .i64 c)),(3,.v (.int .i64 ((4-k:Nat):Int))),(9,.os 0 10 0 (flatG (4-k) (gsAt (restAt (opI c) k a b) (topF (4-k)) st g.1)).length),(10,g.2),(11,encUs st),(12,.v (.int .i64 g.1))]⟩)
  (fun g=>g.1<=st.length/\((g.1=0/\g.2=.nils)\/∃j x,g.1=j+1/\st[j]? =some x/\g.2=encXs (restAt (opI c) k a b x))) (fun g=>st.length-g.1) (0,.nils) ⟨aH _,.inl ⟨rfl,rfl⟩⟩ ?_ ?_
 ·(exact leA)
 rintro⟨i,y⟩ ⟨hi,hy⟩
 simp only at hi hy⊢
 rcases aB i st.length with hil|hil
 ·obtain⟨x,hx⟩:=gex hil
  have hto:=segTo_range hcuts hx
  have hgi:=gsAt_ginv hcuts hR i x hx
  have hsucc:=gsAt_succ (R:=restAt (opI c) k a b) (top:=topF (4-k)) hx
  have hsz:=hgs i
  have hsz1:=hgs (i+1)
  have hrx:=hrs i x hx
  rw[hsucc]at hsz1
  have hfl:=flatG_len (4-k) (gsAt (restAt (opI c) k a b) (topF (4-k)) st i)
  (repeat' ((conv=>whnf);first|(with_reducible refine hTop ?_)|refine zG ?_|apply zA|(apply zI;intro h)|exact zT));(all_goals conv=>whnf)
  generalize hgsI:gsAt (restAt (opI c) k a b) (topF (4-k)) st i=gs at*
  obtain⟨rest,hdr⟩:∃rest,restAt (opI c) k a b x=rest:=⟨_,rfl⟩
  obtain⟨to,hdto⟩:∃to,segTo (topF (4-k)) st i=to:=⟨_,rfl⟩
  rw[hdr,hdto]at hsucc hsz1
  rw[hdr]at hrx
  rw[hdto]at hto
  have hatl:(atF (4-k) x a).length+(atF (4-k) x b).length<50000:=by
   have h1:=atF_len (4-k) x a
   have h2:=atF_len (4-k) x b
   omega
  have hcall:∀{K:KT},K (encXs rest) []->ACall Tryz.prog 92 [encXs (atF (4-k) x a),encXs (atF (4-k) x b),.v (.int .i64 c),.v (.int .i64 (((4-k:Nat):Int)+1))] [] K:=fun h=>hIH _ _ hatl (by rw[show cano (opI c) k (atF (4-k) x a) (atF (4-k) x b)=rest from hdr];exact hrx) (by rw[show cano (opI c) k (atF (4-k) x a) (atF (4-k) x b)=rest from hdr];exact h)
  have m1:(mkR x to).lo=x:=mkR_lo hto.2.2 zo zo zo
  have m2:(mkR x to).hi=to:=mkR_hi hto.2.2 zo zo zo
  have hpush:(rest=[]\/x=0\/restAt (opI c) k a b (x-1)≠rest)->flatG (4-k) (gsAt (restAt (opI c) k a b) (topF (4-k)) st (i+1))=flatG (4-k) gs++rest.map fun z=>z.put (4-k) (mkR x to):=by
   intro hd
   rw[hsucc]
   by_cases he:rest=[]
   ·rw[he,grow_nil,bF,bD]
   ·rw[grow_push hgi he (hd.resolve_left he),flatG_snoc]
  have hgrow:=(grow_size gs (x,to) rest).2
  have hsum:(flatG (4-k) gs).length+rest.length<=1800000000000:=by omega
  rcases hy with⟨h0,rfl⟩|⟨i',x',hi',hx',rfl⟩
  ·have hx0:x=0:=by
    obtain⟨r,hr⟩:=hcuts.zero
    rw[h0,hr]at hx
    simp at hx
    exact hx.symm
   refine Jn.at ⟨1,[(0,.arr 10 ((flatG (4-k) gs).map encX))],[(0,encXs a),(1,encXs b),(2,.v (.int .i64 c)),(3,.v (.int .i64 ((4-k:Nat):Int))),(9,.os 0 10 0 (flatG (4-k) gs).length),(10,.nils),(11,encUs st),(12,.v (.int .i64 i)),(13,.v (.int .u64 to))]⟩ ?_ ?_
   ·rcases aB (i+1) st.length with hk1|hk1
    ·obtain⟨z,hz⟩:∃z,st[i+1]? =some z:=⟨_,aD hk1⟩
     have hps:=prev_same hcuts hR hx hz
     have hzr:=hcuts.range z (aF hz)
     have e:to=z-1:=by rw[<-hdto,segTo,hz]
     rw[e]
     (repeat' ((conv=>whnf);first|(with_reducible first|refine In.intro (i+1) zo (by simp;omega) ?_|refine ix_map hz ?_)|refine zG ?_|apply zA|(apply zI;intro h)|exact zT));(all_goals conv=>whnf)
     refine⟨(),trivial,?_⟩
     (exact leA)
    ·have e:to=topF (4-k):=by rw[<-hdto,segTo,bN hk1]
     rw[e]
     (repeat' ((conv=>whnf);first|refine zG ?_|apply zA|(apply zI;intro h)|exact zT));(all_goals conv=>whnf)
     refine⟨(),trivial,?_⟩
     (exact leA)
   (repeat' ((conv=>whnf);first|(with_reducible first|refine in_map hil ?_|refine ix_map hx ?_|refine cr4At a (4-k) hf4 x zo ?_|refine cr4At b (4-k) hf4 x zo ?_|refine hcall ?_)|refine zG ?_|apply zA|(apply zI;intro h)|exact zT));(all_goals conv=>whnf)
   refine Lp.intro Nat (fun j=>⟨1,[(0,.arr 10 ((flatG (4-k) gs++(rest.take j).map fun z=>z.put (4-k) (mkR x to)).map encX))],[(0,encXs a),(1,encXs b),(2,.v (.int .i64 c)),(3,.v (.int .i64 ((4-k:Nat):Int))),(9,.os 0 10 0 ((flatG (4-k) gs).length+j)),(10,encXs rest),(11,encUs st),(12,.v (.int .i64 i)),(13,.v (.int .u64 to)),(14,encXs rest),(16,.v (.int .i64 j))]⟩) (fun j=>j<=rest.length) (fun j=>rest.length-j) 0 (aH _) ?_ ?_
   ·rw[cW,bF,bD]
    (exact leA)
   intro j hj
   have hl9:((flatG (4-k) gs++(rest.take j).map fun z=>z.put (4-k) (mkR x to)).map encX).length=(flatG (4-k) gs).length+j:=by rw[aA,aC,aA,bI];omega
   rcases aB j rest.length with hjl|hjl
   ·obtain⟨z,hz⟩:=gex hjl
    have hnext:((flatG (4-k) gs++(rest.take (j+1)).map fun z=>z.put (4-k) (mkR x to)).map encX)=((flatG (4-k) gs++(rest.take j).map fun z=>z.put (4-k) (mkR x to)).map encX)++[encX (z.put (4-k) (mkR x to))]:=by
     simp only[bJ,hz,eB,aQ,aU,bF,cJ]
    generalize hA:((flatG (4-k) gs++(rest.take j).map fun z=>z.put (4-k) (mkR x to)).map encX)=A at*
    generalize hB:((flatG (4-k) gs++(rest.take (j+1)).map fun z=>z.put (4-k) (mkR x to)).map encX)=B at*
    clear hpush hfl hsucc hgi hcall hIH hTop
    obtain⟨V,hV⟩:∃V,V=encX (z.put (4-k) (mkR x to)):=⟨_,rfl⟩
    rw[<-hV]at hnext
    obtain rfl|rfl|rfl|rfl|rfl:k=0\/k=1\/k=2\/k=3\/k=4:=by omega
    all_goals
     simp only[Nat.reduceSub,put0,put1,put2,put3,put4,encX,m1,m2]at hV
     rw[hV]at hnext
     (repeat' ((conv=>whnf);first|(with_reducible first|refine in_map hjl ?_|refine ix_map hz ?_|refine in_map hil ?_|refine ix_map hx ?_)|(refine in_c zd ?_)|refine zG ?_|apply zA|(apply zI;intro h)|exact zT));(all_goals conv=>whnf)
     refine⟨j+1,by omega,by omega,?_⟩
     rw[hB,hnext]
     (exact leA)
   ·(repeat' ((conv=>whnf);first|refine zG ?_|apply zA|(apply zI;intro h)|exact zT));(all_goals conv=>whnf)
    have hjr:j=rest.length:=by omega
    subst hjr
    rw[cU]at*
    have e1:=hpush (.inr (.inl hx0))
    have e2:(flatG (4-k) (gsAt (restAt (opI c) k a b) (topF (4-k)) st (i+1))).length=(flatG (4-k) gs).length+rest.length:=by rw[e1,aC,aA]
    refine⟨(i+1,encXs rest),⟨by simp only;omega,.inr ⟨i,x,rfl,hx,by rw[hdr]⟩⟩,by simp only;omega,?_⟩
    simp only
    rw[e2,e1]
    (exact leA)
  ·have hprev:=prev_same hcuts hR hx' (show st[i'+1]? =some x by rw[<-hi'];exact hx)
   have hx'0:=hcuts.range x' (aF hx')
   have hx'l:=hrs i' x' hx'
   refine Jn.at ⟨1,[(0,.arr 10 ((flatG (4-k) gs).map encX))],[(0,encXs a),(1,encXs b),(2,.v (.int .i64 c)),(3,.v (.int .i64 ((4-k:Nat):Int))),(9,.os 0 10 0 (flatG (4-k) gs).length),(10,encXs (restAt (opI c) k a b x')),(11,encUs st),(12,.v (.int .i64 i)),(13,.v (.int .u64 to))]⟩ ?_ ?_
   ·rcases aB (i+1) st.length with hk1|hk1
    ·obtain⟨z,hz⟩:∃z,st[i+1]? =some z:=⟨_,aD hk1⟩
     have hps:=prev_same hcuts hR hx hz
     have hzr:=hcuts.range z (aF hz)
     have e:to=z-1:=by rw[<-hdto,segTo,hz]
     rw[e]
     (repeat' ((conv=>whnf);first|(with_reducible first|refine In.intro (i+1) zo (by simp;omega) ?_|refine ix_map hz ?_)|refine zG ?_|apply zA|(apply zI;intro h)|exact zT));(all_goals conv=>whnf)
     refine⟨(),trivial,?_⟩
     (exact leA)
    ·have e:to=topF (4-k):=by rw[<-hdto,segTo,bN hk1]
     rw[e]
     (repeat' ((conv=>whnf);first|refine zG ?_|apply zA|(apply zI;intro h)|exact zT));(all_goals conv=>whnf)
     refine⟨(),trivial,?_⟩
     (exact leA)
   (repeat' ((conv=>whnf);first|(with_reducible first|refine in_map hil ?_|refine ix_map hx ?_|refine cr4At a (4-k) hf4 x zo ?_|refine cr4At b (4-k) hf4 x zo ?_|refine hcall ?_|refine cr3Same rest (restAt (opI c) k a b x') zo zo ?_)|refine zG ?_|apply zA|(apply zI;intro h)|exact zT));(all_goals conv=>whnf)
   ·have hsm:=h
    rename_i hlp
    have hrne:rest≠[]:=fun e=>by rw[e]at hlp;simp at hlp
    have hx1:1<=x:=by omega
    have hRl:restAt (opI c) k a b (x-1)=rest:=hprev.1.trans (by rw[<-hsm])
    obtain⟨ini,g,hg1,hg2,hg3⟩:=hgi.last_some hx1 (by rw[hRl];exact hrne)
    rw[hRl]at hg2
    subst hg1
    have hjoin:flatG (4-k) (gsAt (restAt (opI c) k a b) (topF (4-k)) st (i+1))=flatG (4-k) ini++rest.map fun z=>z.put (4-k) (mkR g.lo to):=by rw[hsucc,grow_join hrne hg2 hg3,flatG_snoc]
    have hglo:=hgi.low g zx
    have hgle:=hgi.wf.le g zx
    have hold:flatG (4-k) (ini++[g])=flatG (4-k) ini++rest.map fun z=>z.put (4-k) (mkR g.lo g.hi):=by rw[flatG_snoc,hg2]
    have m1:(mkR g.lo to).lo=g.lo:=mkR_lo zo zo zo zo
    have m2:(mkR g.lo to).hi=to:=mkR_hi zo zo zo zo
    have m3:(mkR g.lo g.hi).lo=g.lo:=mkR_lo zo zo zo zo
    have e2:(flatG (4-k) (gsAt (restAt (opI c) k a b) (topF (4-k)) st (i+1))).length=(flatG (4-k) (ini++[g])).length:=by rw[hjoin,hold,aC,aC,aA,aA]
    have hlo:(flatG (4-k) (ini++[g])).length=(flatG (4-k) ini).length+rest.length:=by rw[hold,aC,aA]
    have hsub:((flatG (4-k) (ini++[g])).length:Int)-((rest.map encX).length:Int)=(((flatG (4-k) ini).length+0:Nat):Int):=by rw[hlo,aA];omega
    rw[hsub,hlo,hold]
    refine Lp.intro Nat (fun j=>⟨1,[(0,.arr 10 ((flatG (4-k) ini++((rest.map fun z=>z.put (4-k) (mkR g.lo to)).take j++(rest.map fun z=>z.put (4-k) (mkR g.lo g.hi)).drop j)).map encX))],[(0,encXs a),(1,encXs b),(2,.v (.int .i64 c)),(3,.v (.int .i64 ((4-k:Nat):Int))),(9,.os 0 10 0 ((flatG (4-k) ini).length+rest.length)),(10,encXs (restAt (opI c) k a b x')),(11,encUs st),(12,.v (.int .i64 i)),(13,.v (.int .u64 to)),(15,.v (.int .i64 (((flatG (4-k) ini).length+j:Nat):Int)))]⟩) (fun j=>j<=rest.length) (fun j=>rest.length-j) 0 (aH _) ?_ ?_
    ·rw[cW,cD,cZ]
     (exact leA)
    intro j hj
    rcases aB j rest.length with hjl|hjl
    ·obtain⟨z,hz⟩:=gex hjl
     have hAj:(rest.map fun z=>z.put (4-k) (mkR g.lo to))[j]? =some (z.put (4-k) (mkR g.lo to)):=by rw[bP,hz];rfl
     have hBj:(rest.map fun z=>z.put (4-k) (mkR g.lo g.hi))[j]? =some (z.put (4-k) (mkR g.lo g.hi)):=by rw[bP,hz];rfl
     have hAl:(rest.map fun z=>z.put (4-k) (mkR g.lo to)).length=rest.length:=aA ..
     have hBl:(rest.map fun z=>z.put (4-k) (mkR g.lo g.hi)).length=rest.length:=aA ..
     obtain⟨w,hw⟩:∃w,z.put (4-k) (mkR g.lo g.hi)=w:=⟨_,rfl⟩
     have hw2:z.put (4-k) (mkR g.lo to)=w.put (4-k) (mkR g.lo to):=by rw[<-hw,put_put]
     have hwg:(mkR g.lo to).lo=(w.get (4-k)).lo:=by rw[<-hw,get_put zo,m1,m3]
     rw[hw]at hBj
     rw[hw2]at hAj
     generalize (rest.map fun z=>z.put (4-k) (mkR g.lo to))=A at*
     generalize (rest.map fun z=>z.put (4-k) (mkR g.lo g.hi))=B at*
     have htk:(A.take j).length=j:=by rw[bI];omega
     have hel:(flatG (4-k) ini++(A.take j++B.drop j))[0+((flatG (4-k) ini).length+j)]? =some w:=by
      rw[bL,bB zo,fD,bB zo,htk,dS,cC,eG,hBj]
     have hnext:((flatG (4-k) ini++(A.take j++B.drop j)).map encX).set (0+((flatG (4-k) ini).length+j)) (encX (w.put (4-k) (mkR g.lo to)))=(flatG (4-k) ini++(A.take (j+1)++B.drop (j+1))).map encX:=by
      rw[<-eQ,bL,set_step rfl zo hAj]
     have hin:(flatG (4-k) ini).length+j<(flatG (4-k) ini).length+rest.length:=by omega
     clear hpush hfl hsucc hgi hcall hIH hTop hjoin hold
     generalize flatG (4-k) ini=F at*
     obtain⟨V,hV⟩:∃V,V=encX (w.put (4-k) (mkR g.lo to)):=⟨_,rfl⟩
     rw[<-hV]at hnext
     obtain rfl|rfl|rfl|rfl|rfl:k=0\/k=1\/k=2\/k=3\/k=4:=by omega
     all_goals
      simp only[Nat.reduceSub,put0,put1,put2,put3,put4,encX,hwg,m2,Bx.get]at hV
      rw[hV]at hnext
      (repeat' ((conv=>whnf);first|(with_reducible first|refine in_nat hin ?_|refine ix_map hel ?_)|(refine in_c zd ?_)|refine zG ?_|apply zA|(apply zI;intro h)|exact zT));(all_goals conv=>whnf)
      refine⟨j+1,by omega,by omega,?_⟩
      rw[<-hnext]
      (exact leA)
    ·(repeat' ((conv=>whnf);first|refine zG ?_|apply zA|(apply zI;intro h)|exact zT));(all_goals conv=>whnf)
     have hjr:j=rest.length:=by omega
     subst hjr
     refine⟨(i+1,encXs (restAt (opI c) k a b x')),⟨by simp only;omega,.inr ⟨i,x,rfl,hx,by rw[hdr,hsm]⟩⟩,by simp only;omega,?_⟩
     simp only
     rw[e2,hlo,hjoin]
     rw[aX (by rw[aA];exact aM _),cH (by rw[aA];exact aM _),bD]
     (exact leA)
   ·refine Lp.intro Nat (fun j=>⟨1,[(0,.arr 10 ((flatG (4-k) gs++(rest.take j).map fun z=>z.put (4-k) (mkR x to)).map encX))],[(0,encXs a),(1,encXs b),(2,.v (.int .i64 c)),(3,.v (.int .i64 ((4-k:Nat):Int))),(9,.os 0 10 0 ((flatG (4-k) gs).length+j)),(10,encXs rest),(11,encUs st),(12,.v (.int .i64 i)),(13,.v (.int .u64 to)),(14,encXs rest),(16,.v (.int .i64 j))]⟩) (fun j=>j<=rest.length) (fun j=>rest.length-j) 0 (aH _) ?_ ?_
    ·rw[cW,bF,bD]
     (exact leA)
    intro j hj
    have hl9:((flatG (4-k) gs++(rest.take j).map fun z=>z.put (4-k) (mkR x to)).map encX).length=(flatG (4-k) gs).length+j:=by rw[aA,aC,aA,bI];omega
    rcases aB j rest.length with hjl|hjl
    ·obtain⟨z,hz⟩:=gex hjl
     have hnext:((flatG (4-k) gs++(rest.take (j+1)).map fun z=>z.put (4-k) (mkR x to)).map encX)=((flatG (4-k) gs++(rest.take j).map fun z=>z.put (4-k) (mkR x to)).map encX)++[encX (z.put (4-k) (mkR x to))]:=by
      simp only[bJ,hz,eB,aQ,aU,bF,cJ]
     generalize hA:((flatG (4-k) gs++(rest.take j).map fun z=>z.put (4-k) (mkR x to)).map encX)=A at*
     generalize hB:((flatG (4-k) gs++(rest.take (j+1)).map fun z=>z.put (4-k) (mkR x to)).map encX)=B at*
     clear hpush hfl hsucc hgi hcall hIH hTop
     obtain⟨V,hV⟩:∃V,V=encX (z.put (4-k) (mkR x to)):=⟨_,rfl⟩
     rw[<-hV]at hnext
     obtain rfl|rfl|rfl|rfl|rfl:k=0\/k=1\/k=2\/k=3\/k=4:=by omega
     all_goals
      simp only[Nat.reduceSub,put0,put1,put2,put3,put4,encX,m1,m2]at hV
      rw[hV]at hnext
      (repeat' ((conv=>whnf);first|(with_reducible first|refine in_map hjl ?_|refine ix_map hz ?_|refine in_map hil ?_|refine ix_map hx ?_)|(refine in_c zd ?_)|refine zG ?_|apply zA|(apply zI;intro h)|exact zT));(all_goals conv=>whnf)
      refine⟨j+1,by omega,by omega,?_⟩
      rw[hB,hnext]
      (exact leA)
    ·(repeat' ((conv=>whnf);first|refine zG ?_|apply zA|(apply zI;intro h)|exact zT));(all_goals conv=>whnf)
     have hjr:j=rest.length:=by omega
     subst hjr
     rw[cU]at*
     have e1:=hpush ((.inr (.inr (by rw[hprev.1];exact fun e=>h e.symm))))
     have e2:(flatG (4-k) (gsAt (restAt (opI c) k a b) (topF (4-k)) st (i+1))).length=(flatG (4-k) gs).length+rest.length:=by rw[e1,aC,aA]
     refine⟨(i+1,encXs rest),⟨by simp only;omega,.inr ⟨i,x,rfl,hx,by rw[hdr]⟩⟩,by simp only;omega,?_⟩
     simp only
     rw[e2,e1]
     (exact leA)
   ·refine Lp.intro Nat (fun j=>⟨1,[(0,.arr 10 ((flatG (4-k) gs++(rest.take j).map fun z=>z.put (4-k) (mkR x to)).map encX))],[(0,encXs a),(1,encXs b),(2,.v (.int .i64 c)),(3,.v (.int .i64 ((4-k:Nat):Int))),(9,.os 0 10 0 ((flatG (4-k) gs).length+j)),(10,encXs rest),(11,encUs st),(12,.v (.int .i64 i)),(13,.v (.int .u64 to)),(14,encXs rest),(16,.v (.int .i64 j))]⟩) (fun j=>j<=rest.length) (fun j=>rest.length-j) 0 (aH _) ?_ ?_
    ·rw[cW,bF,bD]
     (exact leA)
    intro j hj
    have hl9:((flatG (4-k) gs++(rest.take j).map fun z=>z.put (4-k) (mkR x to)).map encX).length=(flatG (4-k) gs).length+j:=by rw[aA,aC,aA,bI];omega
    rcases aB j rest.length with hjl|hjl
    ·obtain⟨z,hz⟩:=gex hjl
     have hnext:((flatG (4-k) gs++(rest.take (j+1)).map fun z=>z.put (4-k) (mkR x to)).map encX)=((flatG (4-k) gs++(rest.take j).map fun z=>z.put (4-k) (mkR x to)).map encX)++[encX (z.put (4-k) (mkR x to))]:=by
      simp only[bJ,hz,eB,aQ,aU,bF,cJ]
     generalize hA:((flatG (4-k) gs++(rest.take j).map fun z=>z.put (4-k) (mkR x to)).map encX)=A at*
     generalize hB:((flatG (4-k) gs++(rest.take (j+1)).map fun z=>z.put (4-k) (mkR x to)).map encX)=B at*
     clear hpush hfl hsucc hgi hcall hIH hTop
     obtain⟨V,hV⟩:∃V,V=encX (z.put (4-k) (mkR x to)):=⟨_,rfl⟩
     rw[<-hV]at hnext
     obtain rfl|rfl|rfl|rfl|rfl:k=0\/k=1\/k=2\/k=3\/k=4:=by omega
     all_goals
      simp only[Nat.reduceSub,put0,put1,put2,put3,put4,encX,m1,m2]at hV
      rw[hV]at hnext
      (repeat' ((conv=>whnf);first|(with_reducible first|refine in_map hjl ?_|refine ix_map hz ?_|refine in_map hil ?_|refine ix_map hx ?_)|(refine in_c zd ?_)|refine zG ?_|apply zA|(apply zI;intro h)|exact zT));(all_goals conv=>whnf)
      refine⟨j+1,by omega,by omega,?_⟩
      rw[hB,hnext]
      (exact leA)
    ·(repeat' ((conv=>whnf);first|refine zG ?_|apply zA|(apply zI;intro h)|exact zT));(all_goals conv=>whnf)
     have hjr:j=rest.length:=by omega
     subst hjr
     rw[cU]at*
     have e1:=hpush ((.inl (by cases rest with|nil=>rfl|cons z rest=>exfalso;simp at h)))
     have e2:(flatG (4-k) (gsAt (restAt (opI c) k a b) (topF (4-k)) st (i+1))).length=(flatG (4-k) gs).length+rest.length:=by rw[e1,aC,aA]
     refine⟨(i+1,encXs rest),⟨by simp only;omega,.inr ⟨i,x,rfl,hx,by rw[hdr]⟩⟩,by simp only;omega,?_⟩
     simp only
     rw[e2,e1]
     (exact leA)
 ·rw[gsAt_all hil]
  (repeat' ((conv=>whnf);first|(with_reducible refine sl_full (by rw[aA]) ?_)|refine zG ?_|apply zA|(apply zI;intro h)|exact zT));(all_goals conv=>whnf)
  exact⟨_,Weak.refl,hK⟩
theorem cr4Rests(c:Int):∀(k:Nat),k<=5->∀(a b:List Bx) {K:KT},a.length+b.length<50000->(cano (opI c) k a b).length<=900000000000->K (encXs (cano (opI c) k a b)) []->
  ACall Tryz.prog 92 [encXs a,encXs b,.v (.int .i64 c),.v (.int .i64 ((5-k:Nat):Int))] [] K
 |0,_,a,b,K,hab,hN,hK=>by
  rw[cano]at hK
  refine ACall.weak (ofr4Rests rfl rfl ?_)
  (repeat' ((conv=>whnf);first|(with_reducible refine cr4Hold c _ _ ?_)|refine zG ?_|apply zA|(apply zI;intro h)|exact zT));(all_goals conv=>whnf)
  ·rw[dec_pos,dec_pos]at h
   rw[aG h]at hK
   exact⟨_,Weak.refl,hK⟩
  ·rw[dec_pos,dec_pos]at h
   rw[aE (by rw[h];decide)]at hK
   exact⟨_,Weak.nils,hK⟩
 |k+1,hk,a,b,K,hab,hN,hK=>by
  rw[show 5-(k+1)=4-k by omega]
  refine rests_step c k zo (fun a b K h1 h2 h3=>?_) a b hab hN hK
  rw[show((4-k:Nat):Int)+1=((5-k:Nat):Int) by omega]
  exact cr4Rests c k zo a b h1 h2 h3
def vldB(l:List Bx):List Bx:=l.filter fun b=>decide b.ok
theorem vldB_len(l:List Bx):(vldB l).length<=l.length:=dL ..
theorem vldB_succ{l:List Bx}{k:Nat}{x:Bx}(h:l[k]? =some x):vldB (l.take (k+1))=vldB (l.take k)++(if x.ok then [x]else []):=by
 rw[bJ,h,vldB,dB]
 congr 1
 by_cases hc:x.ok<;>simp[hc]
theorem cr4Val(l:List Bx)(hl:l.length<1000000000000){K:KT}(hK:K (encXs (vldB l)) []):ACall Tryz.prog 93 [encXs l] [] K:=by
 refine ofr4Val rfl rfl ?_
 (repeat' ((conv=>whnf);first|refine zG ?_|apply zA|(apply zI;intro h)|exact zT));(all_goals conv=>whnf)
 refine Lp.intro Nat (fun k=>⟨1,[(0,.arr 10 ((vldB (l.take k)).map encX))],[(0,encXs l),(3,.os 0 10 0 (vldB (l.take k)).length),(4,.v (.int .i64 k))]⟩) (fun k=>k<=l.length) (fun k=>l.length-k) 0 (aH _) ?_ ?_
 ·(exact leA)
 intro k hk
 have hlen:=vldB_len (l.take k)
 rw[bI]at hlen
 rcases aB k l.length with hkl|hkl
 ·obtain⟨x,hx⟩:=gex hkl
  have hs:=vldB_succ hx
  (repeat' ((conv=>whnf);first|(with_reducible first|refine in_map hkl ?_|refine ix_map hx ?_|refine cr3Val x ?_)|refine zG ?_|apply zA|(apply zI;intro h)|exact zT));(all_goals conv=>whnf)
  all_goals
   refine⟨k+1,by omega,by omega,?_⟩
   first
    |(rw[aG h]at hs
      rw[hs,aQ,aC]
      (exact leA)
      done)
    |(rw[aE h,bD]at hs
      rw[hs]
      (exact leA)
      done)
 ·(repeat' ((conv=>whnf);first|refine zG ?_|apply zA|(apply zI;intro h)|exact zT));(all_goals conv=>whnf)
  rw[aX hkl]at*
  (repeat' ((conv=>whnf);first|refine zG ?_|apply zA|(apply zI;intro h)|exact zT));(all_goals conv=>whnf)
  exact hK
def limP(l:List Bx):List Bx:=if 4096<l.length then []else l
def limE(l:List Bx):Int:=if 4096<l.length then 3 else 0
theorem cr4Lim(l:List Bx){K:KT}(hK:K (.tup [encXs (limP l),.v (.int .i64 (limE l))]) []):ACall Tryz.prog 219 [encXs l] [] K:=by
 refine ACall.weak (ofr4Lim rfl rfl ?_)
 unfold limP limE at hK
 (repeat' ((conv=>whnf);first|refine zG ?_|apply zA|(apply zI;intro h)|exact zT));(all_goals conv=>whnf)
 ·rw[aA]at h
  rw[aG zo,aG zo]at hK
  exact⟨_,Weak.tup2 Weak.nils Weak.refl,hK⟩
 ·rw[aA]at h
  rw[aE zo,aE zo]at hK
  exact⟨_,Weak.refl,hK⟩
theorem alike_get{g:Nat}{a b:List Bx}(hl:a.length=b.length):alike g a b=true↔∀(i:Nat) x y,a[i]? =some x->b[i]? =some y->alikeB g x y=true:=by
 rw[alike,hl,aI]
 simp only[beq_self_eq_true,true_and,bX]
 constructor
 ·intro h i x y hx hy
  exact h (x,y) (aF (i:=i) (by rw[List.getElem?_zip_eq_some];exact⟨hx,hy⟩))
 ·rintro h ⟨x,y⟩ hm
  obtain⟨i,hi⟩:=bM.1 hm
  rw[List.getElem?_zip_eq_some]at hi
  exact h i x y hi.1 hi.2
theorem cr4Alike(a b:List Bx)(g:Nat)(hg1:1<=g)(hg:g<=5)(ha:a.length<1000000000000)(hb:b.length<1000000000000){K:KT}(hK:K (.sb (alike g a b)) []):ACall Tryz.prog 292 [encXs a,encXs b,.v (.int .i64 g)] [] K:=by
 refine ACall.bool (ofr4Alike rfl rfl ?_)
 (repeat' ((conv=>whnf);first|refine zG ?_|apply zA|(apply zI;intro h)|exact zT));(all_goals conv=>whnf)
 ·have hl:a.length=b.length:=by
   rw[aA,aA]at h;omega
  refine Lp.intro Nat (fun k=>⟨0,[],[(0,encXs a),(1,encXs b),(2,.v (.int .i64 g)),(7,.v (.int .i64 k))]⟩) (fun k=>k<=a.length/\∀(i:Nat) x y,i<k->a[i]? =some x->b[i]? =some y->alikeB g x y=true) (fun k=>a.length-k) 0 ⟨aH _,fun i x y h=>absurd h (aZ _)⟩ ?_ ?_
  ·(exact leA)
  intro k ⟨hk,hinv⟩
  rcases aB k a.length with hkl|hkl
  ·have hkb:k<b.length:=by omega
   obtain⟨p,hp⟩:=gex hkl
   obtain⟨q,hq⟩:=gex hkb
   have yes:alikeB g p q=true->∀(i:Nat) x y,i<k+1->a[i]? =some x->b[i]? =some y->alikeB g x y=true:=fun h i x y hi hx hy=>by
    rcases aB i k with h1|h1
    ·exact hinv i x y h1 hx hy
    ·have:i=k:=by omega
     subst this
     rw[hp]at hx;rw[hq]at hy;cases hx;cases hy;exact h
   have no:alikeB g p q=false->alike g a b=false:=fun h=>by
    rw[cA,ne_eq,alike_get hl]
    intro hh
    rw[hh k p q hp hq]at h;cases h
   obtain rfl|rfl|rfl|rfl|rfl:g=1\/g=2\/g=3\/g=4\/g=5:=by omega
   all_goals
    (repeat' ((conv=>whnf);first|(with_reducible refine Lp.times 6 ?_)|(refine in_c zd ?_)|(with_reducible first|refine in_map hkl ?_|refine in_map hkb ?_|refine ix_map hp ?_|refine ix_map hq ?_|refine eqv_R ?_)|refine zG ?_|apply zA|(apply zI;intro h)|exact zT));(all_goals conv=>whnf)
    all_goals first
     |(refine⟨k+1,⟨by omega,yes (by simp[alikeB,List.range,List.range.loop,Bx.get, *])⟩,by omega,?_⟩
       (exact leA)
       done)
     |exact fin_f hK (no (by simp[alikeB,List.range,List.range.loop,Bx.get, *]))
  ·(repeat' ((conv=>whnf);first|refine zG ?_|apply zA|(apply zI;intro h)|exact zT));(all_goals conv=>whnf)
   refine fin_t hK ((alike_get hl).2 fun i x y hx hy=>hinv i x y (by have:=(aP.1 hx).1;omega) hx hy)
 ·refine fin_f hK ?_
  rw[aA,aA]at h
  rw[alike]
  have:(a.length==b.length)=false:=by
   rw[cA,ne_eq,beq_iff_eq];omega
  rw[this];rfl
def fromOf(ps:List (List Bx))(r:Nat):Nat:=(ps.take r).flatten.length
theorem fromOf_succ{ps:List (List Bx)}{r:Nat}{p:List Bx}(h:ps[r]? =some p):fromOf ps (r+1)=fromOf ps r+p.length:=by
 rw[fromOf,bJ,h]
 simp[fromOf]
theorem fromOf_all{ps:List (List Bx)}{r:Nat}(h:ps.length<=r):fromOf ps r=ps.flatten.length:=by rw[fromOf,aX h]
theorem run_get{ps:List (List Bx)}{r:Nat}{p:List Bx}(h:ps[r]? =some p){j:Nat}(hj:j<p.length):ps.flatten[fromOf ps r+j]? =p[j]? :=by
 have hr:=(aP.1 h).1
 have e:ps.flatten=(ps.take r).flatten++(p++(ps.drop (r+1)).flatten):=by
  have h2:ps=ps.take r++p::ps.drop (r+1):=by
   rw[aD hr]at h
   rw[<-bH h,<-bE hr,cQ]
  rw[<-eI,<-List.flatten_append,<-h2]
 rw[e,bB (by rw[fromOf];omega),fromOf,fD,aY hj]
theorem run_slice{ps:List (List Bx)}{r:Nat}{p:List Bx}(h:ps[r]? =some p):(ps.flatten.drop (fromOf ps r)).take p.length=p:=by
 apply List.ext_getElem?
 intro j
 rw[cS]
 by_cases hj:j<p.length
 ·rw[aG hj,cC,run_get h hj]
 ·rw[aE hj,bN zo]
theorem Parts.next{f:Nat}:∀{ps:List (List Bx)},Parts f ps->∀{r:Nat} {p q:List Bx},ps[r]? =some p->ps[r+1]? =some q->rgOf f p≠rgOf f q
 |[],_,r,p,q,h,_=>by simp at h
 |p0::ps,hP,0,p,q,h,h2=>by
  simp at h;subst h
  cases hP with
  |one=>simp at h2
  |cons _ q' ps' _ _ h3 _=>simp at h2;subst h2;exact h3
 |p0::ps,hP,r+1,p,q,h,h2=>Parts.next hP.tail (by simpa using h) (by simpa using h2)
def lastRun(ps:List (List Bx)):Nat->List Bx
 |0=>[]
 |r+1=>(ps[r]?).getD []
theorem canl_step(k:Nat)(hk:k<=4)(hIH:∀(l:List Bx) {K:KT},l.length<1000000000->K (.sb (canB k l)) []->ACall Tryz.prog 243 [encXs l,.v (.int .i64 (((4-k:Nat):Int)+1))] [] K)
  (l:List Bx)(hl:l.length<1000000000){K:KT}(hK:K (.sb (canB (k+1) l)) []):ACall Tryz.prog 243 [encXs l,.v (.int .i64 ((4-k:Nat):Int))] [] K:=by
 have hf4:4-k<=4:=by omega
 have hP:=runs_parts (4-k) l
 have hfl:=runs_flat (4-k) l
 have hal:∀(a b:List Bx) {K:KT},a.length<1000000000000->b.length<1000000000000->K (.sb (alike (4-k+1) a b)) []->ACall Tryz.prog 292 [encXs a,encXs b,.v (.int .i64 (((4-k:Nat):Int)+1))] [] K:=fun a b {K} ha hb h=>by
  rw[show((4-k:Nat):Int)+1=((4-k+1:Nat):Int) by omega]
  exact cr4Alike a b (4-k+1) zo zo ha hb h
 rw[canB]at hK
 generalize runsF (4-k) l=ps at*
 have hflen:ps.flatten.length=l.length:=by rw[hfl]
 refine ACall.bool (ofr4Canl rfl rfl ?_)
 (repeat' ((conv=>whnf);first|refine zG ?_|apply zA|(apply zI;intro h)|exact zT));(all_goals conv=>whnf)
 refine Lp.intro Nat (fun r=>⟨0,[],[(0,encXs l),(1,.v (.int .i64 ((4-k:Nat):Int))),(5,encXs (lastRun ps r)),(6,.v (.int .i64 (fromOf ps r:Nat)))]⟩) (fun r=>r<=ps.length/\chkR (canB k) (4-k) [] ps=chkR (canB k) (4-k) (lastRun ps r) (ps.drop r)) (fun r=>ps.length-r) 0 ⟨aH _,by rw[cD];rfl⟩ ?_ ?_
 ·(exact leA)
 intro r ⟨hr,hchk⟩
 rcases aB r ps.length with hrl|hrl
 ·obtain⟨p,hp⟩:=gex hrl
  obtain⟨hp1,hp2⟩:=hP.mem p (aF hp)
  have hplen:0<p.length:=dH.2 hp1
  have hfs:=fromOf_succ hp
  have hfle:fromOf ps (r+1)<=l.length:=by
   rw[<-hflen,fromOf]
   have:=congrArg List.length (cQ (r+1) ps)
   have e:ps.flatten=(ps.take (r+1)).flatten++(ps.drop (r+1)).flatten:=by rw[<-List.flatten_append,cQ]
   rw[e,aC];omega
  have hfrl:fromOf ps r<l.length:=by omega
  obtain⟨x0,hx0⟩:=gex hplen
  have hlx0:l[fromOf ps r]? =some x0:=by
   have:=run_get hp hplen
   rw[hfl,eG,hx0]at this
   exact this
  have hx0r:x0.get (4-k)=rgOf (4-k) p:=hp2 x0 (aF hx0)
  (repeat' ((conv=>whnf);first|refine zG ?_|apply zA|(apply zI;intro h)|exact zT));(all_goals conv=>whnf)
  refine Lp.intro Nat (fun j=>⟨0,[],[(0,encXs l),(1,.v (.int .i64 ((4-k:Nat):Int))),(5,encXs (lastRun ps r)),(6,.v (.int .i64 (fromOf ps r:Nat))),(7,.v (.int .i64 ((fromOf ps r+j:Nat):Int)))]⟩) (fun j=>j<=p.length) (fun j=>p.length-j) 0 (aH _) ?_ ?_
  ·(exact leA)
  intro j hj
  rcases aB j p.length with hjl|hjl
  ·obtain⟨x,hx⟩:=gex hjl
   have hlx:l[fromOf ps r+j]? =some x:=by
    have:=run_get hp hjl
    rw[hfl,hx]at this
    exact this
   have hxr:x.get (4-k)=x0.get (4-k):=by rw[hp2 x (aF hx),hx0r]
   have hjl2:fromOf ps r+j<l.length:=by omega
   clear hchk hK hal hIH hP hp2 hx0r
   obtain rfl|rfl|rfl|rfl|rfl:k=0\/k=1\/k=2\/k=3\/k=4:=by omega
   all_goals
    (repeat' ((conv=>whnf);first|(with_reducible first|refine in_map hjl2 ?_|refine in_map hfrl ?_|refine ix_map hlx ?_|refine ix_map hlx0 ?_)|(refine in_c zd ?_)|(with_reducible refine eqv_R ?_)|refine zG ?_|apply zA|(apply zI;intro h)|exact zT));(all_goals conv=>whnf)
    all_goals first
     |(exfalso;exact h hxr)
     |(refine⟨j+1,by omega,by omega,?_⟩
       (exact leA))
  ·have hjp:j=p.length:=by omega
   subst hjp
   have hsl:∀{K:List AV->Prop},K (p.map encX)->Sl (l.map encX) (fromOf ps r) (fromOf ps r+p.length-fromOf ps r) K:=fun {K} h=>by
    refine sl_map zo ?_
    rw[fD,<-hfl,run_slice hp]
    exact h
   have hadd:(fromOf ps r:Int)+((p.map encX).length:Int)=((fromOf ps (r+1):Nat):Int):=by rw[hfs,aA];omega
   have hdrop:ps.drop r=p::ps.drop (r+1):=by
    rw[aD hrl]at hp
    rw[<-bH hp,<-bE hrl]
   have hlast1:lastRun ps (r+1)=p:=by rw[lastRun,hp];rfl
   have hstep:chkR (canB k) (4-k) [] ps=(!joinB (4-k) (lastRun ps r) p&&canB k p&&chkR (canB k) (4-k) p (ps.drop (r+1))):=by rw[hchk,hdrop,chkR]
   have hpl:p.length<=l.length:=by omega
   have hcan:∀{K:KT},K (.sb (canB k p)) []->ACall Tryz.prog 243 [encXs p,.v (.int .i64 (((4-k:Nat):Int)+1))] [] K:=fun h=>hIH p zo h
   have hends:(fromOf ps r+p.length=l.length)\/∃y,l[fromOf ps r+p.length]? =some y/\y.get (4-k)≠x0.get (4-k):=by
    rcases aB (r+1) ps.length with hn|hn
    ·obtain⟨q,hq⟩:∃q,ps[r+1]? =some q:=⟨_,aD hn⟩
     obtain⟨hq1,hq2⟩:=hP.mem q (aF hq)
     obtain⟨y,hy⟩:∃y,q[0]? =some y:=⟨_,aD (dH.2 hq1)⟩
     refine .inr ⟨y,?_,?_⟩
     ·have:=run_get hq (dH.2 hq1)
      rw[hfl,eG,hfs,hy]at this
      exact this
     ·rw[hq2 y (aF hy),hx0r]
      exact(hP.next hp hq).symm
    ·left
     rw[<-hfs,fromOf_all zo,hflen]
   have hprev:(fromOf ps r=0/\lastRun ps r=[])\/∃pl z0,lastRun ps r=pl/\pl≠[]/\0<fromOf ps r/\l[fromOf ps r-1]? =some z0/\rgOf (4-k) pl=z0.get (4-k)/\pl.length<=l.length:=by
    cases r with
    |zero=>exact .inl ⟨rfl,rfl⟩
    |succ r'=>
     obtain⟨pl,hpl⟩:∃pl,ps[r']? =some pl:=⟨_,aD zo⟩
     obtain⟨h1,h2⟩:=hP.mem pl (aF hpl)
     have hlp:=dH.2 h1
     have hf:=fromOf_succ hpl
     obtain⟨z0,hz0⟩:∃z,pl[pl.length-1]? =some z:=⟨_,aD zo⟩
     refine .inr ⟨pl,z0,by rw[lastRun,hpl];rfl,h1,by omega,?_,(h2 z0 (aF hz0)).symm,by omega⟩
     have:=run_get hpl (show pl.length-1<pl.length by omega)
     rw[hfl,hz0]at this
     rw[<-this]
     congr 1
     omega
   obtain⟨cb,hcb⟩:∃cb,canB k p=cb:=⟨_,rfl⟩
   rw[hcb]at hstep
   rw[hcb]at hcan
   rcases hprev with⟨hz,hlr⟩|⟨pl,z0,hlr,hplne,hpos,hz0,hplr,hpll⟩
   ·have hjo:joinB (4-k) (lastRun ps r) p=false:=by rw[hlr];rfl
    rw[hjo]at hstep
    clear hchk hIH hP hp2 hfl hflen hdrop hx0r
    rcases hends with hend|⟨y,hly,hne⟩
    ·obtain rfl|rfl|rfl|rfl|rfl:k=0\/k=1\/k=2\/k=3\/k=4:=by omega
     all_goals
      skip
      (repeat' ((conv=>whnf);first|(with_reducible first|refine in_map hfrl ?_|refine ix_map hlx0 ?_)|(refine in_c zd ?_)|(with_reducible first|refine eqv_R ?_|refine Sb.intro (fromOf ps r) (fromOf ps r+p.length) rfl rfl zo (by rw[aA];omega) ?_|refine hsl ?_|refine hcan ?_|refine wr_i64 hadd zo zo ?_)|refine zG ?_|apply zA|(apply zI;intro h)|exact zT));(all_goals conv=>whnf)
      all_goals first
       |exact fin_f hK (by rw[hstep];clear hsl hcan hK hl hfs hfle hfrl hx0 hlx0 hp hadd hlast1 hstep;(try clear hal2 hal1 hz0);simp_all)
       |(refine⟨r+1,⟨by omega,by rw[hstep,hlast1];clear hsl hcan hK hl hfs hfle hfrl hx0 hlx0 hp hadd hlast1 hstep;(try clear hal2 hal1 hz0);simp_all⟩,by omega,?_⟩
         rw[hlast1]
         (exact leA))
    ·have hlyl:fromOf ps r+p.length<l.length:=(aP.1 hly).1
     obtain rfl|rfl|rfl|rfl|rfl:k=0\/k=1\/k=2\/k=3\/k=4:=by omega
     all_goals
      skip
      (repeat' ((conv=>whnf);first|(with_reducible first|refine in_map hlyl ?_|refine ix_map hly ?_|refine in_map hfrl ?_|refine ix_map hlx0 ?_)|(refine in_c zd ?_)|(with_reducible first|refine eqv_R ?_|refine Sb.intro (fromOf ps r) (fromOf ps r+p.length) rfl rfl zo (by rw[aA];omega) ?_|refine hsl ?_|refine hcan ?_|refine wr_i64 hadd zo zo ?_)|refine zG ?_|apply zA|(apply zI;intro h)|exact zT));(all_goals conv=>whnf)
      all_goals first
       |(exfalso;exact hne h)
       |exact fin_f hK (by rw[hstep];clear hsl hcan hK hl hfs hfle hfrl hx0 hlx0 hp hadd hlast1 hstep;(try clear hal2 hal1 hz0);simp_all)
       |(refine⟨r+1,⟨by omega,by rw[hstep,hlast1];clear hsl hcan hK hl hfs hfle hfrl hx0 hlx0 hp hadd hlast1 hstep;(try clear hal2 hal1 hz0);simp_all⟩,by omega,?_⟩
         rw[hlast1]
         (exact leA))
   ·obtain⟨al,hal1⟩:∃al,alike (4-k+1) pl p=al:=⟨_,rfl⟩
    have hjo:joinB (4-k) (lastRun ps r) p=(decide ((x0.get (4-k)).lo<=(z0.get (4-k)).hi)||(decide ((x0.get (4-k)).lo=(z0.get (4-k)).hi+1)&&al)):=by
     rw[hlr,joinB,hplr,<-hx0r,hal1]
     cases pl with
     |nil=>exact absurd rfl hplne
     |cons=>rfl
    have hal2:∀{K:KT},K (.sb al) []->ACall Tryz.prog 292 [encXs pl,encXs p,.v (.int .i64 (((4-k:Nat):Int)+1))] [] K:=fun h=>hal pl p zo zo (by rw[hal1];exact h)
    have hzl:fromOf ps r-1<l.length:=by omega
    have b0:=(z0.get (4-k)).h0
    have b1:=(z0.get (4-k)).h1
    have b2:=(x0.get (4-k)).l1
    rw[hjo]at hstep
    rw[hlr]
    clear hchk hIH hP hp2 hfl hflen hdrop hx0r hal hplr hjo
    rcases hends with hend|⟨y,hly,hne⟩
    ·obtain rfl|rfl|rfl|rfl|rfl:k=0\/k=1\/k=2\/k=3\/k=4:=by omega
     all_goals
      simp only[Nat.reduceSub,Bx.get]at hstep b0 b1 b2
      (repeat' ((conv=>whnf);first|(with_reducible first|refine in_map hfrl ?_|refine ix_map hlx0 ?_)|(refine in_c zd ?_)|(with_reducible first|refine eqv_R ?_|refine Sb.intro (fromOf ps r) (fromOf ps r+p.length) rfl rfl zo (by rw[aA];omega) ?_|refine hsl ?_|refine hcan ?_|refine wr_i64 hadd zo zo ?_|refine In.intro (fromOf ps r-1) zo (by rw[aA];omega) ?_|refine ix_map hz0 ?_|refine hal2 ?_)|refine zG ?_|apply zA|(apply zI;intro h)|exact zT));(all_goals conv=>whnf)
      all_goals first
       |exact fin_f hK (by rw[hstep];clear hsl hcan hK hl hfs hfle hfrl hx0 hlx0 hp hadd hlast1 hstep;(try clear hal2 hal1 hz0);simp_all)
       |(refine⟨r+1,⟨by omega,by rw[hstep,hlast1];clear hsl hcan hK hl hfs hfle hfrl hx0 hlx0 hp hadd hlast1 hstep;(try clear hal2 hal1 hz0);simp_all⟩,by omega,?_⟩
         rw[hlast1]
         (exact leA))
    ·have hlyl:fromOf ps r+p.length<l.length:=(aP.1 hly).1
     obtain rfl|rfl|rfl|rfl|rfl:k=0\/k=1\/k=2\/k=3\/k=4:=by omega
     all_goals
      simp only[Nat.reduceSub,Bx.get]at hstep b0 b1 b2
      (repeat' ((conv=>whnf);first|(with_reducible first|refine in_map hlyl ?_|refine ix_map hly ?_|refine in_map hfrl ?_|refine ix_map hlx0 ?_)|(refine in_c zd ?_)|(with_reducible first|refine eqv_R ?_|refine Sb.intro (fromOf ps r) (fromOf ps r+p.length) rfl rfl zo (by rw[aA];omega) ?_|refine hsl ?_|refine hcan ?_|refine wr_i64 hadd zo zo ?_|refine In.intro (fromOf ps r-1) zo (by rw[aA];omega) ?_|refine ix_map hz0 ?_|refine hal2 ?_)|refine zG ?_|apply zA|(apply zI;intro h)|exact zT));(all_goals conv=>whnf)
      all_goals first
       |(exfalso;exact hne h)
       |exact fin_f hK (by rw[hstep];clear hsl hcan hK hl hfs hfle hfrl hx0 hlx0 hp hadd hlast1 hstep;(try clear hal2 hal1 hz0);simp_all)
       |(refine⟨r+1,⟨by omega,by rw[hstep,hlast1];clear hsl hcan hK hl hfs hfle hfrl hx0 hlx0 hp hadd hlast1 hstep;(try clear hal2 hal1 hz0);simp_all⟩,by omega,?_⟩
         rw[hlast1]
         (exact leA))
 ·have e:ps.drop r=[]:=cH hrl
  rw[e,chkR]at hchk
  have hf:fromOf ps r=l.length:=by rw[fromOf_all hrl,hflen]
  (repeat' ((conv=>whnf);first|refine zG ?_|apply zA|(apply zI;intro h)|exact zT));(all_goals conv=>whnf)
  exact fin_t hK hchk
theorem cr4Canl:∀(k:Nat),k<=5->∀(l:List Bx) {K:KT},l.length<1000000000->K (.sb (canB k l)) []->ACall Tryz.prog 243 [encXs l,.v (.int .i64 ((5-k:Nat):Int))] [] K
 |0,_,l,K,hl,hK=>by
  refine ACall.bool (ofr4Canl rfl rfl ?_)
  (repeat' ((conv=>whnf);first|refine zG ?_|apply zA|(apply zI;intro h)|exact zT));(all_goals conv=>whnf)
  refine fin_s hK ?_
  rw[canB,aA,bG,beq_iff_eq,aK]
  omega
 |k+1,hk,l,K,hl,hK=>by
  rw[show 5-(k+1)=4-k by omega]
  refine canl_step k zo (fun l K h1 h2=>?_) l hl hK
  rw[show((4-k:Nat):Int)+1=((5-k:Nat):Int) by omega]
  exact cr4Canl k zo l h1 h2
def setB(l:List Bx):Bool:=decide (l.length<=4096)&&(decide ((vldB l).length=l.length)&&canB 5 l)
theorem cr4Vald(l:List Bx)(hl:l.length<1000000000){K:KT}(hK:K (.sb (setB l)) []):ACall Tryz.prog 161 [encXs l] [] K:=by
 have hc:∀{K:KT},K (.sb (canB 5 l)) []->ACall Tryz.prog 243 [encXs l,.v (.int .i64 0)] [] K:=fun h=>cr4Canl 5 (aM _) l hl h
 refine ACall.bool (ofr4Vald rfl rfl ?_)
 unfold setB at hK
 (repeat' ((conv=>whnf);first|(with_reducible first|refine cr4Val l zo ?_|refine hc ?_)|refine zG ?_|apply zA|(apply zI;intro h)|exact zT));(all_goals conv=>whnf)
 all_goals
  simp only[aA]at*
  first
   |exact fin_s hK (by rw[decide_eq_true zo,decide_eq_true zo];rfl)
   |exact fin_f hK (by rw[decide_eq_true zo,decide_eq_false zo];rfl)
   |exact fin_f hK (by rw[decide_eq_false zo];rfl)
def addO(s:List Bx)(b:Bx):List Bx:=cano orB 5 s [b]
def makeGo:List Bx->List Bx->List Bx×Int
 |s,[]=>(s,0)
 |s,b::l=>if b.ok then(if 4096<(addO s b).length then([],3)else makeGo (addO s b) l)else makeGo s l
def makeP(l:List Bx):List Bx×Int:=makeGo [] l
theorem opI_0:opI 0=orB:=by funext x y;rfl
theorem grow_le(out:List (Grp (List Bx)))(s:Int×Int)(rest:List Bx):sizeG (grow eqB out s rest)<=sizeG out+rest.length:=by
 unfold grow
 split
 ·exact Nat.le_add_right _ _
 ·rcases cK out with hn|⟨ini,g,hc⟩
  ·subst hn;simp[sizeG]
  ·rw[cL]at hc
   subst hc
   simp only[cN,cB,dK,cX]
   split
   ·simp only[sizeG_snoc];omega
   ·simp only[sizeG_snoc];omega
theorem segs_fst(top:Int):∀st:List Int,(segs top st).map (·.1)=st
 |[]=>rfl
 |[x]=>rfl
 |x::y::r=>by
  have:=segs_fst top (y::r)
  simp only[segs,aU,this]
theorem groups_le(R:Int->List Bx)(top:Int)(st:List Int):sizeG (groupsOf R top st)<=(st.map fun e=>(R e).length).sum:=by
 have go:∀(l:List (Int×Int)) (out:List (Grp (List Bx))),sizeG (l.foldl (fun out s=>grow eqB out s (R s.1)) out)<=sizeG out+(l.map fun s=>(R s.1).length).sum:=by
  intro l
  induction l with
  |nil=>intro out;simp
  |cons s l ih=>
   intro out
   have h1:=ih (grow eqB out s (R s.1))
   have h2:=grow_le out s (R s.1)
   simp only[dW,aU,dF]
   omega
 have h:=go (segs top st) []
 have e:(segs top st).map (fun s=>(R s.1).length)=st.map fun e=>(R e).length:=by
  have:=congrArg (List.map fun e=>(R e).length) (segs_fst top st)
  rw[List.map_map]at this
  exact this
 rw[e]at h
 simpa[sizeG,groupsOf]using h
theorem starts_from(l:List Rg)(top:Int):∀x,x∈starts l top->x=0\/∃r,r∈l/\(x=r.lo\/x=r.hi+1):=by
 have go:∀(m:List Rg) (out:List Int),(∀x,x∈out->x=0\/∃r,r∈l/\(x=r.lo\/x=r.hi+1))->(∀r,r∈m->r∈l)->∀x,x∈m.foldl (stP top) out->x=0\/∃r,r∈l/\(x=r.lo\/x=r.hi+1):=by
  intro m
  induction m with
  |nil=>intro out h _ x hx;exact h x hx
  |cons r m ih=>
   intro out h hm x hx
   refine ih (stP top out r) (fun y hy=>?_) (fun z hz=>hm z (bA _ hz)) x hx
   unfold stP at hy
   split at hy
   ·rw[mem_insT,mem_insT]at hy
    rcases hy with(hy|⟨hy,_⟩)|⟨hy,_⟩
    ·exact h y hy
    ·exact .inr ⟨r,hm r zx,.inl hy⟩
    ·exact .inr ⟨r,hm r zx,.inr hy⟩
   ·exact h y hy
 exact go l [0] (fun x hx=>.inl (by simpa using hx)) fun r hr=>hr
theorem nodup_sub:∀{l m:List Int},l.Nodup->(∀x,x∈l->x∈m)->l.length<=m.length
 |[],m,_,_=>aH _
 |x::l,m,hn,hs=>by
  obtain⟨h1,h2⟩:=List.nodup_cons.1 hn
  have hx:=hs x zx
  have:=nodup_sub (m:=m.erase x) h2 fun y hy=>by
   have hne:y≠x:=fun e=>h1 (e▸hy)
   exact(List.mem_erase_of_ne hne).2 (hs y (bA _ hy))
  rw[List.length_erase_of_mem hx]at this
  have hpos:0<m.length:=List.length_pos_of_mem hx
  simp only[aJ]
  omega
def Cn:Nat->List Bx->Prop
 |0,a=>a.length<=1
 |k+1,a=>(∀x,x∈a->∀y,y∈a->x.get (4-k)=y.get (4-k)\/(x.get (4-k)).hi<(y.get (4-k)).lo\/(y.get (4-k)).hi<(x.get (4-k)).lo)/\(∀x,x∈a->(x.get (4-k)).lo<=(x.get (4-k)).hi)/\∀v,Cn k (atF (4-k) v a)
theorem atF_map{φ:Bx->Bx}{f:Nat}{v:Int}(h:∀b,(φ b).get f=b.get f)(l:List Bx):atF f v (l.map φ)=(atF f v l).map φ:=by
 rw[atF,atF,List.filter_map]
 congr 1
 refine List.filter_congr fun b _=>?_
 simp only[Function.comp,h]
theorem Cn.map{φ:Bx->Bx}:∀{k:Nat} {l:List Bx},k<=5->(∀b f,f<=4->5<=f+k->(φ b).get f=b.get f)->Cn k l->Cn k (l.map φ)
 |0,l,_,_,h=>by rw[Cn]at h⊢;rw[aA];exact h
 |k+1,l,hk,hφ,h=>by
  obtain⟨h1,h2,h3⟩:=h
  have hf:∀b,(φ b).get (4-k)=b.get (4-k):=fun b=>hφ b (4-k) zo zo
  refine⟨fun x hx y hy=>?_,fun x hx=>?_,fun v=>?_⟩
  ·obtain⟨x,gx,rfl⟩:=bU.1 hx
   obtain⟨y,gy,rfl⟩:=bU.1 hy
   rw[hf,hf];exact h1 x gx y gy
  ·obtain⟨x,gx,rfl⟩:=bU.1 hx
   rw[hf];exact h2 x gx
  ·rw[atF_map hf]
   exact Cn.map zo (fun b f h4 h5=>hφ b f h4 zo) (h3 v)
theorem Cn.nil:∀(k:Nat),Cn k []
 |0=>aH _
 |k+1=>⟨fun x hx=>by simp at hx,fun x hx=>by simp at hx,fun v=>Cn.nil k⟩
theorem atF_flatG{f:Nat}(hf:f<=4){v:Int}:∀{gs:List (Grp (List Bx))},Wf gs->(∀g,g∈gs->0<=g.lo/\g.hi<=4294967295)->(atF f v (flatG f gs)=[]\/∃g,g∈gs/\g.lo<=v/\v<=g.hi/\atF f v (flatG f gs)=g.val.map fun b=>b.put f (mkR g.lo g.hi))
 |[],_,_=>.inl rfl
 |g::gs,hw,hb=>by
  have hg:=hb g zx
  have hle:=hw.head
  have e:atF f v (flatG f (g::gs))=atF f v (g.val.map fun b=>b.put f (mkR g.lo g.hi))++atF f v (flatG f gs):=by
   rw[flatG,cR,atF,dB];rfl
  have hget:∀b:Bx,(b.put f (mkR g.lo g.hi)).get f=mkR g.lo g.hi:=fun b=>get_put hf
  have m1:=mkR_lo hg.1 (show g.lo<=4294967295 by omega) (show 0<=g.hi by omega) hg.2
  have m2:=mkR_hi hg.1 (show g.lo<=4294967295 by omega) (show 0<=g.hi by omega) hg.2
  have ih:=atF_flatG hf (v:=v) hw.tail fun x hx=>hb x (bA _ hx)
  by_cases hc:g.lo<=v/\v<=g.hi
  ·have e1:atF f v (g.val.map fun b=>b.put f (mkR g.lo g.hi))=g.val.map fun b=>b.put f (mkR g.lo g.hi):=dV.2 fun x hx=>by
    obtain⟨b,_,rfl⟩:=bU.1 hx
    rw[hget,m1,m2,decide_eq_true hc.1,decide_eq_true hc.2];rfl
   have e2:atF f v (flatG f gs)=[]:=by
    rcases ih with h|⟨h,hh,h1,h2,_⟩
    ·exact h
    ·have:=hw.above h hh;omega
   exact .inr ⟨g,by simp,hc.1,hc.2,by rw[e,e1,e2,bD]⟩
  ·have e1:atF f v (g.val.map fun b=>b.put f (mkR g.lo g.hi))=[]:=List.filter_eq_nil_iff.2 fun x hx=>by
    obtain⟨b,_,rfl⟩:=bU.1 hx
    rw[hget,m1,m2,aI,aK,aK];exact hc
   rw[e,e1,cZ]
   rcases ih with h|⟨h,hh,h1⟩
   ·exact .inl h
   ·exact .inr ⟨h,bA _ hh,h1⟩
theorem wf_apart:∀{gs:List (Grp (List Bx))},Wf gs->∀g,g∈gs->∀h,h∈gs->g=h\/g.hi<h.lo\/h.hi<g.lo
 |[],_,g,hg,_,_=>by simp at hg
 |x::gs,hw,g,hg,h,hh=>by
  rcases aW.1 hg with e1|g1
  ·rcases aW.1 hh with e2|h1
   ·exact .inl (e1.trans e2.symm)
   ·subst e1;exact .inr (.inl (hw.above h h1).1)
  ·rcases aW.1 hh with e2|h1
   ·subst e2;exact .inr (.inr (hw.above g g1).1)
   ·exact wf_apart hw.tail g g1 h h1
theorem cano_cn(op:Bool->Bool->Bool):∀(k:Nat) (a b:List Bx),k<=5->Cn k (cano op k a b)
 |0,a,b,_=>by rw[cano,Cn];split<;>simp
 |k+1,a,b,hk=>by
  have g:=cano_wf op k a b
  have ht:=topF_pos (4-k)
  rw[cano_succ]
  have hat:∀x,x∈groupsOf (restAt op k a b) (topF (4-k)) (starts (rngs (4-k) a b) (topF (4-k)))->x.val=restAt op k a b x.lo:=fun x hx=>by
   have h1:=g.low x hx
   have h2:=g.wf.le x hx
   have:=g.wf.at_mem hx (cF _) h2
   rw[g.at_,aG zo,lab]at this
   split at this
   ·cases this
   ·exact(bH this).symm
  generalize groupsOf (restAt op k a b) (topF (4-k)) (starts (rngs (4-k) a b) (topF (4-k)))=G at*
  have hb:∀x,x∈G->0<=x.lo/\x.hi<=4294967295:=fun x hx=>by have:=g.low x hx;omega
  have rg:∀x,x∈flatG (4-k) G->∃gr,gr∈G/\(x.get (4-k)).lo=gr.lo/\(x.get (4-k)).hi=gr.hi:=fun x hx=>by
   obtain⟨gr,hgr,hx⟩:=dT.1 hx
   obtain⟨z,_,rfl⟩:=bU.1 hx
   have h1:=hb gr hgr
   have h2:=g.wf.le gr hgr
   refine⟨gr,hgr,?_,?_⟩
   ·rw[get_put zo,mkR_lo zo zo zo zo]
   ·rw[get_put zo,mkR_hi zo zo zo zo]
  refine⟨fun x hx y hy=>?_,fun x hx=>?_,fun v=>?_⟩
  ·obtain⟨gx,hgx,x1,x2⟩:=rg x hx
   obtain⟨gy,hgy,y1,y2⟩:=rg y hy
   rcases wf_apart g.wf gx hgx gy hgy with h|h|h
   ·subst h
    left
    have e1:(x.get (4-k)).lo=(y.get (4-k)).lo:=by rw[x1,y1]
    have e2:(x.get (4-k)).hi=(y.get (4-k)).hi:=by rw[x2,y2]
    generalize x.get (4-k)=r at*
    generalize y.get (4-k)=s at*
    cases r;cases s
    simp only at e1 e2
    subst e1;subst e2;rfl
   ·right;left;omega
   ·right;right;omega
  ·obtain⟨gx,hgx,x1,x2⟩:=rg x hx
   have:=g.wf.le gx hgx
   omega
  ·rcases atF_flatG (f:=4-k) zo (v:=v) g.wf hb with h|⟨gr,hgr,_,_,h⟩
   ·rw[h];exact Cn.nil k
   ·rw[h]
    refine Cn.map zo (fun b f h4 h5=>get_put_ne zo h4 zo) ?_
    rw[hat gr hgr]
    exact cano_cn op k _ _ zo
/-! ### Counting -/
def inR(r:Rg)(e:Int):Bool:=decide (r.lo<=e)&&decide (e<=r.hi)
theorem atF_cons(f:Nat)(e:Int)(x:Bx)(l:List Bx):(atF f e (x::l)).length=(if inR (x.get f) e then 1 else 0)+(atF f e l).length:=by
 rw[atF,fE,inR]
 split
 ·simp[atF,Nat.add_comm]
 ·simp[atF]
theorem sum_ite(p:Int->Bool)(st:List Int):(st.map fun e=>if p e=true then 1 else 0).sum=(st.filter p).length:=by
 induction st with
 |nil=>rfl
 |cons e st ih=>
  rw[aU,dF,ih,fE]
  split<;>simp<;>omega
theorem sum_add(f g:Int->Nat)(st:List Int):(st.map fun e=>f e+g e).sum=(st.map f).sum+(st.map g).sum:=by
 induction st with
 |nil=>rfl
 |cons e st ih=>simp only[aU,dF,ih];omega
theorem sum_mono{f g:Int->Nat}{st:List Int}(h:∀e,e∈st->f e<=g e):(st.map f).sum<=(st.map g).sum:=by
 induction st with
 |nil=>exact aM _
 |cons e st ih=>
  have h1:=h e zx
  have h2:=ih fun x hx=>h x (bA _ hx)
  simp only[aU,dF];omega
theorem sum_mulL(c:Nat)(f:Int->Nat)(st:List Int):(st.map fun e=>c*f e).sum=c*(st.map f).sum:=by
 induction st with
 |nil=>rfl
 |cons e st ih=>simp only[aU,dF,ih,fO]
theorem sum_at_le{f:Nat}{st:List Int}{N:Nat}:∀{a:List Bx},(∀x,x∈a->(st.filter (inR (x.get f))).length<=N)->(st.map fun e=>(atF f e a).length).sum<=a.length*N
 |[],_=>by
  rw[show(st.map fun e=>(atF f e []).length)=st.map fun _=>0 from rfl]
  have:∀l:List Int,(l.map fun _=>0).sum=0:=by
   intro l;induction l with
   |nil=>rfl
   |cons x l ih=>simpa using ih
  rw[this];exact aH _
 |x::a,h=>by
  have ih:=sum_at_le (a:=a) fun y hy=>h y (bA _ hy)
  have hx:=h x zx
  have e:(st.map fun e=>(atF f e (x::a)).length)=st.map fun e=>(if inR (x.get f) e=true then 1 else 0)+(atF f e a).length:=by
   refine dY fun e _=>?_
   rw[atF_cons]
  rw[e,sum_add,sum_ite,aJ,bZ]
  omega
theorem filter_nodup{st:List Int}(h:st.Pairwise (· < ·))(p:Int->Bool):(st.filter p).Nodup:=by
 refine List.Pairwise.imp ?_ (List.Pairwise.filter p h)
 intro a b hab e
 omega
def FromB(f:Nat)(c d:List Bx)(e:Int):Prop:=e=0\/(∃y,y∈c/\(e=(y.get f).lo\/e=(y.get f).hi+1))\/∃y,y∈d/\(e=(y.get f).lo\/e=(y.get f).hi+1)
theorem from_starts(f:Nat)(a b:List Bx)(top:Int):∀e,e∈starts (rngs f a b) top->FromB f a b e:=fun e he=>by
 rcases starts_from _ _ e he with h0|⟨r,hr,hre⟩
 ·exact .inl h0
 ·rcases aS.1 hr with hr|hr
  ·obtain⟨y,hy,rfl⟩:=bU.1 hr
   exact .inr (.inl ⟨y,hy,hre⟩)
  ·obtain⟨y,hy,rfl⟩:=bU.1 hr
   exact .inr (.inr ⟨y,hy,hre⟩)
theorem FromB.symm{f:Nat}{c d:List Bx}{e:Int}(h:FromB f c d e):FromB f d c e:=by
 rcases h with h|h|h
 ·exact .inl h
 ·exact .inr (.inr h)
 ·exact .inr (.inl h)
theorem cut_in{k:Nat}{c d:List Bx}(hc:Cn (k+1) c){x:Bx}(hx:x∈c){e:Int}(he:FromB (4-k) c d e)(h1:(x.get (4-k)).lo<=e)(h2:e<=(x.get (4-k)).hi):e=(x.get (4-k)).lo\/∃y,y∈d/\(e=(y.get (4-k)).lo\/e=(y.get (4-k)).hi+1):=by
 rcases he with h0|⟨y,hy,hre⟩|h
 ·have:=(x.get (4-k)).l0
  left;omega
 ·left
  have hy2:=hc.2.1 y hy
  rcases hc.1 x hx y hy with h|h|h
  ·rw[<-h]at hre;omega
  ·omega
  ·omega
 ·exact .inr h
theorem cnt_le{k:Nat}{c d:List Bx}{st:List Int}(hs:st.Pairwise (· < ·))(hf:∀e,e∈st->FromB (4-k) c d e)(hc:Cn (k+1) c){x:Bx}(hx:x∈c):(st.filter (inR (x.get (4-k)))).length<=1+2*d.length:=by
 have hsub:=nodup_sub (filter_nodup hs (inR (x.get (4-k)))) (m:=(x.get (4-k)).lo::(d.flatMap fun y=>[(y.get (4-k)).lo,(y.get (4-k)).hi+1])) fun e he=>by
  obtain⟨h1,h2⟩:=cE.1 he
  rw[inR,aI,aK,aK]at h2
  rcases cut_in hc hx (hf e h1) h2.1 h2.2 with h|⟨y,hy,h⟩
  ·rw[h];exact List.mem_cons_self
  ·refine bA _ (dT.2 ⟨y,hy,?_⟩)
   rcases h with h|h
   ·simp[h]
   ·simp[h]
 have hlen:∀b:List Bx,(b.flatMap fun y=>[(y.get (4-k)).lo,(y.get (4-k)).hi+1]).length=2*b.length:=by
  intro b
  induction b with
  |nil=>rfl
  |cons y b ih=>rw[cR,aC,ih];simp;omega
 rw[aJ,hlen]at hsub
 omega
theorem cnt2_le{k:Nat}{a b:List Bx}{st:List Int}(hs:st.Pairwise (· < ·))(hf:∀e,e∈st->FromB (4-k) a b e)(ha:Cn (k+1) a)(hb:Cn (k+1) b){x y:Bx}(hx:x∈a)(hy:y∈b):
  ((st.filter (inR (x.get (4-k)))).filter (inR (y.get (4-k)))).length<=2:=by
 have hsub:=nodup_sub (List.Nodup.sublist List.filter_sublist (filter_nodup hs (inR (x.get (4-k))))) (l:=(st.filter (inR (x.get (4-k)))).filter (inR (y.get (4-k)))) (m:=[(x.get (4-k)).lo,(y.get (4-k)).lo]) fun e he=>by
  obtain⟨h1,h3⟩:=cE.1 he
  obtain⟨h1,h2⟩:=cE.1 h1
  rw[inR,aI,aK,aK]at h2 h3
  have hx2:=ha.2.1 x hx
  have hy2:=hb.2.1 y hy
  rcases hf e h1 with h|h|h
  ·have:=(x.get (4-k)).l0
   have e1:e=(x.get (4-k)).lo:=by omega
   rw[e1];simp
  ·rcases cut_in (d:=[]) ha hx (.inr (.inl h)) h2.1 h2.2 with h|⟨z,hz,_⟩
   ·rw[h];simp
   ·simp at hz
  ·rcases cut_in (d:=[]) hb hy (.inr (.inl h)) h3.1 h3.2 with h|⟨z,hz,_⟩
   ·rw[h];simp
   ·simp at hz
 simpa using hsub
theorem sum_ite_mul(p:Int->Bool)(g:Int->Nat)(st:List Int):(st.map fun e=>(if p e=true then 1 else 0)*g e).sum=((st.filter p).map g).sum:=by
 induction st with
 |nil=>rfl
 |cons e st ih=>
  rw[aU,dF,ih,fE]
  split<;>simp
theorem sum_at2_le{f N:Nat}{b:List Bx}{st:List Int}:∀{a:List Bx},(∀x,x∈a->∀y,y∈b->((st.filter (inR (x.get f))).filter (inR (y.get f))).length<=N)->(st.map fun e=>(atF f e a).length*(atF f e b).length).sum<=a.length*(b.length*N)
 |[],_=>by
  have:∀l:List Int,(l.map fun e=>(atF f e []).length*(atF f e b).length).sum=0:=by
   intro l;induction l with
   |nil=>rfl
   |cons x l ih=>rw[aU,dF,ih];simp[atF]
  rw[this];exact aH _
 |x::a,h=>by
  have ih:=sum_at2_le (a:=a) fun y hy=>h y (bA _ hy)
  have hx:=sum_at_le (f:=f) (st:=st.filter (inR (x.get f))) (N:=N) (a:=b) fun y hy=>h x zx y hy
  have e:(st.map fun e=>(atF f e (x::a)).length*(atF f e b).length)=st.map fun e=>(if inR (x.get f) e=true then 1 else 0)*(atF f e b).length+(atF f e a).length*(atF f e b).length:=by
   refine dY fun e _=>?_
   rw[atF_cons,bZ]
  rw[e,sum_add,sum_ite_mul,aJ,bZ]
  omega
theorem sum_one(st:List Int):(st.map fun _=>1).sum=st.length:=by
 induction st with
 |nil=>rfl
 |cons e st ih=>simp only[aU,dF,ih,aJ];omega
theorem bound1(op:Bool->Bool->Bool)(m:Nat):∀(k:Nat) (a b:List Bx),k<=5->Cn k a->b.length<=m->(cano op k a b).length<=(a.length+1)*(2*m+3)^k
 |0,a,b,_,_,_=>by
  rw[cano,Nat.pow_zero,gF]
  split<;>simp
 |k+1,a,b,hk,ha,hb=>by
  rw[cano_succ,flatG_len]
  refine bR (groups_le _ _ _) ?_
  have hstl:=starts_length (rngs (4-k) a b) (topF_pos (4-k)).1
  have hrl:(rngs (4-k) a b).length=a.length+b.length:=by rw[rngs,aC,aA,aA]
  have h1:((starts (rngs (4-k) a b) (topF (4-k))).map fun e=>(restAt op k a b e).length).sum<=((starts (rngs (4-k) a b) (topF (4-k))).map fun e=>(2*m+3)^k*((atF (4-k) e a).length+1)).sum:=sum_mono fun e _=>by
   have:=bound1 op m k (atF (4-k) e a) (atF (4-k) e b) zo (ha.2.2 e) (bR (dL ..) hb)
   rw[fV]
   exact this
  have h2:=sum_at_le (f:=4-k) (st:=starts (rngs (4-k) a b) (topF (4-k))) (N:=1+2*b.length) (a:=a) fun x hx=>cnt_le (starts_inv (rngs (4-k) a b) (topF_pos (4-k)).1).sorted (from_starts (4-k) a b (topF (4-k))) ha hx
  generalize starts (rngs (4-k) a b) (topF (4-k))=st at*
  have h3:(st.map fun e=>(atF (4-k) e a).length+1).sum=(st.map fun e=>(atF (4-k) e a).length).sum+st.length:=by
   rw[sum_add]
   congr 1
   clear h1 h2 hstl
   induction st with
   |nil=>rfl
   |cons e st ih=>simp only[aU,dF,ih,aJ];omega
  rw[sum_mulL,h3]at h1
  refine bR h1 ?_
  have h4:(st.map fun e=>(atF (4-k) e a).length).sum+st.length<=(a.length+1)*(2*m+3):=by
   have h5:a.length*(1+2*b.length)<=a.length*(1+2*m):=eK _ zo
   have h6:(a.length+1)*(2*m+3)=a.length*(1+2*m)+2*a.length+(2*m+3):=by
    rw[bZ,fN,fO,fO,gF];omega
   rw[h6,hrl]at*
   omega
  calc(2*m+3)^k*((st.map fun e=>(atF (4-k) e a).length).sum+st.length)<=(2*m+3)^k*((a.length+1)*(2*m+3)):=eK _ h4
   _=(a.length+1)*(2*m+3)^(k+1):=by rw[Nat.pow_succ,Nat.mul_left_comm]
theorem bound2(op:Bool->Bool->Bool):∀(k:Nat) (a b:List Bx),k<=5->Cn k a->Cn k b->(cano op k a b).length<=6^k*((a.length+1)*(b.length+1))
 |0,a,b,_,_,_=>by
  have h1:1<=(a.length+1)*(b.length+1):=Nat.mul_pos zo zo
  rw[cano,Nat.pow_zero,fN]
  split
  ·exact h1
  ·exact aH _
 |k+1,a,b,hk,ha,hb=>by
  rw[cano_succ,flatG_len]
  refine bR (groups_le _ _ _) ?_
  have hstl:=starts_length (rngs (4-k) a b) (topF_pos (4-k)).1
  have hrl:(rngs (4-k) a b).length=a.length+b.length:=by rw[rngs,aC,aA,aA]
  have hs:=(starts_inv (rngs (4-k) a b) (topF_pos (4-k)).1).sorted
  have hf:=from_starts (4-k) a b (topF (4-k))
  have h1:((starts (rngs (4-k) a b) (topF (4-k))).map fun e=>(restAt op k a b e).length).sum<=((starts (rngs (4-k) a b) (topF (4-k))).map fun e=>6^k*(((atF (4-k) e a).length*(atF (4-k) e b).length+(atF (4-k) e a).length)+((atF (4-k) e b).length+1))).sum:=sum_mono fun e _=>by
   have:=bound2 op k (atF (4-k) e a) (atF (4-k) e b) zo (ha.2.2 e) (hb.2.2 e)
   have e2:((atF (4-k) e a).length*(atF (4-k) e b).length+(atF (4-k) e a).length)+((atF (4-k) e b).length+1)=((atF (4-k) e a).length+1)*((atF (4-k) e b).length+1):=by
    rw[bZ,fO,gF,fN]
   rw[e2]
   exact this
  have h2:=sum_at_le (f:=4-k) (st:=starts (rngs (4-k) a b) (topF (4-k))) (N:=1+2*b.length) (a:=a) fun x hx=>cnt_le hs hf ha hx
  have h3:=sum_at_le (f:=4-k) (st:=starts (rngs (4-k) a b) (topF (4-k))) (N:=1+2*a.length) (a:=b) fun x hx=>cnt_le hs (fun e he=>(hf e he).symm) hb hx
  have h4:=sum_at2_le (f:=4-k) (st:=starts (rngs (4-k) a b) (topF (4-k))) (N:=2) (a:=a) (b:=b) fun x hx y hy=>cnt2_le hs hf ha hb hx hy
  generalize starts (rngs (4-k) a b) (topF (4-k))=st at*
  rw[sum_mulL,sum_add,sum_add,sum_add,sum_one]at h1
  refine bR h1 ?_
  have h5:(st.map fun e=>(atF (4-k) e a).length*(atF (4-k) e b).length).sum+(st.map fun e=>(atF (4-k) e a).length).sum+((st.map fun e=>(atF (4-k) e b).length).sum+st.length)<=6*((a.length+1)*(b.length+1)):=by
   have e1:a.length*(1+2*b.length)=a.length+2*(a.length*b.length):=by rw[fO,gF,Nat.mul_left_comm]
   have e2:b.length*(1+2*a.length)=b.length+2*(a.length*b.length):=by rw[fO,gF,Nat.mul_left_comm,fV b.length]
   have e3:a.length*(b.length*2)=2*(a.length*b.length):=by rw[fV b.length,Nat.mul_left_comm]
   have e4:(a.length+1)*(b.length+1)=a.length*b.length+a.length+b.length+1:=by rw[bZ,fO,gF,fN];omega
   rw[e1]at h2;rw[e2]at h3;rw[e3]at h4;rw[e4];rw[hrl]at hstl
   omega
  calc 6^k*_<=6^k*(6*((a.length+1)*(b.length+1))):=eK _ h5
   _=6^(k+1)*((a.length+1)*(b.length+1)):=by rw[Nat.pow_succ,Nat.mul_assoc]
end Go.Proofs.YtbdikofefjljoaaGreatDoor
