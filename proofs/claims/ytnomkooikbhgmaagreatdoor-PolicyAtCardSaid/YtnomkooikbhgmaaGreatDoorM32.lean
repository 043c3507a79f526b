/- Lemmas. -/
import Derived.Test.YtnomkooikbhgmaaGreatDoorM31
set_option linter.unusedVariables false
set_option linter.unusedSimpArgs false
set_option maxRecDepth 100000
set_option maxHeartbeats 4000000
noncomputable section
namespace Go.Proofs.YtnomkooikbhgmaaGreatDoor
open Go Go.Vm
def actW(l:List Rg)(m:Int):Bool:=decide (0<=m)&&(decide (m<=4294967295)&&has l m)
def actB(i:Nt)(x:Sm)(m:Int):Bool:=sEq x.dur ⟨#[]⟩||(decide (0<=wnIx i.wins x.dur)&&actW (((i.wins[(wnIx i.wins x.dur).toNat]?).map Wn.act).getD []) m)
def priN(i:Nt)(n:Nat):Int:=((i.sts[n]?).map Sm.pri).getD 0
def actN(i:Nt)(m:Int)(n:Nat):Bool:=((i.sts[n]?).map fun x=>actB i x m).getD false
def priAt(i:Nt)(m:Int)(p:Int)(k:Nat):List Nat:=(List.range k).filter fun n=>decide (priN i n=p)&&actN i m n
def ordF(i:Nt)(m:Int)(c:Nat):List Nat:=(List.range c).flatMap fun(c:Nat)=>priAt i m (1000-(c:Int)) i.sts.length
def ordP(i:Nt)(m:Int):List Nat:=ordF i m 1001
theorem priAt_succ(i:Nt)(m p:Int)(k:Nat):priAt i m p (k+1)=priAt i m p k++(if decide (priN i k=p)&&actN i m k then [k]else []):=by
 rw[priAt,fK,dF,<-priAt];cases h:(decide (priN i k=p)&&actN i m k)<;>simp[h]
theorem ordF_succ(i:Nt)(m:Int)(c:Nat):ordF i m (c+1)=ordF i m c++priAt i m (1000-(c:Int)) i.sts.length:=by
 rw[ordF,fK,dZ,<-ordF];simp
theorem priAt_mem{i:Nt}{m p:Int}{k n:Nat}:n∈priAt i m p k↔n<k/\priN i n=p/\actN i m n=true:=by
 rw[priAt,cJ,dN,aJ,aL]
theorem ordF_lt{i:Nt}{m:Int}{c n:Nat}(h:n∈ordF i m c):n<i.sts.length:=by
 rw[ordF,eD]at h;obtain⟨a,_,ha⟩:=h;exact(priAt_mem.1 ha).1
/-! the stable sort by priority gives this order -/
section
variable (f:Nat->Int)
def blk(l:List Nat)(a n:Nat):List Nat:=(List.range n).flatMap fun(c:Nat)=>l.filter fun x=>decide (f x=1000-((a+c:Nat):Int))
theorem blk_add(l:List Nat)(a n k:Nat):blk f l a (n+k)=blk f l a n++blk f l (a+n) k:=by
 rw[blk,List.range_add,dZ,<-blk,List.flatMap_map];simp only[blk,cB]
theorem blk_snoc{l:List Nat}{x:Nat}{a n:Nat}(h:∀c,c<n->f x≠1000-((a+c:Nat):Int)):blk f (l++[x]) a n=blk f l a n:=by
 unfold blk;rw[List.flatMap_def,List.flatMap_def]
 congr 1
 refine eA fun c hc=>?_;rw[dF,List.filter_cons_of_neg (by simpa using h c (dN.1 hc))];simp
theorem blk_mem{l:List Nat}{a n y:Nat}(h:y∈blk f l a n):1000-((a+n:Nat):Int)<f y/\f y<=1000-(a:Int):=by
 rw[blk,eD]at h;obtain⟨c,hc,hy⟩:=h;have h1:=dN.1 hc;have h2:=(cJ.1 hy).2;rw[aL]at h2;omega
theorem ins_blk{l:List Nat}{x:Nat}(h0:0<=f x)(h1:f x<=1000):insRev (fun a b=>decide (f b<f a)) (blk f l 0 1001).reverse x=(blk f (l++[x]) 0 1001).reverse:=by
 obtain⟨c,hc⟩:∃c:Nat,f x=1000-(c:Int):=⟨(1000-f x).toNat,by omega⟩
 obtain⟨k,hk⟩:∃k:Nat,c+1+k=1001:=⟨1000-c,by omega⟩
 have e1:blk f l 0 1001=blk f l 0 (c+1)++blk f l (c+1) k:=by rw[<-hk,blk_add];simp
 have e2:blk f (l++[x]) 0 1001=blk f l 0 (c+1)++x::blk f l (c+1) k:=by
  rw[<-hk,blk_add,blk_add f (l++[x]) 0 c 1,blk_add f l 0 c 1,blk_snoc f (n:=c) (fun d hd=>by omega),blk_snoc f (n:=k) (fun d hd=>by omega)];have:blk f (l++[x]) (0+c) 1=blk f l (0+c) 1++[x]:=by
   unfold blk;simp only[List.range_one,cX,List.flatMap_nil,bF,dF];rw[List.filter_cons_of_pos (by simp only[aL];omega)];simp
  rw[this];simp
 rw[e1,e2,List.reverse_append,List.reverse_append,List.reverse_cons,cN,insRev_at (fun y hy=>?_) (fun y A' hA=>?_)]
 ·simp
 ·have:=(blk_mem f (List.mem_reverse.1 hy)).2;rw[aL];omega
 ·have hy:y∈blk f l 0 (c+1):=List.mem_reverse.1 (by rw[hA];simp);have:=(blk_mem f hy).1;rw[decide_eq_false_iff_not];omega
theorem isort_blk:∀(l:List Nat),(∀x,x∈l->0<=f x/\f x<=1000)->isort (fun a b=>decide (f b<f a)) l=blk f l 0 1001:=by
 intro l h
 suffices hs:∀(l acc:List Nat),(∀x,x∈l->0<=f x/\f x<=1000)->l.foldl (insRev fun a b=>decide (f b<f a)) (blk f acc 0 1001).reverse=(blk f (acc++l) 0 1001).reverse by
  have:=hs l [] h;rw[isort,sortRev];have e:(blk f [] 0 1001).reverse=[]:=by unfold blk;simp
  rw[e]at this;rw[this];simp
 intro l
 induction l with
 |nil=>intro acc _;simp
 |cons x l ih=>
  intro acc h;rw[dW,ins_blk f (h x zx).1 (h x zx).2,ih _ fun y hy=>h y (aS _ hy)];simp
end
theorem ord_sort{i:Nt}{m:Int}(hp:∀x,x∈i.sts->0<=x.pri/\x.pri<=1000):isort (fun a b=>decide (priN i b<priN i a)) ((List.range i.sts.length).filter (actN i m))=ordP i m:=by
 rw[isort_blk (priN i)]
 ·unfold blk ordP ordF priAt
  congr 1
  funext c
  rw[List.filter_filter];simp
 ·intro n hn;have hl:=dN.1 (cJ.1 hn).1;rw[priN,aE hl];exact hp _ (dC hl)
theorem ordP_len{i:Nt}{m:Int}(hp:∀x,x∈i.sts->0<=x.pri/\x.pri<=1000):(ordP i m).length<=i.sts.length:=by
 rw[<-ord_sort hp,isort_length];exact aZ (dL ..) zx
/-! a part is joined with the set of a class -/
def putG:List Insp->ByteArray->List Bx->List Insp×Int
 |[],c,s=>([⟨c,s⟩],0)
 |y::r,c,s=>if ltS y.cls c=true then(y::(putG r c s).1,(putG r c s).2)else
  if sEq y.cls c=true then(⟨y.cls,(combP orB y.set s).1⟩::r,(combP orB y.set s).2)else(⟨c,s⟩::y::r,0)
def putP(l:List Insp)(c:ByteArray)(s:List Bx):List Insp×Int:=if sEq c ⟨#[]⟩=true\/s=[]then(l,0)else putG l c s
theorem sEq_iff{a b:ByteArray}:sEq a b=true↔a=b:=by
 rw[sEq_data];constructor
 ·intro h;obtain⟨a⟩:=a;obtain⟨b⟩:=b;have:a.toList=b.toList:=by simpa using h
  rw[Array.toList_inj.1 this]
 ·rintro rfl;simp
theorem ltS_irr(a:ByteArray):ltS a a=false:=by
 rw[bV];intro h;have:=(bl_asymm _ _ h).1;rw[show Op.bytesLess a.toList a.toList=ltS a a from rfl,h]at this;cases this
theorem putR_put{c:ByteArray}{s:List Bx}:∀{l l':List Insp} {e:Int},l.Pairwise (fun x y=>ltS x.cls y.cls=true)->PutR l c s l' e->(l',e)=putP l c s:=by
 intro l l' e hs h;unfold putP;have he:(sEq c ⟨#[]⟩=true)↔c.toList=[]:=by
  unfold sEq;have:(ByteArray.mk #[]).toList=[]:=by decide+kernel
  rw[this];simp
 cases h with
 |skip h=>rw[aG (by rw[he];exact h)]
 |ins k h1 h2 h3 h4 h5=>
  rw[aD (by rw[he];rintro(h|h);exact h1 h;exact h2 h)];clear hs he
  induction l generalizing k with
  |nil=>simp[putG]
  |cons y r ih=>
   cases k with
   |zero=>
    obtain⟨a1,a2⟩:=h5 y rfl;have a3:sEq y.cls c=false:=a2;simp[putG,a1,a3]
   |succ k=>
    have a1:=h4 0 y zo rfl;have:=ih k (by simpa using h3) (fun j z hj hz=>h4 (j+1) z zo (by simpa using hz)) (fun z hz=>h5 z (by simpa using hz));simp only[putG,a1,if_true,List.take_succ_cons,fU,List.drop_succ_cons];rw[<-this]
 |uni k y h1 h2 h3 h4=>
  rw[aD (by rw[he];rintro(h|h);exact h1 h;exact h2 h)];have hy:y.cls=c:=sEq_iff.1 h4;clear he
  induction l generalizing k with
  |nil=>simp at h3
  |cons z r ih=>
   obtain⟨s1,s2⟩:=bT.1 hs;cases k with
   |zero=>
    simp at h3;subst h3;have a1:ltS z.cls c=false:=by rw[hy];exact ltS_irr c
    have a2:sEq z.cls c=true:=by rw[hy];exact sEq_self c
    simp[putG,a1,a2]
   |succ k=>
    have hz:ltS z.cls c=true:=by rw[<-hy];exact s1 y (aI (by simpa using h3))
    have:=ih s2 k (by simpa using h3);simp only[putG,hz,if_true,List.set_cons_succ];rw[<-this]
/-! the policy at a minute -/
def zPol:Pol:=⟨[],[]⟩
def atGo(t:Tp)(i:Nt):List Nat->List Bx->Pol->Pol×Int
 |[],_,p=>(p,0)
 |n::r,rest,p=>match i.sts[n]? with
  |none=>(p,0)
  |some x=>
   if(combP anB rest (stmP t i x).1).2≠0 then(zPol,(combP anB rest (stmP t i x).1).2)else
   if(combP woB rest (stmP t i x).1).2≠0 then(zPol,(combP woB rest (stmP t i x).1).2)else
   if x.permit=false then atGo t i r (combP woB rest (stmP t i x).1).1 p else
   if(combP orB p.allow (combP anB rest (stmP t i x).1).1).2≠0 then(zPol,(combP orB p.allow (combP anB rest (stmP t i x).1).1).2)else
   if(putP p.insp x.cls (combP anB rest (stmP t i x).1).1).2≠0 then(zPol,(putP p.insp x.cls (combP anB rest (stmP t i x).1).1).2)else
   atGo t i r (combP woB rest (stmP t i x).1).1 ⟨(combP orB p.allow (combP anB rest (stmP t i x).1).1).1,(putP p.insp x.cls (combP anB rest (stmP t i x).1).1).1⟩
def atP(t:Tp)(i:Nt)(m:Int):Pol×Int:=if(realP t).2≠0 then(zPol,(realP t).2)else atGo t i (ordP i m) (realP t).1 zPol
def preV(t:Tp)(i:Nt)(m:Int):Int:=if compB t=true/\ntB i=true then(if 0<=m/\m<10080 then chkP t i else 2)else 1
def atV(t:Tp)(i:Nt)(m:Int):Pol×Int:=if preV t i m≠0 then(zPol,preV t i m)else atP t i m
theorem fstE_zero{α:Type}{f:α->Int}:∀{l:List α},fstE f l=0->∀x,x∈l->f x=0
 |[],_,x,hx=>by simp at hx
 |y::l,h,x,hx=>by
  unfold fstE at h;split at h
  ·rename_i hn;exact absurd h hn
  ·rename_i hn;rcases aU.1 hx with rfl|hx
   ·exact Decidable.byContradiction fun h=>hn h
   ·exact fstE_zero h x hx
theorem chk_stm{t:Tp}{i:Nt}(h:chkP t i=0):∀x,x∈i.sts->(stmP t i x).2=0:=by
 intro x hx;rw[chkP]at h;simp only at h;split at h
 ·rename_i hn;exact absurd h hn
 split at h
 ·rename_i hn;exact absurd h hn
 split at h
 ·rename_i hn;exact absurd h hn
 rename_i hn;have:=fstE_zero (Decidable.byContradiction fun h=>hn h) x hx;split at this
 ·rename_i h1;exact absurd this h1
 ·rename_i h1;exact Decidable.byContradiction fun h=>h1 h
/-! the sets of the classes as a map -/
def mapS(g:ByteArray->Option (List Bx)):Value->Option AV
 |.string c=>(g c).map encXs
 |_=>none
def updS(g:ByteArray->Option (List Bx))(c:ByteArray)(s:List Bx):ByteArray->Option (List Bx):=fun d=>if d=c then some s else g d
theorem mapS_upd(g:ByteArray->Option (List Bx))(c:ByteArray)(s:List Bx):mapS (updS g c s)=updM (mapS g) (.string c) (encXs s):=by
 funext v
 unfold updM;cases v with
 |string d=>
  by_cases h:d=c
  ·subst h;simp[mapS,updS]
  ·simp[mapS,updS,h]
 |_=>simp[mapS]
structure MapR (g:ByteArray->Option (List Bx)) (l:List Insp):Prop where
 mem:∀x:Insp,x∈l↔g x.cls=some x.set/\x.set≠[]
 set:∀c s,g c=some s->setB s=true
 od:l.Pairwise fun x y=>ltS x.cls y.cls=true
theorem mapR_nil:MapR (fun _=>none) []:=⟨fun x=>by simp,fun c s h=>by simp at h,List.Pairwise.nil⟩
theorem comb_nilR{s:List Bx}(h:setB s=true):combP orB s []=(s,0):=by
 have hl:=(setB_pset h).len;have hc:canB 5 s=true:=by
  unfold setB at h;simp only[aJ]at h;exact h.2.2
 have e:cano orB 5 s []=s:=by
  have:=(canB_iff 5 s zd (fun x hx f hf _=>okL_set h x hx f hf) (fun h=>by cases h)).1 hc;rw[this,show(zeroTo 5:Bx->Bx)=id from funext fun b=>zeroTo_five b,List.map_id]
 rw[combP_set h setB_nil,e,limP,limE,aD zo,aD zo]
theorem comb_nilL{s:List Bx}(h:setB s=true):combP orB [] s=(s,0):=by
 have e:combP orB [] s=combP orB s []:=by
  rw[combP_set h setB_nil,combP_set setB_nil h,cano_ext2 orB orB 5 [] s s [] zd fun p _=>by simp[orB,Bool.or_comm]]
 rw[e,comb_nilR h]
theorem putG_mem{c:ByteArray}{s:List Bx}:∀{l:List Insp},l.Pairwise (fun x y=>ltS x.cls y.cls=true)->((∀y,y∈l->y.cls≠c)->(putG l c s).2=0/\(∀x,x∈(putG l c s).1↔x=⟨c,s⟩\/x∈l))/\
  (∀y,y∈l->y.cls=c->(putG l c s).2=(combP orB y.set s).2/\∀x,x∈(putG l c s).1↔x=⟨c,(combP orB y.set s).1⟩\/(x∈l/\x.cls≠c))/\
  ((putG l c s).1.Pairwise fun x y=>ltS x.cls y.cls=true)/\(∀d,ltS d c=true->(∀y,y∈l->ltS d y.cls=true)->∀y,y∈(putG l c s).1->ltS d y.cls=true)
 |[],_=>⟨fun _=>⟨rfl,fun x=>by simp[putG]⟩,fun y h=>by simp at h,by simp[putG],fun d h _ y hy=>by simp[putG]at hy;rw[hy];exact h⟩
 |z::r,hs=>by
  obtain⟨s1,s2⟩:=bT.1 hs;obtain⟨i1,i2,i3,i4⟩:=putG_mem (c:=c) (s:=s) s2;unfold putG;by_cases h1:ltS z.cls c=true
  ·have hzc:z.cls≠c:=fun e=>by rw[e,ltS_irr]at h1;cases h1
   simp only[h1,if_true];refine⟨fun hn=>?_,fun y hy hc=>?_,bT.2 ⟨i4 _ h1 s1,i3⟩,fun d hd hl y hy=>?_⟩
   ·obtain⟨j1,j2⟩:=i1 fun y hy=>hn y (aS _ hy);exact⟨j1,fun x=>by rw[aU,j2 x,aU];exact⟨fun h=>by rcases h with h|h|h<;>simp[h],fun h=>by rcases h with h|h|h<;>simp[h]⟩⟩
   ·rcases aU.1 hy with rfl|hy
    ·exact absurd hc hzc
    ·obtain⟨j1,j2⟩:=i2 y hy hc;refine⟨j1,fun x=>?_⟩;rw[aU,j2 x,aU];constructor
     ·rintro(rfl|h|⟨h,h'⟩)
      ·exact .inr ⟨.inl rfl,hzc⟩
      ·exact .inl h
      ·exact .inr ⟨.inr h,h'⟩
     ·rintro(h|⟨rfl|h,h'⟩)
      ·exact .inr (.inl h)
      ·exact .inl rfl
      ·exact .inr (.inr ⟨h,h'⟩)
   ·rcases aU.1 hy with rfl|hy
    ·exact hl _ zx
    ·exact i4 d hd (fun w hw=>hl w (aS _ hw)) y hy
  ·rw[aD h1];by_cases h2:sEq z.cls c=true
   ·have hzc:z.cls=c:=sEq_iff.1 h2;have hne:∀w,w∈r->w.cls≠c:=fun w hw e=>by have:=s1 w hw;rw[hzc,e,ltS_irr]at this;cases this
    rw[aG h2];refine⟨fun hn=>absurd hzc (hn z zx),fun y hy hc=>?_,?_,fun d hd hl y hy=>?_⟩
    ·rcases aU.1 hy with rfl|hy
     ·refine⟨rfl,fun x=>?_⟩;simp only[aU];constructor
      ·rintro(rfl|h)
       ·exact .inl (by rw[hzc])
       ·exact .inr ⟨.inr h,hne x h⟩
      ·rintro(rfl|⟨rfl|h,h'⟩)
       ·exact .inl (by rw[hzc])
       ·exact absurd hzc h'
       ·exact .inr h
     ·exact absurd hc (hne y hy)
    ·exact bT.2 ⟨fun w hw=>s1 w hw,s2⟩
    ·simp only[aU]at hy;rcases hy with rfl|hy
     ·exact hl z zx
     ·exact hl y (aS _ hy)
   ·have hzc:z.cls≠c:=fun e=>h2 (sEq_iff.2 e);have hlt:ltS c z.cls=true:=bl_total _ _ (by simpa[ltS]using h1) (by simpa[sEq]using h2);have htr:∀w,w∈r->ltS c w.cls=true:=fun w hw=>bl_trans _ _ _ hlt (s1 w hw);have hne:∀w,w∈r->w.cls≠c:=fun w hw e=>by have:=htr w hw;rw[e,ltS_irr]at this;cases this
    rw[aD h2];refine⟨fun hn=>⟨rfl,fun x=>by simp⟩,fun y hy hc=>?_,?_,fun d hd hl y hy=>?_⟩
    ·rcases aU.1 hy with rfl|hy
     ·exact absurd hc hzc
     ·exact absurd hc (hne y hy)
    ·refine bT.2 ⟨fun w hw=>?_,hs⟩;rcases aU.1 hw with rfl|hw
     ·exact hlt
     ·exact htr w hw
    ·simp only[aU]at hy;rcases hy with rfl|rfl|hy
     ·exact hd
     ·exact hl _ zx
     ·exact hl y (aS _ hy)
theorem or_ne{a b:List Bx}(ha:setB a=true)(hb:setB b=true)(hn:b≠[])(he:(combP orB a b).2=0):(combP orB a b).1≠[]:=by
 rw[combP_set ha hb]at he⊢;simp only[limE]at he;split at he
 ·cases he
 rename_i hl;simp only[limP];rw[aD hl];intro hc;rw[cano_nil_mem]at hc;obtain⟨x,hx⟩:=List.exists_mem_of_ne_nil b hn;obtain⟨p,hp,hpx⟩:=box_point (okL_set hb x hx);have:=hc p hp;rw[memK_iff.2 ⟨x,hx,hpx⟩]at this;simp[orB]at this
theorem MapR.put{g:ByteArray->Option (List Bx)}{l:List Insp}(h:MapR g l){c:ByteArray}(hc:sEq c ⟨#[]⟩=false){s:List Bx}(hs:setB s=true):
  (putP l c s).2=(combP orB ((g c).getD []) s).2/\((putP l c s).2=0->MapR (updS g c (combP orB ((g c).getD []) s).1) (putP l c s).1):=by
 unfold putP;by_cases hs0:s=[]
 ·subst hs0;rw[aG (.inr rfl)];have hg:setB ((g c).getD [])=true:=by
   cases hgc:g c with
   |none=>exact setB_nil
   |some u=>exact h.set c u hgc
  rw[comb_nilR hg];refine⟨rfl,fun _=>⟨fun x=>?_,fun d u hu=>?_,h.od⟩⟩
  ·rw[h.mem x];unfold updS;by_cases e:x.cls=c
   ·rw[aG e,e];cases hgc:g c with
    |none=>
     simp only[gK,bQ];exact⟨fun h=>(by cases h.1),fun h=>absurd h.1.symm h.2⟩
    |some u=>simp
   ·rw[aD e]
  ·unfold updS at hu;split at hu
   ·cases hu;exact hg
   ·exact h.set d u hu
 ·rw[aD (by rw[hc];rintro(h|h);cases h;exact hs0 h)];obtain⟨p1,p2,p3,_⟩:=putG_mem (c:=c) (s:=s) h.od;by_cases hex:∃y,y∈l/\y.cls=c
  ·obtain⟨y,hy,hyc⟩:=hex;obtain⟨q1,q2⟩:=p2 y hy hyc;have hgy:=((h.mem y).1 hy).1;rw[hyc]at hgy;rw[hgy];simp only[cG];refine⟨q1,fun he=>⟨fun x=>?_,fun d u hu=>?_,p3⟩⟩
   ·rw[q2 x];unfold updS;by_cases e:x.cls=c
    ·rw[aG e];have hne:=or_ne (h.set c _ hgy) hs hs0 (by rw[<-q1];exact he);constructor
     ·rintro(rfl|⟨_,h'⟩)
      ·exact⟨rfl,hne⟩
      ·exact absurd e h'
     ·rintro⟨h1,_⟩
      left;cases x;simp only at e h1;rw[e,bE h1]
    ·rw[aD e,h.mem x];constructor
     ·rintro(rfl|⟨h,_⟩)
      ·exact absurd rfl e
      ·exact h
     ·exact fun h=>.inr ⟨h,e⟩
   ·unfold updS at hu;split at hu
    ·cases hu;exact setB_combP ..
    ·exact h.set d u hu
  ·have hn:∀y,y∈l->y.cls≠c:=fun y hy e=>hex ⟨y,hy,e⟩;obtain⟨q1,q2⟩:=p1 hn;have hgc:(g c).getD []=[]:=by
    cases hgc:g c with
    |none=>rfl
    |some u=>
     simp only[cG];refine Decidable.byContradiction fun hu=>?_;exact hn ⟨c,u⟩ ((h.mem ⟨c,u⟩).2 ⟨hgc,hu⟩) rfl
   rw[hgc,comb_nilL hs];refine⟨q1,fun he=>⟨fun x=>?_,fun d u hu=>?_,p3⟩⟩
   ·rw[q2 x,h.mem x];unfold updS;by_cases e:x.cls=c
    ·rw[aG e];constructor
     ·rintro(rfl|⟨h1,h2⟩)
      ·exact⟨rfl,hs0⟩
      ·rw[e]at h1;rw[h1]at hgc;exact absurd hgc h2
     ·rintro⟨h1,_⟩
      left;cases x;simp only at e h1;rw[e,bE h1]
    ·rw[aD e];constructor
     ·rintro(rfl|h)
      ·exact absurd rfl e
      ·exact h
     ·exact .inr
   ·unfold updS at hu;split at hu
    ·cases hu;exact hs
    ·exact h.set d u hu
theorem coIns(G:FuncId)(C:List AV)(c:Nat->Nat->Int)(l:List Nat)(hl:l.length<=100000)
  (hc:∀x y,x∈l->y∈l->∀{K:KT},K (.v (.int .i64 (c x y))) []->AC G [vN x,vN y,.fp C] [] K){K:KT}
  (hK:K (.tup []) [.arr 1 ((isort (fun x y=>decide (c x y<0)) l).map vN)]):
  AC 203 [.os 0 1 0 l.length,.v (.int .i64 0),.v (.int .i64 l.length),.fn (.func G) [] [.fp C]] [.arr 1 (l.map vN)] K:=by
 refine ofoIns rfl rfl ?_;(repeat' ((conv=>whnf);first|refine zG ?_|apply zA|intro h|exact zT));all_goals conv=>whnf
 refine gL Nat (fun i=>⟨1,[(0,.arr 1 ((isort (fun x y=>decide (c x y<0)) (l.take i)++l.drop i).map vN))],[(0,.os 0 1 0 l.length),(1,.v (.int .i64 0)),(2,.v (.int .i64 l.length)),(3,.fn (.func G) [] [.fp C]),(8,.v (.int .i64 i))]⟩)
  (fun i=>1<=i/\(i<=l.length\/l.length=0)) (fun i=>l.length-i) 1 ?_ ?_ ?_
 ·omega
 ·have e:isort (fun x y=>decide (c x y<0)) (l.take 1)++l.drop 1=l:=by cases l<;>simp[isort,sortRev,insRev]
  rw[e];exact leA
 intro i ⟨hi1,hi2⟩;rcases aF i l.length with hil|hil
 ·obtain⟨x,hx⟩:=gex hil;have hxm:=aI hx;have hd:l.drop i=x::l.drop (i+1):=by
   rw[aE hil]at hx;rw[<-bE hx,<-bB hil]
  generalize hlt:(fun x y=>decide (c x y<0))=lt at*;have hsl:(sortRev lt (l.take i)).length=i:=by rw[sortRev_length];simp;omega
  (repeat' ((conv=>whnf);first|refine zG ?_|apply zA|intro h|exact zT));all_goals conv=>whnf
  refine gL (List Nat×List Nat) (fun g=>⟨1,[(0,.arr 1 ((g.1++x::(g.2++l.drop (i+1))).map vN))],[(0,.os 0 1 0 l.length),(1,.v (.int .i64 0)),(2,.v (.int .i64 l.length)),(3,.fn (.func G) [] [.fp C]),(8,.v (.int .i64 i)),(9,.v (.int .i64 g.1.length))]⟩)
   (fun g=>sortRev lt (l.take i)=g.2.reverse++g.1.reverse/\∀y,y∈g.2->lt x y=true) (fun g=>g.1.length) ((sortRev lt (l.take i)).reverse,[]) ?_ ?_ ?_
  ·exact⟨by simp,fun y hy=>by simp at hy⟩
  ·rw[hd,isort];have e9:((i:Nat):Int)=((sortRev lt (l.take i)).reverse.length:Nat):=by rw[List.length_reverse,hsl]
   simp only[cZ];rw[<-e9];exact leA
  rintro⟨A,B⟩ ⟨hAB,hB⟩
  simp only at hAB hB⊢;have hlen:A.length+B.length=i:=by rw[hAB]at hsl;simp at hsl;omega
  have fin:(∀a A',A.reverse=a::A'->lt x a=false)->isort lt (l.take (i+1))++l.drop (i+1)=A++x::(B++l.drop (i+1)):=by
   intro h;rw[isort,sortRev_succ hx,hAB,insRev_at (fun y hy=>hB y (by simpa using hy)) h];simp
  rcases cQ A with hA|⟨A',a,hA⟩
  ·subst hA;(repeat' ((conv=>whnf);first|refine zG ?_|apply zA|intro h|exact zT));all_goals conv=>whnf
   refine⟨i+1,⟨by omega,by omega⟩,by omega,?_⟩;rw[fin (fun a A' h=>by simp at h)];exact leA
  ·rw[cR]at hA;subst hA;have hma:a∈l:=by
    have:a∈sortRev lt (l.take i):=by rw[hAB];simp
    rw[sortRev,foldl_ins_mem]at this;exact cA (this.resolve_right zx)
   have hcx:lt x a=decide (c x a<0):=by rw[<-hlt]
   have hj:(((A'++[a]).length:Nat):Int)-1=(A'.length:Nat):=by simp
   have g1:(A'++[a]++x::(B++l.drop (i+1)))[0+(A'++[a]).length]? =some x:=by simp
   have g2:(A'++[a]++x::(B++l.drop (i+1)))[0+A'.length]? =some a:=by simp
   have n1:(A'++[a]).length<l.length:=by omega
   have n2:A'.length<l.length:=by simp at n1;omega
   have n3:0<(A'++[a]).length:=by simp
   have g3:((List.map vN (A'++[a]++x::(B++l.drop (i+1)))).set (0+(A'++[a]).length) (vN a))[0+A'.length]? =some (vN a):=by
    rw[gJ zx,bP,g2];rfl
   have hset:((List.map vN (A'++[a]++x::(B++l.drop (i+1)))).set (0+(A'++[a]).length) (vN a)).set (0+A'.length) (vN x)=List.map vN (A'++x::((a::B)++l.drop (i+1))):=by
    rw[<-eU,<-eU]
    congr 1
    simp
   (repeat' ((conv=>whnf);first|(with_reducible first|refine hZ n1 ?_|refine gT A'.length hj n2 ?_|refine hJ g1 ?_|refine hJ g2 ?_|refine gU g3 ?_|refine hc x a hxm hma ?_)|refine zG ?_|apply zA|intro h|exact zT));all_goals conv=>whnf
   all_goals first
    |(refine⟨i+1,⟨by omega,by omega⟩,by omega,?_⟩
      rw[fin (fun a0 A0 h0=>by simp at h0;obtain⟨rfl,_⟩:=h0;rw[hcx];exact decide_eq_false zw)];exact leA)
    |(refine⟨(A',a::B),⟨by rw[hAB];simp,fun y hy=>?_⟩,by simp,?_⟩
      ·rcases aU.1 hy with rfl|hy
       ·rw[hcx];exact decide_eq_true zw
       ·exact hB y hy
      ·simp only;rw[hj,<-hset];(exact leA))
 ·have hll:l.length<=i:=hil;(repeat' ((conv=>whnf);first|refine zG ?_|apply zA|intro h|exact zT));all_goals conv=>whnf
  rw[aY hll,gD hll,bF];exact hK
theorem coInsI(G:FuncId)(c:Insp->Insp->Int)(l:List Insp)(hl:l.length<=100000)
  (hc:∀x y,x∈l->y∈l->∀{K:KT},K (.v (.int .i64 (c x y))) []->AC G [encIn x,encIn y] [] K){K:KT}
  (hK:K (.tup []) [.arr 2 ((isort (fun x y=>decide (c x y<0)) l).map encIn)]):
  AC 157 [.os 0 2 0 l.length,.v (.int .i64 0),.v (.int .i64 l.length),.fn (.func G) [] []] [.arr 2 (l.map encIn)] K:=by
 refine ofoInsI rfl rfl ?_;(repeat' ((conv=>whnf);first|refine zG ?_|apply zA|intro h|exact zT));all_goals conv=>whnf
 refine gL Nat (fun i=>⟨1,[(0,.arr 2 ((isort (fun x y=>decide (c x y<0)) (l.take i)++l.drop i).map encIn))],[(0,.os 0 2 0 l.length),(1,.v (.int .i64 0)),(2,.v (.int .i64 l.length)),(3,.fn (.func G) [] []),(8,.v (.int .i64 i))]⟩)
  (fun i=>1<=i/\(i<=l.length\/l.length=0)) (fun i=>l.length-i) 1 ?_ ?_ ?_
 ·omega
 ·have e:isort (fun x y=>decide (c x y<0)) (l.take 1)++l.drop 1=l:=by cases l<;>simp[isort,sortRev,insRev]
  rw[e];exact leA
 intro i ⟨hi1,hi2⟩;rcases aF i l.length with hil|hil
 ·obtain⟨x,hx⟩:=gex hil;have hxm:=aI hx;have hd:l.drop i=x::l.drop (i+1):=by
   rw[aE hil]at hx;rw[<-bE hx,<-bB hil]
  generalize hlt:(fun x y=>decide (c x y<0))=lt at*;have hsl:(sortRev lt (l.take i)).length=i:=by rw[sortRev_length];simp;omega
  (repeat' ((conv=>whnf);first|refine zG ?_|apply zA|intro h|exact zT));all_goals conv=>whnf
  refine gL (List Insp×List Insp) (fun g=>⟨1,[(0,.arr 2 ((g.1++x::(g.2++l.drop (i+1))).map encIn))],[(0,.os 0 2 0 l.length),(1,.v (.int .i64 0)),(2,.v (.int .i64 l.length)),(3,.fn (.func G) [] []),(8,.v (.int .i64 i)),(9,.v (.int .i64 g.1.length))]⟩)
   (fun g=>sortRev lt (l.take i)=g.2.reverse++g.1.reverse/\∀y,y∈g.2->lt x y=true) (fun g=>g.1.length) ((sortRev lt (l.take i)).reverse,[]) ?_ ?_ ?_
  ·exact⟨by simp,fun y hy=>by simp at hy⟩
  ·rw[hd,isort];have e9:((i:Nat):Int)=((sortRev lt (l.take i)).reverse.length:Nat):=by rw[List.length_reverse,hsl]
   simp only[cZ];rw[<-e9];exact leA
  rintro⟨A,B⟩ ⟨hAB,hB⟩
  simp only at hAB hB⊢;have hlen:A.length+B.length=i:=by rw[hAB]at hsl;simp at hsl;omega
  have fin:(∀a A',A.reverse=a::A'->lt x a=false)->isort lt (l.take (i+1))++l.drop (i+1)=A++x::(B++l.drop (i+1)):=by
   intro h;rw[isort,sortRev_succ hx,hAB,insRev_at (fun y hy=>hB y (by simpa using hy)) h];simp
  rcases cQ A with hA|⟨A',a,hA⟩
  ·subst hA;(repeat' ((conv=>whnf);first|refine zG ?_|apply zA|intro h|exact zT));all_goals conv=>whnf
   refine⟨i+1,⟨by omega,by omega⟩,by omega,?_⟩;rw[fin (fun a A' h=>by simp at h)];exact leA
  ·rw[cR]at hA;subst hA;have hma:a∈l:=by
    have:a∈sortRev lt (l.take i):=by rw[hAB];simp
    rw[sortRev,foldl_ins_mem]at this;exact cA (this.resolve_right zx)
   have hcx:lt x a=decide (c x a<0):=by rw[<-hlt]
   have hj:(((A'++[a]).length:Nat):Int)-1=(A'.length:Nat):=by simp
   have g1:(A'++[a]++x::(B++l.drop (i+1)))[0+(A'++[a]).length]? =some x:=by simp
   have g2:(A'++[a]++x::(B++l.drop (i+1)))[0+A'.length]? =some a:=by simp
   have n1:(A'++[a]).length<l.length:=by omega
   have n2:A'.length<l.length:=by simp at n1;omega
   have n3:0<(A'++[a]).length:=by simp
   have g3:((List.map encIn (A'++[a]++x::(B++l.drop (i+1)))).set (0+(A'++[a]).length) (encIn a))[0+A'.length]? =some (encIn a):=by
    rw[gJ zx,bP,g2];rfl
   have hset:((List.map encIn (A'++[a]++x::(B++l.drop (i+1)))).set (0+(A'++[a]).length) (encIn a)).set (0+A'.length) (encIn x)=List.map encIn (A'++x::((a::B)++l.drop (i+1))):=by
    rw[<-eU,<-eU]
    congr 1
    simp
   (repeat' ((conv=>whnf);first|(with_reducible first|refine hZ n1 ?_|refine gT A'.length hj n2 ?_|refine hJ g1 ?_|refine hJ g2 ?_|refine gU g3 ?_|refine hc x a hxm hma ?_)|refine zG ?_|apply zA|intro h|exact zT));all_goals conv=>whnf
   all_goals first
    |(refine⟨i+1,⟨by omega,by omega⟩,by omega,?_⟩
      rw[fin (fun a0 A0 h0=>by simp at h0;obtain⟨rfl,_⟩:=h0;rw[hcx];exact decide_eq_false zw)];exact leA)
    |(refine⟨(A',a::B),⟨by rw[hAB];simp,fun y hy=>?_⟩,by simp,?_⟩
      ·rcases aU.1 hy with rfl|hy
       ·rw[hcx];exact decide_eq_true zw
       ·exact hB y hy
      ·simp only;rw[hj,<-hset];(exact leA))
 ·have hll:l.length<=i:=hil;(repeat' ((conv=>whnf);first|refine zG ?_|apply zA|intro h|exact zT));all_goals conv=>whnf
  rw[aY hll,gD hll,bF];exact hK
theorem coSort(G:FuncId)(C:List AV)(c:Nat->Nat->Int)(l:List Nat)(hl:l.length<20)
  (hc:∀x y,x∈l->y∈l->∀{K:KT},K (.v (.int .i64 (c x y))) []->AC G [vN x,vN y,.fp C] [] K){K:KT}
  (hK:K (.tup []) [.arr 1 ((isort (fun x y=>decide (c x y<0)) l).map vN)]):
  AC 61 [.os 0 1 0 l.length,.fn (.func G) [] [.fp C]] [.arr 1 (l.map vN)] K:=by
 have hs:∀{K:KT},K (.tup []) [.arr 1 ((isort (fun x y=>decide (c x y<0)) l).map vN)]->AC 132 [.os 0 1 0 l.length,.v (.int .i64 l.length),.fn (.func G) [] [.fp C]] [.arr 1 (l.map vN)] K:=by
  intro K hK;refine ofoStab rfl rfl ?_;(repeat' ((conv=>whnf);first|(with_reducible first|refine Lp.times 2 ?_|refine coIns G C c l zo hc ?_)|refine zG ?_|apply zA|intro h|exact zT));all_goals conv=>whnf
  exact hK
 refine ofoSort rfl rfl ?_;(repeat' ((conv=>whnf);first|(with_reducible refine hs ?_)|refine zG ?_|apply zA|intro h|exact zT));all_goals conv=>whnf
 exact hK
theorem coSortI(G:FuncId)(c:Insp->Insp->Int)(l:List Insp)(hl:l.length<=12)
  (hc:∀x y,x∈l->y∈l->∀{K:KT},K (.v (.int .i64 (c x y))) []->AC G [encIn x,encIn y] [] K){K:KT}
  (hK:K (.tup []) [.arr 2 ((isort (fun x y=>decide (c x y<0)) l).map encIn)]):
  AC 31 [.os 0 2 0 l.length,.fn (.func G) [] []] [.arr 2 (l.map encIn)] K:=by
 have hs:∀(n:Int) {K:KT},K (.tup []) [.arr 2 ((isort (fun x y=>decide (c x y<0)) l).map encIn)]->AC 81 [.os 0 2 0 l.length,.v (.int .i64 0),.v (.int .i64 l.length),.v (.int .i64 n),.fn (.func G) [] []] [.arr 2 (l.map encIn)] K:=by
  intro n K hK;refine ofoPdq rfl rfl ?_;(repeat' ((conv=>whnf);first|(with_reducible first|refine Lp.times 1 ?_|refine coInsI G c l zo hc ?_)|refine zG ?_|apply zA|intro h|exact zT));all_goals conv=>whnf
  all_goals exact hK
 refine ofoSortI rfl rfl ?_;(repeat' ((conv=>whnf);first|(with_reducible first|refine csLen l.length zo fun n _=>?_|refine hs _ ?_)|refine zG ?_|apply zA|intro h|exact zT));all_goals conv=>whnf
 exact hK
theorem firstIx_cases{α:Type}(p:α->Bool)(l:List α):firstIx p l= -1\/∃(k:Nat) (x:α),firstIx p l=(k:Int)/\l[k]? =some x:=by
 unfold firstIx;cases h:l.findIdx? p with
 |none=>exact .inl rfl
 |some k=>
  have:=(dQ.1 h).1;exact .inr ⟨k,_,rfl,aE this⟩
theorem coNaNI(x:Int){K:KT}(hK:K (.sb false) []):AC 133 [.v (.int .i64 x)] [] K:=by
 refine ofoNaNI rfl rfl ?_;(repeat' ((conv=>whnf);first|refine zG ?_|apply zA|intro h|exact zT));all_goals conv=>whnf
 have e:(!decide (x=x))=false:=by simp
 first
  |(unfold one?;rw[e];exact hK)
  |exact fin_f hK e
theorem coCmpI(x y:Int){K:KT}(hK:K (.v (.int .i64 (cmpI x y))) []):AC 63 [.v (.int .i64 x),.v (.int .i64 y)] [] K:=by
 refine ofoCmpI rfl rfl ?_;(repeat' ((conv=>whnf);first|(with_reducible refine coNaNI _ ?_)|refine zG ?_|apply zA|intro h|exact zT));all_goals conv=>whnf
 all_goals
  unfold cmpI at hK;first
   |(rw[aG zw]at hK;exact hK)
   |(rw[aD zw,aG zw]at hK;exact hK)
   |(rw[aD zw,aD zw]at hK;exact hK)
abbrev clHd(g:Hd):List AV:=[.v (.int .u32 g.src),.v (.int .u32 g.dst),.v (.int .u8 g.pro),.v (.int .u16 g.sp),.v (.int .u16 g.dp)]
theorem coCon(b:Bx)(g:Hd)(ho:g.Ok){K:KT}(hK:K (.sb (conB b g)) []):AC 116 [encX b,encHd g] [] K:=by
 have hv:∀{K:KT},K (.agg [.v (.int .u32 g.src),.v (.int .u32 g.dst),.v (.int .u32 g.pro),.v (.int .u32 g.sp),.v (.int .u32 g.dp)]) []->AC 194 [encHd g] [] K:=fun h=>cxVals g.src g.dst g.pro g.sp g.dp ⟨ho.s0,ho.d0,ho.p0,ho.a0,ho.b0,ho.s1,ho.d1,ho.p1,ho.a1,ho.b1⟩ h;refine gO (ofoCon rfl rfl ?_);(repeat' ((conv=>whnf);first|(with_reducible first|refine cxBVal b ?_|refine hv ?_|refine Lp.times 6 ?_)|(refine in_c zd ?_)|(refine gU rfl ?_)|refine zG ?_|apply zA|intro h|exact zT));all_goals conv=>whnf
 all_goals first
  |exact fin_t hK ((conB_iff b g).2 (by repeat' (first|with_reducible assumption|omega|apply And.intro)))
  |(refine fin_f hK ?_;rw[bV,ne_eq,conB_iff];omega)
  |(refine fin_f hK ?_;rw[bV,ne_eq,conB_iff];simp_all)
theorem coPCon1(b:Bx)(g:Hd)(ho:g.Ok){K:KT}(hK:K (.sb (conB b g)) []):AC 115 [encX b,.fp (clHd g)] [] K:=by
 refine ofoPCon1 rfl rfl ?_;(repeat' ((conv=>whnf);first|(with_reducible refine coCon b g ho ?_)|refine zG ?_|apply zA|intro h|exact zT));all_goals conv=>whnf
 exact hK
theorem coIxX(l:List Bx)(f:FuncId)(cs:List AV)(p:Bx->Bool)(hF:∀(x:Bx) (K:AV->List Vm.Obj->Prop),K (.sb (p x)) []->AC f [encX x,.fp cs] [] K)(hl:l.length<1000000000){K:KT}(hK:K (.v (.int .i64 (firstIx p l))) []):
  AC 192 [encXs l,.fn (.func f) [] [.fp cs]] [] K:=by
 refine ofoIxX rfl rfl ?_;(repeat' ((conv=>whnf);first|refine zG ?_|apply zA|intro h|exact zT));all_goals conv=>whnf
 refine gL Nat (fun k=>⟨0,[],[(0,encXs l),(1,.fn (.func f) [] [.fp cs]),(7,.v (.int .i64 (l.map encX).length)),(8,.v (.int .i64 k))]⟩) (fun k=>k<=l.length/\∀(i:Nat) y,i<k->l[i]? =some y->p y=false) (fun k=>l.length-k) 0 ⟨aK _,fun i y hi=>absurd hi (bC _)⟩ ?_ ?_
 ·exact leA
 intro k ⟨hk,hinv⟩;rcases aF k l.length with hkl|hkl
 ·obtain⟨r,hr⟩:=gex hkl;(repeat' ((conv=>whnf);first|(with_reducible first|refine hU hkl ?_|refine hJ hr ?_|refine hF r _ ?_)|refine zG ?_|apply zA|intro h|exact zT));all_goals conv=>whnf
  ·rw[firstIx_at hr h hinv]at hK;exact hK
  ·refine⟨k+1,⟨by omega,before_succ hr h hinv⟩,by omega,?_⟩;rw[aO,aN];exact leA
 ·(repeat' ((conv=>whnf);first|refine zG ?_|apply zA|intro h|exact zT));all_goals conv=>whnf
  rw[firstIx_none (iB hkl hinv)]at hK;exact hK
theorem coPCon(l:List Bx)(g:Hd)(ho:g.Ok)(hl:l.length<1000000000){K:KT}(hK:K (.sb (l.any fun b=>conB b g)) []):AC 54 [encXs l,encHd g] [] K:=by
 have hc:∀{K:KT},K (.v (.int .i64 (firstIx (fun b=>conB b g) l))) []->AC 192 [encXs l,.fn (.func 115) [] [.fp (clHd g)]] [] K:=fun h=>coIxX l _ _ (fun b=>conB b g) (fun x K h=>coPCon1 x g ho h) hl h;have hd:∀{K:KT},K (.sb (l.any fun b=>conB b g)) []->AC 114 [encXs l,.fn (.func 115) [] [.fp (clHd g)]] [] K:=by
  intro K hK;refine ofoAnyX rfl rfl ?_;(repeat' ((conv=>whnf);first|(with_reducible refine hc ?_)|refine zG ?_|apply zA|intro h|exact zT));all_goals conv=>whnf
  rw[<-first_any]at hK;exact hK
 refine ofoPCon rfl rfl ?_;(repeat' ((conv=>whnf);first|(with_reducible refine hd ?_)|refine zG ?_|apply zA|intro h|exact zT));all_goals conv=>whnf
 exact hK
theorem coTAt1(e:Ed)(v:Int)(v0:0<=v)(v1:v<=4294967295){K:KT}(hK:K (.sb (!e.pl&&e.pf.has v)) []):AC 112 [encE e,.fp [.v (.int .u32 v)]] [] K:=by
 refine gO (ofoTAt1 rfl rfl ?_);(repeat' ((conv=>whnf);first|(with_reducible refine cpCon e.pf v v0 v1 ?_)|refine zG ?_|apply zA|intro h|exact zT));all_goals conv=>whnf
 all_goals first
  |exact fin_s hK (by simp_all)
  |exact fin_f hK (by simp_all)
  |exact fin_t hK (by simp_all)
theorem coTAt(t:Tp)(v:Int)(v0:0<=v)(v1:v<=4294967295)(hl:t.edges.length<1000000){K:KT}(hK:K (.v (.int .i64 (edgeAt t v))) []):AC 53 [encT t,.v (.int .u32 v)] [] K:=by
 have hc:∀{K:KT},K (.v (.int .i64 (edgeAt t v))) []->AC 111 [.lst (t.edges.map encE),.fn (.func 112) [] [.fp [.v (.int .u32 v)]]] [] K:=fun h=>cixEdge t.edges _ _ (fun e=> !e.pl&&e.pf.has v) (fun x K h=>coTAt1 x v v0 v1 h) hl h;refine ofoTAt rfl rfl ?_;(repeat' ((conv=>whnf);first|(with_reducible refine hc ?_)|refine zG ?_|apply zA|intro h|exact zT));all_goals conv=>whnf
 exact hK
theorem coCAct(l:List Rg)(m:Int)(hl:l.length<1000000){K:KT}(hK:K (.sb (actW l m)) []):AC 131 [encRs l,.v (.int .i64 m)] [] K:=by
 refine gO (ofoCAct rfl rfl ?_);unfold actW at hK;by_cases hm:0<=m/\m<=4294967295
 ·rw[decide_eq_true hm.1,decide_eq_true hm.2,eG,eG]at hK;(repeat' ((conv=>whnf);first|(with_reducible refine c21 l _ hl ?_)|refine zG ?_|apply zA|intro h|exact zT));all_goals conv=>whnf
  all_goals first
   |exact fin_s hK rfl
   |exact fin_f hK zw
   |(exfalso;omega)
 ·have e:(decide (0<=m)&&(decide (m<=4294967295)&&has l m))=false:=by
   by_cases h0:0<=m
   ·rw[decide_eq_false (show ¬m<=4294967295 by omega)];simp
   ·rw[decide_eq_false h0];simp
  (repeat' ((conv=>whnf);first|(with_reducible refine c21 l _ hl ?_)|refine zG ?_|apply zA|intro h|exact zT));all_goals conv=>whnf
  all_goals first
   |exact fin_f hK e
   |(exfalso;omega)
theorem coMin(m:Int){K:KT}(hK:K (.sb (decide (0<=m/\m<10080))) []):AC 59 [.v (.int .i64 m)] [] K:=by
 refine gO (ofoMin rfl rfl ?_);(repeat' ((conv=>whnf);first|refine zG ?_|apply zA|intro h|exact zT));all_goals conv=>whnf
 all_goals first
  |exact fin_t hK (decide_eq_true zo)
  |exact fin_f hK (decide_eq_false zo)
  |(refine fin_s hK ?_;rw[bJ];simp only[aL];omega)
theorem coAct1(w:Wn)(x:Sm){K:KT}(hK:K (.sb (sEq w.name x.dur)) []):AC 130 [encWn w,.fp (clSm x)] [] K:=by
 refine ofoAct1 rfl rfl ?_;(repeat' ((conv=>whnf);first|refine zG ?_|apply zA|intro h|exact zT));all_goals conv=>whnf
 exact hK
theorem win_few{i:Nt}(hb:Bnd i){n:Nat}{w:Wn}(h:i.wins[n]? =some w):w.act.length<=4000:=hb.wi w (aI h)
theorem coAct(i:Nt)(hb:Bnd i)(x:Sm)(m:Int){K:KT}(hK:K (.sb (actB i x m)) []):AC 60 [encNt i,encSm x,.v (.int .i64 m)] [] K:=by
 have hw:=hb.w;have hc:∀{K:KT},K (.v (.int .i64 (wnIx i.wins x.dur))) []->AC 129 [.lst (i.wins.map encWn),.fn (.func 130) [] [.fp (clSm x)]] [] K:=fun h=>cixW i.wins _ _ (fun d=>sEq d.name x.dur) (fun y K h=>coAct1 y x h) zo h;refine gO (ofoAct rfl rfl ?_);unfold actB at hK;by_cases h0:sEq x.dur ⟨#[]⟩=true
 ·rw[h0,Bool.true_or]at hK;(repeat' ((conv=>whnf);first|(with_reducible refine hc ?_)|refine zG ?_|apply zA|intro h|exact zT));all_goals conv=>whnf
  all_goals first
   |exact fin_t hK rfl
   |(exfalso;simp_all[sEq];done)
 ·have h0:sEq x.dur ⟨#[]⟩=false:=by simpa using h0
  rw[h0,fV]at hK;rcases firstIx_cases (fun d:Wn=>sEq d.name x.dur) i.wins with h1|⟨k,w,h1,h2⟩
  ·have h1:wnIx i.wins x.dur= -1:=h1;rw[h1]at hc hK;(repeat' ((conv=>whnf);first|(with_reducible refine hc ?_)|refine zG ?_|apply zA|intro h|exact zT));all_goals conv=>whnf
   all_goals first
    |exact fin_f hK rfl
    |(exfalso;simp_all[sEq];done)
  ·have h1:wnIx i.wins x.dur=(k:Int):=h1;rw[h1]at hc hK;have hkl:=(aP.1 h2).1;have hwl:=win_few hb h2;simp only[eJ,h2,cS,cG]at hK;rw[decide_eq_true (show(0:Int)<=k by omega),eG]at hK;(repeat' ((conv=>whnf);first|(with_reducible first|refine hc ?_|refine hU hkl ?_|refine hJ h2 ?_|refine coCAct w.act m zo ?_)|refine zG ?_|apply zA|intro h|exact zT));all_goals conv=>whnf
   all_goals first
    |exact fin_s hK rfl
    |exact fin_f hK zw
    |(exfalso;simp_all[sEq];done)
abbrev clNt(i:Nt):List AV:=[.lst (i.grps.map encDf),.lst (i.svcs.map encDf),.lst (i.wins.map encWn),.lst (i.sts.map encSm),.lst (i.pubs.map encPb),.lst (i.hids.map encHn)]
theorem coOrd1(i:Nt)(a b:Nat)(ha:a<i.sts.length)(hb:b<i.sts.length){K:KT}(hK:K (.v (.int .i64 (cmpI (priN i b) (priN i a)))) []):AC 62 [vN a,vN b,.fp (clNt i)] [] K:=by
 obtain⟨x,hx⟩:=gex ha;obtain⟨y,hy⟩:=gex hb;have e1:priN i a=x.pri:=by simp[priN,hx]
 have e2:priN i b=y.pri:=by simp[priN,hy]
 rw[e1,e2]at hK;refine ofoOrd1 rfl rfl ?_;(repeat' ((conv=>whnf);first|(with_reducible first|refine hU ha ?_|refine hU hb ?_|refine hJ hx ?_|refine hJ hy ?_|refine coCmpI _ _ ?_)|refine zG ?_|apply zA|intro h|exact zT));all_goals conv=>whnf
 exact hK
theorem cmpI_lt(a b:Int):decide (cmpI a b<0)=decide (a<b):=by
 unfold cmpI;by_cases h1:a<b
 ·simp[h1]
 ·by_cases h2:b<a<;>simp[h1,h2]
theorem ord_flt(i:Nt)(m:Int)(k:Nat):(List.range (k+1)).filter (actN i m)=(List.range k).filter (actN i m)++(if actN i m k=true then [k]else []):=by
 rw[fK,dF];cases h:actN i m k<;>simp[h]
theorem nt_pri{i:Nt}(h:ntB i=true):∀x,x∈i.sts->0<=x.pri/\x.pri<=1000:=fun x hx=>by
 have:=(ntB_iff.1 h).t x hx;unfold smB at this;simp only[aJ,aL]at this;exact this.2.2.2
def ordV(i:Nt)(m:Int):List Nat:=if ntB i=true/\(0<=m/\m<10080)then ordP i m else []
theorem coOrd(i:Nt)(hb:Bnd i)(hs:i.sts.length<=12)(m:Int){K:KT}(hK:K (.lst ((ordV i m).map vN)) []):AC 19 [encNt i,.v (.int .i64 m)] [] K:=by
 refine gP (ofoOrd rfl rfl ?_);unfold ordV at hK;by_cases hv:ntB i=true/\(0<=m/\m<10080)
 case neg=>
  rw[aD hv]at hK;(repeat' ((conv=>whnf);first|(with_reducible first|refine ckNt i hb ?_|refine coMin m ?_)|refine zG ?_|apply zA|intro h|exact zT));all_goals conv=>whnf
  all_goals first
   |exact⟨_,gR,hK⟩
   |(exfalso;simp_all;done)
   |(exfalso;simp_all;omega)
 rw[aG hv]at hK;(repeat' ((conv=>whnf);first|(with_reducible first|refine ckNt i hb ?_|refine coMin m ?_)|refine zG ?_|apply zA|intro h|exact zT));all_goals conv=>whnf
 all_goals first
  |(exfalso;simp_all;done)
  |(exfalso;simp_all;omega)
  |skip
 refine gL Nat (fun k=>⟨2,[(0,boxNt i),(1,.arr 1 (((List.range k).filter (actN i m)).map vN))],[(1,.v (.int .i64 m)),(2,.op 0 0),(5,.os 1 1 0 ((List.range k).filter (actN i m)).length),(17,.lst (i.sts.map encSm)),(18,.v (.int .i64 ((i.sts.map encSm).length:Nat))),(19,.v (.int .i64 k))]⟩) (fun k=>k<=i.sts.length) (fun k=>i.sts.length-k) 0 (aK _) ?_ ?_
 ·exact leA
 intro k hk;have hfl:((List.range k).filter (actN i m)).length<=k:=aZ (dL ..) zx;rcases aF k i.sts.length with hkl|hkl
 ·obtain⟨x,hx⟩:=gex hkl;have ha:actN i m k=actB i x m:=by simp[actN,hx]
  have hf:=ord_flt i m k;(repeat' ((conv=>whnf);first|(with_reducible first|refine hU hkl ?_|refine hJ hx ?_|refine coAct i hb x m ?_)|refine zG ?_|apply zA|intro h|exact zT));all_goals conv=>whnf
  all_goals first
   |(refine⟨k+1,hkl,by omega,?_⟩
     rw[aG (by rw[ha];with_reducible assumption)]at hf;rw[hf,aQ,aC,aO,aN];exact leA)
   |(refine⟨k+1,hkl,by omega,?_⟩
     rw[aD (by rw[ha];simp_all),bF]at hf;rw[hf,aO,aN];exact leA)
 ·have hke:k=i.sts.length:=by omega
  subst hke;have hord:=ord_sort (i:=i) (m:=m) (nt_pri hv.1);have hlt:(fun x y=>decide (cmpI (priN i y) (priN i x)<0))=fun a b=>decide (priN i b<priN i a):=by funext a b;exact cmpI_lt _ _
  have hsort:∀{K:KT},K (.tup []) [.arr 1 ((ordP i m).map vN)]->AC 61 [.os 0 1 0 ((List.range i.sts.length).filter (actN i m)).length,.fn (.func 62) [] [.fp (clNt i)]] [.arr 1 (((List.range i.sts.length).filter (actN i m)).map vN)] K:=fun {K} h=>
   coSort _ (clNt i) (fun a b=>cmpI (priN i b) (priN i a)) _ zo (fun a b ha hb' K h=>coOrd1 i a b (dN.1 (cJ.1 ha).1) (dN.1 (cJ.1 hb').1) h) (by rw[hlt,hord];exact h)
  have hlen:((List.range i.sts.length).filter (actN i m)).length=(ordP i m).length:=by rw[<-hord,isort_length]
  (repeat' ((conv=>whnf);first|(with_reducible first|refine hsort ?_|refine sl_full (by rw[hlen];exact aA ..) ?_)|refine zG ?_|apply zA|intro h|exact zT));all_goals conv=>whnf
  exact⟨_,gM,hK⟩
theorem coReal(t:Tp)(hl:t.edges.length<1000)(hc:compB t=true){K:KT}(hK:K (.tup [encXs (realP t).1,.v (.int .i64 (realP t).2)]) []):AC 28 [encT t] [] K:=by
 have hpl:=pairsTo_len t.edges t.edges.length;have hpl2:t.edges.length*t.edges.length<=1000*1000:=dV zo zo;unfold realP at hK;refine gP (ofoReal rfl rfl ?_);(repeat' ((conv=>whnf);first|(with_reducible first|refine ctComp t zo ?_|refine cyPairs t zo ?_|refine cxMake (pairsB t.edges) (by rw[pairsB];omega) ?_|refine cxInit ?_|refine cxInt _ _ (setBlen (setB_makeP _)) zd ?_)|refine zG ?_|apply zA|intro h|exact zT));all_goals conv=>whnf
 all_goals first
  |(exfalso;simp_all;done)
  |(rw[aD (by simp_all)]at hK;exact⟨_,gM,hK⟩)
  |(rw[aG (by simp_all)]at hK;exact⟨_,gQ gR gM,hK⟩)
theorem coChk(t:Tp)(ht:t.edges.length<1000)(hd:t.devs.length<1000)(i:Nt)(hb:Bnd i)(m:Int){K:KT}(hK:K (.v (.int .i64 (preV t i m))) []):AC 27 [encT t,encNt i,.v (.int .i64 m)] [] K:=by
 refine ofoChk rfl rfl ?_;unfold preV at hK;(repeat' ((conv=>whnf);first|(with_reducible first|refine ctComp t zo ?_|refine ckNt i hb ?_|refine coMin m ?_|refine crCheck t zo zo i hb ?_)|refine zG ?_|apply zA|intro h|exact zT));all_goals conv=>whnf
 all_goals first
  |(rw[aD (by simp_all)]at hK;exact hK)
  |(rw[aG (by simp_all),aD (by simp_all)]at hK;exact hK)
  |(rw[aG (by simp_all),aG (by simp_all)]at hK;rw[chkV,aG (by simp_all)];exact hK)
def hitN(t:Tp)(i:Nt)(q:Nat->Int)(n:Nat):Bool:=match i.sts[n]? with
 |some x=>memK q 5 (stmP t i x).1
 |none=>false
def perN(i:Nt)(n:Nat):Bool:=match i.sts[n]? with
 |some x=>x.permit
 |none=>false
theorem vis_S:Vis visS (fun its y=>y∈its) (fun x y=>y=x) (fun _=>true) where
 add:=fun x s h u=>by simp[visS]
 ok:=fun x s=>by simp[visS]
theorem svc_lead{l:List Df}{nm:ByteArray}(h:(svcF l nm).1=0):Good l (fun _=>true) nm/\∀y,y∈(svcF l nm).2↔Lead l (fun x y=>y=x) nm y:=
 fol_lead visS (fun its y=>y∈its) (fun x y=>y=x) (fun _=>true) vis_S l nm [] (fun u=>by simp) h
def sEqD(a b:ByteArray):Bool:=a.data.toList==b.data.toList
def itC(x:It)(g:Bool):Bool:=
 if x.kind=3 then nmChk x.name.data.toList&&itN x
 else if x.kind=1 then g&&(nmChk x.name.data.toList&&itN x)
 else if x.kind=2 then g&&(decide x.pf.okP&&(sEqD x.name ⟨#[]⟩&&decide (x.proto=0/\x.ports.lo=0/\x.ports.hi=0)))
 else if x.kind=4 then !g&&(prB x.proto x.ports&&(sEqD x.name ⟨#[]⟩&&decide (x.pf.addr=0/\x.pf.bits=0)))else false
theorem itC_itB{x:It}{g:Bool}(h:itC x g=true):itB x g=true:=by
 have hn:nmChk x.name.data.toList=true->nameB x.name=true:=fun h=>nameB_true (nameOk_data h);have he:sEqD x.name ⟨#[]⟩=sEq x.name ⟨#[]⟩:=(sEq_data _ _).symm;unfold itC at h;unfold itB itP itS;rw[he]at h;split
 ·rename_i hk;rw[aG hk,aJ]at h;rw[hn h.1,h.2];rfl
 ·rename_i hk;rw[aD hk]at h;split
  ·rename_i hk1;rw[aG hk1,aJ,aJ]at h;rw[h.1,hn h.2.1,h.2.2];rfl
  ·rename_i hk1;rw[aD hk1]at h;exact h
def dfC(l:List Df)(g:Bool)(i:Nat)(d:Df):Bool:=
 nmChk d.name.data.toList&&(decide (l.findIdx? (fun e=>sEqD e.name d.name)=some i)&&(decide (1<=d.items.length)&&(decide (d.items.length<=16)&&d.items.all fun x=>itC x g)))
def dfsC(l:List Df)(g:Bool):Bool:=decide (l.length<=32)&&(l.zipIdx.all fun q=>dfC l g q.2 q.1)
theorem dfsC_ok{l:List Df}{g:Bool}(h:dfsC l g=true):DfsOk l g:=by
 unfold dfsC at h;rw[aJ,aL,bR]at h;refine⟨h.1,fun i d hd=>?_⟩;have h2:=h.2 (d,i) (fF.2 hd);unfold dfC at h2;simp only[aJ,aL,bR]at h2;obtain⟨h3,h4,h5,h6,h7⟩:=h2;refine⟨nameB_true (nameOk_data h3),?_,h5,h6,fun x hx=>itC_itB (h7 x hx)⟩;have e:(fun e:Df=>sEq e.name d.name)=fun e=>sEqD e.name d.name:=by funext e;exact sEq_data _ _
 unfold dfIx firstIx;rw[e,h4]
/-! the topology of the examples -/
def pf0:Pf:=⟨167772160,24,by decide,by decide⟩
def pf4:Pf:=⟨2886729728,16,by decide,by decide⟩
def netR:Tp:=⟨[⟨⟨#[114]⟩,0,false,false,⟨#[]⟩⟩],[],[⟨⟨#[97]⟩,0,⟨#[108,97,110]⟩,pf0,false⟩,⟨⟨#[98]⟩,0,⟨#[100,109,122]⟩,pf4,false⟩],[],0⟩
theorem topOk_netR:TopOk netR:=by
 have sEqr:∀s:ByteArray,sEq s s=true:=fun s=>by rw[sEq_data];simp
 refine⟨by simp[netR],by simp[netR],by simp[netR],by simp[netR],by simp[netR],by simp[netR],by simp[netR],?_,?_,?_,?_,?_⟩
 ·intro i d hi
  match i,hi with
  |0,hi=>
   simp[netR]at hi;subst hi;exact⟨⟨nameOk_data (s:=⟨#[114]⟩) zd,by decide,by decide,.inl (sEqr _)⟩,firstIx_at (k:=0) rfl (sEqr _) (fun j y hj=>absurd hj (bC _))⟩
  |i+1,hi=>simp[netR]at hi
 ·intro i l hi;simp[netR]at hi
 ·intro i e hi
  match i,hi with
  |0,hi=>
   simp[netR]at hi;subst hi;exact⟨⟨nameOk_data zd,nameOk_data zd,by decide,by simp[netR],by decide,by decide,by decide⟩,firstIx_at (k:=0) rfl (sEqr _) (fun j y hj=>absurd hj (bC _))⟩
  |1,hi=>
   simp[netR]at hi;subst hi;refine⟨⟨nameOk_data zd,nameOk_data zd,by decide,by simp[netR],by decide,by decide,by decide⟩,firstIx_at (k:=1) rfl (sEqr _) (fun j y hj hy=>?_)⟩;obtain rfl:j=0:=by omega
   simp[netR]at hy;subst hy;rw[sEq_data];rfl
  |i+2,hi=>simp[netR]at hi
 ·rintro i e hi j o hj ho ⟨_,_,h3⟩
  match i,hi,j,ho with
  |0,hi,j,ho=>omega
  |1,hi,0,ho=>simp[netR]at hi ho;subst hi;subst ho;revert h3;decide
  |1,hi,j+1,ho=>omega
  |i+2,hi,j,ho=>simp[netR]at hi
 ·intro i p hi;simp[netR]at hi
theorem comp_netR:compB netR=true:=compB_iff.2 ⟨topOk_netR,fun e he=>by
 simp only[netR,aU,dM,or_false]at he;rcases he with rfl|rfl<;>rfl⟩
end Go.Proofs.YtnomkooikbhgmaaGreatDoor
