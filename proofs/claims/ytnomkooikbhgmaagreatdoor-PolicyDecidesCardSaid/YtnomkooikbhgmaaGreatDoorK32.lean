/- Lemmas. -/
import Derived.Test.YtnomkooikbhgmaaGreatDoorK31
set_option linter.unusedVariables false
set_option linter.unusedSimpArgs false
set_option maxRecDepth 100000
set_option maxHeartbeats 4000000
noncomputable section
namespace Go.Proofs.YtnomkooikbhgmaaGreatDoor
open Go Go.Vm
def uQ(l:List Rg)(m:Int):Bool:=decide (0<=m)&&(decide (m<=4294967295)&&has l m)
def Xj(i:Nt)(x:Sm)(m:Int):Bool:=sEq x.dur ⟨#[]⟩||(decide (0<=E6 i.wins x.dur)&&uQ (((i.wins[(E6 i.wins x.dur).toNat]?).map Wn.act).getD []) m)
def sV(i:Nt)(n:Nat):Int:=((i.sts[n]?).map Sm.pri).getD 0
def sF(i:Nt)(m:Int)(n:Nat):Bool:=((i.sts[n]?).map fun x=>Xj i x m).getD false
def rC(i:Nt)(m:Int)(p:Int)(k:Nat):List Nat:=(List.range k).filter fun n=>decide (sV i n=p)&&sF i m n
def vG(i:Nt)(m:Int)(c:Nat):List Nat:=(List.range c).flatMap fun(c:Nat)=>rC i m (1000-(c:Int)) i.sts.length
def pM(i:Nt)(m:Int):List Nat:=vG i m 1001
theorem Uw(i:Nt)(m p:Int)(k:Nat):rC i m p (k+1)=rC i m p k++(if decide (sV i k=p)&&sF i m k then [k]else []):=by
 rw[rC,fH,cZ,<-rC];cases h:(decide (sV i k=p)&&sF i m k)<;>simp[h]
theorem L8(i:Nt)(m:Int)(c:Nat):vG i m (c+1)=vG i m c++rC i m (1000-(c:Int)) i.sts.length:=by
 rw[vG,fH,eD,<-vG];simp
theorem priAt_mem{i:Nt}{m p:Int}{k n:Nat}:n∈rC i m p k↔n<k/\sV i n=p/\sF i m n=true:=by
 rw[rC,cI,dJ,aJ,aM]
theorem Wz{i:Nt}{m:Int}{c n:Nat}(h:n∈vG i m c):n<i.sts.length:=by
 rw[vG,dP]at h;obtain⟨a,_,ha⟩:=h;exact(priAt_mem.1 ha).1
/-! the stable sort by priority gives this order -/
section
variable (f:Nat->Int)
def blk(l:List Nat)(a n:Nat):List Nat:=(List.range n).flatMap fun(c:Nat)=>l.filter fun x=>decide (f x=1000-((a+c:Nat):Int))
theorem Hh(l:List Nat)(a n k:Nat):blk f l a (n+k)=blk f l a n++blk f l (a+n) k:=by
 rw[blk,List.range_add,eD,<-blk,List.flatMap_map];simp only[blk,cE]
theorem P5{l:List Nat}{x:Nat}{a n:Nat}(h:∀c,c<n->f x≠1000-((a+c:Nat):Int)):blk f (l++[x]) a n=blk f l a n:=by
 unfold blk;rw[List.flatMap_def,List.flatMap_def]
 congr 1
 refine eE fun c hc=>?_;rw[cZ,List.filter_cons_of_neg (by simpa using h c (dJ.1 hc))];simp
theorem Vh{l:List Nat}{a n y:Nat}(h:y∈blk f l a n):1000-((a+n:Nat):Int)<f y/\f y<=1000-(a:Int):=by
 rw[blk,dP]at h;obtain⟨c,hc,hy⟩:=h;have h1:=dJ.1 hc;have h2:=(cI.1 hy).2;rw[aM]at h2;omega
theorem aGo{l:List Nat}{x:Nat}(h0:0<=f x)(h1:f x<=1000):oE (fun a b=>decide (f b<f a)) (blk f l 0 1001).reverse x=(blk f (l++[x]) 0 1001).reverse:=by
 obtain⟨c,hc⟩:∃c:Nat,f x=1000-(c:Int):=⟨(1000-f x).toNat,by omega⟩
 obtain⟨k,hk⟩:∃k:Nat,c+1+k=1001:=⟨1000-c,by omega⟩
 have e1:blk f l 0 1001=blk f l 0 (c+1)++blk f l (c+1) k:=by rw[<-hk,Hh];simp
 have e2:blk f (l++[x]) 0 1001=blk f l 0 (c+1)++x::blk f l (c+1) k:=by
  rw[<-hk,Hh,Hh f (l++[x]) 0 c 1,Hh f l 0 c 1,P5 f (n:=c) (fun d hd=>by omega),P5 f (n:=k) (fun d hd=>by omega)];have:blk f (l++[x]) (0+c) 1=blk f l (0+c) 1++[x]:=by
   unfold blk;simp only[List.range_one,dD,List.flatMap_nil,bI,cZ];rw[List.filter_cons_of_pos (by simp only[aM];omega)];simp
  rw[this];simp
 rw[e1,e2,List.reverse_append,List.reverse_append,List.reverse_cons,cV,Fo (fun y hy=>?_) (fun y A' hA=>?_)]
 ·simp
 ·have:=(Vh f (List.mem_reverse.1 hy)).2;rw[aM];omega
 ·have hy:y∈blk f l 0 (c+1):=List.mem_reverse.1 (by rw[hA];simp);have:=(Vh f hy).1;rw[decide_eq_false_iff_not];omega
theorem X7:∀(l:List Nat),(∀x,x∈l->0<=f x/\f x<=1000)->tD (fun a b=>decide (f b<f a)) l=blk f l 0 1001:=by
 intro l h
 suffices hs:∀(l acc:List Nat),(∀x,x∈l->0<=f x/\f x<=1000)->l.foldl (oE fun a b=>decide (f b<f a)) (blk f acc 0 1001).reverse=(blk f (acc++l) 0 1001).reverse by
  have:=hs l [] h;rw[tD,nK];have e:(blk f [] 0 1001).reverse=[]:=by unfold blk;simp
  rw[e]at this;rw[this];simp
 intro l
 induction l with
 |nil=>intro acc _;simp
 |cons x l ih=>
  intro acc h;rw[eG,aGo f (h x zx).1 (h x zx).2,ih _ fun y hy=>h y (aS _ hy)];simp
end
theorem Rv{i:Nt}{m:Int}(hp:∀x,x∈i.sts->0<=x.pri/\x.pri<=1000):tD (fun a b=>decide (sV i b<sV i a)) ((List.range i.sts.length).filter (sF i m))=pM i m:=by
 rw[X7 (sV i)]
 ·unfold blk pM vG rC
  congr 1
  funext c
  rw[List.filter_filter];simp
 ·intro n hn;have hl:=dJ.1 (cI.1 hn).1;rw[sV,aE hl];exact hp _ (cX hl)
theorem Eb{i:Nt}{m:Int}(hp:∀x,x∈i.sts->0<=x.pri/\x.pri<=1000):(pM i m).length<=i.sts.length:=by
 rw[<-Rv hp,D4];exact bA (dK ..) zx
/-! a part is joined with the set of a class -/
def xC:List Insp->ByteArray->List Bx->List Insp×Int
 |[],c,s=>([⟨c,s⟩],0)
 |y::r,c,s=>if ltS y.cls c=true then(y::(xC r c s).1,(xC r c s).2)else
  if sEq y.cls c=true then(⟨y.cls,(iF orB y.set s).1⟩::r,(iF orB y.set s).2)else(⟨c,s⟩::y::r,0)
def Fw(l:List Insp)(c:ByteArray)(s:List Bx):List Insp×Int:=if sEq c ⟨#[]⟩=true\/s=[]then(l,0)else xC l c s
theorem sEq_iff{a b:ByteArray}:sEq a b=true↔a=b:=by
 rw[nS];constructor
 ·intro h;obtain⟨a⟩:=a;obtain⟨b⟩:=b;have:a.toList=b.toList:=by simpa using h
  rw[Array.toList_inj.1 this]
 ·rintro rfl;simp
theorem On(a:ByteArray):ltS a a=false:=by
 rw[cB];intro h;have:=(Ib _ _ h).1;rw[show Op.bytesLess a.toList a.toList=ltS a a from rfl,h]at this;cases this
/-! the policy at a minute -/
def zPol:Pol:=⟨[],[]⟩
def P2(t:Tp)(i:Nt):List Nat->List Bx->Pol->Pol×Int
 |[],_,p=>(p,0)
 |n::r,rest,p=>match i.sts[n]? with
  |none=>(p,0)
  |some x=>
   if(iF anB rest (kV t i x).1).2≠0 then(zPol,(iF anB rest (kV t i x).1).2)else
   if(iF woB rest (kV t i x).1).2≠0 then(zPol,(iF woB rest (kV t i x).1).2)else
   if x.permit=false then P2 t i r (iF woB rest (kV t i x).1).1 p else
   if(iF orB p.allow (iF anB rest (kV t i x).1).1).2≠0 then(zPol,(iF orB p.allow (iF anB rest (kV t i x).1).1).2)else
   if(Fw p.insp x.cls (iF anB rest (kV t i x).1).1).2≠0 then(zPol,(Fw p.insp x.cls (iF anB rest (kV t i x).1).1).2)else
   P2 t i r (iF woB rest (kV t i x).1).1 ⟨(iF orB p.allow (iF anB rest (kV t i x).1).1).1,(Fw p.insp x.cls (iF anB rest (kV t i x).1).1).1⟩
def atP(t:Tp)(i:Nt)(m:Int):Pol×Int:=if(oD t).2≠0 then(zPol,(oD t).2)else P2 t i (pM i m) (oD t).1 zPol
def Fu(t:Tp)(i:Nt)(m:Int):Int:=if lT t=true/\ntB i=true then(if 0<=m/\m<10080 then Qc t i else 2)else 1
theorem Lo{α:Type}{f:α->Int}:∀{l:List α},lG f l=0->∀x,x∈l->f x=0
 |[],_,x,hx=>by simp at hx
 |y::l,h,x,hx=>by
  unfold lG at h;split at h
  ·rename_i hn;exact absurd h hn
  ·rename_i hn;rcases aV.1 hx with rfl|hx
   ·exact Decidable.byContradiction fun h=>hn h
   ·exact Lo h x hx
theorem Vk{t:Tp}{i:Nt}(h:Qc t i=0):∀x,x∈i.sts->(kV t i x).2=0:=by
 intro x hx;rw[Qc]at h;simp only at h;split at h
 ·rename_i hn;exact absurd h hn
 split at h
 ·rename_i hn;exact absurd h hn
 split at h
 ·rename_i hn;exact absurd h hn
 rename_i hn;have:=Lo (Decidable.byContradiction fun h=>hn h) x hx;split at this
 ·rename_i h1;exact absurd this h1
 ·rename_i h1;exact Decidable.byContradiction fun h=>h1 h
/-! the sets of the classes as a map -/
def U5(g:ByteArray->Option (List Bx))(c:ByteArray)(s:List Bx):ByteArray->Option (List Bx):=fun d=>if d=c then some s else g d
structure MapR (g:ByteArray->Option (List Bx)) (l:List Insp):Prop where
 mem:∀x:Insp,x∈l↔g x.cls=some x.set/\x.set≠[]
 set:∀c s,g c=some s->kN s=true
 od:l.Pairwise fun x y=>ltS x.cls y.cls=true
theorem La{s:List Bx}(h:kN s=true):iF orB s []=(s,0):=by
 have hl:=(rZ h).len;have hc:oA 5 s=true:=by
  unfold kN at h;simp only[aJ]at h;exact h.2.2
 have e:iX orB 5 s []=s:=by
  have:=(wF 5 s zd (fun x hx f hf _=>oT h x hx f hf) (fun h=>by cases h)).1 hc;rw[this,show(iW 5:Bx->Bx)=id from funext fun b=>xR b,List.map_id]
 rw[pX h lC,e,rQ,uH,aF zo,aF zo]
theorem Xv{s:List Bx}(h:kN s=true):iF orB [] s=(s,0):=by
 have e:iF orB [] s=iF orB s []:=by
  rw[pX h lC,pX lC h,xT orB orB 5 [] s s [] zd fun p _=>by simp[orB,Bool.or_comm]]
 rw[e,La h]
theorem Rx{c:ByteArray}{s:List Bx}:∀{l:List Insp},l.Pairwise (fun x y=>ltS x.cls y.cls=true)->((∀y,y∈l->y.cls≠c)->(xC l c s).2=0/\(∀x,x∈(xC l c s).1↔x=⟨c,s⟩\/x∈l))/\
  (∀y,y∈l->y.cls=c->(xC l c s).2=(iF orB y.set s).2/\∀x,x∈(xC l c s).1↔x=⟨c,(iF orB y.set s).1⟩\/(x∈l/\x.cls≠c))/\
  ((xC l c s).1.Pairwise fun x y=>ltS x.cls y.cls=true)/\(∀d,ltS d c=true->(∀y,y∈l->ltS d y.cls=true)->∀y,y∈(xC l c s).1->ltS d y.cls=true)
 |[],_=>⟨fun _=>⟨rfl,fun x=>by simp[xC]⟩,fun y h=>by simp at h,by simp[xC],fun d h _ y hy=>by simp[xC]at hy;rw[hy];exact h⟩
 |z::r,hs=>by
  obtain⟨s1,s2⟩:=bW.1 hs;obtain⟨i1,i2,i3,i4⟩:=Rx (c:=c) (s:=s) s2;unfold xC;by_cases h1:ltS z.cls c=true
  ·have hzc:z.cls≠c:=fun e=>by rw[e,On]at h1;cases h1
   simp only[h1,if_true];refine⟨fun hn=>?_,fun y hy hc=>?_,bW.2 ⟨i4 _ h1 s1,i3⟩,fun d hd hl y hy=>?_⟩
   ·obtain⟨j1,j2⟩:=i1 fun y hy=>hn y (aS _ hy);exact⟨j1,fun x=>by rw[aV,j2 x,aV];exact⟨fun h=>by rcases h with h|h|h<;>simp[h],fun h=>by rcases h with h|h|h<;>simp[h]⟩⟩
   ·rcases aV.1 hy with rfl|hy
    ·exact absurd hc hzc
    ·obtain⟨j1,j2⟩:=i2 y hy hc;refine⟨j1,fun x=>?_⟩;rw[aV,j2 x,aV];constructor
     ·rintro(rfl|h|⟨h,h'⟩)
      ·exact .inr ⟨.inl rfl,hzc⟩
      ·exact .inl h
      ·exact .inr ⟨.inr h,h'⟩
     ·rintro(h|⟨rfl|h,h'⟩)
      ·exact .inr (.inl h)
      ·exact .inl rfl
      ·exact .inr (.inr ⟨h,h'⟩)
   ·rcases aV.1 hy with rfl|hy
    ·exact hl _ zx
    ·exact i4 d hd (fun w hw=>hl w (aS _ hw)) y hy
  ·rw[aF h1];by_cases h2:sEq z.cls c=true
   ·have hzc:z.cls=c:=sEq_iff.1 h2;have hne:∀w,w∈r->w.cls≠c:=fun w hw e=>by have:=s1 w hw;rw[hzc,e,On]at this;cases this
    rw[aH h2];refine⟨fun hn=>absurd hzc (hn z zx),fun y hy hc=>?_,?_,fun d hd hl y hy=>?_⟩
    ·rcases aV.1 hy with rfl|hy
     ·refine⟨rfl,fun x=>?_⟩;simp only[aV];constructor
      ·rintro(rfl|h)
       ·exact .inl (by rw[hzc])
       ·exact .inr ⟨.inr h,hne x h⟩
      ·rintro(rfl|⟨rfl|h,h'⟩)
       ·exact .inl (by rw[hzc])
       ·exact absurd hzc h'
       ·exact .inr h
     ·exact absurd hc (hne y hy)
    ·exact bW.2 ⟨fun w hw=>s1 w hw,s2⟩
    ·simp only[aV]at hy;rcases hy with rfl|hy
     ·exact hl z zx
     ·exact hl y (aS _ hy)
   ·have hzc:z.cls≠c:=fun e=>h2 (sEq_iff.2 e);have hlt:ltS c z.cls=true:=Ic _ _ (by simpa[ltS]using h1) (by simpa[sEq]using h2);have htr:∀w,w∈r->ltS c w.cls=true:=fun w hw=>Id _ _ _ hlt (s1 w hw);have hne:∀w,w∈r->w.cls≠c:=fun w hw e=>by have:=htr w hw;rw[e,On]at this;cases this
    rw[aF h2];refine⟨fun hn=>⟨rfl,fun x=>by simp⟩,fun y hy hc=>?_,?_,fun d hd hl y hy=>?_⟩
    ·rcases aV.1 hy with rfl|hy
     ·exact absurd hc hzc
     ·exact absurd hc (hne y hy)
    ·refine bW.2 ⟨fun w hw=>?_,hs⟩;rcases aV.1 hw with rfl|hw
     ·exact hlt
     ·exact htr w hw
    ·simp only[aV]at hy;rcases hy with rfl|rfl|hy
     ·exact hd
     ·exact hl _ zx
     ·exact hl y (aS _ hy)
theorem aTH{a b:List Bx}(ha:kN a=true)(hb:kN b=true)(hn:b≠[])(he:(iF orB a b).2=0):(iF orB a b).1≠[]:=by
 rw[pX ha hb]at he⊢;simp only[uH]at he;split at he
 ·cases he
 rename_i hl;simp only[rQ];rw[aF hl];intro hc;rw[rM]at hc;obtain⟨x,hx⟩:=List.exists_mem_of_ne_nil b hn;obtain⟨p,hp,hpx⟩:=E9 (oT hb x hx);have:=hc p hp;rw[memK_iff.2 ⟨x,hx,hpx⟩]at this;simp[orB]at this
theorem MapR.put{g:ByteArray->Option (List Bx)}{l:List Insp}(h:MapR g l){c:ByteArray}(hc:sEq c ⟨#[]⟩=false){s:List Bx}(hs:kN s=true):
  (Fw l c s).2=(iF orB ((g c).getD []) s).2/\((Fw l c s).2=0->MapR (U5 g c (iF orB ((g c).getD []) s).1) (Fw l c s).1):=by
 unfold Fw;by_cases hs0:s=[]
 ·subst hs0;rw[aH (.inr rfl)];have hg:kN ((g c).getD [])=true:=by
   cases hgc:g c with
   |none=>exact lC
   |some u=>exact h.set c u hgc
  rw[La hg];refine⟨rfl,fun _=>⟨fun x=>?_,fun d u hu=>?_,h.od⟩⟩
  ·rw[h.mem x];unfold U5;by_cases e:x.cls=c
   ·rw[aH e,e];cases hgc:g c with
    |none=>
     simp only[Option.getD_none,bQ];exact⟨fun h=>(by cases h.1),fun h=>absurd h.1.symm h.2⟩
    |some u=>simp
   ·rw[aF e]
  ·unfold U5 at hu;split at hu
   ·cases hu;exact hg
   ·exact h.set d u hu
 ·rw[aF (by rw[hc];rintro(h|h);cases h;exact hs0 h)];obtain⟨p1,p2,p3,_⟩:=Rx (c:=c) (s:=s) h.od;by_cases hex:∃y,y∈l/\y.cls=c
  ·obtain⟨y,hy,hyc⟩:=hex;obtain⟨q1,q2⟩:=p2 y hy hyc;have hgy:=((h.mem y).1 hy).1;rw[hyc]at hgy;rw[hgy];simp only[cY];refine⟨q1,fun he=>⟨fun x=>?_,fun d u hu=>?_,p3⟩⟩
   ·rw[q2 x];unfold U5;by_cases e:x.cls=c
    ·rw[aH e];have hne:=aTH (h.set c _ hgy) hs hs0 (by rw[<-q1];exact he);constructor
     ·rintro(rfl|⟨_,h'⟩)
      ·exact⟨rfl,hne⟩
      ·exact absurd e h'
     ·rintro⟨h1,_⟩
      left;cases x;simp only at e h1;rw[e,bG h1]
    ·rw[aF e,h.mem x];constructor
     ·rintro(rfl|⟨h,_⟩)
      ·exact absurd rfl e
      ·exact h
     ·exact fun h=>.inr ⟨h,e⟩
   ·unfold U5 at hu;split at hu
    ·cases hu;exact jM ..
    ·exact h.set d u hu
  ·have hn:∀y,y∈l->y.cls≠c:=fun y hy e=>hex ⟨y,hy,e⟩;obtain⟨q1,q2⟩:=p1 hn;have hgc:(g c).getD []=[]:=by
    cases hgc:g c with
    |none=>rfl
    |some u=>
     simp only[cY];refine Decidable.byContradiction fun hu=>?_;exact hn ⟨c,u⟩ ((h.mem ⟨c,u⟩).2 ⟨hgc,hu⟩) rfl
   rw[hgc,Xv hs];refine⟨q1,fun he=>⟨fun x=>?_,fun d u hu=>?_,p3⟩⟩
   ·rw[q2 x,h.mem x];unfold U5;by_cases e:x.cls=c
    ·rw[aH e];constructor
     ·rintro(rfl|⟨h1,h2⟩)
      ·exact⟨rfl,hs0⟩
      ·rw[e]at h1;rw[h1]at hgc;exact absurd hgc h2
     ·rintro⟨h1,_⟩
      left;cases x;simp only at e h1;rw[e,bG h1]
    ·rw[aF e];constructor
     ·rintro(rfl|h)
      ·exact absurd rfl e
      ·exact h
     ·exact .inr
   ·unfold U5 at hu;split at hu
    ·cases hu;exact hs
    ·exact h.set d u hu
theorem aQn(G:FuncId)(C:List AV)(c:Nat->Nat->Int)(l:List Nat)(hl:l.length<=100000)
  (hc:∀x y,x∈l->y∈l->∀{K:KT},K (.v (.int .i64 (c x y))) []->AC G [vN x,vN y,.fp C] [] K){K:KT}
  (hK:K (.tup []) [.arr 1 ((tD (fun x y=>decide (c x y<0)) l).map vN)]):
  AC 203 [.os 0 1 0 l.length,.v (.int .i64 0),.v (.int .i64 l.length),.fn (.func G) [] [.fp C]] [.arr 1 (l.map vN)] K:=by
 refine aOq rfl rfl ?_;(repeat' ((conv=>whnf);first|refine zG ?_|apply zA|intro h|exact zT));all_goals conv=>whnf
 refine gM Nat (fun i=>⟨1,[(0,.arr 1 ((tD (fun x y=>decide (c x y<0)) (l.take i)++l.drop i).map vN))],[(0,.os 0 1 0 l.length),(1,.v (.int .i64 0)),(2,.v (.int .i64 l.length)),(3,.fn (.func G) [] [.fp C]),(8,.v (.int .i64 i))]⟩)
  (fun i=>1<=i/\(i<=l.length\/l.length=0)) (fun i=>l.length-i) 1 ?_ ?_ ?_
 ·omega
 ·have e:tD (fun x y=>decide (c x y<0)) (l.take 1)++l.drop 1=l:=by cases l<;>simp[tD,nK,oE]
  rw[e];exact leA
 intro i ⟨hi1,hi2⟩;rcases aC i l.length with hil|hil
 ·obtain⟨x,hx⟩:=gex hil;have hxm:=aI hx;have hd:l.drop i=x::l.drop (i+1):=by
   rw[aE hil]at hx;rw[<-bG hx,<-bB hil]
  generalize hlt:(fun x y=>decide (c x y<0))=lt at*;have hsl:(nK lt (l.take i)).length=i:=by rw[xH];simp;omega
  (repeat' ((conv=>whnf);first|refine zG ?_|apply zA|intro h|exact zT));all_goals conv=>whnf
  refine gM (List Nat×List Nat) (fun g=>⟨1,[(0,.arr 1 ((g.1++x::(g.2++l.drop (i+1))).map vN))],[(0,.os 0 1 0 l.length),(1,.v (.int .i64 0)),(2,.v (.int .i64 l.length)),(3,.fn (.func G) [] [.fp C]),(8,.v (.int .i64 i)),(9,.v (.int .i64 g.1.length))]⟩)
   (fun g=>nK lt (l.take i)=g.2.reverse++g.1.reverse/\∀y,y∈g.2->lt x y=true) (fun g=>g.1.length) ((nK lt (l.take i)).reverse,[]) ?_ ?_ ?_
  ·exact⟨by simp,fun y hy=>by simp at hy⟩
  ·rw[hd,tD];have e9:((i:Nat):Int)=((nK lt (l.take i)).reverse.length:Nat):=by rw[List.length_reverse,hsl]
   simp only[dL];rw[<-e9];exact leA
  rintro⟨A,B⟩ ⟨hAB,hB⟩
  simp only at hAB hB⊢;have hlen:A.length+B.length=i:=by rw[hAB]at hsl;simp at hsl;omega
  have fin:(∀a A',A.reverse=a::A'->lt x a=false)->tD lt (l.take (i+1))++l.drop (i+1)=A++x::(B++l.drop (i+1)):=by
   intro h;rw[tD,Pe hx,hAB,Fo (fun y hy=>hB y (by simpa using hy)) h];simp
  rcases cT A with hA|⟨A',a,hA⟩
  ·subst hA;(repeat' ((conv=>whnf);first|refine zG ?_|apply zA|intro h|exact zT));all_goals conv=>whnf
   refine⟨i+1,⟨by omega,by omega⟩,by omega,?_⟩;rw[fin (fun a A' h=>by simp at h)];exact leA
  ·rw[cU]at hA;subst hA;have hma:a∈l:=by
    have:a∈nK lt (l.take i):=by rw[hAB];simp
    rw[nK,yV]at this;exact cL (this.resolve_right zx)
   have hcx:lt x a=decide (c x a<0):=by rw[<-hlt]
   have hj:(((A'++[a]).length:Nat):Int)-1=(A'.length:Nat):=by simp
   have g1:(A'++[a]++x::(B++l.drop (i+1)))[0+(A'++[a]).length]? =some x:=by simp
   have g2:(A'++[a]++x::(B++l.drop (i+1)))[0+A'.length]? =some a:=by simp
   have n1:(A'++[a]).length<l.length:=by omega
   have n2:A'.length<l.length:=by simp at n1;omega
   have n3:0<(A'++[a]).length:=by simp
   have g3:((List.map vN (A'++[a]++x::(B++l.drop (i+1)))).set (0+(A'++[a]).length) (vN a))[0+A'.length]? =some (vN a):=by
    rw[fS zx,bO,g2];rfl
   have hset:((List.map vN (A'++[a]++x::(B++l.drop (i+1)))).set (0+(A'++[a]).length) (vN a)).set (0+A'.length) (vN x)=List.map vN (A'++x::((a::B)++l.drop (i+1))):=by
    rw[<-eW,<-eW]
    congr 1
    simp
   (repeat' ((conv=>whnf);first|(with_reducible first|refine iA n1 ?_|refine gU A'.length hj n2 ?_|refine hU g1 ?_|refine hU g2 ?_|refine gV g3 ?_|refine hc x a hxm hma ?_)|refine zG ?_|apply zA|intro h|exact zT));all_goals conv=>whnf
   all_goals first
    |(refine⟨i+1,⟨by omega,by omega⟩,by omega,?_⟩
      rw[fin (fun a0 A0 h0=>by simp at h0;obtain⟨rfl,_⟩:=h0;rw[hcx];exact decide_eq_false zw)];exact leA)
    |(refine⟨(A',a::B),⟨by rw[hAB];simp,fun y hy=>?_⟩,by simp,?_⟩
      ·rcases aV.1 hy with rfl|hy
       ·rw[hcx];exact decide_eq_true zw
       ·exact hB y hy
      ·simp only;rw[hj,<-hset];(exact leA))
 ·have hll:l.length<=i:=hil;(repeat' ((conv=>whnf);first|refine zG ?_|apply zA|intro h|exact zT));all_goals conv=>whnf
  rw[aU hll,List.drop_eq_nil_of_le hll,bI];exact hK
theorem aKz(G:FuncId)(C:List AV)(c:Nat->Nat->Int)(l:List Nat)(hl:l.length<20)
  (hc:∀x y,x∈l->y∈l->∀{K:KT},K (.v (.int .i64 (c x y))) []->AC G [vN x,vN y,.fp C] [] K){K:KT}
  (hK:K (.tup []) [.arr 1 ((tD (fun x y=>decide (c x y<0)) l).map vN)]):
  AC 61 [.os 0 1 0 l.length,.fn (.func G) [] [.fp C]] [.arr 1 (l.map vN)] K:=by
 have hs:∀{K:KT},K (.tup []) [.arr 1 ((tD (fun x y=>decide (c x y<0)) l).map vN)]->AC 132 [.os 0 1 0 l.length,.v (.int .i64 l.length),.fn (.func G) [] [.fp C]] [.arr 1 (l.map vN)] K:=by
  intro K hK;refine aHf rfl rfl ?_;(repeat' ((conv=>whnf);first|(with_reducible first|refine Lp.times 2 ?_|refine aQn G C c l zo hc ?_)|refine zG ?_|apply zA|intro h|exact zT));all_goals conv=>whnf
  exact hK
 refine aHe rfl rfl ?_;(repeat' ((conv=>whnf);first|(with_reducible refine hs ?_)|refine zG ?_|apply zA|intro h|exact zT));all_goals conv=>whnf
 exact hK
theorem yU{α:Type}(p:α->Bool)(l:List α):jJ p l= -1\/∃(k:Nat) (x:α),jJ p l=(k:Int)/\l[k]? =some x:=by
 unfold jJ;cases h:l.findIdx? p with
 |none=>exact .inl rfl
 |some k=>
  have:=(dU.1 h).1;exact .inr ⟨k,_,rfl,aE this⟩
theorem aKv(x:Int){K:KT}(hK:K (.sb false) []):AC 133 [.v (.int .i64 x)] [] K:=by
 refine aGX rfl rfl ?_;(repeat' ((conv=>whnf);first|refine zG ?_|apply zA|intro h|exact zT));all_goals conv=>whnf
 have e:(!decide (x=x))=false:=by simp
 first
  |(unfold yP;rw[e];exact hK)
  |exact iL hK e
theorem aKu(x y:Int){K:KT}(hK:K (.v (.int .i64 (G9 x y))) []):AC 63 [.v (.int .i64 x),.v (.int .i64 y)] [] K:=by
 refine aGT rfl rfl ?_;(repeat' ((conv=>whnf);first|(with_reducible refine aKv _ ?_)|refine zG ?_|apply zA|intro h|exact zT));all_goals conv=>whnf
 all_goals
  unfold G9 at hK;first
   |(rw[aH zw]at hK;exact hK)
   |(rw[aF zw,aH zw]at hK;exact hK)
   |(rw[aF zw,aF zw]at hK;exact hK)
abbrev Ta(g:Hd):List AV:=[.v (.int .u32 g.src),.v (.int .u32 g.dst),.v (.int .u8 g.pro),.v (.int .u16 g.sp),.v (.int .u16 g.dp)]
theorem aQm(b:Bx)(g:Hd)(ho:g.Ok){K:KT}(hK:K (.sb (uU b g)) []):AC 116 [iY b,mR g] [] K:=by
 have hv:∀{K:KT},K (.agg [.v (.int .u32 g.src),.v (.int .u32 g.dst),.v (.int .u32 g.pro),.v (.int .u32 g.sp),.v (.int .u32 g.dp)]) []->AC 194 [mR g] [] K:=fun h=>aAO g.src g.dst g.pro g.sp g.dp ⟨ho.s0,ho.d0,ho.p0,ho.a0,ho.b0,ho.s1,ho.d1,ho.p1,ho.a1,ho.b1⟩ h;refine gP (aOo rfl rfl ?_);(repeat' ((conv=>whnf);first|(with_reducible first|refine aAH b ?_|refine hv ?_|refine Lp.times 6 ?_)|(refine kP zd ?_)|(refine gV rfl ?_)|refine zG ?_|apply zA|intro h|exact zT));all_goals conv=>whnf
 all_goals first
  |exact jU hK ((tZ b g).2 (by repeat' (first|with_reducible assumption|omega|apply And.intro)))
  |(refine iL hK ?_;rw[cB,ne_eq,tZ];omega)
  |(refine iL hK ?_;rw[cB,ne_eq,tZ];simp_all)
theorem aEp(b:Bx)(g:Hd)(ho:g.Ok){K:KT}(hK:K (.sb (uU b g)) []):AC 115 [iY b,.fp (Ta g)] [] K:=by
 refine aCv rfl rfl ?_;(repeat' ((conv=>whnf);first|(with_reducible refine aQm b g ho ?_)|refine zG ?_|apply zA|intro h|exact zT));all_goals conv=>whnf
 exact hK
theorem aQq(l:List Bx)(f:FuncId)(cs:List AV)(p:Bx->Bool)(hF:∀(x:Bx) (K:AV->List Vm.Obj->Prop),K (.sb (p x)) []->AC f [iY x,.fp cs] [] K)(hl:l.length<1000000000){K:KT}(hK:K (.v (.int .i64 (jJ p l))) []):
  AC 192 [iE l,.fn (.func f) [] [.fp cs]] [] K:=by
 refine aOs rfl rfl ?_;(repeat' ((conv=>whnf);first|refine zG ?_|apply zA|intro h|exact zT));all_goals conv=>whnf
 refine gM Nat (fun k=>⟨0,[],[(0,iE l),(1,.fn (.func f) [] [.fp cs]),(7,.v (.int .i64 (l.map iY).length)),(8,.v (.int .i64 k))]⟩) (fun k=>k<=l.length/\∀(i:Nat) y,i<k->l[i]? =some y->p y=false) (fun k=>l.length-k) 0 ⟨aO _,fun i y hi=>absurd hi (bC _)⟩ ?_ ?_
 ·exact leA
 intro k ⟨hk,hinv⟩;rcases aC k l.length with hkl|hkl
 ·obtain⟨r,hr⟩:=gex hkl;(repeat' ((conv=>whnf);first|(with_reducible first|refine hZ hkl ?_|refine hU hr ?_|refine hF r _ ?_)|refine zG ?_|apply zA|intro h|exact zT));all_goals conv=>whnf
  ·rw[jQ hr h hinv]at hK;exact hK
  ·refine⟨k+1,⟨by omega,jY hr h hinv⟩,by omega,?_⟩;rw[aN,aL];exact leA
 ·(repeat' ((conv=>whnf);first|refine zG ?_|apply zA|intro h|exact zT));all_goals conv=>whnf
  rw[jS (iC hkl hinv)]at hK;exact hK
theorem aAn(l:List Bx)(g:Hd)(ho:g.Ok)(hl:l.length<1000000000){K:KT}(hK:K (.sb (l.any fun b=>uU b g)) []):AC 54 [iE l,mR g] [] K:=by
 have hc:∀{K:KT},K (.v (.int .i64 (jJ (fun b=>uU b g) l))) []->AC 192 [iE l,.fn (.func 115) [] [.fp (Ta g)]] [] K:=fun h=>aQq l _ _ (fun b=>uU b g) (fun x K h=>aEp x g ho h) hl h;have hd:∀{K:KT},K (.sb (l.any fun b=>uU b g)) []->AC 114 [iE l,.fn (.func 115) [] [.fp (Ta g)]] [] K:=by
  intro K hK;refine aGQ rfl rfl ?_;(repeat' ((conv=>whnf);first|(with_reducible refine hc ?_)|refine zG ?_|apply zA|intro h|exact zT));all_goals conv=>whnf
  rw[<-uD]at hK;exact hK
 refine aHa rfl rfl ?_;(repeat' ((conv=>whnf);first|(with_reducible refine hd ?_)|refine zG ?_|apply zA|intro h|exact zT));all_goals conv=>whnf
 exact hK
theorem aKA(e:Ed)(v:Int)(v0:0<=v)(v1:v<=4294967295){K:KT}(hK:K (.sb (!e.pl&&e.pf.has v)) []):AC 112 [mX e,.fp [.v (.int .u32 v)]] [] K:=by
 refine gP (aHg rfl rfl ?_);(repeat' ((conv=>whnf);first|(with_reducible refine aJj e.pf v v0 v1 ?_)|refine zG ?_|apply zA|intro h|exact zT));all_goals conv=>whnf
 all_goals first
  |exact jP hK (by simp_all)
  |exact iL hK (by simp_all)
  |exact jU hK (by simp_all)
theorem aJi(t:Tp)(v:Int)(v0:0<=v)(v1:v<=4294967295)(hl:t.edges.length<1000000){K:KT}(hK:K (.v (.int .i64 (uW t v))) []):AC 53 [kB t,.v (.int .u32 v)] [] K:=by
 have hc:∀{K:KT},K (.v (.int .i64 (uW t v))) []->AC 111 [.lst (t.edges.map mX),.fn (.func 112) [] [.fp [.v (.int .u32 v)]]] [] K:=fun h=>Vl t.edges _ _ (fun e=> !e.pl&&e.pf.has v) (fun x K h=>aKA x v v0 v1 h) hl h;refine aOy rfl rfl ?_;(repeat' ((conv=>whnf);first|(with_reducible refine hc ?_)|refine zG ?_|apply zA|intro h|exact zT));all_goals conv=>whnf
 exact hK
theorem aKs(l:List Rg)(m:Int)(hl:l.length<1000000){K:KT}(hK:K (.sb (uQ l m)) []):AC 131 [iH l,.v (.int .i64 m)] [] K:=by
 refine gP (aGR rfl rfl ?_);unfold uQ at hK;by_cases hm:0<=m/\m<=4294967295
 ·rw[decide_eq_true hm.1,decide_eq_true hm.2,dQ,dQ]at hK;(repeat' ((conv=>whnf);first|(with_reducible refine c21 l _ hl ?_)|refine zG ?_|apply zA|intro h|exact zT));all_goals conv=>whnf
  all_goals first
   |exact jP hK rfl
   |exact iL hK zw
   |(exfalso;omega)
 ·have e:(decide (0<=m)&&(decide (m<=4294967295)&&has l m))=false:=by
   by_cases h0:0<=m
   ·rw[decide_eq_false (show ¬m<=4294967295 by omega)];simp
   ·rw[decide_eq_false h0];simp
  (repeat' ((conv=>whnf);first|(with_reducible refine c21 l _ hl ?_)|refine zG ?_|apply zA|intro h|exact zT));all_goals conv=>whnf
  all_goals first
   |exact iL hK e
   |(exfalso;omega)
theorem aAm(m:Int){K:KT}(hK:K (.sb (decide (0<=m/\m<10080))) []):AC 59 [.v (.int .i64 m)] [] K:=by
 refine gP (aOt rfl rfl ?_);(repeat' ((conv=>whnf);first|refine zG ?_|apply zA|intro h|exact zT));all_goals conv=>whnf
 all_goals first
  |exact jU hK (decide_eq_true zo)
  |exact iL hK (decide_eq_false zo)
  |(refine jP hK ?_;rw[bK];simp only[aM];omega)
theorem aKr(w:Wn)(x:Sm){K:KT}(hK:K (.sb (sEq w.name x.dur)) []):AC 130 [jD w,.fp (Qd x)] [] K:=by
 refine aGP rfl rfl ?_;(repeat' ((conv=>whnf);first|refine zG ?_|apply zA|intro h|exact zT));all_goals conv=>whnf
 exact hK
theorem aJa{i:Nt}(hb:Bnd i){n:Nat}{w:Wn}(h:i.wins[n]? =some w):w.act.length<=4000:=hb.wi w (aI h)
theorem aQk(i:Nt)(hb:Bnd i)(x:Sm)(m:Int){K:KT}(hK:K (.sb (Xj i x m)) []):AC 60 [iS i,jI x,.v (.int .i64 m)] [] K:=by
 have hw:=hb.w;have hc:∀{K:KT},K (.v (.int .i64 (E6 i.wins x.dur))) []->AC 129 [.lst (i.wins.map jD),.fn (.func 130) [] [.fp (Qd x)]] [] K:=fun h=>aKh i.wins _ _ (fun d=>sEq d.name x.dur) (fun y K h=>aKr y x h) zo h;refine gP (aOm rfl rfl ?_);unfold Xj at hK;by_cases h0:sEq x.dur ⟨#[]⟩=true
 ·rw[h0,Bool.true_or]at hK;(repeat' ((conv=>whnf);first|(with_reducible refine hc ?_)|refine zG ?_|apply zA|intro h|exact zT));all_goals conv=>whnf
  all_goals first
   |exact jU hK rfl
   |(exfalso;simp_all[sEq];done)
 ·have h0:sEq x.dur ⟨#[]⟩=false:=by simpa using h0
  rw[h0,gL]at hK;rcases yU (fun d:Wn=>sEq d.name x.dur) i.wins with h1|⟨k,w,h1,h2⟩
  ·have h1:E6 i.wins x.dur= -1:=h1;rw[h1]at hc hK;(repeat' ((conv=>whnf);first|(with_reducible refine hc ?_)|refine zG ?_|apply zA|intro h|exact zT));all_goals conv=>whnf
   all_goals first
    |exact iL hK rfl
    |(exfalso;simp_all[sEq];done)
  ·have h1:E6 i.wins x.dur=(k:Int):=h1;rw[h1]at hc hK;have hkl:=(aP.1 h2).1;have hwl:=aJa hb h2;simp only[eQ,h2,dF,cY]at hK;rw[decide_eq_true (show(0:Int)<=k by omega),dQ]at hK;(repeat' ((conv=>whnf);first|(with_reducible first|refine hc ?_|refine hZ hkl ?_|refine hU h2 ?_|refine aKs w.act m zo ?_)|refine zG ?_|apply zA|intro h|exact zT));all_goals conv=>whnf
   all_goals first
    |exact jP hK rfl
    |exact iL hK zw
    |(exfalso;simp_all[sEq];done)
abbrev aKq(i:Nt):List AV:=[.lst (i.grps.map iG),.lst (i.svcs.map iG),.lst (i.wins.map jD),.lst (i.sts.map jI),.lst (i.pubs.map kG),.lst (i.hids.map kK)]
theorem aKx(i:Nt)(a b:Nat)(ha:a<i.sts.length)(hb:b<i.sts.length){K:KT}(hK:K (.v (.int .i64 (G9 (sV i b) (sV i a)))) []):AC 62 [vN a,vN b,.fp (aKq i)] [] K:=by
 obtain⟨x,hx⟩:=gex ha;obtain⟨y,hy⟩:=gex hb;have e1:sV i a=x.pri:=by simp[sV,hx]
 have e2:sV i b=y.pri:=by simp[sV,hy]
 rw[e1,e2]at hK;refine aGZ rfl rfl ?_;(repeat' ((conv=>whnf);first|(with_reducible first|refine hZ ha ?_|refine hZ hb ?_|refine hU hx ?_|refine hU hy ?_|refine aKu _ _ ?_)|refine zG ?_|apply zA|intro h|exact zT));all_goals conv=>whnf
 exact hK
theorem aEm(a b:Int):decide (G9 a b<0)=decide (a<b):=by
 unfold G9;by_cases h1:a<b
 ·simp[h1]
 ·by_cases h2:b<a<;>simp[h1,h2]
theorem aIw(i:Nt)(m:Int)(k:Nat):(List.range (k+1)).filter (sF i m)=(List.range k).filter (sF i m)++(if sF i m k=true then [k]else []):=by
 rw[fH,cZ];cases h:sF i m k<;>simp[h]
theorem Js{i:Nt}(h:ntB i=true):∀x,x∈i.sts->0<=x.pri/\x.pri<=1000:=fun x hx=>by
 have:=(ntB_iff.1 h).t x hx;unfold smB at this;simp only[aJ,aM]at this;exact this.2.2.2
def zY(i:Nt)(m:Int):List Nat:=if ntB i=true/\(0<=m/\m<10080)then pM i m else []
theorem Qg(i:Nt)(hb:Bnd i)(hs:i.sts.length<=12)(m:Int){K:KT}(hK:K (.lst ((zY i m).map vN)) []):AC 19 [iS i,.v (.int .i64 m)] [] K:=by
 refine gQ (aOv rfl rfl ?_);unfold zY at hK;by_cases hv:ntB i=true/\(0<=m/\m<10080)
 case neg=>
  rw[aF hv]at hK;(repeat' ((conv=>whnf);first|(with_reducible first|refine Nh i hb ?_|refine aAm m ?_)|refine zG ?_|apply zA|intro h|exact zT));all_goals conv=>whnf
  all_goals first
   |exact⟨_,gS,hK⟩
   |(exfalso;simp_all;done)
   |(exfalso;simp_all;omega)
 rw[aH hv]at hK;(repeat' ((conv=>whnf);first|(with_reducible first|refine Nh i hb ?_|refine aAm m ?_)|refine zG ?_|apply zA|intro h|exact zT));all_goals conv=>whnf
 all_goals first
  |(exfalso;simp_all;done)
  |(exfalso;simp_all;omega)
  |skip
 refine gM Nat (fun k=>⟨2,[(0,mD i),(1,.arr 1 (((List.range k).filter (sF i m)).map vN))],[(1,.v (.int .i64 m)),(2,.op 0 0),(5,.os 1 1 0 ((List.range k).filter (sF i m)).length),(17,.lst (i.sts.map jI)),(18,.v (.int .i64 ((i.sts.map jI).length:Nat))),(19,.v (.int .i64 k))]⟩) (fun k=>k<=i.sts.length) (fun k=>i.sts.length-k) 0 (aO _) ?_ ?_
 ·exact leA
 intro k hk;have hfl:((List.range k).filter (sF i m)).length<=k:=bA (dK ..) zx;rcases aC k i.sts.length with hkl|hkl
 ·obtain⟨x,hx⟩:=gex hkl;have ha:sF i m k=Xj i x m:=by simp[sF,hx]
  have hf:=aIw i m k;(repeat' ((conv=>whnf);first|(with_reducible first|refine hZ hkl ?_|refine hU hx ?_|refine aQk i hb x m ?_)|refine zG ?_|apply zA|intro h|exact zT));all_goals conv=>whnf
  all_goals first
   |(refine⟨k+1,hkl,by omega,?_⟩
     rw[aH (by rw[ha];with_reducible assumption)]at hf;rw[hf,aQ,aD,aN,aL];exact leA)
   |(refine⟨k+1,hkl,by omega,?_⟩
     rw[aF (by rw[ha];simp_all),bI]at hf;rw[hf,aN,aL];exact leA)
 ·have hke:k=i.sts.length:=by omega
  subst hke;have hord:=Rv (i:=i) (m:=m) (Js hv.1);have hlt:(fun x y=>decide (G9 (sV i y) (sV i x)<0))=fun a b=>decide (sV i b<sV i a):=by funext a b;exact aEm _ _
  have hsort:∀{K:KT},K (.tup []) [.arr 1 ((pM i m).map vN)]->AC 61 [.os 0 1 0 ((List.range i.sts.length).filter (sF i m)).length,.fn (.func 62) [] [.fp (aKq i)]] [.arr 1 (((List.range i.sts.length).filter (sF i m)).map vN)] K:=fun {K} h=>
   aKz _ (aKq i) (fun a b=>G9 (sV i b) (sV i a)) _ zo (fun a b ha hb' K h=>aKx i a b (dJ.1 (cI.1 ha).1) (dJ.1 (cI.1 hb').1) h) (by rw[hlt,hord];exact h)
  have hlen:((List.range i.sts.length).filter (sF i m)).length=(pM i m).length:=by rw[<-hord,D4]
  (repeat' ((conv=>whnf);first|(with_reducible first|refine hsort ?_|refine iP (by rw[hlen];exact aA ..) ?_)|refine zG ?_|apply zA|intro h|exact zT));all_goals conv=>whnf
  exact⟨_,gO,hK⟩
theorem aKy(t:Tp)(hl:t.edges.length<1000)(hc:lT t=true){K:KT}(hK:K (.tup [iE (oD t).1,.v (.int .i64 (oD t).2)]) []):AC 28 [kB t] [] K:=by
 have hpl:=rB t.edges t.edges.length;have hpl2:t.edges.length*t.edges.length<=1000*1000:=eJ zo zo;unfold oD at hK;refine gQ (aHc rfl rfl ?_);(repeat' ((conv=>whnf);first|(with_reducible first|refine uV t zo ?_|refine V2 t zo ?_|refine Tk (qJ t.edges) (by rw[qJ];omega) ?_|refine Ir ?_|refine Lc _ _ (lS (pA _)) zd ?_)|refine zG ?_|apply zA|intro h|exact zT));all_goals conv=>whnf
 all_goals first
  |(exfalso;simp_all;done)
  |(rw[aF (by simp_all)]at hK;exact⟨_,gO,hK⟩)
  |(rw[aH (by simp_all)]at hK;exact⟨_,gR gS gO,hK⟩)
theorem aAj(t:Tp)(ht:t.edges.length<1000)(hd:t.devs.length<1000)(i:Nt)(hb:Bnd i)(m:Int){K:KT}(hK:K (.v (.int .i64 (Fu t i m))) []):AC 27 [kB t,iS i,.v (.int .i64 m)] [] K:=by
 refine aOn rfl rfl ?_;unfold Fu at hK;(repeat' ((conv=>whnf);first|(with_reducible first|refine uV t zo ?_|refine Nh i hb ?_|refine aAm m ?_|refine aEy t zo zo i hb ?_)|refine zG ?_|apply zA|intro h|exact zT));all_goals conv=>whnf
 all_goals first
  |(rw[aF (by simp_all)]at hK;exact hK)
  |(rw[aH (by simp_all),aF (by simp_all)]at hK;exact hK)
  |(rw[aH (by simp_all),aH (by simp_all)]at hK;rw[Kl,aH (by simp_all)];exact hK)
def Od(t:Tp)(i:Nt)(q:Nat->Int)(n:Nat):Bool:=match i.sts[n]? with
 |some x=>iZ q 5 (kV t i x).1
 |none=>false
def Uv(i:Nt)(n:Nat):Bool:=match i.sts[n]? with
 |some x=>x.permit
 |none=>false
theorem aUd:Vis oP (fun its y=>y∈its) (fun x y=>y=x) (fun _=>true) where
 add:=fun x s h u=>by simp[oP]
 ok:=fun x s=>by simp[oP]
theorem aDX{l:List Df}{nm:ByteArray}(h:(xJ l nm).1=0):Good l (fun _=>true) nm/\∀y,y∈(xJ l nm).2↔Lead l (fun x y=>y=x) nm y:=
 aBl oP (fun its y=>y∈its) (fun x y=>y=x) (fun _=>true) aUd l nm [] (fun u=>by simp) h
def Pa(a b:ByteArray):Bool:=a.data.toList==b.data.toList
def itC(x:It)(g:Bool):Bool:=
 if x.kind=3 then uI x.name.data.toList&&itN x
 else if x.kind=1 then g&&(uI x.name.data.toList&&itN x)
 else if x.kind=2 then g&&(decide x.pf.okP&&(Pa x.name ⟨#[]⟩&&decide (x.proto=0/\x.ports.lo=0/\x.ports.hi=0)))
 else if x.kind=4 then !g&&(prB x.proto x.ports&&(Pa x.name ⟨#[]⟩&&decide (x.pf.addr=0/\x.pf.bits=0)))else false
theorem aGq{x:It}{g:Bool}(h:itC x g=true):itB x g=true:=by
 have hn:uI x.name.data.toList=true->kW x.name=true:=fun h=>nD (mM h);have he:Pa x.name ⟨#[]⟩=sEq x.name ⟨#[]⟩:=(nS _ _).symm;unfold itC at h;unfold itB itP itS;rw[he]at h;split
 ·rename_i hk;rw[aH hk,aJ]at h;rw[hn h.1,h.2];rfl
 ·rename_i hk;rw[aF hk]at h;split
  ·rename_i hk1;rw[aH hk1,aJ,aJ]at h;rw[h.1,hn h.2.1,h.2.2];rfl
  ·rename_i hk1;rw[aF hk1]at h;exact h
def dfC(l:List Df)(g:Bool)(i:Nat)(d:Df):Bool:=
 uI d.name.data.toList&&(decide (l.findIdx? (fun e=>Pa e.name d.name)=some i)&&(decide (1<=d.items.length)&&(decide (d.items.length<=16)&&d.items.all fun x=>itC x g)))
def aRc(l:List Df)(g:Bool):Bool:=decide (l.length<=32)&&(l.zipIdx.all fun q=>dfC l g q.2 q.1)
theorem V3{l:List Df}{g:Bool}(h:aRc l g=true):DfsOk l g:=by
 unfold aRc at h;rw[aJ,aM,bP]at h;refine⟨h.1,fun i d hd=>?_⟩;have h2:=h.2 (d,i) (List.mem_zipIdx_iff_getElem?.2 hd);unfold dfC at h2;simp only[aJ,aM,bP]at h2;obtain⟨h3,h4,h5,h6,h7⟩:=h2;refine⟨nD (mM h3),?_,h5,h6,fun x hx=>aGq (h7 x hx)⟩;have e:(fun e:Df=>sEq e.name d.name)=fun e=>Pa e.name d.name:=by funext e;exact nS _ _
 unfold Fh jJ;rw[e,h4]
/-! the topology of the examples -/
def pf0:Pf:=⟨167772160,24,by decide,by decide⟩
def pf4:Pf:=⟨2886729728,16,by decide,by decide⟩
def jT:Tp:=⟨[⟨⟨#[114]⟩,0,false,false,⟨#[]⟩⟩],[],[⟨⟨#[97]⟩,0,⟨#[108,97,110]⟩,pf0,false⟩,⟨⟨#[98]⟩,0,⟨#[100,109,122]⟩,pf4,false⟩],[],0⟩
theorem U4:TopOk jT:=by
 have sEqr:∀s:ByteArray,sEq s s=true:=fun s=>by rw[nS];simp
 refine⟨by simp[jT],by simp[jT],by simp[jT],by simp[jT],by simp[jT],by simp[jT],by simp[jT],?_,?_,?_,?_,?_⟩
 ·intro i d hi
  match i,hi with
  |0,hi=>
   simp[jT]at hi;subst hi;exact⟨⟨mM (s:=⟨#[114]⟩) zd,by decide,by decide,.inl (sEqr _)⟩,jQ (k:=0) rfl (sEqr _) (fun j y hj=>absurd hj (bC _))⟩
  |i+1,hi=>simp[jT]at hi
 ·intro i l hi;simp[jT]at hi
 ·intro i e hi
  match i,hi with
  |0,hi=>
   simp[jT]at hi;subst hi;exact⟨⟨mM zd,mM zd,by decide,by simp[jT],by decide,by decide,by decide⟩,jQ (k:=0) rfl (sEqr _) (fun j y hj=>absurd hj (bC _))⟩
  |1,hi=>
   simp[jT]at hi;subst hi;refine⟨⟨mM zd,mM zd,by decide,by simp[jT],by decide,by decide,by decide⟩,jQ (k:=1) rfl (sEqr _) (fun j y hj hy=>?_)⟩;obtain rfl:j=0:=by omega
   simp[jT]at hy;subst hy;rw[nS];rfl
  |i+2,hi=>simp[jT]at hi
 ·rintro i e hi j o hj ho ⟨_,_,h3⟩
  match i,hi,j,ho with
  |0,hi,j,ho=>omega
  |1,hi,0,ho=>simp[jT]at hi ho;subst hi;subst ho;revert h3;decide
  |1,hi,j+1,ho=>omega
  |i+2,hi,j,ho=>simp[jT]at hi
 ·intro i p hi;simp[jT]at hi
theorem tX:lT jT=true:=compB_iff.2 ⟨U4,fun e he=>by
 simp only[jT,aV,dR,or_false]at he;rcases he with rfl|rfl<;>rfl⟩
end Go.Proofs.YtnomkooikbhgmaaGreatDoor
