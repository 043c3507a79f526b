/- Lemmas. -/
import Derived.Test.YtnomkooikbhgmaaGreatDoorK34
set_option linter.unusedVariables false
set_option linter.unusedSimpArgs false
set_option maxRecDepth 100000
set_option maxHeartbeats 4000000
noncomputable section
namespace Go.Proofs.YtnomkooikbhgmaaGreatDoor
open Go Go.Vm
section
variable {I:List (Int×Rg)}
end
theorem aEU(raw:List Int)(pos:Nat)(hp:pos<=raw.length)(hr:raw.length<=9223372036854775807){K:KT}
  (hK:∀(t:Tp) (pos':Nat),GTop t->t.devs.length<=3->pos'<=raw.length->K (kB t) [iI raw pos']):
  AC 24 [.op 0 0,.v (.int .i64 3)] [iI raw pos] K:=by
 refine Xg (aQj raw pos 3 zd hp hr fun t p h1 h2 h3=>?_);(repeat' ((conv=>whnf);first|(with_reducible refine iP (aA ..) ?_)|refine zG ?_|apply zA|intro h|exact zT));all_goals conv=>whnf
 exact hK t p h1 zo h3
theorem pV{α:Type}{x:α×Int}{k:α->List Bx×Int}(h:kN (k x.1).1=true):kN (sG x k).1=true:=by
 unfold sG;split
 ·exact lC
 ·exact h
theorem Ev(t:Tp)(i:Nt)(s:Sm):kN (kV t i s).1=true:=by
 unfold kV;refine pV (pV (pV (pV (pV (pV ?_)))));split
 ·exact jM ..
 ·exact pV (jM ..)
def xD(t:Tp)(g:Hd):Bool:=decide (0<=uW t g.src/\0<=uW t g.dst/\uW t g.src≠uW t g.dst)&&initS.any fun b=>uU b g
def Qn(t:Tp)(i:Nt)(m:Int)(g:Hd):Option Nat:=if xD t g=true then(pM i m).find? (Od t i (hdQ g))else none
def pH(t:Tp)(i:Nt)(m:Int)(g:Hd):Bool×Int:=if Fu t i m≠0 then(false,-1)else match Qn t i m g with
 |some n=>(Uv i n,(n:Int))
 |none=>(false,-1)
theorem aDr{t:Tp}{i:Nt}{m:Int}(h:Fu t i m=0):(lT t=true/\ntB i=true)/\(0<=m/\m<10080)/\Qc t i=0:=by
 unfold Fu at h;have hcn:lT t=true/\ntB i=true:=Decidable.byContradiction fun h'=>by rw[aF h']at h;cases h
 rw[aH hcn]at h;have hmm:0<=m/\m<10080:=Decidable.byContradiction fun h'=>by rw[aF h']at h;cases h
 rw[aH hmm]at h;exact⟨hcn,hmm,h⟩
theorem Of{t:Tp}{i:Nt}{n:Nat}{x:Sm}(hx:i.sts[n]? =some x){g:Hd}(ho:g.Ok):((kV t i x).1.any fun b=>uU b g)=Od t i (hdQ g) n:=by
 rw[aEr (Ev t i x) ho];simp[Od,hx]
theorem I0{α:Type}{p:α->Bool}:∀{l:List α} {k:Nat},(∀(j:Nat) x,j<k->l[j]? =some x->p x=false)->l.find? p=(l.drop k).find? p
 |[],k,_=>by simp
 |x::l,0,_=>rfl
 |x::l,k+1,h=>by
  rw[List.find?_cons,h 0 x zo rfl,List.drop_succ_cons];exact I0 fun j y hj hy=>h (j+1) y zo (by simpa using hy)
theorem Qt{α:Type}{p:α->Bool}{l:List α}{k:Nat}{x:α}(hx:l[k]? =some x)(hp:p x=true)(h:∀(j:Nat) x,j<k->l[j]? =some x->p x=false):l.find? p=some x:=by
 have hk:=(aP.1 hx).1;rw[I0 h,bB hk];rw[aE hk]at hx;rw[bG hx,List.find?_cons,hp]
theorem Qu{α:Type}{p:α->Bool}{l:List α}(h:∀(j:Nat) x,l[j]? =some x->p x=false):l.find? p=none:=by
 rw[List.find?_eq_none];intro x hx;obtain⟨j,hj⟩:=bM.1 hx;simp[h j x hj]
theorem aAk(t:Tp)(ht:t.edges.length<1000)(hd:t.devs.length<1000)(i:Nt)(hb:Bnd i)(hs:i.sts.length<=12)(m:Int)(g:Hd)(ho:g.Ok){K:KT}
  (hK:K (.tup [.sb (pH t i m g).1,.v (.int .i64 (pH t i m g).2)]) []):AC 16 [kB t,iS i,.v (.int .i64 m),mR g] [] K:=by
 have hKf:pH t i m g=(false,-1)->∃y,Weak (.tup [.v (.bool false),.v (.int .i64 (-1))]) y/\K y []:=fun he=>by
  rw[he]at hK;exact⟨_,gR Weak.bool gO,hK⟩
 refine gQ (aOp rfl rfl ?_);by_cases hp:Fu t i m=0
 case neg=>
  have hz:pH t i m g=(false,-1):=by rw[pH,aH hp]
  (repeat' ((conv=>whnf);first|(with_reducible refine aAj t ht hd i hb m ?_)|refine zG ?_|apply zA|intro h|exact zT));all_goals conv=>whnf
  all_goals first
   |exact hKf hz
   |exact absurd zw hp
 obtain⟨hcn,hmm,hch⟩:=aDr hp;have hord:zY i m=pM i m:=by rw[zY,aH ⟨hcn.2,hmm⟩]
 have hchk:∀{K:KT},K (.v (.int .i64 0)) []->AC 27 [kB t,iS i,.v (.int .i64 m)] [] K:=fun h=>aAj t ht hd i hb m (by rw[hp];exact h);have hoc:∀{K:KT},K (.lst ((pM i m).map vN)) []->AC 19 [iS i,.v (.int .i64 m)] [] K:=fun h=>Qg i hb hs m (by rw[hord];exact h);have hv:pH t i m g=match Qn t i m g with
  |some n=>(Uv i n,(n:Int))
  |none=>(false,-1):=by rw[pH,aF zo]
 (repeat' ((conv=>whnf);first|(with_reducible first|refine hchk ?_|refine aJi t g.src ho.s0 ho.s1 zo ?_|refine aJi t g.dst ho.d0 ho.d1 zo ?_|refine Ir ?_|refine aAn initS g ho zd ?_|refine hoc ?_)|refine zG ?_|apply zA|intro h|exact zT));all_goals conv=>whnf
 all_goals first
  |(refine hKf (by
     rw[hv,Qn,aF (by
      rw[xD,aJ,aM]
      rintro⟨⟨_,_,_⟩,_⟩
      first|omega|simp_all)])
    done)
  |skip
 have hreal:xD t g=true:=by
  rw[xD,aJ,aM];refine⟨⟨by omega,by omega,by omega⟩,by with_reducible assumption⟩
 rw[Qn,aH hreal]at hv;refine gM Nat (fun k=>⟨3,[(0,kU t),(1,mD i),(2,.box (Ta g))],[(2,.v (.int .i64 m)),(4,.op 0 0),(5,.op 1 0),(7,.op 2 0),(48,.lst ((pM i m).map vN)),(49,.v (.int .i64 (((pM i m).map vN).length:Nat))),(50,.v (.int .i64 k))]⟩) (fun k=>k<=(pM i m).length/\∀(j:Nat) n,j<k->(pM i m)[j]? =some n->Od t i (hdQ g) n=false) (fun k=>(pM i m).length-k) 0 ⟨aO _,fun j n h=>absurd h (bC _)⟩ ?_ ?_
 ·exact leA
 have hol:(pM i m).length<=12:=bA (Eb (Js hcn.2)) hs;intro k ⟨hk,hin⟩;rcases aC k (pM i m).length with hkl|hkl
 ·obtain⟨n,hn⟩:∃n,(pM i m)[k]? =some n:=⟨_,aE hkl⟩
  have hnl:=Wz (aI hn);obtain⟨x,hx⟩:=gex hnl;have hse:=Vk hch x (aI hx);have hsv:F4 t i (n:Int)=((kV t i x).1,0):=by
   rw[F4,aH hcn,aF zo,eQ,hx];exact Prod.ext rfl hse
  have hst:∀{K:KT},K (.tup [iE (kV t i x).1,.v (.int .i64 0)]) []->AC 29 [kB t,iS i,.v (.int .i64 n)] [] K:=fun h=>
   wH t zo i hb n (by rw[hsv];exact h)
  have hcon:∀{K:KT},K (.sb (Od t i (hdQ g) n)) []->AC 54 [iE (kV t i x).1,mR g] [] K:=fun h=>aAn _ g ho (lS (Ev t i x)) (by rw[Of hx ho];exact h);have hper:Uv i n=x.permit:=by simp[Uv,hx]
  (repeat' ((conv=>whnf);first|(with_reducible first|refine hZ hkl ?_|refine hU hn ?_|refine hst ?_|refine hcon ?_|refine hZ hnl ?_|refine hU hx ?_)|refine zG ?_|apply zA|intro h|exact zT));all_goals conv=>whnf
  all_goals first
   |(have e:pH t i m g=(x.permit,(n:Int)):=by
      rw[hv,Qt hn zw hin];exact Prod.ext hper rfl
     rw[e]at hK;exact⟨_,gO,hK⟩)
   |(refine⟨k+1,⟨hkl,iD hn zw hin⟩,by omega,?_⟩
     rw[aN,aL];exact leA)
 ·(repeat' ((conv=>whnf);first|refine zG ?_|apply zA|intro h|exact zT));all_goals conv=>whnf
  rw[Qu (iC hkl hin)]at hv;exact hKf hv
theorem aDz{c:ByteArray}{s:List Bx}(hc:c.toList≠[])(hs:s≠[]):∀l:List Insp,PutR l c s (xC l c s).1 (xC l c s).2
 |[]=>PutR.ins 0 hc hs (aK _) (fun j y h=>absurd h (bC _)) (fun y h=>by simp at h)
 |y::r=>by
  have ih:=aDz hc hs r;unfold xC;split
  ·rename_i h1;generalize xC r c s=q at*;obtain⟨l',e⟩:=q;simp only at ih⊢;cases ih with
   |skip h=>exact absurd h (by rintro(h|h);exact hc h;exact hs h)
   |ins k a1 a2 a3 a4 a5=>
    exact PutR.ins (l:=y::r) (k+1) a1 a2 (by simp only[aB];omega) (fun j z hj hz=>by
     cases j with
     |zero=>cases hz;exact h1
     |succ j=>exact a4 j z zo (by simpa using hz)) (fun z hz=>a5 z (by simpa using hz))
   |uni k z a1 a2 a3 a4=>exact PutR.uni (l:=y::r) (k+1) z a1 a2 (by simpa using a3) a4
  ·rename_i h1;split
   ·rename_i h2;exact PutR.uni (l:=y::r) 0 y hc hs rfl h2
   ·rename_i h2;exact PutR.ins (l:=y::r) 0 hc hs (aO _) (fun j z h=>absurd h (bC _)) (fun z hz=>by
     cases hz;exact⟨by simpa using h1,by simpa[sEq]using h2⟩)
theorem aPz(l:List Insp)(c:ByteArray)(s:List Bx):PutR l c s (Fw l c s).1 (Fw l c s).2:=by
 have he:(sEq c ⟨#[]⟩=true)↔c.toList=[]:=by
  unfold sEq;have:(ByteArray.mk #[]).toList=[]:=by decide+kernel
  rw[this];simp
 unfold Fw;split
 ·rename_i h;rw[he]at h;exact PutR.skip h
 ·rename_i h;rw[he]at h;exact aDz (fun e=>h (.inl e)) (fun e=>h (.inr e)) l
theorem H8{t:Tp}{i:Nt}(hc:∀x,x∈i.sts->x.cls.toList=[]\/nQ x.cls):∀(l:List Nat) (rest:List Bx) (p:Pol),AtInv t rest p->(P2 t i l rest p).2=0->∃r,AtInv t r (P2 t i l rest p).1
 |[],rest,p,h,_=>⟨rest,h⟩
 |n::l,rest,p,h,he=>by
  rw[P2]at he⊢;cases hx:i.sts[n]? with
  |none=>exact⟨rest,h⟩
  |some x=>
   have hxc:=hc x (aI hx);have hs:=Ev t i x;simp only[hx]at he⊢;split at he
   ·rename_i h1;exact absurd he h1
   rename_i e1;rw[aF e1];split at he
   ·rename_i h1;exact absurd he h1
   rename_i e2;rw[aF e2];split at he
   ·rename_i hp;rw[aH hp];exact H8 hc l _ p (h.deny hs) he
   ·rename_i hp;rw[aF hp];split at he
    ·rename_i h1;exact absurd he h1
    rename_i e3;rw[aF e3];split at he
    ·rename_i h1;exact absurd he h1
    rename_i e4;rw[aF e4];exact H8 hc l _ _ (h.permit hs hxc (Decidable.byContradiction e1) (Decidable.byContradiction e2) (Decidable.byContradiction e3) (aPz _ _ _) (Decidable.byContradiction e4)) he
theorem aNO{i:Nt}(h:ntB i=true):∀x,x∈i.sts->x.cls.toList=[]\/nQ x.cls:=fun x hx=>by
 have:=(ntB_iff.1 h).t x hx;unfold smB at this;simp only[aJ]at this;have h1:=this.1.2.2.2.1;unfold oH at h1;rw[bR]at h1;rcases h1 with h1|h1
 ·left;have:=sEq_iff.1 h1;rw[this];decide+kernel
 ·exact .inr (nameB_iff.1 h1)
theorem aJY{t:Tp}{i:Nt}{m:Int}(hc:lT t=true)(hn:ntB i=true)(he:(atP t i m).2=0):PolOk t (atP t i m).1:=by
 unfold atP at he⊢;split at he
 ·rename_i h;exact absurd he h
 rename_i h;rw[aF h];obtain⟨r,hr⟩:=H8 (t:=t) (aNO hn) (pM i m) (oD t).1 zPol (P3 t) he;exact hr.pol hc
/-! the sets of the classes out of the map, in whatever order -/
/-! the sort by insertion sorts -/
section
variable {α:Type} {lt:α->α->Bool} (h1:∀a b,lt a b=true->lt b a=false) (h2:∀a b c,lt a b=false->lt b c=false->lt a c=false)
include h1 h2
end
def ErrL(e:Int):Prop:=e=0\/e=3\/e=5\/e=8
theorem ErrL.two{e:Int}(h:e=0\/e=3):ErrL e:=by rcases h with h|h<;>simp[ErrL,h]
theorem ACall.nil3{P:Program}{f:FuncId}{a b:AV}{hs:List Vm.Obj}{K:KT}(h:ACall P f [a,b,.lst []] hs K):ACall P f [a,b,.nils] hs K:=by
 obtain⟨hok,h2⟩:=h.elim;refine ACall.intro hok fun ι E w vals r hv=>h2 ι E w vals r ⟨hv.1,fun i x y hx hy=>?_⟩
 match i with
 |0=>exact hv.2 0 x y hx hy
 |1=>exact hv.2 1 x y hx hy
 |2=>
  cases hx;have:=hv.2 2 .nils y rfl hy;cases this;exact .lnil _ _
 |i+3=>simp at hx
def aIK(i:Nt)(v:Int):Prop:=v=0\/∃w,w∈i.wins/\∃r,r∈uR (has w.act)/\(v=r.lo\/v=r.hi+1)/\v<10080
structure SegL (i:Nt) (S:List Int):Prop where
 od:S.Pairwise (· < ·)
 mem:∀v,v∈S↔aIK i v
theorem aCd:∀{a b:List Int},a.Pairwise (· < ·)->b.Pairwise (· < ·)->(∀v,v∈a↔v∈b)->a=b
 |[],[],_,_,_=>rfl
 |[],y::b,_,_,h=>by have:=(h y).2 zx;cases this
 |x::a,[],_,_,h=>by have:=(h x).1 zx;cases this
 |x::a,y::b,ha,hb,h=>by
  obtain⟨a1,a2⟩:=bW.1 ha;obtain⟨b1,b2⟩:=bW.1 hb;have hxy:x=y:=by
   rcases aV.1 ((h x).1 zx)with h1|h1
   ·exact h1
   ·rcases aV.1 ((h y).2 zx)with h2|h2
    ·exact h2.symm
    ·have:=a1 y h2;have:=b1 x h1;omega
  subst hxy;rw[aCd a2 b2 fun v=>?_];constructor
  ·intro hv;rcases aV.1 ((h v).1 (aS _ hv))with h1|h1
   ·subst h1;have:=a1 v hv;omega
   ·exact h1
  ·intro hv;rcases aV.1 ((h v).2 (aS _ hv))with h1|h1
   ·subst h1;have:=b1 v hv;omega
   ·exact h1
theorem aJb{l:List Rg}(h:WinOk l):l.length<=16:=by
 have hsub:=qI (Yg h.can) (m:=(List.range 7).flatMap fun d=>(wI l d).map fun r=>r.lo) fun x hx=>by
  obtain⟨r,hr,rfl⟩:=bU.1 hx;have h1:=h.can.1 r hr;have h2:=h.top r hr;have h0:=r.l0;obtain⟨c1,c2⟩:=Gd h.can hr;have hd:(r.lo/1440).toNat<7:=by omega
  have hsp:=(Fa (D2 l hd)).2;have e1:has (wI l (r.lo/1440).toNat) r.lo=true:=by
   rw[wI,hsp,c1,decide_eq_true zo,decide_eq_true zo];rfl
  have e2:has (wI l (r.lo/1440).toNat) (r.lo-1)=false:=by
   rw[wI,hsp,c2];rfl
  obtain⟨s,hs,s1,s2⟩:=has_iff.1 e1;have e3:s.lo=r.lo:=by
   rcases dW s.lo r.lo with hlt|hge
   ·have:=has_iff.2 ⟨s,hs,(show s.lo<=r.lo-1 by omega),by omega⟩;rw[e2]at this;cases this
   ·omega
  exact dP.2 ⟨_,dJ.2 hd,bU.2 ⟨s,hs,e3⟩⟩
 have hl:((List.range 7).flatMap fun d=>(wI l d).map fun r=>r.lo).length=uT l 7:=by
  rw[List.length_flatMap];simp only[aA];rfl
 rw[hl,aA]at hsub;have:=h.few;omega
def Sj(r:Rg):List Int:=(if r.lo<10080 then [r.lo]else [])++(if r.hi+1<10080 then [r.hi+1]else [])
def yR(c:List Rg):List Int:=c.flatMap Sj
def C8(L:List (List Rg)):List Int:=0::L.flatMap fun w=>yR (uR (has w))
theorem aDP(r:Rg):(Sj r).length<=2:=by
 unfold Sj;split<;>split<;>simp
theorem J5:∀c:List Rg,(yR c).length<=2*c.length
 |[]=>by simp[yR]
 |r::c=>by
  have h1:=aDP r;have h2:=J5 c;unfold yR at h2⊢;rw[dD,aD,aB];omega
theorem Zb{c:List Rg}{j:Nat}{r:Rg}(h:c[j]? =some r):yR (c.take (j+1))=yR (c.take j)++Sj r:=by
 rw[yR,bF,h,eD,<-yR];simp
theorem segX_mem{r:Rg}{v:Int}:v∈Sj r↔(v=r.lo\/v=r.hi+1)/\v<10080:=by
 unfold Sj;rw[aY];constructor
 ·rintro(h|h)
  ·split at h
   ·rw[aW]at h;subst h;exact⟨.inl rfl,by assumption⟩
   ·cases h
  ·split at h
   ·rw[aW]at h;subst h;exact⟨.inr rfl,by assumption⟩
   ·cases h
 ·rintro⟨rfl|rfl,h⟩
  ·left;rw[aH h];simp
  ·right;rw[aH h];simp
theorem Mi{L:List (List Rg)}{k:Nat}{w:List Rg}(h:L[k]? =some w):C8 (L.take (k+1))=C8 (L.take k)++yR (uR (has w)):=by
 rw[C8,bF,h,eD,C8];simp
theorem Si(L:List (List Rg))(hw:∀w,w∈L->w.length<=800):∀k,k<=L.length->(C8 (L.take k)).length<=1+8000*k
 |0,_=>by simp[C8]
 |k+1,hk=>by
  obtain⟨w,h⟩:∃w,L[k]? =some w:=⟨_,aE zo⟩
  have h1:=Si L hw k zo;have h2:=J5 (uR (has w));have h3:=Dl w;have h4:=hw w (aI h);rw[Mi h,aD];omega
theorem aKt(L:List (List Rg))(hL:L.length<=100000)(hw:∀w,w∈L->w.length<=800){K:KT}(hK:∀S:List Int,S.Pairwise (· < ·)->(∀v,v∈S↔v∈C8 L)->S.length<=1+8000*L.length->K (.lst (S.map sJ)) []):
  AC 65 [.lst (L.map iH)] [] K:=by
 refine aGS rfl rfl ?_;(repeat' ((conv=>whnf);first|refine zG ?_|apply zA|intro h|exact zT));all_goals conv=>whnf
 refine gM Nat (fun k=>⟨1,[(0,.arr 1 ((C8 (L.take k)).map lJ))],[(3,.os 0 1 0 (C8 (L.take k)).length),(11,.lst (L.map iH)),(12,.v (.int .i64 ((L.map iH).length:Nat))),(13,.v (.int .i64 k))]⟩) (fun k=>k<=L.length) (fun k=>L.length-k) 0 (aO _) ?_ ?_
 ·rw[cP,show C8 []=[0]from rfl];exact leA
 intro k hk;have hlen:=Si L hw k hk;rcases aC k L.length with hkl|hkl
 ·obtain⟨w,hx⟩:=gex hkl;have hwl:=hw w (aI hx);have hs:=Mi hx;have hun:∀{K:KT},K (iH (uR (has w))) []->AC 135 [iH w,.lst []] [] K:=fun h=>aAG w zo fun c h1 h2 _=>by rw[<-uS h1 h2];exact h
  have hcl:=Dl w;generalize C8 (L.take k)=A at*;generalize uR (has w)=c at*;(repeat' ((conv=>whnf);first|(with_reducible first|refine hZ hkl ?_|refine hU hx ?_|refine hun ?_)|refine zG ?_|apply zA|intro h|exact zT));all_goals conv=>whnf
  refine gM Nat (fun j=>⟨1,[(0,.arr 1 ((A++yR (c.take j)).map lJ))],[(3,.os 0 1 0 (A++yR (c.take j)).length),(11,.lst (L.map iH)),(12,.v (.int .i64 ((L.map iH).length:Nat))),(13,.v (.int .i64 k)),(18,iH c),(19,.v (.int .i64 ((c.map jR).length:Nat))),(20,.v (.int .i64 j))]⟩) (fun j=>j<=c.length) (fun j=>c.length-j) 0 (aO _) ?_ ?_
  ·rw[cP,show yR []=[]from rfl,bI];exact leA
  intro j hj;rcases aC j c.length with hjl|hjl
  ·obtain⟨r,hr⟩:=gex hjl;have hsj:=Zb hr;have hjn:=J5 (c.take j);rw[aZ]at hjn;have hBl:(A++yR (c.take j)).length<=1000000000:=by rw[aD];omega
   have hB2:(A++yR (c.take (j+1)))=(A++yR (c.take j))++Sj r:=by rw[hsj,cV]
   generalize (A++yR (c.take j))=B at*;have l0:=r.l0;have l1:=r.l1;have h0:=r.h0;have h1:=r.h1;(repeat' ((conv=>whnf);first|(with_reducible first|refine hZ hjl ?_|refine hU hr ?_|refine Lp.times 3 ?_)|(refine kP zd ?_)|refine zG ?_|apply zA|intro h|exact zT));all_goals conv=>whnf
   all_goals first
    |(refine⟨j+1,hjl,by omega,?_⟩
      rw[hB2];unfold Sj;first
       |rw[aH zo,aH zo]
       |rw[aH zo,aF zo]
       |rw[aF zo,aH zo]
       |rw[aF zo,aF zo]
      simp only[bI,dL,<-cV,aQ,aR,bL,aD,aB,aG];rw[aN j,aL];exact leA)
  ·rw[aU hjl];(repeat' ((conv=>whnf);first|refine zG ?_|apply zA|intro h|exact zT));all_goals conv=>whnf
   refine⟨k+1,hkl,by omega,?_⟩;rw[hs,aN k,aL];exact leA
 ·rw[aU hkl];have hke:k=L.length:=by omega
  subst hke;rw[dA]at hlen;have hl:(C8 L).length<1000000000000:=by omega
  (repeat' ((conv=>whnf);first|(with_reducible refine aEI _ hl fun l' hp hs=>?_)|refine zG ?_|apply zA|intro h|exact zT));all_goals conv=>whnf
  have hll:(C8 L).length=l'.length:=hp.length_eq.symm;rw[hll]at hl⊢;(repeat' ((conv=>whnf);first|(with_reducible refine aEA l' hl fun zs=>?_)|refine zG ?_|apply zA|intro h|exact zT));all_goals conv=>whnf
  refine Sl.intro (ys:=(comp l').map lJ) zx (by rw[cA,fF zx]) ?_;refine hK (comp l') (Vo hs) (fun v=>by rw[Qj,hp.mem_iff]) ?_;have:=Qi l' l'.length;rw[dA]at this;omega
theorem aDO{i:Nt}{v:Int}:v∈C8 (i.wins.map Wn.act)↔aIK i v:=by
 unfold C8 aIK;rw[aV,dP];refine or_congr_right ?_;constructor
 ·rintro⟨w,hw,hv⟩
  obtain⟨x,hx,rfl⟩:=bU.1 hw;obtain⟨r,hr,h1⟩:=dP.1 hv;obtain⟨h2,h3⟩:=segX_mem.1 h1;exact⟨x,hx,r,hr,h2,h3⟩
 ·rintro⟨x,hx,r,hr,h2,h3⟩
  exact⟨x.act,bU.2 ⟨x,hx,rfl⟩,dP.2 ⟨r,hr,segX_mem.2 ⟨h2,h3⟩⟩⟩
theorem aQs(i:Nt)(hb:Bnd i)(hnt:ntB i=true){K:KT}(hK:∀S:List Int,SegL i S->S.length<=1000000000->K (.lst (S.map sJ)) []):AC 21 [iS i] [] K:=by
 have bw:=hb.w;have hcs:∀{K:KT},(∀S:List Int,SegL i S->S.length<=1000000000->K (.lst (S.map sJ)) [])->AC 65 [.lst (i.wins.map fun w=>iH w.act)] [] K:=fun {K} h=>by
  have:=aKt (i.wins.map Wn.act) (by rw[aA];omega) (fun w hw=>by
   obtain⟨x,hx,rfl⟩:=bU.1 hw;obtain⟨n,hn⟩:=bM.1 hx;have:=aJb ((ntB_iff.1 hnt).w n x hn).act;omega) (K:=K) fun S h1 h2 h3=>h S ⟨h1,fun v=>by rw[h2,aDO]⟩ (by rw[aA]at h3;omega)
  rw[fM]at this;exact this
 refine aCw rfl rfl ?_;(repeat' ((conv=>whnf);first|(with_reducible refine Nh i hb ?_)|refine zG ?_|apply zA|intro h|exact zT));all_goals conv=>whnf
 all_goals first
  |(exfalso;simp_all;done)
  |skip
 refine gM Nat (fun k=>⟨2,[(1,.arr 1 ((i.wins.take k).map fun w=>iH w.act))],[(3,.os 1 1 0 (i.wins.take k).length),(10,.lst (i.wins.map jD)),(11,.v (.int .i64 ((i.wins.map jD).length:Nat))),(12,.v (.int .i64 k))]⟩) (fun k=>k<=i.wins.length) (fun k=>i.wins.length-k) 0 (aO _) ?_ ?_
 ·exact leA
 intro k hk;rcases aC k i.wins.length with hkl|hkl
 ·obtain⟨x,hx⟩:=gex hkl;have ht:i.wins.take (k+1)=i.wins.take k++[x]:=by rw[bF,hx];rfl
  (repeat' ((conv=>whnf);first|(with_reducible first|refine hZ hkl ?_|refine hU hx ?_)|refine zG ?_|apply zA|intro h|exact zT));all_goals conv=>whnf
  refine⟨k+1,hkl,by omega,?_⟩;rw[ht,aQ,aD,aN k,aL];exact leA
 ·rw[aU hkl];(repeat' ((conv=>whnf);first|(with_reducible first|refine iP zx ?_|refine hcs fun S h1 h2=>?_)|refine zG ?_|apply zA|intro h|exact zT));all_goals conv=>whnf
  exact hK S h1 h2
end Go.Proofs.YtnomkooikbhgmaaGreatDoor
