/- Lemmas. -/
import Derived.Test.YtgicddadddhonaaGreatDoorM27
set_option linter.unusedVariables false
set_option linter.unusedSimpArgs false
set_option maxRecDepth 100000
set_option maxHeartbeats 4000000
noncomputable section
namespace Go.Proofs.YtgicddadddhonaaGreatDoor
open Go Go.Vm
theorem k39(l:List Rg)(hl:l.length<100000){K:KT}(hK:∀c,Canon c->(∀v,has c v=has l v)->c.length<=l.length->K (iR c) []):AC 257 [iR l] [] K:=c39 aVU l hl hK
theorem c18(a b:List Rg)(ha:a.length<900)(hb:b.length<900){K:KT}(hK:∀c,Canon c->(∀v,has c v=(has a v||has b v))->c.length<=a.length+b.length->K (iR c) []):AC 186 [iR a,iR b] [] K:=by
 refine aWK rfl rfl ?_
 iterate 4 (all_goals((conv=>whnf);first|refine zG ?_|apply zA|intro h|exact zT|skip))
 refine c40 [a,b] zx (fun l hl=>by
  simp only[aZ,eB,or_false]at hl;rcases hl with rfl|rfl<;>omega) ?_
 (conv=>whnf)
 refine k39 [a,b].flatten (by simp;omega) fun c h1 h2 h3=>?_;(conv=>whnf)
 refine hK c h1 (fun v=>?_) (by simpa using h3);rw[h2];simp[has]
structure IInv (A B:List Rg) (i j:Nat) (out:List Rg):Prop where
 canon:Canon out
 sep:∀s,s∈out->∀v,has (A.drop i) v=true->has (B.drop j) v=true->s.hi+1<v
 mem:∀v,(has A v&&has B v)=(has out v||(has (A.drop i) v&&has (B.drop j) v))
 len:out.length<=i+j
theorem qU(r:Rg)(l:List Rg)(v:Int):has (r::l) v=((decide (r.lo<=v)&&decide (v<=r.hi))||has l v):=by simp[has]
theorem sX{l:List Rg}{i:Nat}{r:Rg}(h:l[i]? =some r):l.drop i=r::l.drop (i+1):=by
 obtain⟨h1,h2⟩:=aP.1 h;rw[bA h1,h2]
theorem yN{l:List Rg}(h:Canon l){i:Nat}{r:Rg}(hr:l[i]? =some r){v:Int}(hv:has (l.drop (i+1)) v=true):r.hi+1<v:=by
 obtain⟨s,hs,h1,h2⟩:=has_iff.1 hv;obtain⟨j,hj⟩:=fY hs;rw[cJ]at hj;have:=dL.1 h.2 i (i+1+j) (aP.1 hr).1 (aP.1 hj).1 zo;rw[(aP.1 hr).2,(aP.1 hj).2]at this;omega
theorem rK{l:List Rg}(h:Canon l){i:Nat}{r:Rg}(hr:l[i]? =some r){v:Int}(hv:v<=r.hi+1):has (l.drop (i+1)) v=false:=by
 cases hb:has (l.drop (i+1)) v with
 |false=>rfl
 |true=>have:=yN h hr hb;omega
def tW(out:List Rg)(r s:Rg):List Rg:=if max r.lo s.lo<=min r.hi s.hi then out++[mkR (max r.lo s.lo) (min r.hi s.hi)]else out
theorem Lt(out:List Rg)(r s:Rg)(v:Int):has (tW out r s) v=(has out v||((decide (r.lo<=v)&&decide (v<=r.hi))&&(decide (s.lo<=v)&&decide (v<=s.hi)))):=by
 have b1:=r.l0;have b2:=r.l1;have b3:=r.h0;have b4:=r.h1;have d1:=s.l0;have d2:=s.l1;have d3:=s.h0;have d4:=s.h1;unfold tW;split
 ·rw[nW,sZ,kI zo zo zo zo,kP zo zo zo zo]
  congr 1
  rw[bK];simp only[aJ,aL];omega
 ·rename_i h;have:((decide (r.lo<=v)&&decide (v<=r.hi))&&(decide (s.lo<=v)&&decide (v<=s.hi)))=false:=by
   cases hb:((decide (r.lo<=v)&&decide (v<=r.hi))&&(decide (s.lo<=v)&&decide (v<=s.hi)))with
   |false=>rfl
   |true=>simp only[aJ,aL]at hb;omega
  rw[this,fW]
theorem Gl{A B:List Rg}{i j:Nat}{out:List Rg}{r s:Rg}(h:IInv A B i j out)(hr:A[i]? =some r)(hs:B[j]? =some s):Canon (tW out r s)/\(tW out r s).length<=i+j+1:=by
 have b1:=r.l0;have b2:=r.l1;have b3:=r.h0;have b4:=r.h1;have d1:=s.l0;have d2:=s.l1;have d3:=s.h0;have d4:=s.h1;have hl:=h.len;unfold tW;split
 ·rename_i hle;have e1:=kI (show 0<=max r.lo s.lo by omega) zo (show 0<=min r.hi s.hi by omega) zo;have e2:=kP (show 0<=max r.lo s.lo by omega) zo (show 0<=min r.hi s.hi by omega) zo;refine⟨kZ h.canon (by rw[e1,e2];exact hle) (fun t ht=>?_),by simp;omega⟩;rw[e1];refine h.sep t ht _ ?_ ?_
  ·rw[sX hr,qU,bV,aJ,aL,aL];left;omega
  ·rw[sX hs,qU,bV,aJ,aL,aL];left;omega
 ·exact⟨h.canon,by omega⟩
theorem Ir{out:List Rg}{r s t:Rg}(ht:t∈tW out r s):t∈out\/(t.hi<=r.hi/\t.hi<=s.hi):=by
 have b1:=r.l0;have b2:=r.l1;have b3:=r.h0;have b4:=r.h1;have d1:=s.l0;have d2:=s.l1;have d3:=s.h0;have d4:=s.h1;unfold tW at ht;split at ht
 ·rcases aX.1 ht with ht|ht
  ·exact .inl ht
  ·simp at ht;subst ht;right;rw[kP zo zo zo zo];omega
 ·exact .inl ht
theorem L5{A B:List Rg}{i j:Nat}{out:List Rg}{r s:Rg}(hA:Canon A)(hB:Canon B)(h:IInv A B i j out)(hr:A[i]? =some r)(hs:B[j]? =some s)(hlt:r.hi<s.hi):IInv A B (i+1) j (tW out r s):=by
 obtain⟨c1,c2⟩:=Gl h hr hs;refine⟨c1,fun t ht v h1 h2=>?_,fun v=>?_,by omega⟩
 ·rcases Ir ht with ht|ht
  ·exact h.sep t ht v (by rw[sX hr,qU,h1,Bool.or_true]) h2
  ·have:=yN hA hr h1;omega
 ·rw[h.mem,Lt,sX hr,qU,sX hs,qU];rcases eX (r.hi) v with h1|h1
  ·rw[show decide (v<=r.hi)=false from decide_eq_false zo];simp
  ·rw[rK hA hr zo,rK hB hs zo];cases has out v<;>cases (decide (r.lo<=v)&&decide (v<=r.hi))<;>cases (decide (s.lo<=v)&&decide (v<=s.hi))<;>rfl
theorem Jk{A B:List Rg}{i j:Nat}{out:List Rg}{r s:Rg}(hA:Canon A)(hB:Canon B)(h:IInv A B i j out)(hr:A[i]? =some r)(hs:B[j]? =some s)(hge:s.hi<=r.hi):IInv A B i (j+1) (tW out r s):=by
 obtain⟨c1,c2⟩:=Gl h hr hs;refine⟨c1,fun t ht v h1 h2=>?_,fun v=>?_,by omega⟩
 ·rcases Ir ht with ht|ht
  ·exact h.sep t ht v h1 (by rw[sX hs,qU,h2,Bool.or_true])
  ·have:=yN hB hs h2;omega
 ·rw[h.mem,Lt,sX hr,qU,sX hs,qU];rcases eX (s.hi) v with h1|h1
  ·rw[show decide (v<=s.hi)=false from decide_eq_false zo];simp
  ·rw[rK hA hr zo,rK hB hs zo];cases has out v<;>cases (decide (r.lo<=v)&&decide (v<=r.hi))<;>cases (decide (s.lo<=v)&&decide (v<=s.hi))<;>rfl
theorem c19(a b:List Rg)(ha:a.length<10000)(hb:b.length<10000){K:KT}
  (hK:∀out,Canon out->(∀v,has out v=(has a v&&has b v))->out.length<=a.length+b.length->K (iR out) []):AC 288 [iR a,iR b] [] K:=by
 refine aWL rfl rfl ?_;(conv=>whnf)
 refine k39 a zo fun A g1 g2 g3=>?_;(conv=>whnf)
 refine k39 b zo fun B f1 f2 f3=>?_;(conv=>whnf)
 refine gV (Nat×Nat×List Rg) (fun g=>⟨1,[(0,.arr 2 (g.2.2.map encR))],[(0,iR A),(1,iR B),(5,.os 0 2 0 g.2.2.length),(6,.v (.int .i64 g.1)),(7,.v (.int .i64 g.2.1))]⟩)
  (fun g=>g.1<=A.length/\g.2.1<=B.length/\IInv A B g.1 g.2.1 g.2.2) (fun g=>(A.length-g.1)+(B.length-g.2.1)) (0,0,[]) ?_ ?_ ?_
 ·exact⟨aK _,aK _,rV,fun s hs=>by simp at hs,fun v=>by simp[oT],aO _⟩
 ·exact⟨[(0,0)],rfl,⟨rfl,rfl,rfl,rfl,rfl,trivial⟩,⟨rfl,trivial⟩⟩
 ·rintro⟨i,j,out⟩ ⟨hi,hj,hinv⟩
  simp only at hi hj hinv⊢;have hlen:=hinv.len;have fin:(∀v,(has (A.drop i) v&&has (B.drop j) v)=false)->K (iR out) []:=fun he=>
   hK out hinv.canon (fun v=>by rw[<-g2,<-f2,hinv.mem,he,fW]) zo
  rcases aD i A.length with hil|hil
  ·rcases aD j B.length with hjl|hjl
   ·obtain⟨r,hr⟩:=gex hil;obtain⟨s,hs⟩:=gex hjl;have b1:=r.l0;have b2:=r.l1;have b3:=r.h0;have b4:=r.h1;have d1:=s.l0;have d2:=s.l1;have d3:=s.h0;have d4:=s.h1;have e0:max r.lo s.lo<=min r.hi s.hi->tW out r s=out++[mkR (max r.lo s.lo) (min r.hi s.hi)]:=fun h=>by unfold tW;rw[aH h]
    have e1:¬max r.lo s.lo<=min r.hi s.hi->tW out r s=out:=fun h=>by unfold tW;rw[aF h]
    have e2:=Do (show 0<=max r.lo s.lo by omega) zo (show 0<=min r.hi s.hi by omega) zo
    iterate 90 (all_goals((conv=>whnf);first|(with_reducible first|refine iI hil ?_|refine iI hjl ?_|refine iH hr ?_|refine iH hs ?_)|refine zG ?_|apply zA|intro h|exact zT|skip))
    ·have h:=L5 g1 f1 hinv hr hs zp;rw[e0 zp]at h;refine⟨(i+1,j,out++[mkR (max r.lo s.lo) (min r.hi s.hi)]),⟨by simp only;omega,hj,h⟩,by simp only;omega,?_⟩;simp only[aQ,aR,bI,aC,aB,aI];rw[e2];exact⟨[(0,2)],rfl,⟨rfl,rfl,rfl,rfl,rfl,trivial⟩,⟨rfl,trivial⟩⟩
    ·have h:=Jk g1 f1 hinv hr hs zo;rw[e0 zp]at h;refine⟨(i,j+1,out++[mkR (max r.lo s.lo) (min r.hi s.hi)]),⟨hi,by simp only;omega,h⟩,by simp only;omega,?_⟩;simp only[aQ,aR,bI,aC,aB,aI];rw[e2];exact⟨[(0,2)],rfl,⟨rfl,rfl,rfl,rfl,rfl,trivial⟩,⟨rfl,trivial⟩⟩
    ·have h:=L5 g1 f1 hinv hr hs zp;rw[e1 zp]at h;exact⟨(i+1,j,out),⟨by simp only;omega,hj,h⟩,by simp only;omega,⟨[(0,0)],rfl,⟨rfl,rfl,rfl,rfl,rfl,trivial⟩,⟨rfl,trivial⟩⟩⟩
    ·have h:=Jk g1 f1 hinv hr hs zo;rw[e1 zp]at h;exact⟨(i,j+1,out),⟨hi,by simp only;omega,h⟩,by simp only;omega,⟨[(0,0)],rfl,⟨rfl,rfl,rfl,rfl,rfl,trivial⟩,⟨rfl,trivial⟩⟩⟩
   ·iterate 10 (all_goals((conv=>whnf);first|(with_reducible first|refine iI hil ?_|refine iI hjl ?_)|refine zG ?_|apply zA|intro h|exact zT|skip))
    exact fin fun v=>by rw[bO hjl,oT,Bool.and_false]
  ·iterate 10 (all_goals((conv=>whnf);first|(with_reducible refine iI hil ?_)|refine zG ?_|apply zA|intro h|exact zT|skip))
   exact fin fun v=>by rw[bO hil,oT,fI]
theorem I4(l:List Df):Fine l [] []:=⟨List.Pairwise.nil,List.Pairwise.nil,Firsts.nil,Firsts.nil,fun n h=>(by cases h),fun n h=>(by cases h),fun n h=>(by cases h)⟩
theorem aFy(t:Tp)(ht:t.edges.length<1000)(l:List Df)(hl:l.length<=999)(hit:∀d,d∈l->d.items.length<=999)(nm:ByteArray){K:KT}
  (hK:K (.v (.int .i64 (fol (nF t) l (l.length+1) [] nm [] []).1)) [adO 2,kM t,Eb 4 (fol (nF t) l (l.length+1) [] nm [] []).2.2.length,.box [],Hf (fol (nF t) l (l.length+1) [] nm [] []).2.2]):
  AC 187 [.lst (l.map iQ),.v (.string nm),.fn (.func 188) [] [.op 0 0,.op 1 0]] [adO 2,kM t,Eb 3 0,.arr 2 []] K:=by
 refine aEa rfl rfl ?_;have hc:∀{K:KT},K (.v (.int .i64 (fol (nF t) l (l.length+1) [] nm [] []).1)) [foO l,.map (mW l []),.map (mW l (fol (nF t) l (l.length+1) [] nm [] []).2.1),adO 5,kM t,Eb 7 (fol (nF t) l (l.length+1) [] nm [] []).2.2.length,.box [],Hf (fol (nF t) l (l.length+1) [] nm [] []).2.2]->
   AC 259 [.op 0 0,.v (.string nm)] [foO l,.map (fun _=>none),.map (fun _=>none),adO 5,kM t,Eb 6 0,.arr 2 []] K:=fun {K} h=>by
  rw[Md l];exact aKx t ht l hl hit (l.length+1) [] nm [] [] (I4 l) zx zx h
 (repeat' ((conv=>whnf);first|(with_reducible refine hc ?_)|refine zG ?_|apply zA|intro h|exact zT));all_goals conv=>whnf
 exact hK
def qA(t:Tp)(l:List Df)(nm:ByteArray):Int×List Rg:=
 if sEq nm ⟨#[]⟩=true then(0,t.edges.map fun e=>e.pf.rg)else((fol (nF t) l (l.length+1) [] nm [] []).1,(fol (nF t) l (l.length+1) [] nm [] []).2.2)
theorem aKz(a:List Rg)(ha:a.length<900){K:KT}(hK:∀c,Canon c->(∀v,has c v=has a v)->c.length<=a.length->K (iR c) []):AC 186 [iR a,.lst []] [] K:=
 c18 a [] ha zx fun c h1 h2 h3=>hK c h1 (fun v=>by rw[h2];simp[oT]) (by simpa using h3)
theorem aSs(t:Tp)(ht:t.edges.length<900)(i:Nt)(hl:i.grps.length<=999)(hit:∀d,d∈i.grps->d.items.length<=999)(nm:ByteArray)(hb:(qA t i.grps nm).1=0->(qA t i.grps nm).2.length<900){K:KT}
  (hK1:(qA t i.grps nm).1≠0->K (.tup [.lst [],.v (.int .i64 (qA t i.grps nm).1)]) [])
  (hK2:(qA t i.grps nm).1=0->∀c,Canon c->(∀v,has c v=has (qA t i.grps nm).2 v)->c.length<=(qA t i.grps nm).2.length->K (.tup [iR c,.v (.int .i64 0)]) []):
  AC 111 [jT t,jC i,.v (.string nm)] [] K:=by
 refine hJ (aQE rfl rfl ?_);unfold qA at hb hK1 hK2;by_cases hnm:sEq nm ⟨#[]⟩=true
 ·simp only[aH hnm]at hb hK1 hK2;have hnm2:(nm.toList==(⟨#[]⟩:ByteArray).toList)=true:=hnm;(repeat' ((conv=>whnf);first|refine zG ?_|apply zA|intro h|exact zT));all_goals conv=>whnf
  all_goals first
   |skip
  refine gV (Nat×List Rg) (fun g=>⟨5,[(4,adO 2),(3,Hf g.2),(2,Eb 3 g.2.length)],[(8,.op 2 0),(9,.op 4 0),(17,.lst (t.edges.map lY)),(18,.v (.int .i64 (t.edges.map lY).length)),(19,.v (.int .i64 g.1))]⟩)
   (fun g=>g.1<=t.edges.length/\g.2=(t.edges.take g.1).map fun e=>e.pf.rg) (fun g=>t.edges.length-g.1) (0,[]) ⟨aK _,rfl⟩ ?_ ?_
  ·exact leA
  rintro⟨k,out⟩ ⟨hk,ho⟩
  simp only at hk ho⊢;have hol:out.length=k:=by rw[ho,aA,aV];omega
  rcases aD k t.edges.length with hkl|hkl
  ·obtain⟨e,he⟩:=gex hkl;(repeat' ((conv=>whnf);first|(with_reducible first|refine iI hkl ?_|refine iH he ?_|refine aBf e.pf out zo ?_)|refine zG ?_|apply zA|intro h|exact zT));all_goals conv=>whnf
   refine⟨(k+1,out++[e.pf.rg]),⟨hkl,?_⟩,by simp only;omega,?_⟩
   ·simp only;rw[ho,bE,he,aQ];rfl
   ·simp only[aN,aM];exact leA
  ·have hke:k=t.edges.length:=by omega
   rw[hke,dF]at ho;rw[<-ho]at hK2;(repeat' ((conv=>whnf);first|(with_reducible first|refine iT (aA ..) ?_|refine aKz out zo fun c hc1 hc2 hc3=>?_)|refine zG ?_|apply zA|intro h|exact zT));all_goals conv=>whnf
   exact⟨_,gY,hK2 trivial c hc1 hc2 hc3⟩
 ·simp only[aF hnm]at hb hK1 hK2;have hnm2:(nm.toList==(⟨#[]⟩:ByteArray).toList)=false:=by simpa[sEq]using hnm
  have hc:=fun {K} h=>@aFy t zo i.grps hl hit nm K h;generalize fol (nF t) i.grps (i.grps.length+1) [] nm [] []=q at*;obtain⟨qe,qd,qs⟩:=q;simp only at hb hK1 hK2 hc;(repeat' ((conv=>whnf);first|(with_reducible first|refine hc ?_|refine iT (aA ..) ?_|refine aKz qs (hb zp) fun c hc1 hc2 hc3=>?_)|refine zG ?_|apply zA|intro h|exact zT));all_goals conv=>whnf
  all_goals first
   |(exfalso;simp_all;done)
   |exact⟨_,gY,hK2 zp c hc1 hc2 hc3⟩
   |exact⟨_,hU hZ gY,hK1 zp⟩
def K8(l:List Df)(d:List Nat):Nat:=(d.map fun n=>((l[n]?).map fun x=>x.items.length).getD 0).sum
theorem aAa{l:List Df}{d:List Nat}{n:Nat}{x:Df}(h:l[n]? =some x):K8 l (d++[n])=K8 l d+x.items.length:=by
 rw[K8,aQ,List.sum_append,<-K8];simp[h]
theorem Vd(l:List Df):K8 l (List.range l.length)=Hh l:=by
 unfold K8 Hh
 congr 1
 refine List.ext_getElem zx fun i h1 h2=>?_;have:i<l.length:=by simpa using h2
 simp[aE this]
theorem Z6{l:List Nat}{f:Nat->Nat}{x:Nat}(h:x∈l):(l.map f).sum=f x+((l.erase x).map f).sum:=by
 induction l with
 |nil=>simp at h
 |cons y l ih=>
  by_cases hy:y=x
  ·subst hy;simp
  ·have hx:x∈l:=by rcases aZ.1 h with h|h;exact absurd h.symm hy;exact h
   have e:(y::l).erase x=y::l.erase x:=by rw[List.erase_cons_tail (by simpa using hy)]
   rw[e,aR,cX,ih hx,aR,cX];omega
theorem M6{f:Nat->Nat}:∀{d m:List Nat},d.Nodup->(∀x,x∈d->x∈m)->(d.map f).sum<=(m.map f).sum
 |[],m,_,_=>aK _
 |x::d,m,hn,hs=>by
  obtain⟨h1,h2⟩:=List.nodup_cons.1 hn;rw[Z6 (hs x zx),aR,cX];have:=M6 (f:=f) (m:=m.erase x) h2 fun y hy=>(List.mem_erase_of_ne (fun e=>h1 (by rw[<-e];exact hy))).2 (hs y (aS _ hy));omega
theorem aKe{l:List Df}{d:List Nat}(hn:d.Nodup)(hl:∀n,n∈d->n<l.length):K8 l d<=Hh l:=by
 rw[<-Vd];exact M6 hn fun x hx=>eG.2 (hl x hx)
section
variable {S:Type} (v:It->S->Int×S) (sz:S->Nat) (c:Nat) (hv:∀x s,(v x s).1=0->sz (v x s).2<=sz s+c)
structure Fit (l:List Df) (p d:List Nat) (s:S) (d':List Nat) (s':S) (k:Nat):Prop where
 fine:Fine l p d'
 size:sz s'+c*K8 l d<=sz s+c*K8 l d'+c*k
include hv
theorem Qv{l:List Df}{p:List Nat}{rec:ByteArray->List Nat->S->Int×List Nat×S}(hrec:∀nm d s,Fine l p d->(rec nm d s).1=0->Fit sz c l p d s (rec nm d s).2.1 (rec nm d s).2.2 0):
  ∀(its:List It) (d:List Nat) (s:S),Fine l p d->(pS v rec its d s).1=0->Fit sz c l p d s (pS v rec its d s).2.1 (pS v rec its d s).2.2 its.length
 |[],d,s,hf,_=>⟨hf,by simp[pS]⟩
 |x::r,d,s,hf,h=>by
  rw[pC]at h⊢;have hq:(if x.kind=3 then rec x.name d s else((v x s).1,d,(v x s).2)).1=0->Fit sz c l p d s (if x.kind=3 then rec x.name d s else((v x s).1,d,(v x s).2)).2.1 (if x.kind=3 then rec x.name d s else((v x s).1,d,(v x s).2)).2.2 1:=by
   by_cases hk:x.kind=3
   ·rw[aH hk];intro h0;have:=hrec x.name d s hf h0;exact⟨this.fine,by have:=this.size;omega⟩
   ·rw[aF hk];intro h0;exact⟨hf,by have:=hv x s h0;simp only;omega⟩
  generalize (if x.kind=3 then rec x.name d s else((v x s).1,d,(v x s).2))=q at*;by_cases h0:q.1=0
  ·rw[aH h0]at h⊢;have hq:=hq h0;have h2:=Qv hrec r q.2.1 q.2.2 hq.fine h;exact⟨h2.fine,by have:=hq.size;have:=h2.size;rw[aB,Nat.mul_succ];omega⟩
  ·rw[aF h0]at h;exact absurd h h0
theorem Wg(l:List Df):∀(k:Nat) (p:List Nat) (nm:ByteArray) (d:List Nat) (s:S),Fine l p d->(fol v l k p nm d s).1=0->
  Fit sz c l p d s (fol v l k p nm d s).2.1 (fol v l k p nm d s).2.2 0
 |0,p,nm,d,s,hf,h=>by simp[fol]at h
 |k+1,p,nm,d,s,hf,h=>by
  unfold fol at h⊢;cases hn:lR l nm with
  |none=>simp[hn]at h
  |some n=>
   simp only[hn]at h⊢;split at h
   ·simp at h
   rename_i hp;rw[aF hp];split at h
   ·rename_i hd;rw[aH hd];exact⟨hf,by simp⟩
   rename_i hd;rw[aF hd];obtain⟨df,hdf,_⟩:=lK hn;simp only[hdf,dG,cY]at h⊢;have hpush:=hf.push hn hp hd;split at h
   ·rename_i h0;rw[aH h0];have h1:=Qv v sz c hv (fun nm d s hf h=>Wg l k (p++[n]) nm d s hf h) df.items d s hpush h0;refine⟨h1.fine.pop hn,?_⟩;have:=h1.size;simp only;rw[aAa hdf,gF];omega
   ·rename_i h0;exact absurd h h0
theorem Og(l:List Df)(nm:ByteArray)(s:S)(h:(fol v l (l.length+1) [] nm [] s).1=0):sz (fol v l (l.length+1) [] nm [] s).2.2<=sz s+c*Hh l:=by
 have h1:=Wg v sz c hv l (l.length+1) [] nm [] s (I4 l) h;have h2:=aKe h1.fine.dn h1.fine.dl;have h3:=h1.size;have h4:=dV c h2;have h5:K8 l []=0:=rfl;rw[h5]at h3;omega
end
theorem Q7{t:Tp}{l:List Df}{nm:ByteArray}(h12:t.edges.length<=12)(h:(qA t l nm).1=0):(qA t l nm).2.length<=12+12*Hh l:=by
 unfold qA at h⊢;split
 ·simp only[aA];omega
 ·rename_i hn;rw[aF hn]at h;have:=Og (nF t) List.length 12 (fun x s h0=>by
   unfold nF at h0⊢;have hll:=uV (fun e=>sEq e.zone x.name) t.edges t.edges.length;split
   ·rw[aC];simp
   ·split
    ·simp
    ·rw[aC,aA];omega) l nm [] h
  simp only[aI]at this⊢;omega
def kJ(t:Tp)(i:Nt)(nm:ByteArray):List Rg×Int:=if(qA t i.grps nm).1=0 then(Ik (has (qA t i.grps nm).2),0)else([],(qA t i.grps nm).1)
def Ev:List It->List Bx->List Bx×Int
 |[],s=>(s,0)
 |x::r,s=>if(iP anB initS [oW x]).2≠0 then([],(iP anB initS [oW x]).2)else if(iP orB s (iP anB initS [oW x]).1).2≠0 then([],(iP orB s (iP anB initS [oW x]).1).2)else Ev r (iP orB s (iP anB initS [oW x]).1).1
def xA(l:List Df)(nm:ByteArray):Int×List It:=((fol oS l (l.length+1) [] nm [] []).1,(fol oS l (l.length+1) [] nm [] []).2.2)
def rF(i:Nt)(nm:ByteArray):List Bx×Int:=if sEq nm ⟨#[]⟩=true then(initS,0)else if(xA i.svcs nm).1≠0 then([],(xA i.svcs nm).1)else Ev (xA i.svcs nm).2 []
def vV{α:Type}(x:α×Int)(k:α->List Bx×Int):List Bx×Int:=if x.2≠0 then([],x.2)else k x.1
theorem kD{α:Type}{x:α×Int}{k:α->List Bx×Int}(h:x.2=0):vV x k=k x.1:=by rw[vV,aF zo]
theorem lV{α:Type}{x:α×Int}{k:α->List Bx×Int}(h:x.2≠0):vV x k=([],x.2):=by rw[vV,aH h]
def qJ(t:Tp)(i:Nt)(s:Sm):List Bx×Int:=
 vV (kJ t i s.frm) fun f=>vV (kJ t i s.to) fun g=>vV (rF i s.svc) fun v=>
 vV (if s.exc then kJ t i s.exF else([],0)) fun o=>vV (if s.exc then kJ t i s.exT else([],0)) fun n=>
 vV (kX (lJ f g)) fun b=>if(iP anB b v).2≠0\/s.exc=false then iP anB b v else
 vV (kX (lJ o n)) fun b2=>iP woB (iP anB b v).1 b2
def zF(t:Tp)(i:Nt)(s:Sm):Int:=
 if(sEq s.cls ⟨#[]⟩||t.devs.any fun d=>sEq d.cls s.cls)&&(sEq s.dur ⟨#[]⟩||i.wins.any fun w=>sEq w.name s.dur)then 0 else 5
def lP{α:Type}(f:α->Int):List α->Int
 |[]=>0
 |x::l=>if f x≠0 then f x else lP f l
def aAG(t:Tp)(i:Nt):Int:=
 let a:=lP (fun d:Df=>(kJ t i d.name).2) i.grps
 if a≠0 then a else
 let b:=lP (fun d:Df=>(rF i d.name).2) i.svcs
 if b≠0 then b else
 let c:=lP (fun s:Sm=>if(qJ t i s).2≠0 then(qJ t i s).2 else zF t i s) i.sts
 if c≠0 then c else
 let d:=lP (fun p:Pb=>if jX t.edges p.edge<0 then 5 else 0) i.pubs
 if d≠0 then d else
 lP (fun h:Hn=>if jX t.edges h.edge<0 then 5 else(kJ t i h.grp).2) i.hids
def Yy(t:Tp)(x:It)(u:Int):Prop:=if x.kind=2 then has [x.pf.rg] u=true else ∃e,e∈t.edges/\sEq e.zone x.name=true/\has [e.pf.rg] u=true
def aJr(t:Tp)(x:It):Bool:=decide (x.kind=2)|| !(ixs (fun e=>sEq e.zone x.name) t.edges t.edges.length).isEmpty
theorem Wq(a b:List Rg)(u:Int):has (a++b) u=(has a u||has b u):=by unfold has;rw[List.any_append]
theorem aWe(t:Tp):Vis (nF t) (fun rs u=>has rs u=true) (Yy t) (aJr t) where
 add:=fun x s h u=>by
  unfold nF at h⊢;unfold Yy;by_cases hk:x.kind=2
  ·simp only[aH hk];rw[Wq,bV]
  ·simp only[aF hk]at h⊢;by_cases hi:ixs (fun e=>sEq e.zone x.name) t.edges t.edges.length=[]
   ·rw[aH hi]at h;simp at h
   ·rw[aF hi];simp only;rw[Wq,bV];refine or_congr Iff.rfl ?_;constructor
    ·intro hh;obtain⟨r,hr,h1,h2⟩:=has_iff.1 hh;obtain⟨n,hn,rfl⟩:=bQ.1 hr;obtain⟨_,e,he,hz⟩:=T7 hn;refine⟨e,aG he,hz,has_iff.2 ⟨e.pf.rg,by simp,?_⟩⟩;rw[vP,he]at h1 h2;exact⟨h1,h2⟩
    ·rintro⟨e,he,hz,hh⟩
     obtain⟨k,hk2⟩:=bH.1 he;obtain⟨r,hr,h1,h2⟩:=has_iff.1 hh;rw[aU.1 hr]at h1 h2;refine has_iff.2 ⟨vP t k,bQ.2 ⟨k,?_,rfl⟩,?_⟩
     ·rw[ixs,cR,eG];exact⟨(aP.1 hk2).1,by simp only[hk2];exact hz⟩
     ·rw[vP,hk2];exact⟨h1,h2⟩
 ok:=fun x s=>by
  unfold nF aJr;by_cases hk:x.kind=2
  ·simp[hk]
  ·simp only[aF hk];cases hi:ixs (fun e=>sEq e.zone x.name) t.edges t.edges.length with
   |nil=>simp[hk]
   |cons a l=>simp
theorem aWf:Vis oS (fun its y=>y∈its) (fun x y=>y=x) (fun _=>true) where
 add:=fun x s h u=>by simp[oS]
 ok:=fun x s=>by simp[oS]
theorem aCc{t:Tp}{l:List Df}{nm:ByteArray}(hn:sEq nm ⟨#[]⟩=false)(h:(qA t l nm).1=0):Good l (aJr t) nm/\∀u,has (qA t l nm).2 u=true↔Lead l (Yy t) nm u:=by
 unfold qA at h⊢;rw[aF (by rw[hn];decide)]at h⊢;exact Qy (nF t) (fun rs u=>has rs u=true) (Yy t) (aJr t) (aWe t) l nm [] (fun u=>by simp[has]) h
theorem aEQ{l:List Df}{nm:ByteArray}(h:(xA l nm).1=0):Good l (fun _=>true) nm/\∀y,y∈(xA l nm).2↔Lead l (fun x y=>y=x) nm y:=
 Qy oS (fun its y=>y∈its) (fun x y=>y=x) (fun _=>true) aWf l nm [] (fun u=>by simp) h
def Ph(a b:ByteArray):Bool:=a.data.toList==b.data.toList
def itC(x:It)(g:Bool):Bool:=
 if x.kind=3 then uJ x.name.data.toList&&itN x
 else if x.kind=1 then g&&(uJ x.name.data.toList&&itN x)
 else if x.kind=2 then g&&(decide x.pf.okP&&(Ph x.name ⟨#[]⟩&&decide (x.proto=0/\x.ports.lo=0/\x.ports.hi=0)))
 else if x.kind=4 then !g&&(prB x.proto x.ports&&(Ph x.name ⟨#[]⟩&&decide (x.pf.addr=0/\x.pf.bits=0)))else false
theorem aHt{x:It}{g:Bool}(h:itC x g=true):itB x g=true:=by
 have hn:uJ x.name.data.toList=true->nameB x.name=true:=fun h=>oX (mN h);have he:Ph x.name ⟨#[]⟩=sEq x.name ⟨#[]⟩:=(nJ _ _).symm;unfold itC at h;unfold itB itP itS;rw[he]at h;split
 ·rename_i hk;rw[aH hk,aJ]at h;rw[hn h.1,h.2];rfl
 ·rename_i hk;rw[aF hk]at h;split
  ·rename_i hk1;rw[aH hk1,aJ,aJ]at h;rw[h.1,hn h.2.1,h.2.2];rfl
  ·rename_i hk1;rw[aF hk1]at h;exact h
def dfC(l:List Df)(g:Bool)(i:Nat)(d:Df):Bool:=
 uJ d.name.data.toList&&(decide (l.findIdx? (fun e=>Ph e.name d.name)=some i)&&(decide (1<=d.items.length)&&(decide (d.items.length<=16)&&d.items.all fun x=>itC x g)))
def aSB(l:List Df)(g:Bool):Bool:=decide (l.length<=32)&&(l.zipIdx.all fun q=>dfC l g q.2 q.1)
theorem V7{l:List Df}{g:Bool}(h:aSB l g=true):DfsOk l g:=by
 unfold aSB at h;rw[aJ,aL,bT]at h;refine⟨h.1,fun i d hd=>?_⟩;have h2:=h.2 (d,i) (List.mem_zipIdx_iff_getElem?.2 hd);unfold dfC at h2;simp only[aJ,aL,bT]at h2;obtain⟨h3,h4,h5,h6,h7⟩:=h2;refine⟨oX (mN h3),?_,h5,h6,fun x hx=>aHt (h7 x hx)⟩;have e:(fun e:Df=>sEq e.name d.name)=fun e=>Ph e.name d.name:=by funext e;exact nJ _ _
 unfold Fc jM;rw[e,h4]
/-! the topology of the examples -/
def pf0:Pf:=⟨167772160,24,by decide,by decide⟩
def pf4:Pf:=⟨2886729728,16,by decide,by decide⟩
def atB(s:ByteArray)(c:Int)(i:Nat):Bool:=match s[i]? with
 |some b=>decide ((b.toNat:Int)=c)
 |none=>true
def prt(s:ByteArray)(c:Int):Nat->List ByteArray×Nat
 |0=>([],0)
 |i+1=>if atB s c i=true then((prt s c i).1++[s.extract (prt s c i).2 i],i+1)else prt s c i
theorem aEs(s:ByteArray)(c:Int):∀i,(prt s c i).2<=i/\(prt s c i).1.length<=i
 |0=>⟨aO _,aO _⟩
 |i+1=>by
  have:=aEs s c i;rw[prt];split
  ·simp only[aC,aB,aI];omega
  ·omega
theorem aAm(s:ByteArray)(c:Int):atB s c s.size=true:=by rw[atB,getElem?_neg s s.size (Nat.lt_irrefl _)]
theorem aJz(s:ByteArray)(c:Int):(prt s c (s.size+1)).1=(prt s c s.size).1++[s.extract (prt s c s.size).2 s.size]:=by
 rw[prt,aH (aAm s c)]
def uX(s:ByteArray)(c:Int):List ByteArray:=(prt s c (s.size+1)).1
theorem aJy(s:ByteArray)(c:Int):uX s c≠[]:=by rw[uX,aJz];simp
theorem aFE(s:ByteArray)(c:Int)(hs:s.size<=1000){K:KT}(hK:K (.lst ((uX s c).map mV)) []):AC 279 [.v (.string s),.v (.int .u8 c)] [] K:=by
 refine Mk rfl rfl ?_;(repeat' ((conv=>whnf);first|refine zG ?_|apply zA|intro h|exact zT));all_goals conv=>whnf
 refine gV (List ByteArray×Nat×Nat) (fun g=>⟨1,[(0,.arr 1 (g.1.map mV))],[(0,.v (.string s)),(1,.v (.int .u8 c)),(5,.os 0 1 0 g.1.length),(6,.v (.int .i64 g.2.1)),(7,.v (.int .i64 g.2.2))]⟩)
  (fun g=>g.2.2<=s.size+1/\prt s c g.2.2=(g.1,g.2.1)) (fun g=>s.size+1-g.2.2) ([],0,0) ⟨by simp only;omega,rfl⟩ ?_ ?_
 ·exact leA
 rintro⟨l,a,i⟩ ⟨h1,hg⟩
 simp only at h1 hg⊢;have hle:=aEs s c i;rw[hg]at hle;obtain⟨h2,h3⟩:=hle;simp only at h2 h3;rcases aD i (s.size+1)with hl|hl
 ·have hstep:prt s c (i+1)=if atB s c i=true then(l++[s.extract a i],i+1)else(l,a):=by rw[prt,hg]
  (repeat' ((conv=>whnf);first|(with_reducible first|refine iJ zo ?_|refine aCA zo fun b hb=>?_|refine iF a i rfl rfl zo zo ?_)|refine zG ?_|apply zA|intro h|exact zT));all_goals conv=>whnf
  all_goals first
   |(have hno:atB s c i=false:=by rw[atB,hb];exact decide_eq_false h
     rw[hno,aF zd]at hstep;refine⟨(l,a,i+1),⟨by simp only;omega,hstep⟩,by simp only;omega,?_⟩;rw[show(((l,a,i+1):List ByteArray×Nat×Nat).2.2:Int)=(i:Int)+1 from by simp only;omega];exact leA)
   |(have hyes:atB s c i=true:=by
      first
       |(rw[atB,hb];exact decide_eq_true h)
       |(rw[show i=s.size by omega];exact aAm s c)
     rw[hyes,aH rfl]at hstep;refine⟨(l++[s.extract a i],i+1,i+1),⟨by simp only;omega,hstep⟩,by simp only;omega,?_⟩;simp only[aQ,aC,aR,bI,aB,aI,aN,aM];exact leA)
   |(exfalso;omega)
 ·(repeat' ((conv=>whnf);first|(with_reducible refine iT (aA ..) ?_)|refine zG ?_|apply zA|intro h|exact zT));all_goals conv=>whnf
  rw[uX,show s.size+1=i by omega,hg]at hK;exact hK
def yH(s:ByteArray):Int:=jM (fun x=>sEq x s) dayL
theorem aSC(s:ByteArray){K:KT}(hK:K (.v (.int .i64 (yH s))) []):AC 280 [.v (.string s)] [] K:=by
 unfold yH at hK;refine aIr rfl rfl ?_;(repeat' ((conv=>whnf);first|(with_reducible refine aAS ?_)|refine zG ?_|apply zA|intro h|exact zT));all_goals conv=>whnf
 refine gV Nat (fun i=>⟨0,[],[(0,.v (.string s)),(3,.lst (dayL.map mV)),(4,.v (.int .i64 i))]⟩) (fun i=>i<=dayL.length/\∀(j:Nat) y,j<i->dayL[j]? =some y->sEq y s=false) (fun i=>dayL.length-i) 0 ⟨aK _,fun i y hi=>absurd hi (bD _)⟩ ?_ ?_
 ·exact leA
 intro i ⟨hi,hinv⟩;have h7:dayL.length=7:=rfl;rcases aD i dayL.length with hl|hl
 ·obtain⟨x,hx⟩:=gex hl;(repeat' ((conv=>whnf);first|(with_reducible first|refine iI hl ?_|refine iH hx ?_)|refine zG ?_|apply zA|intro h|exact zT));all_goals conv=>whnf
  ·rw[jN (p:=fun x=>sEq x s) hx (show sEq x s=true from h) hinv]at hK;exact hK
  ·refine⟨i+1,⟨hl,jJ (p:=fun x:ByteArray=>sEq x s) hx h hinv⟩,by omega,?_⟩;rw[aN,aM];exact leA
 ·(repeat' ((conv=>whnf);first|refine zG ?_|apply zA|intro h|exact zT));all_goals conv=>whnf
  rw[jS (p:=fun x=>sEq x s) (iL hl hinv)]at hK;exact hK
structure DayW (s:ByteArray):Prop where
 size:s.size<=1000
 two:(uX s 45).length<=2
 ok:∀x y,(uX s 45)[0]? =some x->(uX s 45)[(uX s 45).length-1]? =some y->0<=yH x/\yH x<=yH y/\yH y<=6/\yH y<=yH x+4
theorem aMi(s:ByteArray)(hs:DayW s){K:KT}(hK:∀a b:Int,0<=a->a<=b->b<=6->b<=a+4->K (.tup [.v (.int .i64 a),.v (.int .i64 b)]) []):AC 241 [.v (.string s)] [] K:=by
 have h2:=hs.two;have hok:=hs.ok;have hpos:=dC.2 (aJy s 45);refine aDx rfl rfl ?_;have hp:=fun {K} h=>@aFE s 45 hs.size K h;generalize uX s 45=l at*;have hm:((l.length:Nat):Int)-1=((l.length-1:Nat):Int):=by omega
 obtain⟨x,hx⟩:=gex hpos;obtain⟨y,hy⟩:∃y,l[l.length-1]? =some y:=⟨_,aE zo⟩
 obtain⟨q0,q1,q2,q3⟩:=hok x y hx hy;(repeat' ((conv=>whnf);first|(with_reducible refine hp ?_)|(refine iB 0 rfl (by rw[aA];omega) ?_)|(with_reducible first|refine jO (r:=((l.length-1:Nat):Int)) (by rw[aA];omega) zo zo ?_|refine iI zo ?_|refine iH hx ?_|refine iH hy ?_|refine aSC _ ?_)|refine zG ?_|apply zA|intro h|exact zT));all_goals conv=>whnf
 all_goals first
  |exact hK _ _ q0 q1 q2 q3
  |(exfalso;simp only[aA]at*;omega)
def Qp(s:ByteArray):Int:=jM (fun x=>Ph x s) dayL
theorem aBl(s:ByteArray):yH s=Qp s:=by
 unfold yH Qp
 congr 1
 funext x
 rw[nJ];rfl
theorem yD:∀s,s∈winL->DayW s:=by
 have h:∀s,s∈winL->s.size<=1000/\(uX s 45).length<=2/\(0<=Qp ((uX s 45).getD 0 s)/\Qp ((uX s 45).getD 0 s)<=Qp ((uX s 45).getD ((uX s 45).length-1) s)/\Qp ((uX s 45).getD ((uX s 45).length-1) s)<=6/\Qp ((uX s 45).getD ((uX s 45).length-1) s)<=Qp ((uX s 45).getD 0 s)+4):=by decide+kernel
 intro s hs;obtain⟨h1,h2,h3⟩:=h s hs;refine⟨h1,h2,fun x y hx hy=>?_⟩;rw[List.getD,hx,List.getD,hy]at h3;rw[aBl,aBl];exact h3
theorem aFF(s:ByteArray)(hs:s.size<=1000){K:KT}(hK:∀a b:Int,(a= -1\/(0<=a/\a<b))->b<=1440-> -1<=b->K (.tup [.v (.int .i64 a),.v (.int .i64 b)]) []):AC 242 [.v (.string s)] [] K:=by
 refine Zl rfl rfl ?_;(repeat' ((conv=>whnf);first|(with_reducible refine aFm s _ hs fun l hl hn=>?_)|(refine iB 0 rfl zo ?_)|(refine iB 1 rfl zo ?_)|(with_reducible first|refine iK (by simp only[aA]at*;omega) fun c hc=>?_|refine aFl _ fun r r0 r1=>?_)|refine zG ?_|apply zA|intro h|exact zT));all_goals conv=>whnf
 all_goals first
  |exact hK _ _ zo zo zo
def aAf(out:List Rg):Prop:=∀r,r∈out->∃d:Nat,d<7/\1440*(d:Int)<=r.lo/\r.lo<=r.hi/\r.hi<=1440*(d:Int)+1439
def inD(d:Nat)(r:Rg):Bool:=decide (1440*(d:Int)<=r.lo)&&decide (r.hi<=1440*(d:Int)+1439)
theorem aCu{p:Nat->Bool}{k:Nat}(h:∀d,p d=true->d=k):∀n,((List.range n).map fun d=>if p d=true then 1 else 0).sum<=if k<n then 1 else 0
 |0=>by simp
 |n+1=>by
  have ih:=aCu h n;rw[List.range_succ,aQ,List.sum_append];simp only[aR,bI,cX,List.sum_nil];by_cases hp:p n=true
  ·have:=h n hp;subst this;rw[aH hp,aH (Nat.lt_succ_self _)];rw[aF (Nat.lt_irrefl _)]at ih;omega
  ·rw[aF hp];split at ih
   ·rw[aH zo];omega
   ·split<;>omega
theorem So{α:Type}(f g:α->Nat):∀l:List α,(l.map fun d=>f d+g d).sum=(l.map f).sum+(l.map g).sum
 |[]=>rfl
 |x::l=>by simp only[aR,cX,So f g l];omega
theorem Sp:∀out:List Rg,(∀r,r∈out->r.lo<=r.hi)->((List.range 7).map fun d=>(out.filter (inD d)).length).sum<=out.length
 |[],_=>Nat.le_of_eq rfl
 |r::out,h=>by
  have ih:=Sp out fun x hx=>h x (aS _ hx);have e:((List.range 7).map fun d=>((r::out).filter (inD d)).length)=(List.range 7).map fun d=>(if inD d r=true then 1 else 0)+(out.filter (inD d)).length:=by
   refine eF fun d _=>?_;rw[fH];split
   ·rw[aB];omega
   ·omega
  have hr:=h r zx;have h1:=aCu (p:=fun d=>inD d r) (k:=(r.lo/1440).toNat) (fun d hd=>by
   simp only[inD,aJ,aL]at hd;omega) 7
  rw[e,So,aB];have h2:(if(r.lo/1440).toNat<7 then 1 else 0)<=1:=by split<;>omega
  omega
theorem Kp{out rs:List Rg}(ho:aAf out)(hl:out.length<=16)(hc:Canon rs)(hh:∀v,has rs v=has out v):WinOk rs:=by
 refine⟨hc,fun r hr=>?_,?_⟩
 ·have h1:=has_iff.2 ⟨r,hr,hc.1 r hr,cC _⟩;rw[hh]at h1;obtain⟨q,hq,q1,q2⟩:=has_iff.1 h1;obtain⟨d,d1,d2,d3,d4⟩:=ho q hq;omega
 ·have hd:∀d,(Iy rs d).length<=(out.filter (inD d)).length:=fun d=>by
   have e:(fun v=>has rs v&&(decide (1440*(d:Int)<=v)&&decide (v<=1440*(d:Int)+1439)))=has (out.filter (inD d)):=by
    funext v
    rw[hh,bK];simp only[aJ,aL];constructor
    ·rintro⟨h1,h2,h3⟩
     obtain⟨q,hq,q1,q2⟩:=has_iff.1 h1;obtain⟨e,d1,d2,d3,d4⟩:=ho q hq;have:e=d:=by omega
     subst this;exact has_iff.2 ⟨q,cR.2 ⟨hq,by simp only[inD,aJ,aL];omega⟩,q1,q2⟩
    ·intro h;obtain⟨q,hq,q1,q2⟩:=has_iff.1 h;obtain⟨hq1,hq2⟩:=cR.1 hq;simp only[inD,aJ,aL]at hq2;exact⟨has_iff.2 ⟨q,hq1,q1,q2⟩,by omega,by omega⟩
   unfold Iy;rw[e];exact Qg _
  have hs:=Sp out fun r hr=>by obtain⟨d,d1,d2,d3,d4⟩:=ho r hr;exact d3
  have hm:vM rs 7<=((List.range 7).map fun d=>(out.filter (inD d)).length).sum:=by
   unfold vM;generalize List.range 7=l
   induction l with
   |nil=>simp
   |cons x l ih=>simp only[aR,cX];have:=hd x;omega
  omega
theorem Pu:WinOk []:=Kp (out:=[]) (fun r h=>by cases h) zx rV fun v=>rfl
structure Wds (ws:List ByteArray):Prop where
 mod:ws.length%3=2
 len:ws.length<=8
 size:∀s,s∈ws->s.size<=1000
 day:∀(j:Nat) s,ws[3*j]? =some s->DayW s
theorem aFD(ws:List ByteArray)(hw:Wds ws){K:KT}(hK:∀(rs:List Rg) (e:Int),WinOk rs->rs.length<=16->K (.tup [iR rs,.v (.int .i64 e)]) []):AC 167 [.lst (ws.map mV)] [] K:=by
 have hl:=hw.len;have hmod:=hw.mod;have hm:(ws.length:Int).tmod 3=((ws.length%3:Nat):Int):=by rw[fU zo];omega
 refine hJ (Zk rfl rfl ?_);(repeat' ((conv=>whnf);first|(refine iB 0 rfl zo ?_)|(with_reducible first|refine iK (by simp only[aA]at*;omega) fun c hc=>?_|refine Ob.intro zd ?_)|refine zG ?_|apply zA|intro h|exact zT));all_goals conv=>whnf
 all_goals first
  |exact⟨_,hU hZ gY,hK [] _ Pu zx⟩
  |skip
 all_goals
  refine gV (Nat×List Rg) (fun g=>⟨1,[(0,.arr 2 (g.2.map encR))],[(0,.lst (ws.map mV)),(4,.os 0 2 0 g.2.length),(5,.v (.int .i64 (3*g.1:Nat)))]⟩)
   (fun g=>3*g.1<=ws.length+1/\g.2.length<=5*g.1/\aAf g.2) (fun g=>ws.length+3-3*g.1) (0,[]) ⟨aK _,aK _,fun r h=>by cases h⟩ ?_ ?_
  ·exact leA
  rintro⟨i,out⟩ ⟨h2,h3,h4⟩
  simp only at h2 h3 h4⊢;rcases aD (3*i) ws.length with hil|hil
  ·have hi1:3*i+1<ws.length:=by omega
   obtain⟨s0,hs0⟩:∃s,ws[3*i]? =some s:=⟨_,aE hil⟩
   obtain⟨s1,hs1⟩:∃s,ws[3*i+1]? =some s:=⟨_,aE hi1⟩
   (repeat' ((conv=>whnf);first|(with_reducible first|refine iI hil ?_|refine iH hs0 ?_|refine iB (3*i+1) zo (by rw[aA];exact hi1) ?_|refine iH hs1 ?_|refine aMi s0 (hw.day i s0 hs0) fun a b a0 a1 a2 a3=>?_|refine aFF s1 (hw.size _ (aG hs1)) fun f g f0 g1 g0=>?_|refine iB (3*i+2) zo (by rw[aA]at*;omega) ?_|refine iK (by simp only[aA]at*;omega) fun c hc=>?_)|refine zG ?_|apply zA|intro h|exact zT));all_goals conv=>whnf
   all_goals first
    |exact⟨_,hU hZ gY,hK [] _ Pu zx⟩
    |skip
   all_goals
    have hf:0<=f/\f<g:=by omega
    refine gV (Int×List Rg) (fun q=>⟨1,[(0,.arr 2 (q.2.map encR))],[(0,.lst (ws.map mV)),(4,.os 0 2 0 q.2.length),(5,.v (.int .i64 (3*i:Nat))),(7,.v (.int .i64 b)),(8,.v (.int .i64 f)),(9,.v (.int .i64 g)),(10,.v (.int .i64 q.1))]⟩)
     (fun q=>a<=q.1/\q.1<=b+1/\(q.2.length:Int)<=5*i+(q.1-a)/\aAf q.2) (fun q=>(7-q.1).toNat) (a,out) ⟨by simp only;omega,by simp only;omega,by simp only;omega,h4⟩ ?_ ?_
    ·exact leA
    rintro⟨d,ou⟩ ⟨k1,k2,k3,k4⟩
    simp only at k1 k2 k3 k4⊢;rcases eX b d with hbd|hbd
    ·(repeat' ((conv=>whnf);first|refine zG ?_|apply zA|intro h|exact zT));all_goals conv=>whnf
     refine⟨(i+1,ou),⟨by simp only;omega,by simp only;omega,k4⟩,by simp only;omega,?_⟩;rw[show((3*((i+1,ou):Nat×List Rg).1:Nat):Int)=((3*i:Nat):Int)+3 from by simp only;omega];exact leA
    ·(repeat' ((conv=>whnf);first|(with_reducible first|refine jO rfl zo zo ?_|refine xF rfl zo zo ?_)|refine zG ?_|apply zA|intro h|exact zT));all_goals conv=>whnf
     refine⟨(d+1,ou++[⟨1440*d+f,1440*d+g-1,by omega,by omega,by omega,by omega⟩]),⟨by simp only;omega,by simp only;omega,by simp only[aC,aB,aI];omega,fun r hr=>?_⟩,by simp only;omega,?_⟩
     ·rcases aX.1 hr with hr|hr
      ·exact k4 r hr
      ·rw[aU.1 hr];exact⟨d.toNat,by omega,by simp only;omega,by simp only;omega,by simp only;omega⟩
     ·simp only[aQ,aC,aR,bI,aB,aI];exact leA
  ·(repeat' ((conv=>whnf);first|(with_reducible first|refine Ob.intro zd ?_|refine xE fun r=>?_|refine iT (aA ..) ?_)|(refine c14 out [] zo zx fun rs q1 q2 q3=>?_)|refine zG ?_|apply zA|intro h|exact zT));all_goals conv=>whnf
   all_goals first
    |exact⟨_,hU hZ gY,hK [] _ Pu zx⟩
    |exact⟨_,gY,hK _ _ (Kp h4 zo q1 fun v=>by rw[q2,oT];simp) (bC (Lm (rs:=out) q1 fun v=>by rw[q2,oT];simp) zo)⟩
theorem aKd{c e:ByteArray}(hc:c∈winL)(he:e.size<=1000):Wds [c,e] where
 mod:=rfl
 len:=by simp
 size:=fun s hs=>by
  simp only[aZ,eB,or_false]at hs;rcases hs with rfl|rfl
  ·exact(yD _ hc).size
  ·exact he
 day:=fun j s hs=>by
  have:=(aP.1 hs).1;simp only[aB,aI]at this;obtain rfl:j=0:=by omega
  cases hs;exact yD _ hc
theorem aEW{ws:List ByteArray}{x y:ByteArray}(h:Wds ws)(hl:ws.length<=5)(hx:x∈winL)(hy:y.size<=1000):Wds (ws++[⟨#[44]⟩,x,y]) where
 mod:=by have:=h.mod;simp only[aC,aB,aI];omega
 len:=by simp only[aC,aB,aI];omega
 size:=fun s hs=>by
  rcases aX.1 hs with hs|hs
  ·exact h.size s hs
  ·simp only[aZ,eB,or_false]at hs;rcases hs with rfl|rfl|rfl
   ·decide
   ·exact(yD _ hx).size
   ·exact hy
 day:=fun j s hs=>by
  have hm:=h.mod;rcases aD (3*j) ws.length with hlt|hge
  ·rw[bJ hlt]at hs;exact h.day j s hs
  ·rw[bF hge]at hs;have:=(aP.1 hs).1;simp only[aB,aI]at this;rw[show 3*j-ws.length=1 by omega]at hs;cases hs;exact yD _ hx
theorem aSM(raw:List Int)(pos:Nat)(hp:pos<=raw.length)(hr:raw.length<=9223372036854775807){K:KT}
  (hK:∀(rs:List Rg) (pos':Nat),WinOk rs->rs.length<=16->pos'<=raw.length->K (iR rs) [iO raw pos']):AC 100 [.op 0 0] [iO raw pos] K:=by
 have b2:∀s,s∈houL->s.size<=1000:=by decide+kernel
 refine aPW rfl rfl ?_;(repeat' ((conv=>whnf);first|(with_reducible first|refine jI raw _ _ zo zp hr fun m1 p1 hm1 hp1=>?_|refine iJ zo ?_|refine rP winL 6 rfl rfl zo fun c hc=>?_|refine rP houL 5 rfl rfl zo fun e he=>?_)|refine zG ?_|apply zA|intro h|exact zT));all_goals conv=>whnf
 all_goals
  refine gV (Nat×Nat×List ByteArray) (fun g=>⟨4,[(0,iO raw g.1),(1,.arr 1 (winL.map mV)),(2,.arr 1 (houL.map mV)),(3,.arr 1 (g.2.2.map mV))],[(0,.op 0 0),(3,.os 1 1 0 6),(4,.os 2 1 0 5),(5,.os 3 1 0 g.2.2.length),(6,.v (.int .i64 g.2.1))]⟩)
   (fun g=>g.1<=raw.length/\3*g.2.1+g.2.2.length<=8/\Wds g.2.2) (fun g=>g.2.1) (p1,m1,[c,e]) ⟨hp1,by simp only[aB,aI];omega,aKd hc (b2 _ he)⟩ ?_ ?_
  ·exact leA
  rintro⟨p2,i,ws⟩ ⟨h1,h2,h3⟩
  simp only at h1 h2 h3⊢;rcases aD 0 i with hi0|hi0
  ·obtain⟨i',rfl⟩:∃i',i=i'+1:=⟨i-1,by omega⟩
   have hi1:((i'+1:Nat):Int)-1=(i':Int):=by omega
   (repeat' ((conv=>whnf);first|(with_reducible first|refine jO hi1 zo zo ?_|refine jI raw _ _ zo zp hr fun m1 p1 hm1 hp1=>?_|refine iJ zo ?_|refine rP winL 6 rfl rfl zo fun x hx=>?_|refine rP houL 5 rfl rfl zo fun y hy=>?_)|refine zG ?_|apply zA|intro h|exact zT));all_goals conv=>whnf
   all_goals first
    |(refine⟨(p1,i',ws++[⟨#[44]⟩,x,y]),⟨hp1,by simp only[aC,aB,aI];omega,aEW h3 zo hx (b2 _ hy)⟩,by simp only;omega,?_⟩
      simp only[aQ,aC,aR,bI,aB,aI];(exact leA))
  ·obtain rfl:i=0:=by omega
   (repeat' ((conv=>whnf);first|(with_reducible first|refine iT (aA ..) ?_|refine aFD ws h3 fun rs e hrs hrl=>?_)|refine zG ?_|apply zA|intro h|exact zT));all_goals conv=>whnf
   exact hK _ _ hrs hrl h1
end Go.Proofs.YtgicddadddhonaaGreatDoor
