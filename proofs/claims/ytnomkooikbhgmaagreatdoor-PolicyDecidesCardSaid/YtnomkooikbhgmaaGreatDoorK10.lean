/- Lemmas. -/
import Derived.Test.YtnomkooikbhgmaaGreatDoorProg
import Derived.Test.YtnomkooikbhgmaaGreatDoorRows
import Derived.WalkKit
import Derived.ProofKit
import Derived.OpenShut
import Derived.Test.YtnomkooikbhgmaaGreatDoorK9
set_option linter.unusedVariables false
set_option linter.unusedSimpArgs false
set_option maxRecDepth 100000
set_option maxHeartbeats 4000000
noncomputable section
namespace Go.Proofs.YtnomkooikbhgmaaGreatDoor
open Go Go.Vm
def stP(top:Int)(out:List Int)(r:Rg):List Int:=if r.lo<=r.hi then insT (insT out r.lo top) (r.hi+1) top else out
def jH(l:List Rg)(top:Int):List Int:=l.foldl (stP top) [0]
theorem Jk:∀(l:List Int) (v:Int),(ins l v).length<=l.length+1
 |[],v=>by simp[ins]
 |x::xs,v=>by
  have:=Jk xs v;simp only[ins];split
  ·simp;omega
  ·split<;>simp
theorem wU(l:List Int)(v top:Int):(insT l v top).length<=l.length+1:=by
 unfold insT;split
 ·omega
 ·exact Jk _ _
theorem Kc(top:Int)(out:List Int)(r:Rg):(stP top out r).length<=out.length+2:=by
 unfold stP;split
 ·have:=wU out r.lo top;have:=wU (insT out r.lo top) (r.hi+1) top;omega
 ·omega
theorem vB{α β:Type}{f:β->α->β}{b:β}{l:List α}{k:Nat}{r:α}(h:l[k]? =some r):(l.take (k+1)).foldl f b=f ((l.take k).foldl f b) r:=by
 simp[bF,h]
theorem c45(l:List Rg)(top:Int)(ht0:0<=top)(ht:top<=4294967295)(hl:l.length<100000){K:KT}(hK:K (nM (jH l top)) []):
  AC 248 [iH l,.v (.int .u32 top)] [] K:=by
 refine aUT rfl rfl ?_
 iterate 3 ((conv=>whnf);first|((with_reducible refine iP ?ha ?_);(case ha=>exact gA))|((with_reducible refine Ob.intro ?ha ?_);(case ha=>exact gC))|skip)
 refine gM Nat (fun k=>⟨1,[],[(0,iH l),(1,.v (.int .u32 top)),(5,nM ((l.take k).foldl (stP top) [0])),(6,.v (.int .i64 k))]⟩) (fun k=>k<=l.length/\((l.take k).foldl (stP top) [0]).length<=2*k+1) (fun k=>l.length-k) 0 ?_ ?_ ?_
 ·exact⟨by omega,by simp⟩
 ·exact⟨[],rfl,⟨rfl,rfl,rfl,rfl,trivial⟩,trivial⟩
 ·intro k ⟨hk,hlen⟩;rcases aC k l.length with hkl|hkl
  ·obtain⟨r,hr⟩:=gex hkl;have b1:=r.l0;have b2:=r.l1;have b3:=r.h0;have b4:=r.h1;have hs:=vB (f:=stP top) (b:=[0]) hr;have next:∀σ,Le 0 ⟨1,[],[(0,iH l),(1,.v (.int .u32 top)),(5,nM (stP top ((l.take k).foldl (stP top) [0]) r)),(6,.v (.int .i64 ((k:Int)+1)))]⟩ σ->
     ∃g':Nat,(g'<=l.length/\((l.take g').foldl (stP top) [0]).length<=2*g'+1)/\l.length-g'<l.length-k/\Le 0 ⟨1,[],[(0,iH l),(1,.v (.int .u32 top)),(5,nM ((l.take g').foldl (stP top) [0])),(6,.v (.int .i64 (g':Int)))]⟩ σ:=by
    intro σ h;have:=Kc top ((l.take k).foldl (stP top) [0]) r;exact⟨k+1,⟨by omega,by rw[hs];omega⟩,by omega,by rw[hs];exact h⟩
   generalize (l.take k).foldl (stP top) [0]=out at hs hlen next⊢
   have i1:=wU out r.lo top
   iterate 32 (all_goals((conv=>whnf);first|(with_reducible first|refine hZ hkl ?_|refine hU hr ?_|refine c51 _ _ _ ht0 ht zo ?_)|refine zG ?_|apply zA|intro h|exact zT|skip))
   all_goals
    refine next _ ?_
    unfold stP;first
    |(rw[aH zp];exact⟨[],rfl,⟨rfl,rfl,rfl,rfl,trivial⟩,trivial⟩)
    |(rw[aF zp];exact⟨[],rfl,⟨rfl,rfl,rfl,rfl,trivial⟩,trivial⟩)
  ·iterate 3 (all_goals((conv=>whnf);first|(with_reducible refine hZ hkl ?_)|refine zG ?_|apply zA|intro h|exact zT|skip))
   have e:l.take k=l:=aU hkl;rw[jH]at hK;rw[e];exact hK
def mkR(lo hi:Int):Rg:=if h:0<=lo/\lo<=4294967295/\0<=hi/\hi<=4294967295 then⟨lo,hi,h.1,h.2.1,h.2.2.1,h.2.2.2⟩else⟨0,0,by decide,by decide,by decide,by decide⟩
theorem kC{lo hi:Int}(h0:0<=lo)(h1:lo<=4294967295)(h2:0<=hi)(h3:hi<=4294967295):(mkR lo hi).lo=lo:=by unfold mkR;rw[dif_pos ⟨h0,h1,h2,h3⟩]
theorem kO{lo hi:Int}(h0:0<=lo)(h1:lo<=4294967295)(h2:0<=hi)(h3:hi<=4294967295):(mkR lo hi).hi=hi:=by unfold mkR;rw[dif_pos ⟨h0,h1,h2,h3⟩]
theorem Du{lo hi:Int}(h0:0<=lo)(h1:lo<=4294967295)(h2:0<=hi)(h3:hi<=4294967295):jR (mkR lo hi)=.agg [.v (.int .u32 lo),.v (.int .u32 hi)]:=by
 unfold jR;rw[kC h0 h1 h2 h3,kO h0 h1 h2 h3]
def lQ(top:Int):List Int->List (Int×Int)
 |[]=>[]
 |[x]=>[(x,top)]
 |x::y::r=>(x,y-1)::lQ top (y::r)
def qY(c:Int)(i j:Bool):Bool:=if c=1 then i&&j else if c=2 then i&& !j else if c=3 then !i&& !j else i||j
def mE(f:Int->Bool)(out:List Rg)(s:Int×Int):List Rg:=
 if f s.1 then match out.getLast? with
  |some r=>if r.hi+1=s.1 then out.dropLast++[mkR r.lo s.2]else out++[mkR s.1 s.2]
  |none=>[mkR s.1 s.2]
 else out
def Rh(f:Int->Bool)(st:List Int)(top:Int):List Rg:=(lQ top st).foldl (mE f) []
theorem tH(top:Int):∀st:List Int,(lQ top st).length=st.length
 |[]=>rfl
 |[x]=>rfl
 |x::y::r=>by simp only[lQ,aB,tH top (y::r)]
theorem J6(top:Int):∀(st:List Int) (k:Nat) (x:Int),st[k]? =some x->(lQ top st)[k]? =some (x,match st[k+1]? with|some y=>y-1|none=>top)
 |[],k,x,h=>by simp at h
 |[z],k,x,h=>by
  cases k with
  |zero=>simp at h;subst h;rfl
  |succ k=>simp at h
 |z::y::r,k,x,h=>by
  cases k with
  |zero=>simp at h;subst h;rfl
  |succ k=>
   have:=J6 top (y::r) k x (by simpa using h);simpa[lQ]using this
theorem D5(f:Int->Bool)(out:List Rg)(s:Int×Int):(mE f out s).length<=out.length+1:=by
 unfold mE;split
 ·split
  ·split<;>simp
  ·simp
 ·omega
theorem aUj(l:List Rg)(top:Int)(ht0:0<=top)(ht:top<=4294967295)(hl:l.length<100000)(xs:List AV)(hxs:xs=l.map jR){K:KT}(hK:K (nM (jH l top)) []):
  AC 248 [.lst xs,.v (.int .u32 top)] [] K:=by subst hxs;exact c45 l top ht0 ht hl hK
theorem c38(a b:List Rg)(c top:Int)(ht0:0<=top)(ht:top<=4294967295)(ha:a.length<10000)(hb:b.length<10000)
  (hst:∀x,x∈jH (a++b) top->0<=x/\x<=top)(hpos:∀(k:Nat) x,(jH (a++b) top)[k+1]? =some x->1<=x)(hlen:(jH (a++b) top).length<100000)
  {K:KT}(hK:K (iH (Rh (fun v=>qY c (has a v) (has b v)) (jH (a++b) top) top)) []):
  AC 244 [iH a,iH b,.v (.int .i64 c),.v (.int .u32 top)] [] K:=by
 refine aUO rfl rfl ?_
 iterate 12 (all_goals((conv=>whnf);first|(with_reducible refine aUj (a++b) top ht0 ht (by simp;omega) _ zx ?_)|refine zG ?_|apply zA|intro h|exact zT|skip))
 generalize hst':jH (a++b) top=st at*;generalize hf:(fun v=>qY c (has a v) (has b v))=f at*;refine gM Nat (fun k=>⟨1,[(0,.arr 2 ((((lQ top st).take k).foldl (mE f) []).map jR))],[(0,iH a),(1,iH b),(2,.v (.int .i64 c)),(3,.v (.int .u32 top)),(9,nM st),(10,.os 0 2 0 (((lQ top st).take k).foldl (mE f) []).length),(11,.v (.int .i64 k))]⟩) (fun k=>k<=st.length/\(((lQ top st).take k).foldl (mE f) []).length<=k) (fun k=>st.length-k) 0 ?_ ?_ ?_
 ·exact⟨by omega,by simp⟩
 ·exact⟨[(0,3)],rfl,⟨rfl,rfl,rfl,rfl,rfl,rfl,rfl,trivial⟩,⟨rfl,trivial⟩⟩
 ·intro k ⟨hk,hle⟩;rcases aC k st.length with hkl|hkl
  ·obtain⟨x,hx⟩:=gex hkl;have hx0:=hst x (aI hx);have hsg:=J6 top st k x hx;generalize hto:(match st[k+1]? with|some y=>y-1|none=>top)=to at hsg;have hs:=vB (f:=mE f) (b:=[]) hsg;have hfx:f x=qY c (has a x) (has b x):=by rw[<-hf]
   have hto1:0<=to/\to<=top:=by
    cases hy:st[k+1]? with
    |none=>rw[hy]at hto;simp only at hto;omega
    |some y=>
     rw[hy]at hto;simp only at hto;have:=hst y (aI hy);have:=hpos k y hy;omega
   have next:∀(σ:St) (ρ:List (Nat×Nat)) (xs:List AV) (n:Nat),xs=(mE f (((lQ top st).take k).foldl (mE f) []) (x,to)).map jR->n=(mE f (((lQ top st).take k).foldl (mE f) []) (x,to)).length->
     Le 0 ⟨1,[(0,.arr 2 xs)],[(0,iH a),(1,iH b),(2,.v (.int .i64 c)),(3,.v (.int .u32 top)),(9,nM st),(10,.os 0 2 0 n),(11,.v (.int .i64 ((k:Int)+1)))]⟩ σ->
     ∃g':Nat,(g'<=st.length/\(((lQ top st).take g').foldl (mE f) []).length<=g')/\st.length-g'<st.length-k/\Le 0 ⟨1,[(0,.arr 2 ((((lQ top st).take g').foldl (mE f) []).map jR))],[(0,iH a),(1,iH b),(2,.v (.int .i64 c)),(3,.v (.int .u32 top)),(9,nM st),(10,.os 0 2 0 (((lQ top st).take g').foldl (mE f) []).length),(11,.v (.int .i64 (g':Int)))]⟩ σ:=by
    intro σ ρ xs n h1 h2 h3;have:=D5 f (((lQ top st).take k).foldl (mE f) []) (x,to);exact⟨k+1,⟨by omega,by rw[hs];omega⟩,by omega,by rw[hs,<-h1,<-h2];exact h3⟩
   generalize hout:((lQ top st).take k).foldl (mE f) []=out at hs hle next⊢
   iterate 4 (all_goals((conv=>whnf);first|(with_reducible refine hZ hkl ?_)|refine zG ?_|apply zA|intro h|exact zT|skip))
   refine Jn.at ⟨1,[(0,.arr 2 (out.map jR))],[(0,iH a),(1,iH b),(2,.v (.int .i64 c)),(3,.v (.int .u32 top)),(9,nM st),(10,.os 0 2 0 out.length),(11,.v (.int .i64 k)),(12,.v (.int .u64 to))]⟩ ?_ ?_
   ·rcases aC (k+1) st.length with hk1|hk1
    ·obtain⟨y,hy⟩:∃y,st[k+1]? =some y:=⟨_,aE hk1⟩
     have h1:=hst y (aI hy);have h2:=hpos k y hy;rw[hy]at hto;simp only at hto;subst hto
     iterate 12 (all_goals((conv=>whnf);first|(with_reducible first|refine gU (k+1) zo (by simp;omega) ?_|refine hU hy ?_)|refine zG ?_|apply zA|intro h|exact zT|skip))
     exact⟨(),trivial,[(0,0)],rfl,⟨rfl,rfl,rfl,rfl,rfl,rfl,rfl,rfl,trivial⟩,⟨rfl,trivial⟩⟩
    ·rw[bN hk1]at hto;simp only at hto;subst hto
     iterate 8 (all_goals((conv=>whnf);first|(with_reducible refine hZ hkl ?_)|refine zG ?_|apply zA|intro h|exact zT|skip))
     exact⟨(),trivial,[(0,0)],rfl,⟨rfl,rfl,rfl,rfl,rfl,rfl,rfl,rfl,trivial⟩,⟨rfl,trivial⟩⟩
   (conv=>whnf)
   refine Jn.at ⟨1,[(0,.arr 2 (out.map jR))],[(0,iH a),(1,iH b),(2,.v (.int .i64 c)),(3,.v (.int .u32 top)),(9,nM st),(10,.os 0 2 0 out.length),(11,.v (.int .i64 k)),(12,.v (.int .u64 to)),(13,.sb (has a x)),(14,.sb (has b x))]⟩ ?_ ?_
   ·iterate 24 (all_goals((conv=>whnf);first|(with_reducible first|refine hZ hkl ?_|refine hU hx ?_|refine c34 a x zo ?_|refine c34 b x zo ?_)|refine zG ?_|apply zA|intro h|exact zT|skip))
    all_goals exact⟨(),trivial,[(0,0)],rfl,⟨rfl,rfl,rfl,rfl,rfl,rfl,rfl,rfl,rfl,rfl,trivial⟩,⟨rfl,trivial⟩⟩
   (conv=>whnf)
   -- what was asked, in whatever form
   refine gY AV (fun y=>⟨1,[(0,.arr 2 (out.map jR))],[(0,iH a),(1,iH b),(2,.v (.int .i64 c)),(3,.v (.int .u32 top)),(9,nM st),(10,.os 0 2 0 out.length),(11,.v (.int .i64 k)),(12,.v (.int .u64 to)),(13,.sb (has a x)),(14,.sb (has b x)),(15,y)]⟩) (fun y=>y=.sb (has a x||has b x)\/y=.v (.bool (has a x||has b x))) ?_ ?_
   ·iterate 8 (all_goals((conv=>whnf);first|(with_reducible refine hZ hkl ?_)|refine zG ?_|apply zA|intro h|exact zT|skip))
    ·exact⟨.v (.bool true),.inr (by rw[h];rfl),[(0,0)],rfl,⟨rfl,rfl,rfl,rfl,rfl,rfl,rfl,rfl,rfl,rfl,rfl,trivial⟩,⟨rfl,trivial⟩⟩
    ·exact⟨.sb (has b x),.inl (by rw[h];rfl),[(0,0)],rfl,⟨rfl,rfl,rfl,rfl,rfl,rfl,rfl,rfl,rfl,rfl,rfl,trivial⟩,⟨rfl,trivial⟩⟩
   intro y hy;(conv=>whnf)
   refine gY AV (fun y=>⟨1,[(0,.arr 2 (out.map jR))],[(0,iH a),(1,iH b),(2,.v (.int .i64 c)),(3,.v (.int .u32 top)),(9,nM st),(10,.os 0 2 0 out.length),(11,.v (.int .i64 k)),(12,.v (.int .u64 to)),(15,y)]⟩) (fun y=>y=.sb (f x)\/y=.v (.bool (f x))) ?_ ?_
   ·rcases hy with rfl|rfl
    all_goals
     iterate 20 (all_goals((conv=>whnf);first|(with_reducible refine hZ hkl ?_)|refine zG ?_|apply zA|intro h|exact zT|skip))
    all_goals first|exact⟨.sb (has b x),.inl (by rw[hfx];simp_all[qY]),[(0,0)],rfl,⟨rfl,rfl,rfl,rfl,rfl,rfl,rfl,rfl,rfl,trivial⟩,⟨rfl,trivial⟩⟩|exact⟨.sb (!has b x),.inl (by rw[hfx];simp_all[qY]),[(0,0)],rfl,⟨rfl,rfl,rfl,rfl,rfl,rfl,rfl,rfl,rfl,trivial⟩,⟨rfl,trivial⟩⟩|exact⟨.v (.bool true),.inr (by rw[hfx];simp_all[qY]),[(0,0)],rfl,⟨rfl,rfl,rfl,rfl,rfl,rfl,rfl,rfl,rfl,trivial⟩,⟨rfl,trivial⟩⟩|exact⟨.v (.bool false),.inr (by rw[hfx];simp_all[qY]),[(0,0)],rfl,⟨rfl,rfl,rfl,rfl,rfl,rfl,rfl,rfl,rfl,trivial⟩,⟨rfl,trivial⟩⟩|exact⟨.sb (has a x||has b x),.inl (by rw[hfx];simp_all[qY]),[(0,0)],rfl,⟨rfl,rfl,rfl,rfl,rfl,rfl,rfl,rfl,rfl,trivial⟩,⟨rfl,trivial⟩⟩|exact⟨.v (.bool (has a x||has b x)),.inr (by rw[hfx];simp_all[qY]),[(0,0)],rfl,⟨rfl,rfl,rfl,rfl,rfl,rfl,rfl,rfl,rfl,trivial⟩,⟨rfl,trivial⟩⟩
   clear hy y;intro y hy;(conv=>whnf)
   refine gY Unit (fun _=>⟨1,[(0,.arr 2 (out.map jR))],[(0,iH a),(1,iH b),(2,.v (.int .i64 c)),(3,.v (.int .u32 top)),(9,nM st),(10,.os 0 2 0 out.length),(11,.v (.int .i64 k)),(12,.v (.int .u64 to))]⟩) (fun _=>f x=true) ?_ ?_
   ·have out18:f x=false->mE f out (x,to)=out:=fun h=>by simp[mE,h]
    cases hb:f x
    all_goals
     rw[hb]at hy;rcases hy with rfl|rfl
    all_goals iterate 8 (all_goals((conv=>whnf);first|(with_reducible first|refine hZ hkl ?_|refine aPX rfl ?_|refine aPW rfl ?_)|refine zG ?_|apply zA|intro h|exact zT|skip))
    all_goals first
     |exact⟨(),rfl,[(0,0)],rfl,⟨rfl,rfl,rfl,rfl,rfl,rfl,rfl,rfl,trivial⟩,⟨rfl,trivial⟩⟩
     |exact next _ [] _ _ (by rw[out18 hb]) (by rw[out18 hb]) ⟨[(0,0)],rfl,⟨rfl,rfl,rfl,rfl,rfl,rfl,rfl,trivial⟩,⟨rfl,trivial⟩⟩
   clear hy y;intro _ hb;rcases cT out with hnil|⟨ini,r,hcat⟩
   ·subst hnil
    iterate 20 (all_goals((conv=>whnf);first|(with_reducible first|refine hZ hkl ?_|refine hU hx ?_)|refine zG ?_|apply zA|intro h|exact zT|skip))
    exact next _ [] _ _ (by simp only[mE,hb,if_true,List.getLast?_nil,aR,bL,dL];rw[Du zo zo zo zo]) (by simp[mE,hb]) ⟨[(0,2)],rfl,⟨rfl,rfl,rfl,rfl,rfl,rfl,rfl,trivial⟩,⟨rfl,trivial⟩⟩
   ·rw[cU]at hcat;subst hcat;have b1:=r.l0;have b2:=r.l1;have b3:=r.h0;have b4:=r.h1;have hr:(ini++[r])[ini.length]? =some r:=by simp
    have hr0:(ini++[r])[0+ini.length]? =some r:=by simp
    have hj:((((ini++[r]).length:Nat):Int)-1=ini.length)/\ini.length<(ini++[r]).length:=by simp
    iterate 40 (all_goals((conv=>whnf);first|(with_reducible first|refine hZ hkl ?_|refine hU hx ?_|refine gU ini.length hj.1 hj.2 ?_|refine hU hr ?_|refine hU hr0 ?_)|refine zG ?_|apply zA|intro h|exact zT|skip))
    ·have e:mE f (ini++[r]) (x,to)=ini++[mkR r.lo to]:=by
      simp only[mE,hb,if_true,cS,cH,dN,dI];rw[aH zp]
     refine next _ [] _ _ ?_ ?_ ⟨[(0,0)],rfl,⟨rfl,rfl,rfl,rfl,rfl,rfl,rfl,trivial⟩,⟨rfl,trivial⟩⟩
     ·rw[e,aQ,aQ,dZ _ _ zx];simp only[aR,bL,aA,bD,dT,List.set_cons_zero];rw[Du zo zo zo zo]
     ·rw[e];simp
    ·have e:mE f (ini++[r]) (x,to)=ini++[r]++[mkR x to]:=by
      simp only[mE,hb,if_true,cS,cH,dN,dI];rw[aF zp]
     refine next _ [] _ _ ?_ ?_ ⟨[(0,2)],rfl,⟨rfl,rfl,rfl,rfl,rfl,rfl,rfl,trivial⟩,⟨rfl,trivial⟩⟩
     ·rw[e,aQ (l₁:=ini++[r]),aR,bL,Du zo zo zo zo]
     ·rw[e];simp
  ·have hkk:((lQ top st).take k).foldl (mE f) []=Rh f st top:=by
    rw[aU (by rw[tH];exact hkl)];rfl
   rw[hkk]
   iterate 8 (all_goals((conv=>whnf);first|(with_reducible refine hZ hkl ?_)|refine zG ?_|apply zA|intro h|exact zT|skip))
   exact hK
def jC(l:List Rg):Prop:=(∀r,r∈l->r.lo<=r.hi)/\l.Pairwise fun r s=>r.hi+1<s.lo
theorem Rg.ext'{r s:Rg}(h1:r.lo=s.lo)(h2:r.hi=s.hi):r=s:=by cases r;cases s;simp_all
theorem K4:∀{l m:List Rg},jC l->jC m->(∀v,has l v=has m v)->l=m
 |[],[],_,_,_=>rfl
 |[],s::m,_,hm,h=>by
  have h1:=h s.lo;have h2:has (s::m) s.lo=true:=has_iff.2 ⟨s,by simp,cC _,hm.1 s zx⟩;rw[h2]at h1;simp[has]at h1
 |r::l,[],hl,_,h=>by
  have h1:=h r.lo;have h2:has (r::l) r.lo=true:=has_iff.2 ⟨r,by simp,cC _,hl.1 r zx⟩;rw[h2]at h1;simp[has]at h1
 |r::l,s::m,hl,hm,h=>by
  have hr:=hl.1 r zx;have hs:=hm.1 s zx;have pl:=(bW.1 hl.2).1;have pm:=(bW.1 hm.2).1;have mem:∀{r:Rg} {l:List Rg} {v:Int},has (r::l) v=true->(∀s,s∈l->r.hi+1<s.lo)->r.lo<=r.hi->r.lo<=v/\(v<=r.hi\/r.hi+1<v):=by
   intro r l v h hp hr;obtain⟨t,ht,h1,h2⟩:=has_iff.1 h;rcases aV.1 ht with rfl|ht
   ·omega
   ·have:=hp t ht;omega
  have a1:=mem (v:=r.lo) ((h r.lo).symm.trans (has_iff.2 ⟨r,by simp,cC _,hr⟩)) pm hs;have a2:=mem (v:=s.lo) ((h s.lo).trans (has_iff.2 ⟨s,by simp,cC _,hs⟩)) pl hr;have elo:r.lo=s.lo:=by omega
  have ehi:r.hi=s.hi:=by
   rcases Int.lt_trichotomy r.hi s.hi with hlt|heq|hgt
   ·have:=mem (v:=r.hi+1) ((h (r.hi+1)).trans (has_iff.2 ⟨s,by simp,by omega,by omega⟩)) pl hr;omega
   ·exact heq
   ·have:=mem (v:=s.hi+1) ((h (s.hi+1)).symm.trans (has_iff.2 ⟨r,by simp,by omega,by omega⟩)) pm hs;omega
  have ers:r=s:=Rg.ext' elo ehi;subst ers;have htl:l=m:=by
   refine K4 ⟨fun t ht=>hl.1 t (by simp[ht]),(bW.1 hl.2).2⟩ ⟨fun t ht=>hm.1 t (by simp[ht]),(bW.1 hm.2).2⟩ fun v=>?_;have key:∀{l m:List Rg},(∀s,s∈l->r.hi+1<s.lo)->(∀v,has (r::l) v=has (r::m) v)->has l v=true->has m v=true:=by
    intro l m hp hh hv;obtain⟨t,ht,h1,h2⟩:=has_iff.1 hv;have h3:has (r::m) v=true:=(hh v).symm.trans (has_iff.2 ⟨t,by simp[ht],h1,h2⟩);obtain⟨u,hu,h4,h5⟩:=has_iff.1 h3;rcases aV.1 hu with rfl|hu
    ·have:=hp t ht;omega
    ·exact has_iff.2 ⟨u,hu,h4,h5⟩
   rw[bK];exact⟨key pl h,key pm fun v=>(h v).symm⟩
  rw[htl]
theorem nN(l m:List Rg)(v:Int):has (l++m) v=(has l v||has m v):=by simp[has]
theorem tC(r:Rg)(v:Int):has [r] v=(decide (r.lo<=v)&&decide (v<=r.hi)):=by simp[has]
theorem kL{l:List Rg}{r:Rg}(hl:jC l)(hr:r.lo<=r.hi)(hp:∀s,s∈l->s.hi+1<r.lo):jC (l++[r]):=by
 refine⟨fun s hs=>?_,?_⟩
 ·rcases aY.1 hs with hs|hs
  ·exact hl.1 s hs
  ·simp at hs;subst hs;exact hr
 ·rw[dM];refine⟨hl.2,by simp,fun s hs t ht=>?_⟩;simp at ht;subst ht;exact hp s hs
structure KInv (f:Int->Bool) (out:List Rg) (p:Int):Prop where
 canon:jC out
 mem:∀v,has out v=(decide (0<=v)&&(decide (v<p)&&f v))
 below:∀r,r∈out->r.hi<p
theorem Lx{f:Int->Bool}{out:List Rg}{p to:Int}(h:KInv f out p)(h0:0<=p)(h1:p<=to)(h2:to<=4294967295)(hc:∀v,p<=v->v<=to->f v=f p):KInv f (mE f out (p,to)) (to+1):=by
 have mem_of:∀(o:List Rg),(∀v,has o v=(has out v||(decide (p<=v)&&decide (v<=to))))->f p=true->∀v,has o v=(decide (0<=v)&&(decide (v<to+1)&&f v)):=by
  intro o ho hf v;rw[ho,h.mem,bK];simp only[bR,aJ,aM];constructor
  ·rintro(⟨a,b,c⟩|⟨a,b⟩)
   ·exact⟨a,by omega,c⟩
   ·exact⟨by omega,by omega,by rw[hc v a b];exact hf⟩
  ·rintro⟨a,b,c⟩
   rcases dW v p with hv|hv
   ·exact .inl ⟨a,hv,c⟩
   ·exact .inr ⟨hv,by omega⟩
 unfold mE;simp only;cases hf:f p with
 |false=>
  simp only[bT,if_false];refine⟨h.canon,fun v=>?_,fun r hr=>by have:=h.below r hr;omega⟩;rw[h.mem,bK];simp only[aJ,aM];constructor
  ·rintro⟨a,b,c⟩;exact⟨a,by omega,c⟩
  ·rintro⟨a,b,c⟩
   refine⟨a,?_,c⟩;rcases dW v p with hv|hv
   ·exact hv
   ·have:=hc v hv zo;rw[c,hf]at this;cases this
 |true=>
  simp only[if_true];rcases cT out with hnil|⟨ini,r,hcat⟩
  ·subst hnil;simp only[List.getLast?_nil];refine⟨?_,mem_of _ (fun v=>?_) hf,fun r hr=>?_⟩
   ·have:=kL h.canon (r:=mkR p to) (by rw[kC zo zo zo zo,kO zo zo zo zo];omega) (fun s hs=>by simp at hs);simpa using this
   ·rw[tC,kC zo zo zo zo,kO zo zo zo zo];simp[has]
   ·simp at hr;subst hr;rw[kO zo zo zo zo];omega
  ·rw[cU]at hcat;subst hcat;simp only[cS,cH,dN,dI];have hrp:=h.below r zx;have hpw:=dM.1 h.canon.2;have hr1:=h.canon.1 r zx;split
   ·rename_i he;have b1:=r.l0;have b2:=r.l1;have ci:jC ini:=⟨fun t ht=>h.canon.1 t (by simp[ht]),hpw.1⟩
    refine⟨kL ci (by rw[kC zo zo zo zo,kO zo zo zo zo];omega) (fun s hs=>?_),mem_of _ (fun v=>?_) hf,fun t ht=>?_⟩
    ·rw[kC zo zo zo zo];exact hpw.2.2 s hs r zx
    ·rw[nN,nN,tC,tC,kC zo zo zo zo,kO zo zo zo zo,bK];simp only[bR,aJ,aM];constructor
     ·rintro(a|⟨a,b⟩)
      ·exact .inl (.inl a)
      ·rcases dW v p with hv|hv
       ·exact .inl (.inr ⟨a,by omega⟩)
       ·exact .inr ⟨hv,b⟩
     ·rintro((a|⟨a,b⟩)|⟨a,b⟩)
      ·exact .inl a
      ·exact .inr ⟨a,by omega⟩
      ·exact .inr ⟨by omega,b⟩
    ·rcases aY.1 ht with ht|ht
     ·have:=h.below t (by simp[ht]);omega
     ·simp at ht;subst ht;rw[kO zo zo zo zo];omega
   ·rename_i he;refine⟨kL h.canon (by rw[kC zo zo zo zo,kO zo zo zo zo];omega) (fun s hs=>?_),mem_of _ (fun v=>?_) hf,fun t ht=>?_⟩
    ·rw[kC zo zo zo zo];rcases aY.1 hs with hs|hs
     ·have:=hpw.2.2 s hs r zx;omega
     ·simp at hs;subst hs;omega
    ·rw[nN,tC,kC zo zo zo zo,kO zo zo zo zo]
    ·rcases aY.1 ht with ht|ht
     ·have:=h.below t ht;omega
     ·simp at ht;subst ht;rw[kO zo zo zo zo];omega
theorem I5{f:Int->Bool}{top:Int}(htop:top<=4294967295):∀(st:List Int) (p:Int) (out:List Rg),KInv f out p->(p::st).Pairwise (· < ·)->(∀x,x∈p::st->0<=x/\x<=top)->
  (∀s,s∈lQ top (p::st)->∀v,s.1<=v->v<=s.2->f v=f s.1)->KInv f ((lQ top (p::st)).foldl (mE f) out) (top+1)
 |[],p,out,h,hp,hb,hc=>by
  have:=hb p zx;exact Lx h zo zo htop (hc (p,top) (by simp[lQ]))
 |q::st,p,out,h,hp,hb,hc=>by
  have h1:=hb p zx;have h2:=hb q zx;have h3:p<q:=(bW.1 hp).1 q zx;have k:=Lx (to:=q-1) h zo zo zo (hc (p,q-1) (by simp[lQ]));rw[show q-1+1=q by omega]at k;exact I5 htop st q _ k (bW.1 hp).2 (fun x hx=>hb x (by simp at hx⊢;exact .inr hx)) (fun s hs=>hc s (by simp only[lQ,aV];exact .inr hs))
theorem mem_ins:∀{l:List Int} {v x:Int},x∈ins l v↔x∈l\/x=v
 |[],v,x=>by simp[ins]
 |y::l,v,x=>by
  simp only[ins];split
  ·rw[aV,mem_ins (l:=l),aV,or_assoc]
  ·split
   ·rename_i h;subst h;simp only[aV];constructor
    ·intro h;exact .inl h
    ·rintro(h|h)
     ·exact h
     ·exact .inl h
   ·simp only[aV];constructor
    ·rintro(h|h|h)
     ·exact .inr h
     ·exact .inl (.inl h)
     ·exact .inl (.inr h)
    ·rintro((h|h)|h)
     ·exact .inr (.inl h)
     ·exact .inr (.inr h)
     ·exact .inl h
theorem Jl:∀{l:List Int} {v:Int},l.Pairwise (· < ·)->(ins l v).Pairwise (· < ·)
 |[],v,h=>by simp[ins]
 |y::l,v,h=>by
  have⟨h1,h2⟩:=bW.1 h;simp only[ins];split
  ·rename_i hy;refine bW.2 ⟨fun x hx=>?_,Jl h2⟩;rcases mem_ins.1 hx with hx|rfl
   ·exact h1 x hx
   ·exact hy
  ·split
   ·exact h
   ·rename_i h3 h4;refine bW.2 ⟨fun x hx=>?_,h⟩;rcases aV.1 hx with rfl|hx
    ·omega
    ·have:=h1 x hx;omega
structure SInv (top:Int) (out:List Int):Prop where
 sorted:out.Pairwise (· < ·)
 zero:∃r,out=0::r
 range:∀x,x∈out->0<=x/\x<=top
theorem SInv.insT{top v:Int}{out:List Int}(h:SInv top out)(hv:0<=v):SInv top (insT out v top):=by
 unfold Go.Proofs.YtnomkooikbhgmaaGreatDoor.insT;split
 ·exact h
 ·refine⟨Jl h.sorted,?_,fun x hx=>?_⟩
  ·obtain⟨r,hr⟩:=h.zero;subst hr;simp only[ins];split
   ·exact⟨_,rfl⟩
   ·split
    ·exact⟨_,rfl⟩
    ·omega
  ·rcases mem_ins.1 hx with hx|rfl
   ·exact h.range x hx
   ·omega
theorem SInv.stP{top:Int}{out:List Int}{r:Rg}(h:SInv top out):SInv top (stP top out r):=by
 unfold Go.Proofs.YtnomkooikbhgmaaGreatDoor.stP;split
 ·exact(h.insT r.l0).insT (by have:=r.h0;omega)
 ·exact h
theorem mem_insT{l:List Int}{v top x:Int}:x∈insT l v top↔x∈l\/(x=v/\x<=top):=by
 unfold insT;split
 ·constructor
  ·exact .inl
  ·rintro(h|⟨rfl,h⟩)
   ·exact h
   ·omega
 ·rw[mem_ins];constructor
  ·rintro(h|rfl)
   ·exact .inl h
   ·exact .inr ⟨rfl,by omega⟩
  ·rintro(h|⟨h,_⟩)
   ·exact .inl h
   ·exact .inr h
theorem aDV{top:Int}{out:List Int}{r:Rg}{x:Int}(h:x∈out):x∈stP top out r:=by
 unfold stP;split
 ·exact mem_insT.2 (.inl (mem_insT.2 (.inl h)))
 ·exact h
theorem Dy:∀(l:List Rg) {top:Int} {out:List Int},SInv top out->SInv top (l.foldl (stP top) out)/\(∀x,x∈out->x∈l.foldl (stP top) out)/\
  (∀r,r∈l->r.lo<=r.hi->(r.lo<=top->r.lo∈l.foldl (stP top) out)/\(r.hi+1<=top->r.hi+1∈l.foldl (stP top) out))/\(l.foldl (stP top) out).length<=out.length+2*l.length
 |[],top,out,h=>⟨h,fun x hx=>hx,fun r hr=>by simp at hr,by simp⟩
 |r::l,top,out,h=>by
  obtain⟨h1,h2,h3,h4⟩:=Dy l (h.stP (r:=r));refine⟨h1,fun x hx=>h2 x (aDV hx),fun s hs hle=>?_,?_⟩
  ·rcases aV.1 hs with rfl|hs
   ·refine⟨fun ht=>h2 _ ?_,fun ht=>h2 _ ?_⟩
    ·unfold stP;rw[aH hle];exact mem_insT.2 (.inl (mem_insT.2 (.inr ⟨rfl,ht⟩)))
    ·unfold stP;rw[aH hle];exact mem_insT.2 (.inr ⟨rfl,ht⟩)
   ·exact h3 s hs hle
  ·have:=Kc top out r;simp only[eG,aB];omega
theorem nT(l:List Rg){top:Int}(ht:0<=top):SInv top (jH l top):=(Dy l ⟨by simp,⟨[],rfl⟩,fun x hx=>by simp at hx;subst hx;omega⟩).1
theorem Db(l:List Rg){top:Int}(ht:0<=top){r:Rg}(hr:r∈l)(hle:r.lo<=r.hi):(r.lo<=top->r.lo∈jH l top)/\(r.hi+1<=top->r.hi+1∈jH l top):=
 (Dy l ⟨by simp,⟨[],rfl⟩,fun x hx=>by simp at hx;subst hx;omega⟩).2.2.1 r hr hle
theorem qN(l:List Rg){top:Int}(ht:0<=top):(jH l top).length<=2*l.length+1:=by
 have:=(Dy (top:=top) l (out:=[0]) ⟨by simp,⟨[],rfl⟩,fun x hx=>by simp at hx;subst hx;omega⟩).2.2.2;simp only[jH,aB,aG]at this⊢;omega
theorem F0:∀(st:List Int) {top:Int},st.Pairwise (· < ·)->(∀x,x∈st->x<=top)->∀s,s∈lQ top st->s.2<=top/\s.1∈st/\∀x,x∈st->¬(s.1<x/\x<=s.2)
 |[],top,_,_,s,hs=>by simp[lQ]at hs
 |[p],top,hp,hb,s,hs=>by
  simp[lQ]at hs;subst hs;exact⟨cC _,by simp,fun x hx=>by simp at hx;subst hx;omega⟩
 |p::q::st,top,hp,hb,s,hs=>by
  simp only[lQ,aV]at hs;have⟨h1,h2⟩:=bW.1 hp;rcases hs with rfl|hs
  ·refine⟨by have:=hb q zx;simp only;omega,by simp,fun x hx=>?_⟩;rcases aV.1 hx with rfl|hx
   ·simp only;omega
   ·rcases aV.1 hx with rfl|hx
    ·simp only;omega
    ·have:=(bW.1 h2).1 x hx;simp only;omega
  ·obtain⟨a,b,c⟩:=F0 (q::st) h2 (fun x hx=>hb x (by simp at hx⊢;exact .inr hx)) s (by simpa[lQ]using hs);refine⟨a,by simp at b⊢;exact .inr b,fun x hx=>?_⟩;rcases aV.1 hx with rfl|hx
   ·have:=h1 s.1 b;omega
   ·exact c x hx
theorem xZ{l a:List Rg}{top:Int}(ht:0<=top)(hsub:∀r,r∈a->r∈l){s:Int×Int}(hs:s∈lQ top (jH l top)){v:Int}(h1:s.1<=v)(h2:v<=s.2):has a v=has a s.1:=by
 have inv:=nT l ht;obtain⟨g1,g2,g3⟩:=F0 _ inv.sorted (fun x hx=>(inv.range x hx).2) s hs;rw[bK,has_iff,has_iff];constructor
 ·rintro⟨r,hr,a1,a2⟩
  refine⟨r,hr,?_,by omega⟩;rcases dW s.1 r.lo with h|h
  ·exact absurd ⟨h,by omega⟩ (g3 r.lo ((Db l ht (hsub r hr) zo).1 zo))
  ·exact h
 ·rintro⟨r,hr,a1,a2⟩
  refine⟨r,hr,by omega,?_⟩;rcases dW r.hi v with h|h
  ·exact absurd ⟨by omega,by omega⟩ (g3 (r.hi+1) ((Db l ht (hsub r hr) zo).2 zo))
  ·exact h
theorem uE(f:Int->Bool):∀(l:List (Int×Int)) (out:List Rg),(l.foldl (mE f) out).length<=out.length+l.length
 |[],out=>by simp
 |s::l,out=>by
  have:=D5 f out s;have:=uE f l (mE f out s);simp only[eG,aB];omega
theorem keep(a b:List Rg)(c top:Int)(ht0:0<=top)(ht:top<=4294967295)(ha:a.length<10000)(hb:b.length<10000)
  {K:KT}(hK:∀out,jC out->(∀v,has out v=(decide (0<=v)&&(decide (v<top+1)&&qY c (has a v) (has b v))))->out.length<=2*(a.length+b.length)+1->K (iH out) []):
  AC 244 [iH a,iH b,.v (.int .i64 c),.v (.int .u32 top)] [] K:=by
 have inv:=nT (a++b) ht0;have hl:=qN (a++b) ht0;obtain⟨r0,hr0⟩:=inv.zero;rw[aD]at hl;refine c38 a b c top ht0 ht ha hb inv.range (fun k x hx=>?_) zo ?_
 ·rw[hr0]at hx;have:=(bW.1 (hr0▸inv.sorted)).1 x (aI (by simpa using hx));omega
 ·have hk:KInv (fun v=>qY c (has a v) (has b v)) (Rh (fun v=>qY c (has a v) (has b v)) (jH (a++b) top) top) (top+1):=by
   unfold Rh;have hseg:∀s,s∈lQ top (jH (a++b) top)->∀v,s.1<=v->v<=s.2->(fun v=>qY c (has a v) (has b v)) v=(fun v=>qY c (has a v) (has b v)) s.1:=by
    intro s hs v h1 h2;simp only;rw[xZ ht0 (fun r hr=>aY.2 (.inl hr)) hs h1 h2,xZ ht0 (fun r hr=>aY.2 (.inr hr)) hs h1 h2]
   have hsort:=inv.sorted;have hrange:=inv.range;rw[hr0]at hseg hsort hrange⊢;refine I5 ht r0 0 [] ⟨⟨fun r hr=>by simp at hr,by simp⟩,fun v=>?_,fun r hr=>by simp at hr⟩ hsort hrange hseg;rw[bK];simp only[has,List.any_nil,bT,aJ,aM,false_iff];omega
  refine hK _ hk.canon hk.mem ?_;have:=uE (fun v=>qY c (has a v) (has b v)) (lQ top (jH (a++b) top)) [];rw[tH]at this;unfold Rh;simp only[aG]at this;omega
theorem zQ{l:List Rg}{v:Int}(h:has l v=true):0<=v/\v<=4294967295:=by
 obtain⟨r,_,h1,h2⟩:=has_iff.1 h;have:=r.l0;have:=r.h1;omega
theorem oS(v:Int):has [] v=false:=rfl
theorem c14(a b:List Rg)(ha:a.length<10000)(hb:b.length<10000){K:KT}(hK:∀out,jC out->(∀v,has out v=(has a v||has b v))->out.length<=2*(a.length+b.length)+1->K (iH out) []):
  AC 175 [iH a,iH b] [] K:=by
 refine aUF rfl rfl ?_;(conv=>whnf)
 refine keep a b 0 4294967295 zo zo ha hb fun out h1 h2 h3=>?_;(conv=>whnf)
 refine hK out h1 (fun v=>?_) h3;rw[h2,bK];simp only[aJ,aM,qY,bR,reduceCtorEq,Int.reduceEq,if_false];constructor
 ·rintro⟨_,_,h⟩;exact h
 ·intro h;have:=h.elim zQ zQ;exact⟨by omega,by omega,h⟩
theorem c26(a b:List Rg)(ha:a.length<10000)(hb:b.length<10000){K:KT}(hK:∀out,jC out->(∀v,has out v=(has a v&&has b v))->out.length<=2*(a.length+b.length)+1->K (iH out) []):
  AC 241 [iH a,iH b] [] K:=by
 refine aUJ rfl rfl ?_;(conv=>whnf)
 refine keep a b 1 4294967295 zo zo ha hb fun out h1 h2 h3=>?_;(conv=>whnf)
 refine hK out h1 (fun v=>?_) h3;rw[h2,bK];simp only[aJ,aM,qY,if_true];constructor
 ·rintro⟨_,_,h⟩;exact h
 ·intro h;have:=zQ h.1;exact⟨by omega,by omega,h⟩
def g28:Ctx:={N:=44,plan:=p1 4 (lo 29) pn}
abbrev aUK:=ofD g28 Tryz.func260
theorem rT:jC []:=⟨fun r hr=>by simp at hr,by simp⟩
theorem Ii{l:List Rg}{k:Nat}{r:Rg}(hr:l[k]? =some r)(hc:jC (l.take k)):jC (l.take (k+1))↔r.lo<=r.hi/\∀p,0<k->l[k-1]? =some p->p.hi+1<r.lo:=by
 have e:l.take (k+1)=l.take k++[r]:=by rw[bF,hr];rfl
 rw[e];constructor
 ·intro h;refine⟨h.1 r zx,fun p hk hp=>?_⟩;refine(dM.1 h.2).2.2 p ?_ r zx;exact aI (i:=k-1) (by rw[List.getElem?_take_of_lt zo];exact hp)
 ·rintro⟨h1,h2⟩
  refine kL hc h1 fun s hs=>?_;cases k with
  |zero=>simp at hs
  |succ k=>
   have hlt:k<l.length:=by
    have:=(aP.1 hr).1;omega
   have hp:l[k]? =some l[k]:=aE hlt;have h3:=h2 l[k] zo zx;have e2:l.take (k+1)=l.take k++[l[k]]:=by rw[bF,hp];rfl
   rw[e2]at hc hs;have hle:=hc.1 l[k] (aY.2 (.inr (aW.2 rfl)));rcases aY.1 hs with hs|hs
   ·have:=(dM.1 hc.2).2.2 s hs l[k] (aW.2 rfl);omega
   ·simp at hs;subst hs;exact h3
theorem Ij{l:List Rg}(h:jC l)(k:Nat):jC (l.take k):=
 ⟨fun r hr=>h.1 r (cL hr),h.2.sublist (List.take_sublist k l)⟩
def M5(l:List Rg)(top:Int)(k:Nat):Prop:=jC (l.take k)/\∀r,r∈l.take k->r.hi<=top
theorem Mw(l:List Rg)(top:Int):M5 l top 0:=⟨by simp[rT],fun r hr=>by simp at hr⟩
theorem Mv{l:List Rg}{top:Int}{k:Nat}{r:Rg}(hr:l[k]? =some r)(h:M5 l top k)(h1:r.lo<=r.hi)(h2:r.hi<=top)(h3:∀p,0<k->l[k-1]? =some p->p.hi+1<r.lo):M5 l top (k+1):=by
 refine⟨(Ii hr h.1).2 ⟨h1,h3⟩,fun s hs=>?_⟩;rw[bF,hr]at hs;rcases aY.1 hs with hs|hs
 ·exact h.2 s hs
 ·simp at hs;subst hs;exact h2
theorem Sw{l:List Rg}{top:Int}{k:Nat}{r:Rg}(hr:l[k]? =some r)(h:¬(r.lo<=r.hi/\r.hi<=top/\∀p,0<k->l[k-1]? =some p->p.hi+1<r.lo)):¬(jC l/\∀r,r∈l->r.hi<=top):=by
 rintro⟨h1,h2⟩
 have h3:=(Ii hr (Ij h1 k)).1 (Ij h1 (k+1));exact h ⟨h3.1,h2 r (aI hr),h3.2⟩
theorem c33(l:List Rg)(top:Int)(hl:l.length<100000){K:KT}(hK:∀s,(s=true↔jC l/\∀r,r∈l->r.hi<=top)->K (.sb s) []):
  AC 240 [iH l,.v (.int .u32 top)] [] K:=by
 refine gP (aUM rfl rfl ?_);(conv=>whnf)
 refine gM Nat (fun k=>⟨0,[],[(0,iH l),(1,.v (.int .u32 top)),(5,.v (.int .i64 k))]⟩) (fun k=>k<=l.length/\M5 l top k) (fun k=>l.length-k) 0 ?_ ?_ ?_
 ·exact⟨by omega,Mw l top⟩
 ·exact⟨[],rfl,⟨rfl,rfl,rfl,trivial⟩,trivial⟩
 ·intro k ⟨hk,hinv⟩;rcases aC k l.length with hkl|hkl
  ·obtain⟨r,hr⟩:=gex hkl;have b1:=r.l0;have b2:=r.l1;have b3:=r.h0;have b4:=r.h1;have no:¬(r.lo<=r.hi/\r.hi<=top/\∀p,0<k->l[k-1]? =some p->p.hi+1<r.lo)->K (.sb false) []:=fun h=>hK false (iff_of_false zx (Sw hr h));have next:∀σ,r.lo<=r.hi->r.hi<=top->(∀p,0<k->l[k-1]? =some p->p.hi+1<r.lo)->Le 0 ⟨0,[],[(0,iH l),(1,.v (.int .u32 top)),(5,.v (.int .i64 ((k:Int)+1)))]⟩ σ->
     ∃g':Nat,(g'<=l.length/\M5 l top g')/\l.length-g'<l.length-k/\Le 0 ⟨0,[],[(0,iH l),(1,.v (.int .u32 top)),(5,.v (.int .i64 (g':Int)))]⟩ σ:=
    fun σ h1 h2 h3 hle=>⟨k+1,⟨by omega,Mv hr hinv h1 h2 h3⟩,by omega,hle⟩
   rcases cK k with hk0|hk0
   ·iterate 40 (all_goals((conv=>whnf);first|(with_reducible first|refine hZ hkl ?_|refine hU hr ?_)|refine zG ?_|apply zA|intro h|exact zT|skip))
    all_goals first
     |exact next _ zo zo (by intros;omega) ⟨[],rfl,⟨rfl,rfl,rfl,trivial⟩,trivial⟩
     |exact .inl ⟨false,rfl,no zo⟩
   ·obtain⟨p,hp⟩:∃p,l[k-1]? =some p:=⟨_,aE zo⟩
    have p3:=p.h0;have p4:=p.h1;have hj:((k:Int)-1=((k-1:Nat):Int))/\k-1<(l.map jR).length:=by rw[aA];omega
    iterate 40 (all_goals((conv=>whnf);first|(with_reducible first|refine hZ hkl ?_|refine hU hr ?_|refine gU (k-1) hj.1 hj.2 ?_|refine hU hp ?_)|refine zG ?_|apply zA|intro h|exact zT|skip))
    all_goals first
     |exact next _ zo zo (fun q _ hq=>by rw[hp]at hq;cases hq;omega) ⟨[],rfl,⟨rfl,rfl,rfl,trivial⟩,trivial⟩
     |exact .inl ⟨false,rfl,no (fun hh=>by have:=hh.2.2 p hk0 hp;omega)⟩
  ·iterate 6 (all_goals((conv=>whnf);first|(with_reducible refine hZ hkl ?_)|refine zG ?_|apply zA|intro h|exact zT|skip))
   have e:l.take k=l:=aU hkl;refine .inl ⟨true,rfl,hK true (iff_of_true rfl ?_)⟩;unfold M5 at hinv;rw[e]at hinv;exact hinv
theorem c28(l:List Rg)(top:Int)(hl:l.length<100000){K:KT}(hK:∀s,(s=true↔jC l/\∀r,r∈l->r.hi<=top)->K (.sb s) []):
  AC 260 [iH l,.v (.int .u32 top)] [] K:=by
 refine gP (aUK rfl rfl ?_);(conv=>whnf)
 refine gM Nat (fun k=>⟨0,[],[(0,iH l),(1,.v (.int .u32 top)),(7,iH l),(8,.v (.int .i64 (l.map jR).length)),(9,.v (.int .i64 k))]⟩) (fun k=>k<=l.length/\M5 l top k) (fun k=>l.length-k) 0 ?_ ?_ ?_
 ·exact⟨by omega,Mw l top⟩
 ·exact⟨[],rfl,⟨rfl,rfl,rfl,rfl,rfl,trivial⟩,trivial⟩
 ·intro k ⟨hk,hinv⟩;rcases aC k l.length with hkl|hkl
  ·obtain⟨r,hr⟩:=gex hkl;have b1:=r.l0;have b2:=r.l1;have b3:=r.h0;have b4:=r.h1;have no:¬(r.lo<=r.hi/\r.hi<=top/\∀p,0<k->l[k-1]? =some p->p.hi+1<r.lo)->K (.sb false) []:=fun h=>hK false (iff_of_false zx (Sw hr h));have next:∀σ,r.lo<=r.hi->r.hi<=top->(∀p,0<k->l[k-1]? =some p->p.hi+1<r.lo)->Le 0 ⟨0,[],[(0,iH l),(1,.v (.int .u32 top)),(7,iH l),(8,.v (.int .i64 (l.map jR).length)),(9,.v (.int .i64 ((k:Int)+1)))]⟩ σ->
     ∃g':Nat,(g'<=l.length/\M5 l top g')/\l.length-g'<l.length-k/\Le 0 ⟨0,[],[(0,iH l),(1,.v (.int .u32 top)),(7,iH l),(8,.v (.int .i64 (l.map jR).length)),(9,.v (.int .i64 (g':Int)))]⟩ σ:=
    fun σ h1 h2 h3 hle=>⟨k+1,⟨by omega,Mv hr hinv h1 h2 h3⟩,by omega,hle⟩
   rcases cK k with hk0|hk0
   ·iterate 40 (all_goals((conv=>whnf);first|(with_reducible first|refine hZ hkl ?_|refine hU hr ?_)|refine zG ?_|apply zA|intro h|exact zT|skip))
    all_goals first
     |exact next _ zo zo (by intros;omega) ⟨[],rfl,⟨rfl,rfl,rfl,rfl,rfl,trivial⟩,trivial⟩
     |exact .inl ⟨false,rfl,no zo⟩
   ·obtain⟨p,hp⟩:∃p,l[k-1]? =some p:=⟨_,aE zo⟩
    have p3:=p.h0;have p4:=p.h1;have hj:((k:Int)-1=((k-1:Nat):Int))/\k-1<(l.map jR).length:=by rw[aA];omega
    iterate 40 (all_goals((conv=>whnf);first|(with_reducible first|refine hZ hkl ?_|refine hU hr ?_|refine gU (k-1) hj.1 hj.2 ?_|refine hU hp ?_)|refine zG ?_|apply zA|intro h|exact zT|skip))
    all_goals first
     |exact next _ zo zo (fun q _ hq=>by rw[hp]at hq;cases hq;omega) ⟨[],rfl,⟨rfl,rfl,rfl,rfl,rfl,trivial⟩,trivial⟩
     |exact .inl ⟨false,rfl,no (fun hh=>by have:=hh.2.2 p hk0 hp;omega)⟩
  ·iterate 6 (all_goals((conv=>whnf);first|(with_reducible refine hZ hkl ?_)|refine zG ?_|apply zA|intro h|exact zT|skip))
   have e:l.take k=l:=aU hkl;refine .inl ⟨true,rfl,hK true (iff_of_true rfl ?_)⟩;unfold M5 at hinv;rw[e]at hinv;exact hinv
def g37:Ctx:={N:=11}
abbrev aNQ:=ofD g37 Tryz.func49
def Af:Sched:=lp 12 [24,27]
def g13:Ctx:={N:=39,np:=1,plan:=p1 1 (lo 14) (p1 4 Af pn)}
abbrev aNP:=ofD g13 Tryz.func11
def g12:Ctx:={N:=19,np:=1,own:=oz [11]}
abbrev aUE:=ofD g12 Tryz.func48
def g29:Ctx:={N:=20,np:=1,own:=oz [48]}
abbrev aUL:=ofD g29 Tryz.func69
def g10:Ctx:={N:=40,np:=1,own:=oz [11,69],hints:=h1 2 [.virt 9 2] hn}
abbrev aUD:=ofD g10 Tryz.func45
def g9:Ctx:={N:=6}
abbrev of9:=ofD g9 Tryz.func5
abbrev sJ(x:Int):AV:=.v (.int .i64 x)
abbrev iI(raw:List Int)(pos:Nat):Vm.Obj:=.box [.lst (raw.map sJ),.v (.int .i64 pos)]
theorem c9(raw:List Int){K:KT}(hK:K (.op 0 0) [iI raw 0]):AC 5 [.lst (raw.map sJ)] [] K:=by
 refine of9 rfl rfl ?_
 iterate 6 (all_goals((conv=>whnf);first|refine zG ?_|apply zA|intro h|exact zT|skip))
 exact hK
theorem c37(x n:Int)(hn:1<=n)(hn2:n<=9223372036854775807){K:KT}(hK:∀m,0<=m->m<n->K (.v (.int .i64 m)) []):AC 49 [.v (.int .i64 x),.v (.int .i64 n)] [] K:=by
 refine aNQ rfl rfl ?_;(conv=>whnf)
 refine Di fun r h0 h1=>?_;have m0:0<=r.tmod n:=Int.tmod_nonneg n h0;have m1:r.tmod n<n:=Int.tmod_lt_of_pos r zo
 iterate 10 (all_goals((conv=>whnf);first|refine zG ?_|apply zA|intro h|exact zT|skip))
 exact hK _ m0 m1
theorem c13(raw:List Int)(pos:Nat)(n:Int)(hn2:n<=9223372036854775807)(hp:pos<=raw.length)(hr:raw.length<=9223372036854775807){K:KT}
  (hK:∀m pos',0<=m->(m=0\/m<n)->pos'<=raw.length->K (.v (.int .i64 m)) [iI raw pos']):AC 11 [.op 0 0,.v (.int .i64 n)] [iI raw pos] K:=by
 refine aNP rfl rfl ?_;rcases aC pos raw.length with hlt|hge
 ·obtain⟨x,hx⟩:=gex hlt;have hj:((pos:Int)+1-1=pos)/\pos<(raw.map sJ).length:=by rw[aA];omega
  iterate 40 (all_goals((conv=>whnf);first|(with_reducible first|refine gU pos hj.1 hj.2 ?_|refine hU hx ?_|refine c37 _ _ zo zo (fun m m0 m1=>?_))|refine zG ?_|apply zA|intro h|exact zT|skip))
  ·exact hK 0 pos zo zo hp
  ·exact hK m (pos+1) m0 (.inr m1) hlt
 ·iterate 40 (all_goals((conv=>whnf);first|(with_reducible refine iA hlt ?_)|refine zG ?_|apply zA|intro h|exact zT|skip))
  all_goals exact hK 0 pos zo zo hp
theorem Oi{xs:List AV}{i:Nat}{K:AV->Prop}(P:AV->Prop)(hP:∀x,x∈xs->P x)(hi:i<xs.length)(hk:∀x,P x->K x):Ix xs i K:=
 gV (aE hi) (hk _ (hP _ (cX hi)))
def Vc(x:AV):Prop:=∃y:Int,x=.v (.int .u32 y)/\0<=y/\y<=4294967295
theorem c12(raw:List Int)(pos:Nat)(top:Int)(ht0:0<=top)(ht:top<=4294967295)(hp:pos<=raw.length)(hr:raw.length<=9223372036854775807){K:KT}
  (hK:∀y pos',0<=y->y<=top->pos'<=raw.length->K (.v (.int .u32 y)) [iI raw pos']):AC 48 [.op 0 0,.v (.int .u32 top)] [iI raw pos] K:=by
 refine aUE rfl rfl ?_;(conv=>whnf)
 refine .intro zd ?_;refine iU fun a a0 a1=>?_;(conv=>whnf)
 refine iU fun b b0 b1=>?_;(conv=>whnf)
 refine c13 raw pos 17 zo hp hr fun m pos' m0 m1 hp'=>?_;(conv=>whnf)
 refine gU m.toNat zo zo ?_;(conv=>whnf)
 refine Oi Vc ?_ (by simp only[aB,aG];omega) ?_
 ·simp only[fP];(repeat' apply And.intro)<;>first|exact⟨_,rfl,by omega,by omega⟩|(intro _ h;cases h)
 ·rintro _ ⟨y,rfl,y0,y1⟩
  iterate 8 (all_goals((conv=>whnf);first|refine zG ?_|apply zA|intro h|exact zT|skip))
  exact hK _ pos' zo zo hp'
theorem c29(raw:List Int)(pos:Nat)(top:Int)(ht0:0<=top)(ht:top<=4294967295)(hp:pos<=raw.length)(hr:raw.length<=9223372036854775807){K:KT}
  (hK:∀(r:Rg) pos',r.lo<=r.hi->r.hi<=top->pos'<=raw.length->K (.agg [.v (.int .u32 r.lo),.v (.int .u32 r.hi)]) [iI raw pos']):AC 69 [.op 0 0,.v (.int .u32 top)] [iI raw pos] K:=by
 refine aUL rfl rfl ?_;(conv=>whnf)
 refine c12 raw pos top ht0 ht hp hr fun y1 p1 y10 y11 hp1=>?_;(conv=>whnf)
 refine c12 raw p1 top ht0 ht hp1 hr fun y2 p2 y20 y21 hp2=>?_
 iterate 8 (all_goals((conv=>whnf);first|refine zG ?_|apply zA|intro h|exact zT|skip))
 have h1:0<=min y1 y2/\min y1 y2<=4294967295:=by omega
 have h2:0<=max y1 y2/\max y1 y2<=4294967295:=by omega
 exact hK ⟨min y1 y2,max y1 y2,h1.1,h1.2,h2.1,h2.2⟩ p2 zs zs hp2
theorem c10(raw:List Int)(pos:Nat)(n top:Int)(fl:Bool)(hn0:0<=n)(hn:n<10000)(ht0:0<=top)(ht:top<=4294967295)(hp:pos<=raw.length)(hr:raw.length<=9223372036854775807){K:KT}
  (hK:∀(l:List Rg) pos',(l.length:Int)<=n->(∀r,r∈l->r.lo<=top/\r.hi<=top)->pos'<=raw.length->K (iH l) [iI raw pos']):AC 45 [.op 0 0,.v (.int .i64 n),.v (.int .u32 top),.v (.bool fl)] [iI raw pos] K:=by
 refine aUD rfl rfl ?_;(conv=>whnf)
 refine jB rfl zo zo ?_;(conv=>whnf)
 refine c13 raw pos (n+1) zo hp hr fun m p1 m0 m1 hp1=>?_;(conv=>whnf)
 refine gM (Nat×List Rg×Int) (fun g=>⟨2,[(0,iI raw g.1),(1,.arr 2 (g.2.1.map jR))],[(0,.op 0 0),(2,.v (.int .u32 top)),(3,.v (.bool fl)),(9,.os 1 2 0 g.2.1.length),(10,.v (.int .i64 g.2.2))]⟩)
  (fun g=>g.1<=raw.length/\(g.2.1.length:Int)+g.2.2<=n/\0<=g.2.2/\∀r,r∈g.2.1->r.lo<=top/\r.hi<=top) (fun g=>g.2.2.toNat) (p1,[],m) ?_ ?_ ?_
 ·exact⟨hp1,by simp;omega,m0,fun r hr=>by simp at hr⟩
 ·exact⟨[(0,0),(1,1)],rfl,⟨rfl,rfl,rfl,rfl,rfl,trivial⟩,⟨rfl,rfl,trivial⟩⟩
 ·rintro⟨p,out,c⟩ ⟨hp,hlen,hc,hall⟩
  simp only at hp hlen hc hall⊢;(conv=>whnf)
  refine sH (fun h=>?_) (fun h=>?_)
  ·(conv=>whnf)
   refine c29 raw p top ht0 ht hp hr fun r p2 r1 r2 hp2=>?_;have b1:=r.l0;have b2:=r.l1;have b3:=r.h0;have b4:=r.h1;have next:∀(q:Rg) (p3:Nat) σ,p3<=raw.length->q.lo<=top->q.hi<=top->Le 1 ⟨2,[(0,iI raw p3),(1,.arr 2 (out.map jR++[.agg [.v (.int .u32 q.lo),.v (.int .u32 q.hi)]]))],[(0,.op 0 0),(2,.v (.int .u32 top)),(3,.v (.bool fl)),(9,.os 1 2 0 (out.length+1)),(10,.v (.int .i64 (c-1)))]⟩ σ->
     ∃g':Nat×List Rg×Int,(g'.1<=raw.length/\(g'.2.1.length:Int)+g'.2.2<=n/\0<=g'.2.2/\∀r,r∈g'.2.1->r.lo<=top/\r.hi<=top)/\g'.2.2.toNat<c.toNat/\
      Le 1 ⟨2,[(0,iI raw g'.1),(1,.arr 2 (g'.2.1.map jR))],[(0,.op 0 0),(2,.v (.int .u32 top)),(3,.v (.bool fl)),(9,.os 1 2 0 g'.2.1.length),(10,.v (.int .i64 g'.2.2))]⟩ σ:=by
    intro q p3 σ h1 h2 h3 hle;refine⟨(p3,out++[q],c-1),⟨h1,by simp only[aD,aB,aG];omega,by simp only;omega,fun s hs=>?_⟩,by simp only;omega,?_⟩
    ·rcases aY.1 hs with hs|hs
     ·exact hall s hs
     ·simp at hs;subst hs;exact⟨h2,h3⟩
    ·simp only[aQ,aR,bL,aD,aB,aG];exact hle
   cases fl with
   |false=>
    iterate 20 (all_goals((conv=>whnf);first|refine zG ?_|apply zA|intro h|exact zT|skip))
    exact next r p2 _ hp2 zo r2 ⟨[(0,0),(1,4)],rfl,⟨rfl,rfl,rfl,rfl,rfl,trivial⟩,⟨rfl,rfl,trivial⟩⟩
   |true=>
    iterate 3 (all_goals((conv=>whnf);first|refine zG ?_|apply zA|intro h|exact zT|skip))
    refine c13 raw p2 8 zo hp2 hr fun z p3 z0 z1 hp3=>?_
    iterate 30 (all_goals((conv=>whnf);first|refine zG ?_|apply zA|intro h|exact zT|skip))
    ·exact next ⟨r.hi,r.lo,b3,b4,b1,b2⟩ p3 _ hp3 r2 zs ⟨[(0,0),(1,4)],rfl,⟨rfl,rfl,rfl,rfl,rfl,trivial⟩,⟨rfl,rfl,trivial⟩⟩
    ·exact next r p3 _ hp3 zo r2 ⟨[(0,0),(1,4)],rfl,⟨rfl,rfl,rfl,rfl,rfl,trivial⟩,⟨rfl,rfl,trivial⟩⟩
  ·iterate 4 (all_goals((conv=>whnf);first|refine zG ?_|apply zA|intro h|exact zT|skip))
   exact hK out p zo hall hp
open Go Go.Vm Go.ChangeShapes Go.WideShapes Go.ChangeAt Go.RowKit
abbrev Yes:AV->List Vm.Obj->Prop:=fun r _=>r=.sb true\/r=.v (.bool true)
theorem aIy:ownKnob Tryz.prog.godebug=none:=by kernel_rfl
theorem aGs:laidOutB Tryz.prog=true:=by kernel_rfl
theorem qZ{α:Type}(enc:α->AV):∀{xs:List AV},(∀y,y∈xs->∃a,y=enc a)->∃l:List α,xs=l.map enc
 |[],_=>⟨[],rfl⟩
 |y::ys,h=>by
  obtain⟨a,rfl⟩:=h y zx;obtain⟨l,rfl⟩:=qZ enc (xs:=ys) fun z hz=>h z (aS _ hz);exact⟨a::l,rfl⟩
theorem aTV{d:Nat}{x:AV}(h:Ty Tryz.prog (d+2) 22 x):∃raw:List Int,x=.lst (raw.map sJ)/\raw.length<=9223372036854775807:=by
 obtain⟨xs,rfl,hl,hx⟩:=h;obtain⟨l,rfl⟩:=qZ sJ fun y hy=>by
  obtain⟨i,hr,_⟩:=hx y hy;exact⟨i,hr⟩
 refine⟨l,rfl,?_⟩;simpa[maxLen]using hl
theorem aTW{d:Nat}{y:AV}(h:Ty Tryz.prog (d+2) 94 y):∃p:Pf,y=mT p:=by
 obtain⟨ys,hl,rfl,hf⟩:=h
 match ys,hl with
 |[p,q],_=>
  obtain⟨i,rfl,i0,i1⟩:=hf 0 _ p rfl rfl;obtain⟨j,rfl,_⟩:=hf 1 _ q rfl rfl;exact⟨⟨i,j,i0,i1⟩,rfl⟩
end Go.Proofs.YtnomkooikbhgmaaGreatDoor
