/- Lemmas. -/
import Derived.Test.YtgicddadddhonaaGreatDoorProg
import Derived.Test.YtgicddadddhonaaGreatDoorRows
import Derived.WalkKit
import Derived.ProofKit
import Derived.OpenShut
import Derived.Test.YtgicddadddhonaaGreatDoorM9
set_option linter.unusedVariables false
set_option linter.unusedSimpArgs false
set_option maxRecDepth 100000
set_option maxHeartbeats 4000000
noncomputable section
namespace Go.Proofs.YtgicddadddhonaaGreatDoor
open Go Go.Vm
def stP(top:Int)(out:List Int)(r:Rg):List Int:=if r.lo<=r.hi then insT (insT out r.lo top) (r.hi+1) top else out
def starts(l:List Rg)(top:Int):List Int:=l.foldl (stP top) [0]
theorem Jr:∀(l:List Int) (v:Int),(ins l v).length<=l.length+1
 |[],v=>by simp[ins]
 |x::xs,v=>by
  have:=Jr xs v;simp only[ins];split
  ·simp;omega
  ·split<;>simp
theorem wM(l:List Int)(v top:Int):(insT l v top).length<=l.length+1:=by
 unfold insT;split
 ·omega
 ·exact Jr _ _
theorem Kn(top:Int)(out:List Int)(r:Rg):(stP top out r).length<=out.length+2:=by
 unfold stP;split
 ·have:=wM out r.lo top;have:=wM (insT out r.lo top) (r.hi+1) top;omega
 ·omega
theorem uS{α β:Type}{f:β->α->β}{b:β}{l:List α}{k:Nat}{r:α}(h:l[k]? =some r):(l.take (k+1)).foldl f b=f ((l.take k).foldl f b) r:=by
 simp[bE,h]
theorem c45(l:List Rg)(top:Int)(ht0:0<=top)(ht:top<=4294967295)(hl:l.length<100000){K:KT}(hK:K (nV (starts l top)) []):
  AC 225 [iR l,.v (.int .u32 top)] [] K:=by
 refine aWU rfl rfl ?_
 iterate 3 ((conv=>whnf);first|((with_reducible refine iT ?ha ?_);(case ha=>exact gA))|((with_reducible refine Ob.intro ?ha ?_);(case ha=>exact gC))|skip)
 refine gV Nat (fun k=>⟨1,[],[(0,iR l),(1,.v (.int .u32 top)),(5,nV ((l.take k).foldl (stP top) [0])),(6,.v (.int .i64 k))]⟩) (fun k=>k<=l.length/\((l.take k).foldl (stP top) [0]).length<=2*k+1) (fun k=>l.length-k) 0 ?_ ?_ ?_
 ·exact⟨by omega,by simp⟩
 ·exact⟨[],rfl,⟨rfl,rfl,rfl,rfl,trivial⟩,trivial⟩
 ·intro k ⟨hk,hlen⟩;rcases aD k l.length with hkl|hkl
  ·obtain⟨r,hr⟩:=gex hkl;have b1:=r.l0;have b2:=r.l1;have b3:=r.h0;have b4:=r.h1;have hs:=uS (f:=stP top) (b:=[0]) hr;have next:∀σ,Le 0 ⟨1,[],[(0,iR l),(1,.v (.int .u32 top)),(5,nV (stP top ((l.take k).foldl (stP top) [0]) r)),(6,.v (.int .i64 ((k:Int)+1)))]⟩ σ->
     ∃g':Nat,(g'<=l.length/\((l.take g').foldl (stP top) [0]).length<=2*g'+1)/\l.length-g'<l.length-k/\Le 0 ⟨1,[],[(0,iR l),(1,.v (.int .u32 top)),(5,nV ((l.take g').foldl (stP top) [0])),(6,.v (.int .i64 (g':Int)))]⟩ σ:=by
    intro σ h;have:=Kn top ((l.take k).foldl (stP top) [0]) r;exact⟨k+1,⟨by omega,by rw[hs];omega⟩,by omega,by rw[hs];exact h⟩
   generalize (l.take k).foldl (stP top) [0]=out at hs hlen next⊢
   have i1:=wM out r.lo top
   iterate 32 (all_goals((conv=>whnf);first|(with_reducible first|refine iI hkl ?_|refine iH hr ?_|refine c51 _ _ _ ht0 ht zo ?_)|refine zG ?_|apply zA|intro h|exact zT|skip))
   all_goals
    refine next _ ?_
    unfold stP;first
    |(rw[aH zp];exact⟨[],rfl,⟨rfl,rfl,rfl,rfl,trivial⟩,trivial⟩)
    |(rw[aF zp];exact⟨[],rfl,⟨rfl,rfl,rfl,rfl,trivial⟩,trivial⟩)
  ·iterate 3 (all_goals((conv=>whnf);first|(with_reducible refine iI hkl ?_)|refine zG ?_|apply zA|intro h|exact zT|skip))
   have e:l.take k=l:=aW hkl;rw[starts]at hK;rw[e];exact hK
def mkR(lo hi:Int):Rg:=if h:0<=lo/\lo<=4294967295/\0<=hi/\hi<=4294967295 then⟨lo,hi,h.1,h.2.1,h.2.2.1,h.2.2.2⟩else⟨0,0,by decide,by decide,by decide,by decide⟩
theorem kI{lo hi:Int}(h0:0<=lo)(h1:lo<=4294967295)(h2:0<=hi)(h3:hi<=4294967295):(mkR lo hi).lo=lo:=by unfold mkR;rw[dif_pos ⟨h0,h1,h2,h3⟩]
theorem kP{lo hi:Int}(h0:0<=lo)(h1:lo<=4294967295)(h2:0<=hi)(h3:hi<=4294967295):(mkR lo hi).hi=hi:=by unfold mkR;rw[dif_pos ⟨h0,h1,h2,h3⟩]
theorem Do{lo hi:Int}(h0:0<=lo)(h1:lo<=4294967295)(h2:0<=hi)(h3:hi<=4294967295):encR (mkR lo hi)=.agg [.v (.int .u32 lo),.v (.int .u32 hi)]:=by
 unfold encR;rw[kI h0 h1 h2 h3,kP h0 h1 h2 h3]
def mC(top:Int):List Int->List (Int×Int)
 |[]=>[]
 |[x]=>[(x,top)]
 |x::y::r=>(x,y-1)::mC top (y::r)
def qV(c:Int)(i j:Bool):Bool:=if c=1 then i&&j else if c=2 then i&& !j else if c=3 then !i&& !j else i||j
def mG(f:Int->Bool)(out:List Rg)(s:Int×Int):List Rg:=
 if f s.1 then match out.getLast? with
  |some r=>if r.hi+1=s.1 then out.dropLast++[mkR r.lo s.2]else out++[mkR s.1 s.2]
  |none=>[mkR s.1 s.2]
 else out
def Rh(f:Int->Bool)(st:List Int)(top:Int):List Rg:=(mC top st).foldl (mG f) []
theorem tG(top:Int):∀st:List Int,(mC top st).length=st.length
 |[]=>rfl
 |[x]=>rfl
 |x::y::r=>by simp only[mC,aB,tG top (y::r)]
theorem Kh(top:Int):∀(st:List Int) (k:Nat) (x:Int),st[k]? =some x->(mC top st)[k]? =some (x,match st[k+1]? with|some y=>y-1|none=>top)
 |[],k,x,h=>by simp at h
 |[z],k,x,h=>by
  cases k with
  |zero=>simp at h;subst h;rfl
  |succ k=>simp at h
 |z::y::r,k,x,h=>by
  cases k with
  |zero=>simp at h;subst h;rfl
  |succ k=>
   have:=Kh top (y::r) k x (by simpa using h);simpa[mC]using this
theorem D2(f:Int->Bool)(out:List Rg)(s:Int×Int):(mG f out s).length<=out.length+1:=by
 unfold mG;split
 ·split
  ·split<;>simp
  ·simp
 ·omega
theorem aWm(l:List Rg)(top:Int)(ht0:0<=top)(ht:top<=4294967295)(hl:l.length<100000)(xs:List AV)(hxs:xs=l.map encR){K:KT}(hK:K (nV (starts l top)) []):
  AC 225 [.lst xs,.v (.int .u32 top)] [] K:=by subst hxs;exact c45 l top ht0 ht hl hK
theorem c38(a b:List Rg)(c top:Int)(ht0:0<=top)(ht:top<=4294967295)(ha:a.length<10000)(hb:b.length<10000)
  (hst:∀x,x∈starts (a++b) top->0<=x/\x<=top)(hpos:∀(k:Nat) x,(starts (a++b) top)[k+1]? =some x->1<=x)(hlen:(starts (a++b) top).length<100000)
  {K:KT}(hK:K (iR (Rh (fun v=>qV c (has a v) (has b v)) (starts (a++b) top) top)) []):
  AC 149 [iR a,iR b,.v (.int .i64 c),.v (.int .u32 top)] [] K:=by
 refine aWR rfl rfl ?_
 iterate 12 (all_goals((conv=>whnf);first|(with_reducible refine aWm (a++b) top ht0 ht (by simp;omega) _ zx ?_)|refine zG ?_|apply zA|intro h|exact zT|skip))
 generalize hst':starts (a++b) top=st at*;generalize hf:(fun v=>qV c (has a v) (has b v))=f at*;refine gV Nat (fun k=>⟨1,[(0,.arr 2 ((((mC top st).take k).foldl (mG f) []).map encR))],[(0,iR a),(1,iR b),(2,.v (.int .i64 c)),(3,.v (.int .u32 top)),(9,nV st),(10,.os 0 2 0 (((mC top st).take k).foldl (mG f) []).length),(11,.v (.int .i64 k))]⟩) (fun k=>k<=st.length/\(((mC top st).take k).foldl (mG f) []).length<=k) (fun k=>st.length-k) 0 ?_ ?_ ?_
 ·exact⟨by omega,by simp⟩
 ·exact⟨[(0,3)],rfl,⟨rfl,rfl,rfl,rfl,rfl,rfl,rfl,trivial⟩,⟨rfl,trivial⟩⟩
 ·intro k ⟨hk,hle⟩;rcases aD k st.length with hkl|hkl
  ·obtain⟨x,hx⟩:=gex hkl;have hx0:=hst x (aG hx);have hsg:=Kh top st k x hx;generalize hto:(match st[k+1]? with|some y=>y-1|none=>top)=to at hsg;have hs:=uS (f:=mG f) (b:=[]) hsg;have hfx:f x=qV c (has a x) (has b x):=by rw[<-hf]
   have hto1:0<=to/\to<=top:=by
    cases hy:st[k+1]? with
    |none=>rw[hy]at hto;simp only at hto;omega
    |some y=>
     rw[hy]at hto;simp only at hto;have:=hst y (aG hy);have:=hpos k y hy;omega
   have next:∀(σ:St) (ρ:List (Nat×Nat)) (xs:List AV) (n:Nat),xs=(mG f (((mC top st).take k).foldl (mG f) []) (x,to)).map encR->n=(mG f (((mC top st).take k).foldl (mG f) []) (x,to)).length->
     Le 0 ⟨1,[(0,.arr 2 xs)],[(0,iR a),(1,iR b),(2,.v (.int .i64 c)),(3,.v (.int .u32 top)),(9,nV st),(10,.os 0 2 0 n),(11,.v (.int .i64 ((k:Int)+1)))]⟩ σ->
     ∃g':Nat,(g'<=st.length/\(((mC top st).take g').foldl (mG f) []).length<=g')/\st.length-g'<st.length-k/\Le 0 ⟨1,[(0,.arr 2 ((((mC top st).take g').foldl (mG f) []).map encR))],[(0,iR a),(1,iR b),(2,.v (.int .i64 c)),(3,.v (.int .u32 top)),(9,nV st),(10,.os 0 2 0 (((mC top st).take g').foldl (mG f) []).length),(11,.v (.int .i64 (g':Int)))]⟩ σ:=by
    intro σ ρ xs n h1 h2 h3;have:=D2 f (((mC top st).take k).foldl (mG f) []) (x,to);exact⟨k+1,⟨by omega,by rw[hs];omega⟩,by omega,by rw[hs,<-h1,<-h2];exact h3⟩
   generalize hout:((mC top st).take k).foldl (mG f) []=out at hs hle next⊢
   iterate 4 (all_goals((conv=>whnf);first|(with_reducible refine iI hkl ?_)|refine zG ?_|apply zA|intro h|exact zT|skip))
   refine Jn.at ⟨1,[(0,.arr 2 (out.map encR))],[(0,iR a),(1,iR b),(2,.v (.int .i64 c)),(3,.v (.int .u32 top)),(9,nV st),(10,.os 0 2 0 out.length),(11,.v (.int .i64 k)),(12,.v (.int .u64 to))]⟩ ?_ ?_
   ·rcases aD (k+1) st.length with hk1|hk1
    ·obtain⟨y,hy⟩:∃y,st[k+1]? =some y:=⟨_,aE hk1⟩
     have h1:=hst y (aG hy);have h2:=hpos k y hy;rw[hy]at hto;simp only at hto;subst hto
     iterate 12 (all_goals((conv=>whnf);first|(with_reducible first|refine iB (k+1) zo (by simp;omega) ?_|refine iH hy ?_)|refine zG ?_|apply zA|intro h|exact zT|skip))
     exact⟨(),trivial,[(0,0)],rfl,⟨rfl,rfl,rfl,rfl,rfl,rfl,rfl,rfl,trivial⟩,⟨rfl,trivial⟩⟩
    ·rw[bS hk1]at hto;simp only at hto;subst hto
     iterate 8 (all_goals((conv=>whnf);first|(with_reducible refine iI hkl ?_)|refine zG ?_|apply zA|intro h|exact zT|skip))
     exact⟨(),trivial,[(0,0)],rfl,⟨rfl,rfl,rfl,rfl,rfl,rfl,rfl,rfl,trivial⟩,⟨rfl,trivial⟩⟩
   (conv=>whnf)
   refine Jn.at ⟨1,[(0,.arr 2 (out.map encR))],[(0,iR a),(1,iR b),(2,.v (.int .i64 c)),(3,.v (.int .u32 top)),(9,nV st),(10,.os 0 2 0 out.length),(11,.v (.int .i64 k)),(12,.v (.int .u64 to)),(13,.sb (has a x)),(14,.sb (has b x))]⟩ ?_ ?_
   ·iterate 24 (all_goals((conv=>whnf);first|(with_reducible first|refine iI hkl ?_|refine iH hx ?_|refine c34 a x zo ?_|refine c34 b x zo ?_)|refine zG ?_|apply zA|intro h|exact zT|skip))
    all_goals exact⟨(),trivial,[(0,0)],rfl,⟨rfl,rfl,rfl,rfl,rfl,rfl,rfl,rfl,rfl,rfl,trivial⟩,⟨rfl,trivial⟩⟩
   (conv=>whnf)
   -- what was asked, in whatever form
   refine iD AV (fun y=>⟨1,[(0,.arr 2 (out.map encR))],[(0,iR a),(1,iR b),(2,.v (.int .i64 c)),(3,.v (.int .u32 top)),(9,nV st),(10,.os 0 2 0 out.length),(11,.v (.int .i64 k)),(12,.v (.int .u64 to)),(13,.sb (has a x)),(14,.sb (has b x)),(15,y)]⟩) (fun y=>y=.sb (has a x||has b x)\/y=.v (.bool (has a x||has b x))) ?_ ?_
   ·iterate 8 (all_goals((conv=>whnf);first|(with_reducible refine iI hkl ?_)|refine zG ?_|apply zA|intro h|exact zT|skip))
    ·exact⟨.v (.bool true),.inr (by rw[h];rfl),[(0,0)],rfl,⟨rfl,rfl,rfl,rfl,rfl,rfl,rfl,rfl,rfl,rfl,rfl,trivial⟩,⟨rfl,trivial⟩⟩
    ·exact⟨.sb (has b x),.inl (by rw[h];rfl),[(0,0)],rfl,⟨rfl,rfl,rfl,rfl,rfl,rfl,rfl,rfl,rfl,rfl,rfl,trivial⟩,⟨rfl,trivial⟩⟩
   intro y hy;(conv=>whnf)
   refine iD AV (fun y=>⟨1,[(0,.arr 2 (out.map encR))],[(0,iR a),(1,iR b),(2,.v (.int .i64 c)),(3,.v (.int .u32 top)),(9,nV st),(10,.os 0 2 0 out.length),(11,.v (.int .i64 k)),(12,.v (.int .u64 to)),(15,y)]⟩) (fun y=>y=.sb (f x)\/y=.v (.bool (f x))) ?_ ?_
   ·rcases hy with rfl|rfl
    all_goals
     iterate 20 (all_goals((conv=>whnf);first|(with_reducible refine iI hkl ?_)|refine zG ?_|apply zA|intro h|exact zT|skip))
    all_goals first|exact⟨.sb (has b x),.inl (by rw[hfx];simp_all[qV]),[(0,0)],rfl,⟨rfl,rfl,rfl,rfl,rfl,rfl,rfl,rfl,rfl,trivial⟩,⟨rfl,trivial⟩⟩|exact⟨.sb (!has b x),.inl (by rw[hfx];simp_all[qV]),[(0,0)],rfl,⟨rfl,rfl,rfl,rfl,rfl,rfl,rfl,rfl,rfl,trivial⟩,⟨rfl,trivial⟩⟩|exact⟨.v (.bool true),.inr (by rw[hfx];simp_all[qV]),[(0,0)],rfl,⟨rfl,rfl,rfl,rfl,rfl,rfl,rfl,rfl,rfl,trivial⟩,⟨rfl,trivial⟩⟩|exact⟨.v (.bool false),.inr (by rw[hfx];simp_all[qV]),[(0,0)],rfl,⟨rfl,rfl,rfl,rfl,rfl,rfl,rfl,rfl,rfl,trivial⟩,⟨rfl,trivial⟩⟩|exact⟨.sb (has a x||has b x),.inl (by rw[hfx];simp_all[qV]),[(0,0)],rfl,⟨rfl,rfl,rfl,rfl,rfl,rfl,rfl,rfl,rfl,trivial⟩,⟨rfl,trivial⟩⟩|exact⟨.v (.bool (has a x||has b x)),.inr (by rw[hfx];simp_all[qV]),[(0,0)],rfl,⟨rfl,rfl,rfl,rfl,rfl,rfl,rfl,rfl,rfl,trivial⟩,⟨rfl,trivial⟩⟩
   clear hy y;intro y hy;(conv=>whnf)
   refine iD Unit (fun _=>⟨1,[(0,.arr 2 (out.map encR))],[(0,iR a),(1,iR b),(2,.v (.int .i64 c)),(3,.v (.int .u32 top)),(9,nV st),(10,.os 0 2 0 out.length),(11,.v (.int .i64 k)),(12,.v (.int .u64 to))]⟩) (fun _=>f x=true) ?_ ?_
   ·have out18:f x=false->mG f out (x,to)=out:=fun h=>by simp[mG,h]
    cases hb:f x
    all_goals
     rw[hb]at hy;rcases hy with rfl|rfl
    all_goals iterate 8 (all_goals((conv=>whnf);first|(with_reducible first|refine iI hkl ?_|refine aRH rfl ?_|refine aRG rfl ?_)|refine zG ?_|apply zA|intro h|exact zT|skip))
    all_goals first
     |exact⟨(),rfl,[(0,0)],rfl,⟨rfl,rfl,rfl,rfl,rfl,rfl,rfl,rfl,trivial⟩,⟨rfl,trivial⟩⟩
     |exact next _ [] _ _ (by rw[out18 hb]) (by rw[out18 hb]) ⟨[(0,0)],rfl,⟨rfl,rfl,rfl,rfl,rfl,rfl,rfl,trivial⟩,⟨rfl,trivial⟩⟩
   clear hy y;intro _ hb;rcases dI out with hnil|⟨ini,r,hcat⟩
   ·subst hnil
    iterate 20 (all_goals((conv=>whnf);first|(with_reducible first|refine iI hkl ?_|refine iH hx ?_)|refine zG ?_|apply zA|intro h|exact zT|skip))
    exact next _ [] _ _ (by simp only[mG,hb,if_true,List.getLast?_nil,aR,bI,dB];rw[Do zo zo zo zo]) (by simp[mG,hb]) ⟨[(0,2)],rfl,⟨rfl,rfl,rfl,rfl,rfl,rfl,rfl,trivial⟩,⟨rfl,trivial⟩⟩
   ·rw[dJ]at hcat;subst hcat;have b1:=r.l0;have b2:=r.l1;have b3:=r.h0;have b4:=r.h1;have hr:(ini++[r])[ini.length]? =some r:=by simp
    have hr0:(ini++[r])[0+ini.length]? =some r:=by simp
    have hj:((((ini++[r]).length:Nat):Int)-1=ini.length)/\ini.length<(ini++[r]).length:=by simp
    iterate 40 (all_goals((conv=>whnf);first|(with_reducible first|refine iI hkl ?_|refine iH hx ?_|refine iB ini.length hj.1 hj.2 ?_|refine iH hr ?_|refine iH hr0 ?_)|refine zG ?_|apply zA|intro h|exact zT|skip))
    ·have e:mG f (ini++[r]) (x,to)=ini++[mkR r.lo to]:=by
      simp only[mG,hb,if_true,cW,cO,dT,dM];rw[aH zp]
     refine next _ [] _ _ ?_ ?_ ⟨[(0,0)],rfl,⟨rfl,rfl,rfl,rfl,rfl,rfl,rfl,trivial⟩,⟨rfl,trivial⟩⟩
     ·rw[e,aQ,aQ,dO _ _ zx];simp only[aR,bI,aA,bM,dH,List.set_cons_zero];rw[Do zo zo zo zo]
     ·rw[e];simp
    ·have e:mG f (ini++[r]) (x,to)=ini++[r]++[mkR x to]:=by
      simp only[mG,hb,if_true,cW,cO,dT,dM];rw[aF zp]
     refine next _ [] _ _ ?_ ?_ ⟨[(0,2)],rfl,⟨rfl,rfl,rfl,rfl,rfl,rfl,rfl,trivial⟩,⟨rfl,trivial⟩⟩
     ·rw[e,aQ (l₁:=ini++[r]),aR,bI,Do zo zo zo zo]
     ·rw[e];simp
  ·have hkk:((mC top st).take k).foldl (mG f) []=Rh f st top:=by
    rw[aW (by rw[tG];exact hkl)];rfl
   rw[hkk]
   iterate 8 (all_goals((conv=>whnf);first|(with_reducible refine iI hkl ?_)|refine zG ?_|apply zA|intro h|exact zT|skip))
   exact hK
def Canon(l:List Rg):Prop:=(∀r,r∈l->r.lo<=r.hi)/\l.Pairwise fun r s=>r.hi+1<s.lo
theorem Rg.ext'{r s:Rg}(h1:r.lo=s.lo)(h2:r.hi=s.hi):r=s:=by cases r;cases s;simp_all
theorem Ll:∀{l m:List Rg},Canon l->Canon m->(∀v,has l v=has m v)->l=m
 |[],[],_,_,_=>rfl
 |[],s::m,_,hm,h=>by
  have h1:=h s.lo;have h2:has (s::m) s.lo=true:=has_iff.2 ⟨s,by simp,cC _,hm.1 s zx⟩;rw[h2]at h1;simp[has]at h1
 |r::l,[],hl,_,h=>by
  have h1:=h r.lo;have h2:has (r::l) r.lo=true:=has_iff.2 ⟨r,by simp,cC _,hl.1 r zx⟩;rw[h2]at h1;simp[has]at h1
 |r::l,s::m,hl,hm,h=>by
  have hr:=hl.1 r zx;have hs:=hm.1 s zx;have pl:=(cG.1 hl.2).1;have pm:=(cG.1 hm.2).1;have mem:∀{r:Rg} {l:List Rg} {v:Int},has (r::l) v=true->(∀s,s∈l->r.hi+1<s.lo)->r.lo<=r.hi->r.lo<=v/\(v<=r.hi\/r.hi+1<v):=by
   intro r l v h hp hr;obtain⟨t,ht,h1,h2⟩:=has_iff.1 h;rcases aZ.1 ht with rfl|ht
   ·omega
   ·have:=hp t ht;omega
  have a1:=mem (v:=r.lo) ((h r.lo).symm.trans (has_iff.2 ⟨r,by simp,cC _,hr⟩)) pm hs;have a2:=mem (v:=s.lo) ((h s.lo).trans (has_iff.2 ⟨s,by simp,cC _,hs⟩)) pl hr;have elo:r.lo=s.lo:=by omega
  have ehi:r.hi=s.hi:=by
   rcases Int.lt_trichotomy r.hi s.hi with hlt|heq|hgt
   ·have:=mem (v:=r.hi+1) ((h (r.hi+1)).trans (has_iff.2 ⟨s,by simp,by omega,by omega⟩)) pl hr;omega
   ·exact heq
   ·have:=mem (v:=s.hi+1) ((h (s.hi+1)).symm.trans (has_iff.2 ⟨r,by simp,by omega,by omega⟩)) pm hs;omega
  have ers:r=s:=Rg.ext' elo ehi;subst ers;have htl:l=m:=by
   refine Ll ⟨fun t ht=>hl.1 t (by simp[ht]),(cG.1 hl.2).2⟩ ⟨fun t ht=>hm.1 t (by simp[ht]),(cG.1 hm.2).2⟩ fun v=>?_;have key:∀{l m:List Rg},(∀s,s∈l->r.hi+1<s.lo)->(∀v,has (r::l) v=has (r::m) v)->has l v=true->has m v=true:=by
    intro l m hp hh hv;obtain⟨t,ht,h1,h2⟩:=has_iff.1 hv;have h3:has (r::m) v=true:=(hh v).symm.trans (has_iff.2 ⟨t,by simp[ht],h1,h2⟩);obtain⟨u,hu,h4,h5⟩:=has_iff.1 h3;rcases aZ.1 hu with rfl|hu
    ·have:=hp t ht;omega
    ·exact has_iff.2 ⟨u,hu,h4,h5⟩
   rw[bK];exact⟨key pl h,key pm fun v=>(h v).symm⟩
  rw[htl]
theorem nW(l m:List Rg)(v:Int):has (l++m) v=(has l v||has m v):=by simp[has]
theorem sZ(r:Rg)(v:Int):has [r] v=(decide (r.lo<=v)&&decide (v<=r.hi)):=by simp[has]
theorem kZ{l:List Rg}{r:Rg}(hl:Canon l)(hr:r.lo<=r.hi)(hp:∀s,s∈l->s.hi+1<r.lo):Canon (l++[r]):=by
 refine⟨fun s hs=>?_,?_⟩
 ·rcases aX.1 hs with hs|hs
  ·exact hl.1 s hs
  ·simp at hs;subst hs;exact hr
 ·rw[dN];refine⟨hl.2,by simp,fun s hs t ht=>?_⟩;simp at ht;subst ht;exact hp s hs
structure KInv (f:Int->Bool) (out:List Rg) (p:Int):Prop where
 canon:Canon out
 mem:∀v,has out v=(decide (0<=v)&&(decide (v<p)&&f v))
 below:∀r,r∈out->r.hi<p
theorem L9{f:Int->Bool}{out:List Rg}{p to:Int}(h:KInv f out p)(h0:0<=p)(h1:p<=to)(h2:to<=4294967295)(hc:∀v,p<=v->v<=to->f v=f p):KInv f (mG f out (p,to)) (to+1):=by
 have mem_of:∀(o:List Rg),(∀v,has o v=(has out v||(decide (p<=v)&&decide (v<=to))))->f p=true->∀v,has o v=(decide (0<=v)&&(decide (v<to+1)&&f v)):=by
  intro o ho hf v;rw[ho,h.mem,bK];simp only[bV,aJ,aL];constructor
  ·rintro(⟨a,b,c⟩|⟨a,b⟩)
   ·exact⟨a,by omega,c⟩
   ·exact⟨by omega,by omega,by rw[hc v a b];exact hf⟩
  ·rintro⟨a,b,c⟩
   rcases eX v p with hv|hv
   ·exact .inl ⟨a,hv,c⟩
   ·exact .inr ⟨hv,by omega⟩
 unfold mG;simp only;cases hf:f p with
 |false=>
  simp only[cK,if_false];refine⟨h.canon,fun v=>?_,fun r hr=>by have:=h.below r hr;omega⟩;rw[h.mem,bK];simp only[aJ,aL];constructor
  ·rintro⟨a,b,c⟩;exact⟨a,by omega,c⟩
  ·rintro⟨a,b,c⟩
   refine⟨a,?_,c⟩;rcases eX v p with hv|hv
   ·exact hv
   ·have:=hc v hv zo;rw[c,hf]at this;cases this
 |true=>
  simp only[if_true];rcases dI out with hnil|⟨ini,r,hcat⟩
  ·subst hnil;simp only[List.getLast?_nil];refine⟨?_,mem_of _ (fun v=>?_) hf,fun r hr=>?_⟩
   ·have:=kZ h.canon (r:=mkR p to) (by rw[kI zo zo zo zo,kP zo zo zo zo];omega) (fun s hs=>by simp at hs);simpa using this
   ·rw[sZ,kI zo zo zo zo,kP zo zo zo zo];simp[has]
   ·simp at hr;subst hr;rw[kP zo zo zo zo];omega
  ·rw[dJ]at hcat;subst hcat;simp only[cW,cO,dT,dM];have hrp:=h.below r zx;have hpw:=dN.1 h.canon.2;have hr1:=h.canon.1 r zx;split
   ·rename_i he;have b1:=r.l0;have b2:=r.l1;have ci:Canon ini:=⟨fun t ht=>h.canon.1 t (by simp[ht]),hpw.1⟩
    refine⟨kZ ci (by rw[kI zo zo zo zo,kP zo zo zo zo];omega) (fun s hs=>?_),mem_of _ (fun v=>?_) hf,fun t ht=>?_⟩
    ·rw[kI zo zo zo zo];exact hpw.2.2 s hs r zx
    ·rw[nW,nW,sZ,sZ,kI zo zo zo zo,kP zo zo zo zo,bK];simp only[bV,aJ,aL];constructor
     ·rintro(a|⟨a,b⟩)
      ·exact .inl (.inl a)
      ·rcases eX v p with hv|hv
       ·exact .inl (.inr ⟨a,by omega⟩)
       ·exact .inr ⟨hv,b⟩
     ·rintro((a|⟨a,b⟩)|⟨a,b⟩)
      ·exact .inl a
      ·exact .inr ⟨a,by omega⟩
      ·exact .inr ⟨by omega,b⟩
    ·rcases aX.1 ht with ht|ht
     ·have:=h.below t (by simp[ht]);omega
     ·simp at ht;subst ht;rw[kP zo zo zo zo];omega
   ·rename_i he;refine⟨kZ h.canon (by rw[kI zo zo zo zo,kP zo zo zo zo];omega) (fun s hs=>?_),mem_of _ (fun v=>?_) hf,fun t ht=>?_⟩
    ·rw[kI zo zo zo zo];rcases aX.1 hs with hs|hs
     ·have:=hpw.2.2 s hs r zx;omega
     ·simp at hs;subst hs;omega
    ·rw[nW,sZ,kI zo zo zo zo,kP zo zo zo zo]
    ·rcases aX.1 ht with ht|ht
     ·have:=h.below t ht;omega
     ·simp at ht;subst ht;rw[kP zo zo zo zo];omega
theorem I8{f:Int->Bool}{top:Int}(htop:top<=4294967295):∀(st:List Int) (p:Int) (out:List Rg),KInv f out p->(p::st).Pairwise (· < ·)->(∀x,x∈p::st->0<=x/\x<=top)->
  (∀s,s∈mC top (p::st)->∀v,s.1<=v->v<=s.2->f v=f s.1)->KInv f ((mC top (p::st)).foldl (mG f) out) (top+1)
 |[],p,out,h,hp,hb,hc=>by
  have:=hb p zx;exact L9 h zo zo htop (hc (p,top) (by simp[mC]))
 |q::st,p,out,h,hp,hb,hc=>by
  have h1:=hb p zx;have h2:=hb q zx;have h3:p<q:=(cG.1 hp).1 q zx;have k:=L9 (to:=q-1) h zo zo zo (hc (p,q-1) (by simp[mC]));rw[show q-1+1=q by omega]at k;exact I8 htop st q _ k (cG.1 hp).2 (fun x hx=>hb x (by simp at hx⊢;exact .inr hx)) (fun s hs=>hc s (by simp only[mC,aZ];exact .inr hs))
theorem mem_ins:∀{l:List Int} {v x:Int},x∈ins l v↔x∈l\/x=v
 |[],v,x=>by simp[ins]
 |y::l,v,x=>by
  simp only[ins];split
  ·rw[aZ,mem_ins (l:=l),aZ,or_assoc]
  ·split
   ·rename_i h;subst h;simp only[aZ];constructor
    ·intro h;exact .inl h
    ·rintro(h|h)
     ·exact h
     ·exact .inl h
   ·simp only[aZ];constructor
    ·rintro(h|h|h)
     ·exact .inr h
     ·exact .inl (.inl h)
     ·exact .inl (.inr h)
    ·rintro((h|h)|h)
     ·exact .inr (.inl h)
     ·exact .inr (.inr h)
     ·exact .inl h
theorem Js:∀{l:List Int} {v:Int},l.Pairwise (· < ·)->(ins l v).Pairwise (· < ·)
 |[],v,h=>by simp[ins]
 |y::l,v,h=>by
  have⟨h1,h2⟩:=cG.1 h;simp only[ins];split
  ·rename_i hy;refine cG.2 ⟨fun x hx=>?_,Js h2⟩;rcases mem_ins.1 hx with hx|rfl
   ·exact h1 x hx
   ·exact hy
  ·split
   ·exact h
   ·rename_i h3 h4;refine cG.2 ⟨fun x hx=>?_,h⟩;rcases aZ.1 hx with rfl|hx
    ·omega
    ·have:=h1 x hx;omega
structure SInv (top:Int) (out:List Int):Prop where
 sorted:out.Pairwise (· < ·)
 zero:∃r,out=0::r
 range:∀x,x∈out->0<=x/\x<=top
theorem SInv.insT{top v:Int}{out:List Int}(h:SInv top out)(hv:0<=v):SInv top (insT out v top):=by
 unfold Go.Proofs.YtgicddadddhonaaGreatDoor.insT;split
 ·exact h
 ·refine⟨Js h.sorted,?_,fun x hx=>?_⟩
  ·obtain⟨r,hr⟩:=h.zero;subst hr;simp only[ins];split
   ·exact⟨_,rfl⟩
   ·split
    ·exact⟨_,rfl⟩
    ·omega
  ·rcases mem_ins.1 hx with hx|rfl
   ·exact h.range x hx
   ·omega
theorem SInv.stP{top:Int}{out:List Int}{r:Rg}(h:SInv top out):SInv top (stP top out r):=by
 unfold Go.Proofs.YtgicddadddhonaaGreatDoor.stP;split
 ·exact(h.insT r.l0).insT (by have:=r.h0;omega)
 ·exact h
theorem mem_insT{l:List Int}{v top x:Int}:x∈insT l v top↔x∈l\/(x=v/\x<=top):=by
 unfold insT;split
 ·constructor
  ·exact .inl
  ·rintro(h|⟨rfl,h⟩)
   ·exact h
   ·omega
 ·rw[mem_ins];constructor
  ·rintro(h|rfl)
   ·exact .inl h
   ·exact .inr ⟨rfl,by omega⟩
  ·rintro(h|⟨h,_⟩)
   ·exact .inl h
   ·exact .inr h
theorem aEO{top:Int}{out:List Int}{r:Rg}{x:Int}(h:x∈out):x∈stP top out r:=by
 unfold stP;split
 ·exact mem_insT.2 (.inl (mem_insT.2 (.inl h)))
 ·exact h
theorem Dr:∀(l:List Rg) {top:Int} {out:List Int},SInv top out->SInv top (l.foldl (stP top) out)/\(∀x,x∈out->x∈l.foldl (stP top) out)/\
  (∀r,r∈l->r.lo<=r.hi->(r.lo<=top->r.lo∈l.foldl (stP top) out)/\(r.hi+1<=top->r.hi+1∈l.foldl (stP top) out))/\(l.foldl (stP top) out).length<=out.length+2*l.length
 |[],top,out,h=>⟨h,fun x hx=>hx,fun r hr=>by simp at hr,by simp⟩
 |r::l,top,out,h=>by
  obtain⟨h1,h2,h3,h4⟩:=Dr l (h.stP (r:=r));refine⟨h1,fun x hx=>h2 x (aEO hx),fun s hs hle=>?_,?_⟩
  ·rcases aZ.1 hs with rfl|hs
   ·refine⟨fun ht=>h2 _ ?_,fun ht=>h2 _ ?_⟩
    ·unfold stP;rw[aH hle];exact mem_insT.2 (.inl (mem_insT.2 (.inr ⟨rfl,ht⟩)))
    ·unfold stP;rw[aH hle];exact mem_insT.2 (.inr ⟨rfl,ht⟩)
   ·exact h3 s hs hle
  ·have:=Kn top out r;simp only[fJ,aB];omega
theorem oC(l:List Rg){top:Int}(ht:0<=top):SInv top (starts l top):=(Dr l ⟨by simp,⟨[],rfl⟩,fun x hx=>by simp at hx;subst hx;omega⟩).1
theorem zS(l:List Rg){top:Int}(ht:0<=top){r:Rg}(hr:r∈l)(hle:r.lo<=r.hi):(r.lo<=top->r.lo∈starts l top)/\(r.hi+1<=top->r.hi+1∈starts l top):=
 (Dr l ⟨by simp,⟨[],rfl⟩,fun x hx=>by simp at hx;subst hx;omega⟩).2.2.1 r hr hle
theorem qO(l:List Rg){top:Int}(ht:0<=top):(starts l top).length<=2*l.length+1:=by
 have:=(Dr (top:=top) l (out:=[0]) ⟨by simp,⟨[],rfl⟩,fun x hx=>by simp at hx;subst hx;omega⟩).2.2.2;simp only[starts,aB,aI]at this⊢;omega
theorem F4:∀(st:List Int) {top:Int},st.Pairwise (· < ·)->(∀x,x∈st->x<=top)->∀s,s∈mC top st->s.2<=top/\s.1∈st/\∀x,x∈st->¬(s.1<x/\x<=s.2)
 |[],top,_,_,s,hs=>by simp[mC]at hs
 |[p],top,hp,hb,s,hs=>by
  simp[mC]at hs;subst hs;exact⟨cC _,by simp,fun x hx=>by simp at hx;subst hx;omega⟩
 |p::q::st,top,hp,hb,s,hs=>by
  simp only[mC,aZ]at hs;have⟨h1,h2⟩:=cG.1 hp;rcases hs with rfl|hs
  ·refine⟨by have:=hb q zx;simp only;omega,by simp,fun x hx=>?_⟩;rcases aZ.1 hx with rfl|hx
   ·simp only;omega
   ·rcases aZ.1 hx with rfl|hx
    ·simp only;omega
    ·have:=(cG.1 h2).1 x hx;simp only;omega
  ·obtain⟨a,b,c⟩:=F4 (q::st) h2 (fun x hx=>hb x (by simp at hx⊢;exact .inr hx)) s (by simpa[mC]using hs);refine⟨a,by simp at b⊢;exact .inr b,fun x hx=>?_⟩;rcases aZ.1 hx with rfl|hx
   ·have:=h1 s.1 b;omega
   ·exact c x hx
theorem xQ{l a:List Rg}{top:Int}(ht:0<=top)(hsub:∀r,r∈a->r∈l){s:Int×Int}(hs:s∈mC top (starts l top)){v:Int}(h1:s.1<=v)(h2:v<=s.2):has a v=has a s.1:=by
 have inv:=oC l ht;obtain⟨g1,g2,g3⟩:=F4 _ inv.sorted (fun x hx=>(inv.range x hx).2) s hs;rw[bK,has_iff,has_iff];constructor
 ·rintro⟨r,hr,a1,a2⟩
  refine⟨r,hr,?_,by omega⟩;rcases eX s.1 r.lo with h|h
  ·exact absurd ⟨h,by omega⟩ (g3 r.lo ((zS l ht (hsub r hr) zo).1 zo))
  ·exact h
 ·rintro⟨r,hr,a1,a2⟩
  refine⟨r,hr,by omega,?_⟩;rcases eX r.hi v with h|h
  ·exact absurd ⟨by omega,by omega⟩ (g3 (r.hi+1) ((zS l ht (hsub r hr) zo).2 zo))
  ·exact h
theorem uA(f:Int->Bool):∀(l:List (Int×Int)) (out:List Rg),(l.foldl (mG f) out).length<=out.length+l.length
 |[],out=>by simp
 |s::l,out=>by
  have:=D2 f out s;have:=uA f l (mG f out s);simp only[fJ,aB];omega
theorem keep(a b:List Rg)(c top:Int)(ht0:0<=top)(ht:top<=4294967295)(ha:a.length<10000)(hb:b.length<10000)
  {K:KT}(hK:∀out,Canon out->(∀v,has out v=(decide (0<=v)&&(decide (v<top+1)&&qV c (has a v) (has b v))))->out.length<=2*(a.length+b.length)+1->K (iR out) []):
  AC 149 [iR a,iR b,.v (.int .i64 c),.v (.int .u32 top)] [] K:=by
 have inv:=oC (a++b) ht0;have hl:=qO (a++b) ht0;obtain⟨r0,hr0⟩:=inv.zero;rw[aC]at hl;refine c38 a b c top ht0 ht ha hb inv.range (fun k x hx=>?_) zo ?_
 ·rw[hr0]at hx;have:=(cG.1 (hr0▸inv.sorted)).1 x (aG (by simpa using hx));omega
 ·have hk:KInv (fun v=>qV c (has a v) (has b v)) (Rh (fun v=>qV c (has a v) (has b v)) (starts (a++b) top) top) (top+1):=by
   unfold Rh;have hseg:∀s,s∈mC top (starts (a++b) top)->∀v,s.1<=v->v<=s.2->(fun v=>qV c (has a v) (has b v)) v=(fun v=>qV c (has a v) (has b v)) s.1:=by
    intro s hs v h1 h2;simp only;rw[xQ ht0 (fun r hr=>aX.2 (.inl hr)) hs h1 h2,xQ ht0 (fun r hr=>aX.2 (.inr hr)) hs h1 h2]
   have hsort:=inv.sorted;have hrange:=inv.range;rw[hr0]at hseg hsort hrange⊢;refine I8 ht r0 0 [] ⟨⟨fun r hr=>by simp at hr,by simp⟩,fun v=>?_,fun r hr=>by simp at hr⟩ hsort hrange hseg;rw[bK];simp only[has,List.any_nil,cK,aJ,aL,false_iff];omega
  refine hK _ hk.canon hk.mem ?_;have:=uA (fun v=>qV c (has a v) (has b v)) (mC top (starts (a++b) top)) [];rw[tG]at this;unfold Rh;simp only[aI]at this;omega
theorem yX{l:List Rg}{v:Int}(h:has l v=true):0<=v/\v<=4294967295:=by
 obtain⟨r,_,h1,h2⟩:=has_iff.1 h;have:=r.l0;have:=r.h1;omega
theorem oT(v:Int):has [] v=false:=rfl
theorem c14(a b:List Rg)(ha:a.length<10000)(hb:b.length<10000){K:KT}(hK:∀out,Canon out->(∀v,has out v=(has a v||has b v))->out.length<=2*(a.length+b.length)+1->K (iR out) []):
  AC 82 [iR a,iR b] [] K:=by
 refine aWJ rfl rfl ?_;(conv=>whnf)
 refine keep a b 0 4294967295 zo zo ha hb fun out h1 h2 h3=>?_;(conv=>whnf)
 refine hK out h1 (fun v=>?_) h3;rw[h2,bK];simp only[aJ,aL,qV,bV,reduceCtorEq,Int.reduceEq,if_false];constructor
 ·rintro⟨_,_,h⟩;exact h
 ·intro h;have:=h.elim yX yX;exact⟨by omega,by omega,h⟩
theorem c26(a b:List Rg)(ha:a.length<10000)(hb:b.length<10000){K:KT}(hK:∀out,Canon out->(∀v,has out v=(has a v&&has b v))->out.length<=2*(a.length+b.length)+1->K (iR out) []):
  AC 273 [iR a,iR b] [] K:=by
 refine aWM rfl rfl ?_;(conv=>whnf)
 refine keep a b 1 4294967295 zo zo ha hb fun out h1 h2 h3=>?_;(conv=>whnf)
 refine hK out h1 (fun v=>?_) h3;rw[h2,bK];simp only[aJ,aL,qV,if_true];constructor
 ·rintro⟨_,_,h⟩;exact h
 ·intro h;have:=yX h.1;exact⟨by omega,by omega,h⟩
def g28:Ctx:={N:=44,plan:=p1 4 (lo 29) pn}
abbrev aWN:=ofD g28 Tryz.func287
theorem rV:Canon []:=⟨fun r hr=>by simp at hr,by simp⟩
theorem Im{l:List Rg}{k:Nat}{r:Rg}(hr:l[k]? =some r)(hc:Canon (l.take k)):Canon (l.take (k+1))↔r.lo<=r.hi/\∀p,0<k->l[k-1]? =some p->p.hi+1<r.lo:=by
 have e:l.take (k+1)=l.take k++[r]:=by rw[bE,hr];rfl
 rw[e];constructor
 ·intro h;refine⟨h.1 r zx,fun p hk hp=>?_⟩;refine(dN.1 h.2).2.2 p ?_ r zx;exact aG (i:=k-1) (by rw[eY zo];exact hp)
 ·rintro⟨h1,h2⟩
  refine kZ hc h1 fun s hs=>?_;cases k with
  |zero=>simp at hs
  |succ k=>
   have hlt:k<l.length:=by
    have:=(aP.1 hr).1;omega
   have hp:l[k]? =some l[k]:=aE hlt;have h3:=h2 l[k] zo zx;have e2:l.take (k+1)=l.take k++[l[k]]:=by rw[bE,hp];rfl
   rw[e2]at hc hs;have hle:=hc.1 l[k] (aX.2 (.inr (aU.2 rfl)));rcases aX.1 hs with hs|hs
   ·have:=(dN.1 hc.2).2.2 s hs l[k] (aU.2 rfl);omega
   ·simp at hs;subst hs;exact h3
theorem Io{l:List Rg}(h:Canon l)(k:Nat):Canon (l.take k):=
 ⟨fun r hr=>h.1 r (cP hr),h.2.sublist (List.take_sublist k l)⟩
def Ng(l:List Rg)(top:Int)(k:Nat):Prop:=Canon (l.take k)/\∀r,r∈l.take k->r.hi<=top
theorem Na(l:List Rg)(top:Int):Ng l top 0:=⟨by simp[rV],fun r hr=>by simp at hr⟩
theorem M9{l:List Rg}{top:Int}{k:Nat}{r:Rg}(hr:l[k]? =some r)(h:Ng l top k)(h1:r.lo<=r.hi)(h2:r.hi<=top)(h3:∀p,0<k->l[k-1]? =some p->p.hi+1<r.lo):Ng l top (k+1):=by
 refine⟨(Im hr h.1).2 ⟨h1,h3⟩,fun s hs=>?_⟩;rw[bE,hr]at hs;rcases aX.1 hs with hs|hs
 ·exact h.2 s hs
 ·simp at hs;subst hs;exact h2
theorem Sy{l:List Rg}{top:Int}{k:Nat}{r:Rg}(hr:l[k]? =some r)(h:¬(r.lo<=r.hi/\r.hi<=top/\∀p,0<k->l[k-1]? =some p->p.hi+1<r.lo)):¬(Canon l/\∀r,r∈l->r.hi<=top):=by
 rintro⟨h1,h2⟩
 have h3:=(Im hr (Io h1 k)).1 (Io h1 (k+1));exact h ⟨h3.1,h2 r (aG hr),h3.2⟩
theorem c33(l:List Rg)(top:Int)(hl:l.length<100000){K:KT}(hK:∀s,(s=true↔Canon l/\∀r,r∈l->r.hi<=top)->K (.sb s) []):
  AC 272 [iR l,.v (.int .u32 top)] [] K:=by
 refine gZ (aWP rfl rfl ?_);(conv=>whnf)
 refine gV Nat (fun k=>⟨0,[],[(0,iR l),(1,.v (.int .u32 top)),(5,.v (.int .i64 k))]⟩) (fun k=>k<=l.length/\Ng l top k) (fun k=>l.length-k) 0 ?_ ?_ ?_
 ·exact⟨by omega,Na l top⟩
 ·exact⟨[],rfl,⟨rfl,rfl,rfl,trivial⟩,trivial⟩
 ·intro k ⟨hk,hinv⟩;rcases aD k l.length with hkl|hkl
  ·obtain⟨r,hr⟩:=gex hkl;have b1:=r.l0;have b2:=r.l1;have b3:=r.h0;have b4:=r.h1;have no:¬(r.lo<=r.hi/\r.hi<=top/\∀p,0<k->l[k-1]? =some p->p.hi+1<r.lo)->K (.sb false) []:=fun h=>hK false (iff_of_false zx (Sy hr h));have next:∀σ,r.lo<=r.hi->r.hi<=top->(∀p,0<k->l[k-1]? =some p->p.hi+1<r.lo)->Le 0 ⟨0,[],[(0,iR l),(1,.v (.int .u32 top)),(5,.v (.int .i64 ((k:Int)+1)))]⟩ σ->
     ∃g':Nat,(g'<=l.length/\Ng l top g')/\l.length-g'<l.length-k/\Le 0 ⟨0,[],[(0,iR l),(1,.v (.int .u32 top)),(5,.v (.int .i64 (g':Int)))]⟩ σ:=
    fun σ h1 h2 h3 hle=>⟨k+1,⟨by omega,M9 hr hinv h1 h2 h3⟩,by omega,hle⟩
   rcases cV k with hk0|hk0
   ·iterate 40 (all_goals((conv=>whnf);first|(with_reducible first|refine iI hkl ?_|refine iH hr ?_)|refine zG ?_|apply zA|intro h|exact zT|skip))
    all_goals first
     |exact next _ zo zo (by intros;omega) ⟨[],rfl,⟨rfl,rfl,rfl,trivial⟩,trivial⟩
     |exact .inl ⟨false,rfl,no zo⟩
   ·obtain⟨p,hp⟩:∃p,l[k-1]? =some p:=⟨_,aE zo⟩
    have p3:=p.h0;have p4:=p.h1;have hj:((k:Int)-1=((k-1:Nat):Int))/\k-1<(l.map encR).length:=by rw[aA];omega
    iterate 40 (all_goals((conv=>whnf);first|(with_reducible first|refine iI hkl ?_|refine iH hr ?_|refine iB (k-1) hj.1 hj.2 ?_|refine iH hp ?_)|refine zG ?_|apply zA|intro h|exact zT|skip))
    all_goals first
     |exact next _ zo zo (fun q _ hq=>by rw[hp]at hq;cases hq;omega) ⟨[],rfl,⟨rfl,rfl,rfl,trivial⟩,trivial⟩
     |exact .inl ⟨false,rfl,no (fun hh=>by have:=hh.2.2 p hk0 hp;omega)⟩
  ·iterate 6 (all_goals((conv=>whnf);first|(with_reducible refine iI hkl ?_)|refine zG ?_|apply zA|intro h|exact zT|skip))
   have e:l.take k=l:=aW hkl;refine .inl ⟨true,rfl,hK true (iff_of_true rfl ?_)⟩;unfold Ng at hinv;rw[e]at hinv;exact hinv
theorem c28(l:List Rg)(top:Int)(hl:l.length<100000){K:KT}(hK:∀s,(s=true↔Canon l/\∀r,r∈l->r.hi<=top)->K (.sb s) []):
  AC 287 [iR l,.v (.int .u32 top)] [] K:=by
 refine gZ (aWN rfl rfl ?_);(conv=>whnf)
 refine gV Nat (fun k=>⟨0,[],[(0,iR l),(1,.v (.int .u32 top)),(7,iR l),(8,.v (.int .i64 (l.map encR).length)),(9,.v (.int .i64 k))]⟩) (fun k=>k<=l.length/\Ng l top k) (fun k=>l.length-k) 0 ?_ ?_ ?_
 ·exact⟨by omega,Na l top⟩
 ·exact⟨[],rfl,⟨rfl,rfl,rfl,rfl,rfl,trivial⟩,trivial⟩
 ·intro k ⟨hk,hinv⟩;rcases aD k l.length with hkl|hkl
  ·obtain⟨r,hr⟩:=gex hkl;have b1:=r.l0;have b2:=r.l1;have b3:=r.h0;have b4:=r.h1;have no:¬(r.lo<=r.hi/\r.hi<=top/\∀p,0<k->l[k-1]? =some p->p.hi+1<r.lo)->K (.sb false) []:=fun h=>hK false (iff_of_false zx (Sy hr h));have next:∀σ,r.lo<=r.hi->r.hi<=top->(∀p,0<k->l[k-1]? =some p->p.hi+1<r.lo)->Le 0 ⟨0,[],[(0,iR l),(1,.v (.int .u32 top)),(7,iR l),(8,.v (.int .i64 (l.map encR).length)),(9,.v (.int .i64 ((k:Int)+1)))]⟩ σ->
     ∃g':Nat,(g'<=l.length/\Ng l top g')/\l.length-g'<l.length-k/\Le 0 ⟨0,[],[(0,iR l),(1,.v (.int .u32 top)),(7,iR l),(8,.v (.int .i64 (l.map encR).length)),(9,.v (.int .i64 (g':Int)))]⟩ σ:=
    fun σ h1 h2 h3 hle=>⟨k+1,⟨by omega,M9 hr hinv h1 h2 h3⟩,by omega,hle⟩
   rcases cV k with hk0|hk0
   ·iterate 40 (all_goals((conv=>whnf);first|(with_reducible first|refine iI hkl ?_|refine iH hr ?_)|refine zG ?_|apply zA|intro h|exact zT|skip))
    all_goals first
     |exact next _ zo zo (by intros;omega) ⟨[],rfl,⟨rfl,rfl,rfl,rfl,rfl,trivial⟩,trivial⟩
     |exact .inl ⟨false,rfl,no zo⟩
   ·obtain⟨p,hp⟩:∃p,l[k-1]? =some p:=⟨_,aE zo⟩
    have p3:=p.h0;have p4:=p.h1;have hj:((k:Int)-1=((k-1:Nat):Int))/\k-1<(l.map encR).length:=by rw[aA];omega
    iterate 40 (all_goals((conv=>whnf);first|(with_reducible first|refine iI hkl ?_|refine iH hr ?_|refine iB (k-1) hj.1 hj.2 ?_|refine iH hp ?_)|refine zG ?_|apply zA|intro h|exact zT|skip))
    all_goals first
     |exact next _ zo zo (fun q _ hq=>by rw[hp]at hq;cases hq;omega) ⟨[],rfl,⟨rfl,rfl,rfl,rfl,rfl,trivial⟩,trivial⟩
     |exact .inl ⟨false,rfl,no (fun hh=>by have:=hh.2.2 p hk0 hp;omega)⟩
  ·iterate 6 (all_goals((conv=>whnf);first|(with_reducible refine iI hkl ?_)|refine zG ?_|apply zA|intro h|exact zT|skip))
   have e:l.take k=l:=aW hkl;refine .inl ⟨true,rfl,hK true (iff_of_true rfl ?_)⟩;unfold Ng at hinv;rw[e]at hinv;exact hinv
def g37:Ctx:={N:=11}
abbrev aOZ:=ofD g37 Tryz.func52
def Ah:Sched:=lp 12 [24,27]
def g13:Ctx:={N:=39,np:=1,plan:=p1 1 (lo 14) (p1 4 Ah pn)}
abbrev aOY:=ofD g13 Tryz.func14
def g12:Ctx:={N:=19,np:=1,own:=oz [14]}
abbrev aWI:=ofD g12 Tryz.func48
def g29:Ctx:={N:=20,np:=1,own:=oz [48]}
abbrev aWO:=ofD g29 Tryz.func99
def g10:Ctx:={N:=40,np:=1,own:=oz [14,99],hints:=h1 2 [.virt 9 2] hn}
abbrev aWH:=ofD g10 Tryz.func46
def g9:Ctx:={N:=6}
def b9:Code:=bdy Tryz.f9
abbrev of9:=ofD g9 Tryz.func9
abbrev encI(x:Int):AV:=.v (.int .i64 x)
abbrev iO(raw:List Int)(pos:Nat):Vm.Obj:=.box [.lst (raw.map encI),.v (.int .i64 pos)]
theorem c9(raw:List Int){K:KT}(hK:K (.op 0 0) [iO raw 0]):AC 9 [.lst (raw.map encI)] [] K:=by
 refine of9 rfl rfl ?_
 iterate 6 (all_goals((conv=>whnf);first|refine zG ?_|apply zA|intro h|exact zT|skip))
 exact hK
theorem c37(x n:Int)(hn:1<=n)(hn2:n<=9223372036854775807){K:KT}(hK:∀m,0<=m->m<n->K (.v (.int .i64 m)) []):AC 52 [.v (.int .i64 x),.v (.int .i64 n)] [] K:=by
 refine aOZ rfl rfl ?_;(conv=>whnf)
 refine zZ fun r h0 h1=>?_;have m0:0<=r.tmod n:=Int.tmod_nonneg n h0;have m1:r.tmod n<n:=Int.tmod_lt_of_pos r zo
 iterate 10 (all_goals((conv=>whnf);first|refine zG ?_|apply zA|intro h|exact zT|skip))
 exact hK _ m0 m1
theorem c13(raw:List Int)(pos:Nat)(n:Int)(hn2:n<=9223372036854775807)(hp:pos<=raw.length)(hr:raw.length<=9223372036854775807){K:KT}
  (hK:∀m pos',0<=m->(m=0\/m<n)->pos'<=raw.length->K (.v (.int .i64 m)) [iO raw pos']):AC 14 [.op 0 0,.v (.int .i64 n)] [iO raw pos] K:=by
 refine aOY rfl rfl ?_;rcases aD pos raw.length with hlt|hge
 ·obtain⟨x,hx⟩:=gex hlt;have hj:((pos:Int)+1-1=pos)/\pos<(raw.map encI).length:=by rw[aA];omega
  iterate 40 (all_goals((conv=>whnf);first|(with_reducible first|refine iB pos hj.1 hj.2 ?_|refine iH hx ?_|refine c37 _ _ zo zo (fun m m0 m1=>?_))|refine zG ?_|apply zA|intro h|exact zT|skip))
  ·exact hK 0 pos zo zo hp
  ·exact hK m (pos+1) m0 (.inr m1) hlt
 ·iterate 40 (all_goals((conv=>whnf);first|(with_reducible refine iJ hlt ?_)|refine zG ?_|apply zA|intro h|exact zT|skip))
  all_goals exact hK 0 pos zo zo hp
theorem Ot{xs:List AV}{i:Nat}{K:AV->Prop}(P:AV->Prop)(hP:∀x,x∈xs->P x)(hi:i<xs.length)(hk:∀x,P x->K x):Ix xs i K:=
 iC (aE hi) (hk _ (hP _ (dE hi)))
def Vk(x:AV):Prop:=∃y:Int,x=.v (.int .u32 y)/\0<=y/\y<=4294967295
theorem c12(raw:List Int)(pos:Nat)(top:Int)(ht0:0<=top)(ht:top<=4294967295)(hp:pos<=raw.length)(hr:raw.length<=9223372036854775807){K:KT}
  (hK:∀y pos',0<=y->y<=top->pos'<=raw.length->K (.v (.int .u32 y)) [iO raw pos']):AC 48 [.op 0 0,.v (.int .u32 top)] [iO raw pos] K:=by
 refine aWI rfl rfl ?_;(conv=>whnf)
 refine .intro zd ?_;refine jD fun a a0 a1=>?_;(conv=>whnf)
 refine jD fun b b0 b1=>?_;(conv=>whnf)
 refine c13 raw pos 17 zo hp hr fun m pos' m0 m1 hp'=>?_;(conv=>whnf)
 refine iB m.toNat zo zo ?_;(conv=>whnf)
 refine Ot Vk ?_ (by simp only[aB,aI];omega) ?_
 ·simp only[fX];(repeat' apply And.intro)<;>first|exact⟨_,rfl,by omega,by omega⟩|(intro _ h;cases h)
 ·rintro _ ⟨y,rfl,y0,y1⟩
  iterate 8 (all_goals((conv=>whnf);first|refine zG ?_|apply zA|intro h|exact zT|skip))
  exact hK _ pos' zo zo hp'
theorem c29(raw:List Int)(pos:Nat)(top:Int)(ht0:0<=top)(ht:top<=4294967295)(hp:pos<=raw.length)(hr:raw.length<=9223372036854775807){K:KT}
  (hK:∀(r:Rg) pos',r.lo<=r.hi->r.hi<=top->pos'<=raw.length->K (.agg [.v (.int .u32 r.lo),.v (.int .u32 r.hi)]) [iO raw pos']):AC 99 [.op 0 0,.v (.int .u32 top)] [iO raw pos] K:=by
 refine aWO rfl rfl ?_;(conv=>whnf)
 refine c12 raw pos top ht0 ht hp hr fun y1 p1 y10 y11 hp1=>?_;(conv=>whnf)
 refine c12 raw p1 top ht0 ht hp1 hr fun y2 p2 y20 y21 hp2=>?_
 iterate 8 (all_goals((conv=>whnf);first|refine zG ?_|apply zA|intro h|exact zT|skip))
 have h1:0<=min y1 y2/\min y1 y2<=4294967295:=by omega
 have h2:0<=max y1 y2/\max y1 y2<=4294967295:=by omega
 exact hK ⟨min y1 y2,max y1 y2,h1.1,h1.2,h2.1,h2.2⟩ p2 zs zs hp2
theorem c10(raw:List Int)(pos:Nat)(n top:Int)(fl:Bool)(hn0:0<=n)(hn:n<10000)(ht0:0<=top)(ht:top<=4294967295)(hp:pos<=raw.length)(hr:raw.length<=9223372036854775807){K:KT}
  (hK:∀(l:List Rg) pos',(l.length:Int)<=n->(∀r,r∈l->r.lo<=top/\r.hi<=top)->pos'<=raw.length->K (iR l) [iO raw pos']):AC 46 [.op 0 0,.v (.int .i64 n),.v (.int .u32 top),.v (.bool fl)] [iO raw pos] K:=by
 refine aWH rfl rfl ?_;(conv=>whnf)
 refine jO rfl zo zo ?_;(conv=>whnf)
 refine c13 raw pos (n+1) zo hp hr fun m p1 m0 m1 hp1=>?_;(conv=>whnf)
 refine gV (Nat×List Rg×Int) (fun g=>⟨2,[(0,iO raw g.1),(1,.arr 2 (g.2.1.map encR))],[(0,.op 0 0),(2,.v (.int .u32 top)),(3,.v (.bool fl)),(9,.os 1 2 0 g.2.1.length),(10,.v (.int .i64 g.2.2))]⟩)
  (fun g=>g.1<=raw.length/\(g.2.1.length:Int)+g.2.2<=n/\0<=g.2.2/\∀r,r∈g.2.1->r.lo<=top/\r.hi<=top) (fun g=>g.2.2.toNat) (p1,[],m) ?_ ?_ ?_
 ·exact⟨hp1,by simp;omega,m0,fun r hr=>by simp at hr⟩
 ·exact⟨[(0,0),(1,1)],rfl,⟨rfl,rfl,rfl,rfl,rfl,trivial⟩,⟨rfl,rfl,trivial⟩⟩
 ·rintro⟨p,out,c⟩ ⟨hp,hlen,hc,hall⟩
  simp only at hp hlen hc hall⊢;(conv=>whnf)
  refine sG (fun h=>?_) (fun h=>?_)
  ·(conv=>whnf)
   refine c29 raw p top ht0 ht hp hr fun r p2 r1 r2 hp2=>?_;have b1:=r.l0;have b2:=r.l1;have b3:=r.h0;have b4:=r.h1;have next:∀(q:Rg) (p3:Nat) σ,p3<=raw.length->q.lo<=top->q.hi<=top->Le 1 ⟨2,[(0,iO raw p3),(1,.arr 2 (out.map encR++[.agg [.v (.int .u32 q.lo),.v (.int .u32 q.hi)]]))],[(0,.op 0 0),(2,.v (.int .u32 top)),(3,.v (.bool fl)),(9,.os 1 2 0 (out.length+1)),(10,.v (.int .i64 (c-1)))]⟩ σ->
     ∃g':Nat×List Rg×Int,(g'.1<=raw.length/\(g'.2.1.length:Int)+g'.2.2<=n/\0<=g'.2.2/\∀r,r∈g'.2.1->r.lo<=top/\r.hi<=top)/\g'.2.2.toNat<c.toNat/\
      Le 1 ⟨2,[(0,iO raw g'.1),(1,.arr 2 (g'.2.1.map encR))],[(0,.op 0 0),(2,.v (.int .u32 top)),(3,.v (.bool fl)),(9,.os 1 2 0 g'.2.1.length),(10,.v (.int .i64 g'.2.2))]⟩ σ:=by
    intro q p3 σ h1 h2 h3 hle;refine⟨(p3,out++[q],c-1),⟨h1,by simp only[aC,aB,aI];omega,by simp only;omega,fun s hs=>?_⟩,by simp only;omega,?_⟩
    ·rcases aX.1 hs with hs|hs
     ·exact hall s hs
     ·simp at hs;subst hs;exact⟨h2,h3⟩
    ·simp only[aQ,aR,bI,aC,aB,aI];exact hle
   cases fl with
   |false=>
    iterate 20 (all_goals((conv=>whnf);first|refine zG ?_|apply zA|intro h|exact zT|skip))
    exact next r p2 _ hp2 zo r2 ⟨[(0,0),(1,4)],rfl,⟨rfl,rfl,rfl,rfl,rfl,trivial⟩,⟨rfl,rfl,trivial⟩⟩
   |true=>
    iterate 3 (all_goals((conv=>whnf);first|refine zG ?_|apply zA|intro h|exact zT|skip))
    refine c13 raw p2 8 zo hp2 hr fun z p3 z0 z1 hp3=>?_
    iterate 30 (all_goals((conv=>whnf);first|refine zG ?_|apply zA|intro h|exact zT|skip))
    ·exact next ⟨r.hi,r.lo,b3,b4,b1,b2⟩ p3 _ hp3 r2 zs ⟨[(0,0),(1,4)],rfl,⟨rfl,rfl,rfl,rfl,rfl,trivial⟩,⟨rfl,rfl,trivial⟩⟩
    ·exact next r p3 _ hp3 zo r2 ⟨[(0,0),(1,4)],rfl,⟨rfl,rfl,rfl,rfl,rfl,trivial⟩,⟨rfl,rfl,trivial⟩⟩
  ·iterate 4 (all_goals((conv=>whnf);first|refine zG ?_|apply zA|intro h|exact zT|skip))
   exact hK out p zo hall hp
open Go Go.Vm Go.ChangeShapes Go.WideShapes Go.ChangeAt Go.RowKit
abbrev Yes:AV->List Vm.Obj->Prop:=fun r _=>r=.sb true\/r=.v (.bool true)
theorem Ec:ownKnob Tryz.prog.godebug=none:=by kernel_rfl
theorem laidOut:laidOutB Tryz.prog=true:=by kernel_rfl
theorem mM{α:Type}(enc:α->AV):∀{xs:List AV},(∀y,y∈xs->∃a,y=enc a)->∃l:List α,xs=l.map enc
 |[],_=>⟨[],rfl⟩
 |y::ys,h=>by
  obtain⟨a,rfl⟩:=h y zx;obtain⟨l,rfl⟩:=mM enc (xs:=ys) fun z hz=>h z (aS _ hz);exact⟨a::l,rfl⟩
theorem Sw{d:Nat}{x:AV}(h:Ty Tryz.prog (d+2) 22 x):∃raw:List Int,x=.lst (raw.map encI)/\raw.length<=9223372036854775807:=by
 obtain⟨xs,rfl,hl,hx⟩:=h;obtain⟨l,rfl⟩:=mM encI fun y hy=>by
  obtain⟨i,hr,_⟩:=hx y hy;exact⟨i,hr⟩
 refine⟨l,rfl,?_⟩;simpa[maxLen]using hl
theorem aES{d:Nat}{y:AV}(h:Ty Tryz.prog (d+2) 108 y):∃p:Pf,y=lN p:=by
 obtain⟨ys,hl,rfl,hf⟩:=h
 match ys,hl with
 |[p,q],_=>
  obtain⟨i,rfl,i0,i1⟩:=hf 0 _ p rfl rfl;obtain⟨j,rfl,_⟩:=hf 1 _ q rfl rfl;exact⟨⟨i,j,i0,i1⟩,rfl⟩
theorem aVX{d:Nat}{y:AV}(h:Ty Tryz.prog (d+2) 142 y):∃p:Dv,y=pY p:=by
 obtain⟨ys,hl,rfl,hf⟩:=h
 match ys,hl with
 |[a,b,c,e,f],_=>
  obtain⟨a,rfl,_⟩:=hf 0 _ a rfl rfl;obtain⟨b,rfl,_⟩:=hf 1 _ b rfl rfl;obtain⟨c,rfl⟩:=hf 2 _ c rfl rfl;obtain⟨e,rfl⟩:=hf 3 _ e rfl rfl;obtain⟨f,rfl,_⟩:=hf 4 _ f rfl rfl;exact⟨⟨a,b,c,e,f⟩,rfl⟩
theorem aVZ{d:Nat}{y:AV}(h:Ty Tryz.prog (d+2) 144 y):∃p:Lk,y=Dn p:=by
 obtain⟨ys,hl,rfl,hf⟩:=h
 match ys,hl with
 |[a,b,c],_=>
  obtain⟨a,rfl,_⟩:=hf 0 _ a rfl rfl;obtain⟨b,rfl,_⟩:=hf 1 _ b rfl rfl;obtain⟨c,rfl,_⟩:=hf 2 _ c rfl rfl;exact⟨⟨a,b,c⟩,rfl⟩
theorem aVY{d:Nat}{y:AV}(h:Ty Tryz.prog (d+3) 124 y):∃p:Ed,y=lY p:=by
 obtain⟨ys,hl,rfl,hf⟩:=h
 match ys,hl with
 |[a,b,c,e,f],_=>
  obtain⟨a,rfl,_⟩:=hf 0 _ a rfl rfl;obtain⟨b,rfl,_⟩:=hf 1 _ b rfl rfl;obtain⟨c,rfl,_⟩:=hf 2 _ c rfl rfl;obtain⟨e,rfl⟩:=aES (d:=d) (hf 3 _ e rfl rfl);obtain⟨f,rfl⟩:=hf 4 _ f rfl rfl;exact⟨⟨a,b,c,e,f⟩,rfl⟩
theorem aWa{d:Nat}{y:AV}(h:Ty Tryz.prog (d+5) 34 y):∃t:Tp,y=jT t:=by
 obtain⟨ys,hl,rfl,hf⟩:=h
 match ys,hl with
 |[a,b,c,e,f],_=>
  obtain⟨a,rfl,_,ha⟩:=hf 0 _ a rfl rfl;obtain⟨b,rfl,_,hb⟩:=hf 1 _ b rfl rfl;obtain⟨c,rfl,_,hc⟩:=hf 2 _ c rfl rfl;obtain⟨e,rfl,_,he⟩:=hf 3 _ e rfl rfl;obtain⟨f,rfl,_⟩:=hf 4 _ f rfl rfl;obtain⟨a,rfl⟩:=mM pY fun y hy=>aVX (d:=d+1) (ha y hy);obtain⟨b,rfl⟩:=mM Dn fun y hy=>aVZ (d:=d+1) (hb y hy);obtain⟨c,rfl⟩:=mM lY fun y hy=>aVY (d:=d) (hc y hy);obtain⟨e,rfl⟩:=mM lN fun y hy=>aES (d:=d+1) (he y hy);exact⟨⟨a,b,c,e,f⟩,rfl⟩
end Go.Proofs.YtgicddadddhonaaGreatDoor
