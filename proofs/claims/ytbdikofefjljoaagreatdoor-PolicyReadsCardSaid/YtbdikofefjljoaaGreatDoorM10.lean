/- nsgref2: Starts. -/
import Derived.Test.YtbdikofefjljoaaGreatDoorProg
import Derived.Test.YtbdikofefjljoaaGreatDoorRows
import Derived.WalkKit
import Derived.ProofKit
import Derived.OpenShut
import Derived.Test.YtbdikofefjljoaaGreatDoorCards
import Derived.Test.YtbdikofefjljoaaGreatDoorTie
import Derived.LaidMore
import Derived.Lib.LaidTab
import Derived.Stop.LaidErr
import Derived.Stop.Joined
import Derived.SevenTiedAt
import Derived.Test.YtbdikofefjljoaaGreatDoorM9
set_option linter.unusedVariables false
set_option linter.unusedSimpArgs false
set_option maxRecDepth 100000
set_option maxHeartbeats 4000000
namespace Go.Proofs.YtbdikofefjljoaaGreatDoor
open Go Go.Vm
def stP(top:Int)(out:List Int)(r:Rg):List Int:=if r.lo<=r.hi then insT (insT out r.lo top) (r.hi+1) top else out
def starts(l:List Rg)(top:Int):List Int:=l.foldl (stP top) [0]
theorem ins_length:∀(l:List Int) (v:Int),(ins l v).length<=l.length+1
 |[],v=>by simp[ins]
 |x::xs,v=>by
  have:=ins_length xs v
  simp only[ins]
  split
  ·simp;omega
  ·split<;>simp
theorem insT_length(l:List Int)(v top:Int):(insT l v top).length<=l.length+1:=by
 unfold insT;split
 ·omega
 ·exact ins_length _ _
theorem stP_length(top:Int)(out:List Int)(r:Rg):(stP top out r).length<=out.length+2:=by
 unfold stP;split
 ·have:=insT_length out r.lo top
  have:=insT_length (insT out r.lo top) (r.hi+1) top
  omega
 ·omega
theorem foldl_succ{α β:Type}{f:β->α->β}{b:β}{l:List α}{k:Nat}{r:α}(h:l[k]? =some r):(l.take (k+1)).foldl f b=f ((l.take k).foldl f b) r:=by
 simp[bJ,h]
theorem c45(l:List Rg)(top:Int)(ht0:0<=top)(ht:top<=4294967295)(hl:l.length<100000){K:KT}(hK:K (encUs (starts l top)) []):
  ACall Tryz.prog 170 [encRs l,.v (.int .u32 top)] [] K:=by
 refine of45 rfl rfl ?_
 iterate 3 ((conv=>whnf);first|((with_reducible refine sl_full ?ha ?_);(case ha=>exact gA))|((with_reducible refine Ob.intro ?ha ?_);(case ha=>exact gC))|skip)
 refine Lp.intro Nat (fun k=>⟨1,[],[(0,encRs l),(1,.v (.int .u32 top)),(5,encUs ((l.take k).foldl (stP top) [0])),(6,.v (.int .i64 k))]⟩) (fun k=>k<=l.length/\((l.take k).foldl (stP top) [0]).length<=2*k+1) (fun k=>l.length-k) 0 ?_ ?_ ?_
 ·exact⟨by omega,by simp⟩
 ·exact⟨[],rfl,⟨rfl,rfl,rfl,rfl,trivial⟩,trivial⟩
 ·intro k ⟨hk,hlen⟩
  rcases aB k l.length with hkl|hkl
  ·obtain⟨r,hr⟩:=gex hkl
   have b1:=r.l0;have b2:=r.l1;have b3:=r.h0;have b4:=r.h1
   have hs:=foldl_succ (f:=stP top) (b:=[0]) hr
   have next:∀σ,Le 0 ⟨1,[],[(0,encRs l),(1,.v (.int .u32 top)),(5,encUs (stP top ((l.take k).foldl (stP top) [0]) r)),(6,.v (.int .i64 ((k:Int)+1)))]⟩ σ->
     ∃g':Nat,(g'<=l.length/\((l.take g').foldl (stP top) [0]).length<=2*g'+1)/\l.length-g'<l.length-k/\Le 0 ⟨1,[],[(0,encRs l),(1,.v (.int .u32 top)),(5,encUs ((l.take g').foldl (stP top) [0])),(6,.v (.int .i64 (g':Int)))]⟩ σ:=by
    intro σ h
    have:=stP_length top ((l.take k).foldl (stP top) [0]) r
    exact⟨k+1,⟨by omega,by rw[hs];omega⟩,by omega,by rw[hs];exact h⟩
   generalize (l.take k).foldl (stP top) [0]=out at hs hlen next⊢
   have i1:=insT_length out r.lo top
   iterate 32 (all_goals((conv=>whnf);first|(with_reducible first|refine in_map hkl ?_|refine ix_map hr ?_|refine c51 _ _ _ ht0 ht zo ?_)|refine zG ?_|apply zA|(apply zI;intro h)|exact zT|skip))
   all_goals
    refine next _ ?_
    unfold stP
    first
    |(rw[aG zp];exact⟨[],rfl,⟨rfl,rfl,rfl,rfl,trivial⟩,trivial⟩)
    |(rw[aE zp];exact⟨[],rfl,⟨rfl,rfl,rfl,rfl,trivial⟩,trivial⟩)
  ·iterate 3 (all_goals((conv=>whnf);first|(with_reducible refine in_map hkl ?_)|refine zG ?_|apply zA|(apply zI;intro h)|exact zT|skip))
   have e:l.take k=l:=aX hkl
   rw[starts]at hK
   rw[e]
   exact hK
def mkR(lo hi:Int):Rg:=if h:0<=lo/\lo<=4294967295/\0<=hi/\hi<=4294967295 then⟨lo,hi,h.1,h.2.1,h.2.2.1,h.2.2.2⟩else⟨0,0,by decide,by decide,by decide,by decide⟩
theorem mkR_lo{lo hi:Int}(h0:0<=lo)(h1:lo<=4294967295)(h2:0<=hi)(h3:hi<=4294967295):(mkR lo hi).lo=lo:=by unfold mkR;rw[dif_pos ⟨h0,h1,h2,h3⟩]
theorem mkR_hi{lo hi:Int}(h0:0<=lo)(h1:lo<=4294967295)(h2:0<=hi)(h3:hi<=4294967295):(mkR lo hi).hi=hi:=by unfold mkR;rw[dif_pos ⟨h0,h1,h2,h3⟩]
theorem enc_mkR{lo hi:Int}(h0:0<=lo)(h1:lo<=4294967295)(h2:0<=hi)(h3:hi<=4294967295):encR (mkR lo hi)=.agg [.v (.int .u32 lo),.v (.int .u32 hi)]:=by
 unfold encR;rw[mkR_lo h0 h1 h2 h3,mkR_hi h0 h1 h2 h3]
def segs(top:Int):List Int->List (Int×Int)
 |[]=>[]
 |[x]=>[(x,top)]
 |x::y::r=>(x,y-1)::segs top (y::r)
def keepC(c:Int)(i j:Bool):Bool:=if c=1 then i&&j else if c=2 then i&& !j else if c=3 then !i&& !j else i||j
def keepS(f:Int->Bool)(out:List Rg)(s:Int×Int):List Rg:=
 if f s.1 then match out.getLast? with
  |some r=>if r.hi+1=s.1 then out.dropLast++[mkR r.lo s.2]else out++[mkR s.1 s.2]
  |none=>[mkR s.1 s.2]
 else out
def keepL(f:Int->Bool)(st:List Int)(top:Int):List Rg:=(segs top st).foldl (keepS f) []
theorem segs_length(top:Int):∀st:List Int,(segs top st).length=st.length
 |[]=>rfl
 |[x]=>rfl
 |x::y::r=>by simp only[segs,aJ,segs_length top (y::r)]
theorem segs_get(top:Int):∀(st:List Int) (k:Nat) (x:Int),st[k]? =some x->(segs top st)[k]? =some (x,match st[k+1]? with|some y=>y-1|none=>top)
 |[],k,x,h=>by simp at h
 |[z],k,x,h=>by
  cases k with
  |zero=>simp at h;subst h;rfl
  |succ k=>simp at h
 |z::y::r,k,x,h=>by
  cases k with
  |zero=>simp at h;subst h;rfl
  |succ k=>
   have:=segs_get top (y::r) k x (by simpa using h)
   simpa[segs]using this
theorem keepS_length(f:Int->Bool)(out:List Rg)(s:Int×Int):(keepS f out s).length<=out.length+1:=by
 unfold keepS
 split
 ·split
  ·split<;>simp
  ·simp
 ·omega
theorem c45'(l:List Rg)(top:Int)(ht0:0<=top)(ht:top<=4294967295)(hl:l.length<100000)(xs:List AV)(hxs:xs=l.map encR){K:KT}(hK:K (encUs (starts l top)) []):
  ACall Tryz.prog 170 [.lst xs,.v (.int .u32 top)] [] K:=by subst hxs;exact c45 l top ht0 ht hl hK
theorem c38(a b:List Rg)(c top:Int)(ht0:0<=top)(ht:top<=4294967295)(ha:a.length<10000)(hb:b.length<10000)
  (hst:∀x,x∈starts (a++b) top->0<=x/\x<=top)(hpos:∀(k:Nat) x,(starts (a++b) top)[k+1]? =some x->1<=x)(hlen:(starts (a++b) top).length<100000)
  {K:KT}(hK:K (encRs (keepL (fun v=>keepC c (has a v) (has b v)) (starts (a++b) top) top)) []):
  ACall Tryz.prog 241 [encRs a,encRs b,.v (.int .i64 c),.v (.int .u32 top)] [] K:=by
 refine of38 rfl rfl ?_
 iterate 12 (all_goals((conv=>whnf);first|(with_reducible refine c45' (a++b) top ht0 ht (by simp;omega) _ zx ?_)|refine zG ?_|apply zA|(apply zI;intro h)|exact zT|skip))
 generalize hst':starts (a++b) top=st at*
 generalize hf:(fun v=>keepC c (has a v) (has b v))=f at*
 refine Lp.intro Nat (fun k=>⟨1,[(0,.arr 2 ((((segs top st).take k).foldl (keepS f) []).map encR))],[(0,encRs a),(1,encRs b),(2,.v (.int .i64 c)),(3,.v (.int .u32 top)),(9,encUs st),(10,.os 0 2 0 (((segs top st).take k).foldl (keepS f) []).length),(11,.v (.int .i64 k))]⟩) (fun k=>k<=st.length/\(((segs top st).take k).foldl (keepS f) []).length<=k) (fun k=>st.length-k) 0 ?_ ?_ ?_
 ·exact⟨by omega,by simp⟩
 ·exact⟨[(0,3)],rfl,⟨rfl,rfl,rfl,rfl,rfl,rfl,rfl,trivial⟩,⟨rfl,trivial⟩⟩
 ·intro k ⟨hk,hle⟩
  rcases aB k st.length with hkl|hkl
  ·obtain⟨x,hx⟩:=gex hkl
   have hx0:=hst x (aF hx)
   have hsg:=segs_get top st k x hx
   generalize hto:(match st[k+1]? with|some y=>y-1|none=>top)=to at hsg
   have hs:=foldl_succ (f:=keepS f) (b:=[]) hsg
   have hfx:f x=keepC c (has a x) (has b x):=by rw[<-hf]
   have hto1:0<=to/\to<=top:=by
    cases hy:st[k+1]? with
    |none=>rw[hy]at hto;simp only at hto;omega
    |some y=>
     rw[hy]at hto;simp only at hto
     have:=hst y (aF hy)
     have:=hpos k y hy
     omega
   have next:∀(σ:St) (ρ:List (Nat×Nat)) (xs:List AV) (n:Nat),xs=(keepS f (((segs top st).take k).foldl (keepS f) []) (x,to)).map encR->n=(keepS f (((segs top st).take k).foldl (keepS f) []) (x,to)).length->
     Le 0 ⟨1,[(0,.arr 2 xs)],[(0,encRs a),(1,encRs b),(2,.v (.int .i64 c)),(3,.v (.int .u32 top)),(9,encUs st),(10,.os 0 2 0 n),(11,.v (.int .i64 ((k:Int)+1)))]⟩ σ->
     ∃g':Nat,(g'<=st.length/\(((segs top st).take g').foldl (keepS f) []).length<=g')/\st.length-g'<st.length-k/\Le 0 ⟨1,[(0,.arr 2 ((((segs top st).take g').foldl (keepS f) []).map encR))],[(0,encRs a),(1,encRs b),(2,.v (.int .i64 c)),(3,.v (.int .u32 top)),(9,encUs st),(10,.os 0 2 0 (((segs top st).take g').foldl (keepS f) []).length),(11,.v (.int .i64 (g':Int)))]⟩ σ:=by
    intro σ ρ xs n h1 h2 h3
    have:=keepS_length f (((segs top st).take k).foldl (keepS f) []) (x,to)
    exact⟨k+1,⟨by omega,by rw[hs];omega⟩,by omega,by rw[hs,<-h1,<-h2];exact h3⟩
   generalize hout:((segs top st).take k).foldl (keepS f) []=out at hs hle next⊢
   iterate 4 (all_goals((conv=>whnf);first|(with_reducible refine in_map hkl ?_)|refine zG ?_|apply zA|(apply zI;intro h)|exact zT|skip))
   refine Jn.at ⟨1,[(0,.arr 2 (out.map encR))],[(0,encRs a),(1,encRs b),(2,.v (.int .i64 c)),(3,.v (.int .u32 top)),(9,encUs st),(10,.os 0 2 0 out.length),(11,.v (.int .i64 k)),(12,.v (.int .u64 to))]⟩ ?_ ?_
   ·rcases aB (k+1) st.length with hk1|hk1
    ·obtain⟨y,hy⟩:∃y,st[k+1]? =some y:=⟨_,aD hk1⟩
     have h1:=hst y (aF hy)
     have h2:=hpos k y hy
     rw[hy]at hto;simp only at hto;subst hto
     iterate 12 (all_goals((conv=>whnf);first|(with_reducible first|refine In.intro (k+1) zo (by simp;omega) ?_|refine ix_map hy ?_)|refine zG ?_|apply zA|(apply zI;intro h)|exact zT|skip))
     exact⟨(),trivial,[(0,0)],rfl,⟨rfl,rfl,rfl,rfl,rfl,rfl,rfl,rfl,trivial⟩,⟨rfl,trivial⟩⟩
    ·rw[bN hk1]at hto;simp only at hto;subst hto
     iterate 8 (all_goals((conv=>whnf);first|(with_reducible refine in_map hkl ?_)|refine zG ?_|apply zA|(apply zI;intro h)|exact zT|skip))
     exact⟨(),trivial,[(0,0)],rfl,⟨rfl,rfl,rfl,rfl,rfl,rfl,rfl,rfl,trivial⟩,⟨rfl,trivial⟩⟩
   (conv=>whnf)
   refine Jn.at ⟨1,[(0,.arr 2 (out.map encR))],[(0,encRs a),(1,encRs b),(2,.v (.int .i64 c)),(3,.v (.int .u32 top)),(9,encUs st),(10,.os 0 2 0 out.length),(11,.v (.int .i64 k)),(12,.v (.int .u64 to)),(13,.sb (has a x)),(14,.sb (has b x))]⟩ ?_ ?_
   ·iterate 24 (all_goals((conv=>whnf);first|(with_reducible first|refine in_map hkl ?_|refine ix_map hx ?_|refine c34 a x zo ?_|refine c34 b x zo ?_)|refine zG ?_|apply zA|(apply zI;intro h)|exact zT|skip))
    all_goals exact⟨(),trivial,[(0,0)],rfl,⟨rfl,rfl,rfl,rfl,rfl,rfl,rfl,rfl,rfl,rfl,trivial⟩,⟨rfl,trivial⟩⟩
   (conv=>whnf)
   -- what was asked, in whatever form
   refine Jn.intro AV (fun y=>⟨1,[(0,.arr 2 (out.map encR))],[(0,encRs a),(1,encRs b),(2,.v (.int .i64 c)),(3,.v (.int .u32 top)),(9,encUs st),(10,.os 0 2 0 out.length),(11,.v (.int .i64 k)),(12,.v (.int .u64 to)),(13,.sb (has a x)),(14,.sb (has b x)),(15,y)]⟩) (fun y=>y=.sb (has a x||has b x)\/y=.v (.bool (has a x||has b x))) ?_ ?_
   ·iterate 8 (all_goals((conv=>whnf);first|(with_reducible refine in_map hkl ?_)|refine zG ?_|apply zA|(apply zI;intro h)|exact zT|skip))
    ·exact⟨.v (.bool true),.inr (by rw[h];rfl),[(0,0)],rfl,⟨rfl,rfl,rfl,rfl,rfl,rfl,rfl,rfl,rfl,rfl,rfl,trivial⟩,⟨rfl,trivial⟩⟩
    ·exact⟨.sb (has b x),.inl (by rw[h];rfl),[(0,0)],rfl,⟨rfl,rfl,rfl,rfl,rfl,rfl,rfl,rfl,rfl,rfl,rfl,trivial⟩,⟨rfl,trivial⟩⟩
   intro y hy
   (conv=>whnf)
   refine Jn.intro AV (fun y=>⟨1,[(0,.arr 2 (out.map encR))],[(0,encRs a),(1,encRs b),(2,.v (.int .i64 c)),(3,.v (.int .u32 top)),(9,encUs st),(10,.os 0 2 0 out.length),(11,.v (.int .i64 k)),(12,.v (.int .u64 to)),(15,y)]⟩) (fun y=>y=.sb (f x)\/y=.v (.bool (f x))) ?_ ?_
   ·rcases hy with rfl|rfl
    all_goals
     iterate 20 (all_goals((conv=>whnf);first|(with_reducible refine in_map hkl ?_)|refine zG ?_|apply zA|(apply zI;intro h)|exact zT|skip))
    all_goals first|exact⟨.sb (has b x),.inl (by rw[hfx];simp_all[keepC]),[(0,0)],rfl,⟨rfl,rfl,rfl,rfl,rfl,rfl,rfl,rfl,rfl,trivial⟩,⟨rfl,trivial⟩⟩|exact⟨.sb (!has b x),.inl (by rw[hfx];simp_all[keepC]),[(0,0)],rfl,⟨rfl,rfl,rfl,rfl,rfl,rfl,rfl,rfl,rfl,trivial⟩,⟨rfl,trivial⟩⟩|exact⟨.v (.bool true),.inr (by rw[hfx];simp_all[keepC]),[(0,0)],rfl,⟨rfl,rfl,rfl,rfl,rfl,rfl,rfl,rfl,rfl,trivial⟩,⟨rfl,trivial⟩⟩|exact⟨.v (.bool false),.inr (by rw[hfx];simp_all[keepC]),[(0,0)],rfl,⟨rfl,rfl,rfl,rfl,rfl,rfl,rfl,rfl,rfl,trivial⟩,⟨rfl,trivial⟩⟩|exact⟨.sb (has a x||has b x),.inl (by rw[hfx];simp_all[keepC]),[(0,0)],rfl,⟨rfl,rfl,rfl,rfl,rfl,rfl,rfl,rfl,rfl,trivial⟩,⟨rfl,trivial⟩⟩|exact⟨.v (.bool (has a x||has b x)),.inr (by rw[hfx];simp_all[keepC]),[(0,0)],rfl,⟨rfl,rfl,rfl,rfl,rfl,rfl,rfl,rfl,rfl,trivial⟩,⟨rfl,trivial⟩⟩
   clear hy y
   intro y hy
   (conv=>whnf)
   refine Jn.intro Unit (fun _=>⟨1,[(0,.arr 2 (out.map encR))],[(0,encRs a),(1,encRs b),(2,.v (.int .i64 c)),(3,.v (.int .u32 top)),(9,encUs st),(10,.os 0 2 0 out.length),(11,.v (.int .i64 k)),(12,.v (.int .u64 to))]⟩) (fun _=>f x=true) ?_ ?_
   ·have out18:f x=false->keepS f out (x,to)=out:=fun h=>by simp[keepS,h]
    cases hb:f x
    all_goals
     rw[hb]at hy
     rcases hy with rfl|rfl
    all_goals iterate 8 (all_goals((conv=>whnf);first|(with_reducible first|refine in_map hkl ?_|refine br_t rfl ?_|refine br_f rfl ?_)|refine zG ?_|apply zA|(apply zI;intro h)|exact zT|skip))
    all_goals first
     |exact⟨(),rfl,[(0,0)],rfl,⟨rfl,rfl,rfl,rfl,rfl,rfl,rfl,rfl,trivial⟩,⟨rfl,trivial⟩⟩
     |exact next _ [] _ _ (by rw[out18 hb]) (by rw[out18 hb]) ⟨[(0,0)],rfl,⟨rfl,rfl,rfl,rfl,rfl,rfl,rfl,trivial⟩,⟨rfl,trivial⟩⟩
   clear hy y
   intro _ hb
   rcases cK out with hnil|⟨ini,r,hcat⟩
   ·subst hnil
    iterate 20 (all_goals((conv=>whnf);first|(with_reducible first|refine in_map hkl ?_|refine ix_map hx ?_)|refine zG ?_|apply zA|(apply zI;intro h)|exact zT|skip))
    exact next _ [] _ _ (by simp only[keepS,hb,if_true,List.getLast?_nil,aU,bF,cZ];rw[enc_mkR zo zo zo zo]) (by simp[keepS,hb]) ⟨[(0,2)],rfl,⟨rfl,rfl,rfl,rfl,rfl,rfl,rfl,trivial⟩,⟨rfl,trivial⟩⟩
   ·rw[cL]at hcat
    subst hcat
    have b1:=r.l0;have b2:=r.l1;have b3:=r.h0;have b4:=r.h1
    have hr:(ini++[r])[ini.length]? =some r:=by simp
    have hr0:(ini++[r])[0+ini.length]? =some r:=by simp
    have hj:((((ini++[r]).length:Nat):Int)-1=ini.length)/\ini.length<(ini++[r]).length:=by simp
    iterate 40 (all_goals((conv=>whnf);first|(with_reducible first|refine in_map hkl ?_|refine ix_map hx ?_|refine In.intro ini.length hj.1 hj.2 ?_|refine ix_map hr ?_|refine ix_map hr0 ?_)|refine zG ?_|apply zA|(apply zI;intro h)|exact zT|skip))
    ·have e:keepS f (ini++[r]) (x,to)=ini++[mkR r.lo to]:=by
      simp only[keepS,hb,if_true,cN,cB,dK,cX]
      rw[aG zp]
     refine next _ [] _ _ ?_ ?_ ⟨[(0,0)],rfl,⟨rfl,rfl,rfl,rfl,rfl,rfl,rfl,trivial⟩,⟨rfl,trivial⟩⟩
     ·rw[e,aQ,aQ,eA _ _ zx]
      simp only[aU,bF,aA,bL,dS,List.set_cons_zero]
      rw[enc_mkR zo zo zo zo]
     ·rw[e];simp
    ·have e:keepS f (ini++[r]) (x,to)=ini++[r]++[mkR x to]:=by
      simp only[keepS,hb,if_true,cN,cB,dK,cX]
      rw[aE zp]
     refine next _ [] _ _ ?_ ?_ ⟨[(0,2)],rfl,⟨rfl,rfl,rfl,rfl,rfl,rfl,rfl,trivial⟩,⟨rfl,trivial⟩⟩
     ·rw[e,aQ (l₁:=ini++[r]),aU,bF,enc_mkR zo zo zo zo]
     ·rw[e];simp
  ·have hkk:((segs top st).take k).foldl (keepS f) []=keepL f st top:=by
    rw[aX (by rw[segs_length];exact hkl)];rfl
   rw[hkk]
   iterate 8 (all_goals((conv=>whnf);first|(with_reducible refine in_map hkl ?_)|refine zG ?_|apply zA|(apply zI;intro h)|exact zT|skip))
   exact hK
def Canon(l:List Rg):Prop:=(∀r,r∈l->r.lo<=r.hi)/\l.Pairwise fun r s=>r.hi+1<s.lo
theorem Rg.ext'{r s:Rg}(h1:r.lo=s.lo)(h2:r.hi=s.hi):r=s:=by cases r;cases s;simp_all
theorem canon_ext:∀{l m:List Rg},Canon l->Canon m->(∀v,has l v=has m v)->l=m
 |[],[],_,_,_=>rfl
 |[],s::m,_,hm,h=>by
  have h1:=h s.lo
  have h2:has (s::m) s.lo=true:=has_iff.2 ⟨s,by simp,cF _,hm.1 s zx⟩
  rw[h2]at h1;simp[has]at h1
 |r::l,[],hl,_,h=>by
  have h1:=h r.lo
  have h2:has (r::l) r.lo=true:=has_iff.2 ⟨r,by simp,cF _,hl.1 r zx⟩
  rw[h2]at h1;simp[has]at h1
 |r::l,s::m,hl,hm,h=>by
  have hr:=hl.1 r zx
  have hs:=hm.1 s zx
  have pl:=(bQ.1 hl.2).1
  have pm:=(bQ.1 hm.2).1
  have mem:∀{r:Rg} {l:List Rg} {v:Int},has (r::l) v=true->(∀s,s∈l->r.hi+1<s.lo)->r.lo<=r.hi->r.lo<=v/\(v<=r.hi\/r.hi+1<v):=by
   intro r l v h hp hr
   obtain⟨t,ht,h1,h2⟩:=has_iff.1 h
   rcases aW.1 ht with rfl|ht
   ·omega
   ·have:=hp t ht;omega
  have a1:=mem (v:=r.lo) ((h r.lo).symm.trans (has_iff.2 ⟨r,by simp,cF _,hr⟩)) pm hs
  have a2:=mem (v:=s.lo) ((h s.lo).trans (has_iff.2 ⟨s,by simp,cF _,hs⟩)) pl hr
  have elo:r.lo=s.lo:=by omega
  have ehi:r.hi=s.hi:=by
   rcases Int.lt_trichotomy r.hi s.hi with hlt|heq|hgt
   ·have:=mem (v:=r.hi+1) ((h (r.hi+1)).trans (has_iff.2 ⟨s,by simp,by omega,by omega⟩)) pl hr
    omega
   ·exact heq
   ·have:=mem (v:=s.hi+1) ((h (s.hi+1)).symm.trans (has_iff.2 ⟨r,by simp,by omega,by omega⟩)) pm hs
    omega
  have ers:r=s:=Rg.ext' elo ehi
  subst ers
  have htl:l=m:=by
   refine canon_ext ⟨fun t ht=>hl.1 t (by simp[ht]),(bQ.1 hl.2).2⟩ ⟨fun t ht=>hm.1 t (by simp[ht]),(bQ.1 hm.2).2⟩ fun v=>?_
   have key:∀{l m:List Rg},(∀s,s∈l->r.hi+1<s.lo)->(∀v,has (r::l) v=has (r::m) v)->has l v=true->has m v=true:=by
    intro l m hp hh hv
    obtain⟨t,ht,h1,h2⟩:=has_iff.1 hv
    have h3:has (r::m) v=true:=(hh v).symm.trans (has_iff.2 ⟨t,by simp[ht],h1,h2⟩)
    obtain⟨u,hu,h4,h5⟩:=has_iff.1 h3
    rcases aW.1 hu with rfl|hu
    ·have:=hp t ht;omega
    ·exact has_iff.2 ⟨u,hu,h4,h5⟩
   rw[bG]
   exact⟨key pl h,key pm fun v=>(h v).symm⟩
  rw[htl]
theorem has_append(l m:List Rg)(v:Int):has (l++m) v=(has l v||has m v):=by simp[has]
theorem has_one(r:Rg)(v:Int):has [r] v=(decide (r.lo<=v)&&decide (v<=r.hi)):=by simp[has]
theorem canon_append_one{l:List Rg}{r:Rg}(hl:Canon l)(hr:r.lo<=r.hi)(hp:∀s,s∈l->s.hi+1<r.lo):Canon (l++[r]):=by
 refine⟨fun s hs=>?_,?_⟩
 ·rcases aS.1 hs with hs|hs
  ·exact hl.1 s hs
  ·simp at hs;subst hs;exact hr
 ·rw[dE]
  refine⟨hl.2,by simp,fun s hs t ht=>?_⟩
  simp at ht;subst ht;exact hp s hs
structure KInv (f:Int->Bool) (out:List Rg) (p:Int):Prop where
 canon:Canon out
 mem:∀v,has out v=(decide (0<=v)&&(decide (v<p)&&f v))
 below:∀r,r∈out->r.hi<p
theorem keepS_inv{f:Int->Bool}{out:List Rg}{p to:Int}(h:KInv f out p)(h0:0<=p)(h1:p<=to)(h2:to<=4294967295)(hc:∀v,p<=v->v<=to->f v=f p):KInv f (keepS f out (p,to)) (to+1):=by
 have mem_of:∀(o:List Rg),(∀v,has o v=(has out v||(decide (p<=v)&&decide (v<=to))))->f p=true->∀v,has o v=(decide (0<=v)&&(decide (v<to+1)&&f v)):=by
  intro o ho hf v
  rw[ho,h.mem,bG]
  simp only[bV,aI,aK]
  constructor
  ·rintro(⟨a,b,c⟩|⟨a,b⟩)
   ·exact⟨a,by omega,c⟩
   ·exact⟨by omega,by omega,by rw[hc v a b];exact hf⟩
  ·rintro⟨a,b,c⟩
   rcases eO v p with hv|hv
   ·exact .inl ⟨a,hv,c⟩
   ·exact .inr ⟨hv,by omega⟩
 unfold keepS
 simp only
 cases hf:f p with
 |false=>
  simp only[cM,if_false]
  refine⟨h.canon,fun v=>?_,fun r hr=>by have:=h.below r hr;omega⟩
  rw[h.mem,bG]
  simp only[aI,aK]
  constructor
  ·rintro⟨a,b,c⟩;exact⟨a,by omega,c⟩
  ·rintro⟨a,b,c⟩
   refine⟨a,?_,c⟩
   rcases eO v p with hv|hv
   ·exact hv
   ·have:=hc v hv zo;rw[c,hf]at this;cases this
 |true=>
  simp only[if_true]
  rcases cK out with hnil|⟨ini,r,hcat⟩
  ·subst hnil
   simp only[List.getLast?_nil]
   refine⟨?_,mem_of _ (fun v=>?_) hf,fun r hr=>?_⟩
   ·have:=canon_append_one h.canon (r:=mkR p to) (by rw[mkR_lo zo zo zo zo,mkR_hi zo zo zo zo];omega) (fun s hs=>by simp at hs)
    simpa using this
   ·rw[has_one,mkR_lo zo zo zo zo,mkR_hi zo zo zo zo]
    simp[has]
   ·simp at hr;subst hr;rw[mkR_hi zo zo zo zo];omega
  ·rw[cL]at hcat
   subst hcat
   simp only[cN,cB,dK,cX]
   have hrp:=h.below r zx
   have hpw:=dE.1 h.canon.2
   have hr1:=h.canon.1 r zx
   split
   ·rename_i he
    have b1:=r.l0;have b2:=r.l1
    have ci:Canon ini:=⟨fun t ht=>h.canon.1 t (by simp[ht]),hpw.1⟩
    refine⟨canon_append_one ci (by rw[mkR_lo zo zo zo zo,mkR_hi zo zo zo zo];omega) (fun s hs=>?_),mem_of _ (fun v=>?_) hf,fun t ht=>?_⟩
    ·rw[mkR_lo zo zo zo zo]
     exact hpw.2.2 s hs r zx
    ·rw[has_append,has_append,has_one,has_one,mkR_lo zo zo zo zo,mkR_hi zo zo zo zo,bG]
     simp only[bV,aI,aK]
     constructor
     ·rintro(a|⟨a,b⟩)
      ·exact .inl (.inl a)
      ·rcases eO v p with hv|hv
       ·exact .inl (.inr ⟨a,by omega⟩)
       ·exact .inr ⟨hv,b⟩
     ·rintro((a|⟨a,b⟩)|⟨a,b⟩)
      ·exact .inl a
      ·exact .inr ⟨a,by omega⟩
      ·exact .inr ⟨by omega,b⟩
    ·rcases aS.1 ht with ht|ht
     ·have:=h.below t (by simp[ht]);omega
     ·simp at ht;subst ht;rw[mkR_hi zo zo zo zo];omega
   ·rename_i he
    refine⟨canon_append_one h.canon (by rw[mkR_lo zo zo zo zo,mkR_hi zo zo zo zo];omega) (fun s hs=>?_),mem_of _ (fun v=>?_) hf,fun t ht=>?_⟩
    ·rw[mkR_lo zo zo zo zo]
     rcases aS.1 hs with hs|hs
     ·have:=hpw.2.2 s hs r zx;omega
     ·simp at hs;subst hs;omega
    ·rw[has_append,has_one,mkR_lo zo zo zo zo,mkR_hi zo zo zo zo]
    ·rcases aS.1 ht with ht|ht
     ·have:=h.below t ht;omega
     ·simp at ht;subst ht;rw[mkR_hi zo zo zo zo];omega
theorem fold_inv{f:Int->Bool}{top:Int}(htop:top<=4294967295):∀(st:List Int) (p:Int) (out:List Rg),KInv f out p->(p::st).Pairwise (· < ·)->(∀x,x∈p::st->0<=x/\x<=top)->
  (∀s,s∈segs top (p::st)->∀v,s.1<=v->v<=s.2->f v=f s.1)->KInv f ((segs top (p::st)).foldl (keepS f) out) (top+1)
 |[],p,out,h,hp,hb,hc=>by
  have:=hb p zx
  exact keepS_inv h zo zo htop (hc (p,top) (by simp[segs]))
 |q::st,p,out,h,hp,hb,hc=>by
  have h1:=hb p zx
  have h2:=hb q zx
  have h3:p<q:=(bQ.1 hp).1 q zx
  have k:=keepS_inv (to:=q-1) h zo zo zo (hc (p,q-1) (by simp[segs]))
  rw[show q-1+1=q by omega]at k
  exact fold_inv htop st q _ k (bQ.1 hp).2 (fun x hx=>hb x (by simp at hx⊢;exact .inr hx)) (fun s hs=>hc s (by simp only[segs,aW];exact .inr hs))
theorem mem_ins:∀{l:List Int} {v x:Int},x∈ins l v↔x∈l\/x=v
 |[],v,x=>by simp[ins]
 |y::l,v,x=>by
  simp only[ins]
  split
  ·rw[aW,mem_ins (l:=l),aW,or_assoc]
  ·split
   ·rename_i h;subst h
    simp only[aW]
    constructor
    ·intro h;exact .inl h
    ·rintro(h|h)
     ·exact h
     ·exact .inl h
   ·simp only[aW]
    constructor
    ·rintro(h|h|h)
     ·exact .inr h
     ·exact .inl (.inl h)
     ·exact .inl (.inr h)
    ·rintro((h|h)|h)
     ·exact .inr (.inl h)
     ·exact .inr (.inr h)
     ·exact .inl h
theorem ins_sorted:∀{l:List Int} {v:Int},l.Pairwise (· < ·)->(ins l v).Pairwise (· < ·)
 |[],v,h=>by simp[ins]
 |y::l,v,h=>by
  have⟨h1,h2⟩:=bQ.1 h
  simp only[ins]
  split
  ·rename_i hy
   refine bQ.2 ⟨fun x hx=>?_,ins_sorted h2⟩
   rcases mem_ins.1 hx with hx|rfl
   ·exact h1 x hx
   ·exact hy
  ·split
   ·exact h
   ·rename_i h3 h4
    refine bQ.2 ⟨fun x hx=>?_,h⟩
    rcases aW.1 hx with rfl|hx
    ·omega
    ·have:=h1 x hx;omega
structure SInv (top:Int) (out:List Int):Prop where
 sorted:out.Pairwise (· < ·)
 zero:∃r,out=0::r
 range:∀x,x∈out->0<=x/\x<=top
theorem SInv.insT{top v:Int}{out:List Int}(h:SInv top out)(hv:0<=v):SInv top (insT out v top):=by
 unfold Go.Proofs.YtbdikofefjljoaaGreatDoor.insT
 split
 ·exact h
 ·refine⟨ins_sorted h.sorted,?_,fun x hx=>?_⟩
  ·obtain⟨r,hr⟩:=h.zero
   subst hr
   simp only[ins]
   split
   ·exact⟨_,rfl⟩
   ·split
    ·exact⟨_,rfl⟩
    ·omega
  ·rcases mem_ins.1 hx with hx|rfl
   ·exact h.range x hx
   ·omega
theorem SInv.stP{top:Int}{out:List Int}{r:Rg}(h:SInv top out):SInv top (stP top out r):=by
 unfold Go.Proofs.YtbdikofefjljoaaGreatDoor.stP
 split
 ·exact(h.insT r.l0).insT (by have:=r.h0;omega)
 ·exact h
theorem mem_insT{l:List Int}{v top x:Int}:x∈insT l v top↔x∈l\/(x=v/\x<=top):=by
 unfold insT
 split
 ·constructor
  ·exact .inl
  ·rintro(h|⟨rfl,h⟩)
   ·exact h
   ·omega
 ·rw[mem_ins]
  constructor
  ·rintro(h|rfl)
   ·exact .inl h
   ·exact .inr ⟨rfl,by omega⟩
  ·rintro(h|⟨h,_⟩)
   ·exact .inl h
   ·exact .inr h
theorem stP_mono{top:Int}{out:List Int}{r:Rg}{x:Int}(h:x∈out):x∈stP top out r:=by
 unfold stP
 split
 ·exact mem_insT.2 (.inl (mem_insT.2 (.inl h)))
 ·exact h
theorem fold_stP:∀(l:List Rg) {top:Int} {out:List Int},SInv top out->SInv top (l.foldl (stP top) out)/\(∀x,x∈out->x∈l.foldl (stP top) out)/\
  (∀r,r∈l->r.lo<=r.hi->(r.lo<=top->r.lo∈l.foldl (stP top) out)/\(r.hi+1<=top->r.hi+1∈l.foldl (stP top) out))/\(l.foldl (stP top) out).length<=out.length+2*l.length
 |[],top,out,h=>⟨h,fun x hx=>hx,fun r hr=>by simp at hr,by simp⟩
 |r::l,top,out,h=>by
  obtain⟨h1,h2,h3,h4⟩:=fold_stP l (h.stP (r:=r))
  refine⟨h1,fun x hx=>h2 x (stP_mono hx),fun s hs hle=>?_,?_⟩
  ·rcases aW.1 hs with rfl|hs
   ·refine⟨fun ht=>h2 _ ?_,fun ht=>h2 _ ?_⟩
    ·unfold stP;rw[aG hle];exact mem_insT.2 (.inl (mem_insT.2 (.inr ⟨rfl,ht⟩)))
    ·unfold stP;rw[aG hle];exact mem_insT.2 (.inr ⟨rfl,ht⟩)
   ·exact h3 s hs hle
  ·have:=stP_length top out r
   simp only[dW,aJ]
   omega
theorem starts_inv(l:List Rg){top:Int}(ht:0<=top):SInv top (starts l top):=(fold_stP l ⟨by simp,⟨[],rfl⟩,fun x hx=>by simp at hx;subst hx;omega⟩).1
theorem starts_mem(l:List Rg){top:Int}(ht:0<=top){r:Rg}(hr:r∈l)(hle:r.lo<=r.hi):(r.lo<=top->r.lo∈starts l top)/\(r.hi+1<=top->r.hi+1∈starts l top):=
 (fold_stP l ⟨by simp,⟨[],rfl⟩,fun x hx=>by simp at hx;subst hx;omega⟩).2.2.1 r hr hle
theorem starts_length(l:List Rg){top:Int}(ht:0<=top):(starts l top).length<=2*l.length+1:=by
 have:=(fold_stP (top:=top) l (out:=[0]) ⟨by simp,⟨[],rfl⟩,fun x hx=>by simp at hx;subst hx;omega⟩).2.2.2
 simp only[starts,aJ,aO]at this⊢;omega
theorem segs_spec:∀(st:List Int) {top:Int},st.Pairwise (· < ·)->(∀x,x∈st->x<=top)->∀s,s∈segs top st->s.2<=top/\s.1∈st/\∀x,x∈st->¬(s.1<x/\x<=s.2)
 |[],top,_,_,s,hs=>by simp[segs]at hs
 |[p],top,hp,hb,s,hs=>by
  simp[segs]at hs;subst hs
  exact⟨cF _,by simp,fun x hx=>by simp at hx;subst hx;omega⟩
 |p::q::st,top,hp,hb,s,hs=>by
  simp only[segs,aW]at hs
  have⟨h1,h2⟩:=bQ.1 hp
  rcases hs with rfl|hs
  ·refine⟨by have:=hb q zx;simp only;omega,by simp,fun x hx=>?_⟩
   rcases aW.1 hx with rfl|hx
   ·simp only;omega
   ·rcases aW.1 hx with rfl|hx
    ·simp only;omega
    ·have:=(bQ.1 h2).1 x hx;simp only;omega
  ·obtain⟨a,b,c⟩:=segs_spec (q::st) h2 (fun x hx=>hb x (by simp at hx⊢;exact .inr hx)) s (by simpa[segs]using hs)
   refine⟨a,by simp at b⊢;exact .inr b,fun x hx=>?_⟩
   rcases aW.1 hx with rfl|hx
   ·have:=h1 s.1 b;omega
   ·exact c x hx
theorem has_const{l a:List Rg}{top:Int}(ht:0<=top)(hsub:∀r,r∈a->r∈l){s:Int×Int}(hs:s∈segs top (starts l top)){v:Int}(h1:s.1<=v)(h2:v<=s.2):has a v=has a s.1:=by
 have inv:=starts_inv l ht
 obtain⟨g1,g2,g3⟩:=segs_spec _ inv.sorted (fun x hx=>(inv.range x hx).2) s hs
 rw[bG,has_iff,has_iff]
 constructor
 ·rintro⟨r,hr,a1,a2⟩
  refine⟨r,hr,?_,by omega⟩
  rcases eO s.1 r.lo with h|h
  ·exact absurd ⟨h,by omega⟩ (g3 r.lo ((starts_mem l ht (hsub r hr) zo).1 zo))
  ·exact h
 ·rintro⟨r,hr,a1,a2⟩
  refine⟨r,hr,by omega,?_⟩
  rcases eO r.hi v with h|h
  ·exact absurd ⟨by omega,by omega⟩ (g3 (r.hi+1) ((starts_mem l ht (hsub r hr) zo).2 zo))
  ·exact h
theorem fold_keep_length(f:Int->Bool):∀(l:List (Int×Int)) (out:List Rg),(l.foldl (keepS f) out).length<=out.length+l.length
 |[],out=>by simp
 |s::l,out=>by
  have:=keepS_length f out s
  have:=fold_keep_length f l (keepS f out s)
  simp only[dW,aJ];omega
theorem keep(a b:List Rg)(c top:Int)(ht0:0<=top)(ht:top<=4294967295)(ha:a.length<10000)(hb:b.length<10000)
  {K:KT}(hK:∀out,Canon out->(∀v,has out v=(decide (0<=v)&&(decide (v<top+1)&&keepC c (has a v) (has b v))))->out.length<=2*(a.length+b.length)+1->K (encRs out) []):
  ACall Tryz.prog 241 [encRs a,encRs b,.v (.int .i64 c),.v (.int .u32 top)] [] K:=by
 have inv:=starts_inv (a++b) ht0
 have hl:=starts_length (a++b) ht0
 obtain⟨r0,hr0⟩:=inv.zero
 rw[aC]at hl
 refine c38 a b c top ht0 ht ha hb inv.range (fun k x hx=>?_) zo ?_
 ·rw[hr0]at hx
  have:=(bQ.1 (hr0▸inv.sorted)).1 x (aF (by simpa using hx))
  omega
 ·have hk:KInv (fun v=>keepC c (has a v) (has b v)) (keepL (fun v=>keepC c (has a v) (has b v)) (starts (a++b) top) top) (top+1):=by
   unfold keepL
   have hseg:∀s,s∈segs top (starts (a++b) top)->∀v,s.1<=v->v<=s.2->(fun v=>keepC c (has a v) (has b v)) v=(fun v=>keepC c (has a v) (has b v)) s.1:=by
    intro s hs v h1 h2
    simp only
    rw[has_const ht0 (fun r hr=>aS.2 (.inl hr)) hs h1 h2,has_const ht0 (fun r hr=>aS.2 (.inr hr)) hs h1 h2]
   have hsort:=inv.sorted
   have hrange:=inv.range
   rw[hr0]at hseg hsort hrange⊢
   refine fold_inv ht r0 0 [] ⟨⟨fun r hr=>by simp at hr,by simp⟩,fun v=>?_,fun r hr=>by simp at hr⟩ hsort hrange hseg
   rw[bG]
   simp only[has,List.any_nil,cM,aI,aK,false_iff]
   omega
  refine hK _ hk.canon hk.mem ?_
  have:=fold_keep_length (fun v=>keepC c (has a v) (has b v)) (segs top (starts (a++b) top)) []
  rw[segs_length]at this
  unfold keepL
  simp only[aO]at this
  omega
theorem has_bounds{l:List Rg}{v:Int}(h:has l v=true):0<=v/\v<=4294967295:=by
 obtain⟨r,_,h1,h2⟩:=has_iff.1 h
 have:=r.l0;have:=r.h1
 omega
theorem has_nil(v:Int):has [] v=false:=rfl
theorem c14(a b:List Rg)(ha:a.length<10000)(hb:b.length<10000){K:KT}(hK:∀out,Canon out->(∀v,has out v=(has a v||has b v))->out.length<=2*(a.length+b.length)+1->K (encRs out) []):
  ACall Tryz.prog 155 [encRs a,encRs b] [] K:=by
 refine of14 rfl rfl ?_
 (conv=>whnf)
 refine keep a b 0 4294967295 zo zo ha hb fun out h1 h2 h3=>?_
 (conv=>whnf)
 refine hK out h1 (fun v=>?_) h3
 rw[h2,bG]
 simp only[aI,aK,keepC,bV,reduceCtorEq,Int.reduceEq,if_false]
 constructor
 ·rintro⟨_,_,h⟩;exact h
 ·intro h
  have:=h.elim has_bounds has_bounds
  exact⟨by omega,by omega,h⟩
theorem c26(a b:List Rg)(ha:a.length<10000)(hb:b.length<10000){K:KT}(hK:∀out,Canon out->(∀v,has out v=(has a v&&has b v))->out.length<=2*(a.length+b.length)+1->K (encRs out) []):
  ACall Tryz.prog 281 [encRs a,encRs b] [] K:=by
 refine of26 rfl rfl ?_
 (conv=>whnf)
 refine keep a b 1 4294967295 zo zo ha hb fun out h1 h2 h3=>?_
 (conv=>whnf)
 refine hK out h1 (fun v=>?_) h3
 rw[h2,bG]
 simp only[aI,aK,keepC,if_true]
 constructor
 ·rintro⟨_,_,h⟩;exact h
 ·intro h
  have:=has_bounds h.1
  exact⟨by omega,by omega,h⟩
noncomputable def g28:Ctx:={N:=44,plan:=at1 4 (some (ln [1,3,5,7,9,11,13,15,17,19,21,23,25,27,29,31,33,35,37,39,41,43,45,47,49,51,53,55,57])) (fun _=>none)}
noncomputable def b28:Code:=bdy Tryz.f296
abbrev of28:=@ofC Tryz.prog g28 296 Tryz.f296 b28 Tryz.func296 zk zk zk zk
theorem canon_nil:Canon []:=⟨fun r hr=>by simp at hr,by simp⟩
theorem canon_succ{l:List Rg}{k:Nat}{r:Rg}(hr:l[k]? =some r)(hc:Canon (l.take k)):Canon (l.take (k+1))↔r.lo<=r.hi/\∀p,0<k->l[k-1]? =some p->p.hi+1<r.lo:=by
 have e:l.take (k+1)=l.take k++[r]:=by rw[bJ,hr];rfl
 rw[e]
 constructor
 ·intro h
  refine⟨h.1 r zx,fun p hk hp=>?_⟩
  refine(dE.1 h.2).2.2 p ?_ r zx
  exact aF (i:=k-1) (by rw[List.getElem?_take_of_lt zo];exact hp)
 ·rintro⟨h1,h2⟩
  refine canon_append_one hc h1 fun s hs=>?_
  cases k with
  |zero=>simp at hs
  |succ k=>
   have hlt:k<l.length:=by
    have:=(aP.1 hr).1;omega
   have hp:l[k]? =some l[k]:=aD hlt
   have h3:=h2 l[k] zo zx
   have e2:l.take (k+1)=l.take k++[l[k]]:=by rw[bJ,hp];rfl
   rw[e2]at hc hs
   have hle:=hc.1 l[k] (aS.2 (.inr (aR.2 rfl)))
   rcases aS.1 hs with hs|hs
   ·have:=(dE.1 hc.2).2.2 s hs l[k] (aR.2 rfl);omega
   ·simp at hs;subst hs;exact h3
theorem canon_take{l:List Rg}(h:Canon l)(k:Nat):Canon (l.take k):=
 ⟨fun r hr=>h.1 r (cG hr),h.2.sublist (List.take_sublist k l)⟩
def VInv(l:List Rg)(top:Int)(k:Nat):Prop:=Canon (l.take k)/\∀r,r∈l.take k->r.hi<=top
theorem vinv_zero(l:List Rg)(top:Int):VInv l top 0:=⟨by simp[canon_nil],fun r hr=>by simp at hr⟩
theorem vinv_succ{l:List Rg}{top:Int}{k:Nat}{r:Rg}(hr:l[k]? =some r)(h:VInv l top k)(h1:r.lo<=r.hi)(h2:r.hi<=top)(h3:∀p,0<k->l[k-1]? =some p->p.hi+1<r.lo):VInv l top (k+1):=by
 refine⟨(canon_succ hr h.1).2 ⟨h1,h3⟩,fun s hs=>?_⟩
 rw[bJ,hr]at hs
 rcases aS.1 hs with hs|hs
 ·exact h.2 s hs
 ·simp at hs;subst hs;exact h2
theorem valid_no{l:List Rg}{top:Int}{k:Nat}{r:Rg}(hr:l[k]? =some r)(h:¬(r.lo<=r.hi/\r.hi<=top/\∀p,0<k->l[k-1]? =some p->p.hi+1<r.lo)):¬(Canon l/\∀r,r∈l->r.hi<=top):=by
 rintro⟨h1,h2⟩
 have h3:=(canon_succ hr (canon_take h1 k)).1 (canon_take h1 (k+1))
 exact h ⟨h3.1,h2 r (aF hr),h3.2⟩
theorem c33(l:List Rg)(top:Int)(hl:l.length<100000){K:KT}(hK:∀s,(s=true↔Canon l/\∀r,r∈l->r.hi<=top)->K (.sb s) []):
  ACall Tryz.prog 280 [encRs l,.v (.int .u32 top)] [] K:=by
 refine ACall.bool (of33 rfl rfl ?_)
 (conv=>whnf)
 refine Lp.intro Nat (fun k=>⟨0,[],[(0,encRs l),(1,.v (.int .u32 top)),(5,.v (.int .i64 k))]⟩) (fun k=>k<=l.length/\VInv l top k) (fun k=>l.length-k) 0 ?_ ?_ ?_
 ·exact⟨by omega,vinv_zero l top⟩
 ·exact⟨[],rfl,⟨rfl,rfl,rfl,trivial⟩,trivial⟩
 ·intro k ⟨hk,hinv⟩
  rcases aB k l.length with hkl|hkl
  ·obtain⟨r,hr⟩:=gex hkl
   have b1:=r.l0;have b2:=r.l1;have b3:=r.h0;have b4:=r.h1
   have no:¬(r.lo<=r.hi/\r.hi<=top/\∀p,0<k->l[k-1]? =some p->p.hi+1<r.lo)->K (.sb false) []:=fun h=>hK false (iff_of_false zx (valid_no hr h))
   have next:∀σ,r.lo<=r.hi->r.hi<=top->(∀p,0<k->l[k-1]? =some p->p.hi+1<r.lo)->Le 0 ⟨0,[],[(0,encRs l),(1,.v (.int .u32 top)),(5,.v (.int .i64 ((k:Int)+1)))]⟩ σ->
     ∃g':Nat,(g'<=l.length/\VInv l top g')/\l.length-g'<l.length-k/\Le 0 ⟨0,[],[(0,encRs l),(1,.v (.int .u32 top)),(5,.v (.int .i64 (g':Int)))]⟩ σ:=
    fun σ h1 h2 h3 hle=>⟨k+1,⟨by omega,vinv_succ hr hinv h1 h2 h3⟩,by omega,hle⟩
   rcases dA k with hk0|hk0
   ·iterate 40 (all_goals((conv=>whnf);first|(with_reducible first|refine in_map hkl ?_|refine ix_map hr ?_)|refine zG ?_|apply zA|(apply zI;intro h)|exact zT|skip))
    all_goals first
     |exact next _ zo zo (by intros;omega) ⟨[],rfl,⟨rfl,rfl,rfl,trivial⟩,trivial⟩
     |exact .inl ⟨false,rfl,no zo⟩
   ·obtain⟨p,hp⟩:∃p,l[k-1]? =some p:=⟨_,aD zo⟩
    have p3:=p.h0;have p4:=p.h1
    have hj:((k:Int)-1=((k-1:Nat):Int))/\k-1<(l.map encR).length:=by rw[aA];omega
    iterate 40 (all_goals((conv=>whnf);first|(with_reducible first|refine in_map hkl ?_|refine ix_map hr ?_|refine In.intro (k-1) hj.1 hj.2 ?_|refine ix_map hp ?_)|refine zG ?_|apply zA|(apply zI;intro h)|exact zT|skip))
    all_goals first
     |exact next _ zo zo (fun q _ hq=>by rw[hp]at hq;cases hq;omega) ⟨[],rfl,⟨rfl,rfl,rfl,trivial⟩,trivial⟩
     |exact .inl ⟨false,rfl,no (fun hh=>by have:=hh.2.2 p hk0 hp;omega)⟩
  ·iterate 6 (all_goals((conv=>whnf);first|(with_reducible refine in_map hkl ?_)|refine zG ?_|apply zA|(apply zI;intro h)|exact zT|skip))
   have e:l.take k=l:=aX hkl
   refine .inl ⟨true,rfl,hK true (iff_of_true rfl ?_)⟩
   unfold VInv at hinv
   rw[e]at hinv
   exact hinv
theorem c28(l:List Rg)(top:Int)(hl:l.length<100000){K:KT}(hK:∀s,(s=true↔Canon l/\∀r,r∈l->r.hi<=top)->K (.sb s) []):
  ACall Tryz.prog 296 [encRs l,.v (.int .u32 top)] [] K:=by
 refine ACall.bool (of28 rfl rfl ?_)
 (conv=>whnf)
 refine Lp.intro Nat (fun k=>⟨0,[],[(0,encRs l),(1,.v (.int .u32 top)),(7,encRs l),(8,.v (.int .i64 (l.map encR).length)),(9,.v (.int .i64 k))]⟩) (fun k=>k<=l.length/\VInv l top k) (fun k=>l.length-k) 0 ?_ ?_ ?_
 ·exact⟨by omega,vinv_zero l top⟩
 ·exact⟨[],rfl,⟨rfl,rfl,rfl,rfl,rfl,trivial⟩,trivial⟩
 ·intro k ⟨hk,hinv⟩
  rcases aB k l.length with hkl|hkl
  ·obtain⟨r,hr⟩:=gex hkl
   have b1:=r.l0;have b2:=r.l1;have b3:=r.h0;have b4:=r.h1
   have no:¬(r.lo<=r.hi/\r.hi<=top/\∀p,0<k->l[k-1]? =some p->p.hi+1<r.lo)->K (.sb false) []:=fun h=>hK false (iff_of_false zx (valid_no hr h))
   have next:∀σ,r.lo<=r.hi->r.hi<=top->(∀p,0<k->l[k-1]? =some p->p.hi+1<r.lo)->Le 0 ⟨0,[],[(0,encRs l),(1,.v (.int .u32 top)),(7,encRs l),(8,.v (.int .i64 (l.map encR).length)),(9,.v (.int .i64 ((k:Int)+1)))]⟩ σ->
     ∃g':Nat,(g'<=l.length/\VInv l top g')/\l.length-g'<l.length-k/\Le 0 ⟨0,[],[(0,encRs l),(1,.v (.int .u32 top)),(7,encRs l),(8,.v (.int .i64 (l.map encR).length)),(9,.v (.int .i64 (g':Int)))]⟩ σ:=
    fun σ h1 h2 h3 hle=>⟨k+1,⟨by omega,vinv_succ hr hinv h1 h2 h3⟩,by omega,hle⟩
   rcases dA k with hk0|hk0
   ·iterate 40 (all_goals((conv=>whnf);first|(with_reducible first|refine in_map hkl ?_|refine ix_map hr ?_)|refine zG ?_|apply zA|(apply zI;intro h)|exact zT|skip))
    all_goals first
     |exact next _ zo zo (by intros;omega) ⟨[],rfl,⟨rfl,rfl,rfl,rfl,rfl,trivial⟩,trivial⟩
     |exact .inl ⟨false,rfl,no zo⟩
   ·obtain⟨p,hp⟩:∃p,l[k-1]? =some p:=⟨_,aD zo⟩
    have p3:=p.h0;have p4:=p.h1
    have hj:((k:Int)-1=((k-1:Nat):Int))/\k-1<(l.map encR).length:=by rw[aA];omega
    iterate 40 (all_goals((conv=>whnf);first|(with_reducible first|refine in_map hkl ?_|refine ix_map hr ?_|refine In.intro (k-1) hj.1 hj.2 ?_|refine ix_map hp ?_)|refine zG ?_|apply zA|(apply zI;intro h)|exact zT|skip))
    all_goals first
     |exact next _ zo zo (fun q _ hq=>by rw[hp]at hq;cases hq;omega) ⟨[],rfl,⟨rfl,rfl,rfl,rfl,rfl,trivial⟩,trivial⟩
     |exact .inl ⟨false,rfl,no (fun hh=>by have:=hh.2.2 p hk0 hp;omega)⟩
  ·iterate 6 (all_goals((conv=>whnf);first|(with_reducible refine in_map hkl ?_)|refine zG ?_|apply zA|(apply zI;intro h)|exact zT|skip))
   have e:l.take k=l:=aX hkl
   refine .inl ⟨true,rfl,hK true (iff_of_true rfl ?_)⟩
   unfold VInv at hinv
   rw[e]at hinv
   exact hinv
noncomputable def g37:Ctx:={N:=11}
noncomputable def b37:Code:=bdy Tryz.f42
abbrev of37:=@ofC Tryz.prog g37 42 Tryz.f42 b37 Tryz.func42 zk zk zk zk
noncomputable def g13:Ctx:={N:=39,np:=1,plan:=at1 1 (some (ln [1,3,5,7,9,11,13,15,17,19,21,23,25,27])) (at1 4 (some (ln [1,3,5,7,9,11,13,15,17,19,21,23,24,27])) (fun _=>none))}
noncomputable def b13:Code:=bdy Tryz.f16
abbrev of13:=@ofC Tryz.prog g13 16 Tryz.f16 b13 Tryz.func16 zk zk zk zk
noncomputable def g9:Ctx:={N:=6}
noncomputable def b9:Code:=bdy Tryz.f10
abbrev of9:=@ofC Tryz.prog g9 10 Tryz.f10 b9 Tryz.func10 zk zk zk zk
noncomputable abbrev encI(x:Int):AV:=.v (.int .i64 x)
noncomputable abbrev tapeO(raw:List Int)(pos:Nat):Vm.Obj:=.box [.lst (raw.map encI),.v (.int .i64 pos)]
theorem c9(raw:List Int){K:KT}(hK:K (.op 0 0) [tapeO raw 0]):ACall Tryz.prog 10 [.lst (raw.map encI)] [] K:=by
 refine of9 rfl rfl ?_
 iterate 6 (all_goals((conv=>whnf);first|refine zG ?_|apply zA|(apply zI;intro h)|exact zT|skip))
 exact hK
theorem c37(x n:Int)(hn:1<=n)(hn2:n<=9223372036854775807){K:KT}(hK:∀m,0<=m->m<n->K (.v (.int .i64 m)) []):ACall Tryz.prog 42 [.v (.int .i64 x),.v (.int .i64 n)] [] K:=by
 refine of37 rfl rfl ?_
 (conv=>whnf)
 refine wr_u64_any fun r h0 h1=>?_
 have m0:0<=r.tmod n:=Int.tmod_nonneg n h0
 have m1:r.tmod n<n:=Int.tmod_lt_of_pos r zo
 iterate 10 (all_goals((conv=>whnf);first|refine zG ?_|apply zA|(apply zI;intro h)|exact zT|skip))
 exact hK _ m0 m1
theorem c13(raw:List Int)(pos:Nat)(n:Int)(hn2:n<=9223372036854775807)(hp:pos<=raw.length)(hr:raw.length<=9223372036854775807){K:KT}
  (hK:∀m pos',0<=m->(m=0\/m<n)->pos'<=raw.length->K (.v (.int .i64 m)) [tapeO raw pos']):ACall Tryz.prog 16 [.op 0 0,.v (.int .i64 n)] [tapeO raw pos] K:=by
 refine of13 rfl rfl ?_
 rcases aB pos raw.length with hlt|hge
 ·obtain⟨x,hx⟩:=gex hlt
  have hj:((pos:Int)+1-1=pos)/\pos<(raw.map encI).length:=by rw[aA];omega
  iterate 40 (all_goals((conv=>whnf);first|(with_reducible first|refine In.intro pos hj.1 hj.2 ?_|refine ix_map hx ?_|refine c37 _ _ zo zo (fun m m0 m1=>?_))|refine zG ?_|apply zA|(apply zI;intro h)|exact zT|skip))
  ·exact hK 0 pos zo zo hp
  ·exact hK m (pos+1) m0 (.inr m1) hlt
 ·iterate 40 (all_goals((conv=>whnf);first|(with_reducible refine in_nat hlt ?_)|refine zG ?_|apply zA|(apply zI;intro h)|exact zT|skip))
  all_goals exact hK 0 pos zo zo hp
theorem ix_all{xs:List AV}{i:Nat}{K:AV->Prop}(P:AV->Prop)(hP:∀x,x∈xs->P x)(hi:i<xs.length)(hk:∀x,P x->K x):Ix xs i K:=
 Ix.intro (aD hi) (hk _ (hP _ (dD hi)))
def IsU32(x:AV):Prop:=∃y:Int,x=.v (.int .u32 y)/\0<=y/\y<=4294967295
open Go Go.Vm Go.ChangeShapes Go.WideShapes Go.ChangeAt Go.RowKit
abbrev Yes:AV->List Vm.Obj->Prop:=fun r _=>r=.sb true\/r=.v (.bool true)
theorem ownNone:ownKnob Tryz.prog.godebug=none:=by kernel_rfl
theorem laidOut:laidOutB Tryz.prog=true:=by kernel_rfl
theorem list_enc{α:Type}(enc:α->AV):∀{xs:List AV},(∀y,y∈xs->∃a,y=enc a)->∃l:List α,xs=l.map enc
 |[],_=>⟨[],rfl⟩
 |y::ys,h=>by
  obtain⟨a,rfl⟩:=h y zx
  obtain⟨l,rfl⟩:=list_enc enc (xs:=ys) fun z hz=>h z (bA _ hz)
  exact⟨a::l,rfl⟩
theorem ty_is{d:Nat}{x:AV}(h:Ty Tryz.prog (d+2) 22 x):∃raw:List Int,x=.lst (raw.map encI)/\raw.length<=9223372036854775807:=by
 obtain⟨xs,rfl,hl,hx⟩:=h
 obtain⟨l,rfl⟩:=list_enc encI fun y hy=>by
  obtain⟨i,hr,_⟩:=hx y hy
  exact⟨i,hr⟩
 refine⟨l,rfl,?_⟩
 simpa[maxLen]using hl
theorem ty_pf{d:Nat}{y:AV}(h:Ty Tryz.prog (d+2) 109 y):∃p:Pf,y=encP p:=by
 obtain⟨ys,hl,rfl,hf⟩:=h
 match ys,hl with
 |[p,q],_=>
  obtain⟨i,rfl,i0,i1⟩:=hf 0 _ p rfl rfl
  obtain⟨j,rfl,_⟩:=hf 1 _ q rfl rfl
  exact⟨⟨i,j,i0,i1⟩,rfl⟩
theorem ty_dv{d:Nat}{y:AV}(h:Ty Tryz.prog (d+2) 148 y):∃p:Dv,y=encD p:=by
 obtain⟨ys,hl,rfl,hf⟩:=h
 match ys,hl with
 |[a,b,c,e,f],_=>
  obtain⟨a,rfl,_⟩:=hf 0 _ a rfl rfl
  obtain⟨b,rfl,_⟩:=hf 1 _ b rfl rfl
  obtain⟨c,rfl⟩:=hf 2 _ c rfl rfl
  obtain⟨e,rfl⟩:=hf 3 _ e rfl rfl
  obtain⟨f,rfl,_⟩:=hf 4 _ f rfl rfl
  exact⟨⟨a,b,c,e,f⟩,rfl⟩
theorem ty_lk{d:Nat}{y:AV}(h:Ty Tryz.prog (d+2) 150 y):∃p:Lk,y=encL p:=by
 obtain⟨ys,hl,rfl,hf⟩:=h
 match ys,hl with
 |[a,b,c],_=>
  obtain⟨a,rfl,_⟩:=hf 0 _ a rfl rfl
  obtain⟨b,rfl,_⟩:=hf 1 _ b rfl rfl
  obtain⟨c,rfl,_⟩:=hf 2 _ c rfl rfl
  exact⟨⟨a,b,c⟩,rfl⟩
theorem ty_ed{d:Nat}{y:AV}(h:Ty Tryz.prog (d+3) 130 y):∃p:Ed,y=encE p:=by
 obtain⟨ys,hl,rfl,hf⟩:=h
 match ys,hl with
 |[a,b,c,e,f],_=>
  obtain⟨a,rfl,_⟩:=hf 0 _ a rfl rfl
  obtain⟨b,rfl,_⟩:=hf 1 _ b rfl rfl
  obtain⟨c,rfl,_⟩:=hf 2 _ c rfl rfl
  obtain⟨e,rfl⟩:=ty_pf (d:=d) (hf 3 _ e rfl rfl)
  obtain⟨f,rfl⟩:=hf 4 _ f rfl rfl
  exact⟨⟨a,b,c,e,f⟩,rfl⟩
theorem ty_tp{d:Nat}{y:AV}(h:Ty Tryz.prog (d+5) 28 y):∃t:Tp,y=encT t:=by
 obtain⟨ys,hl,rfl,hf⟩:=h
 match ys,hl with
 |[a,b,c,e,f],_=>
  obtain⟨a,rfl,_,ha⟩:=hf 0 _ a rfl rfl
  obtain⟨b,rfl,_,hb⟩:=hf 1 _ b rfl rfl
  obtain⟨c,rfl,_,hc⟩:=hf 2 _ c rfl rfl
  obtain⟨e,rfl,_,he⟩:=hf 3 _ e rfl rfl
  obtain⟨f,rfl,_⟩:=hf 4 _ f rfl rfl
  obtain⟨a,rfl⟩:=list_enc encD fun y hy=>ty_dv (d:=d+1) (ha y hy)
  obtain⟨b,rfl⟩:=list_enc encL fun y hy=>ty_lk (d:=d+1) (hb y hy)
  obtain⟨c,rfl⟩:=list_enc encE fun y hy=>ty_ed (d:=d) (hc y hy)
  obtain⟨e,rfl⟩:=list_enc encP fun y hy=>ty_pf (d:=d+1) (he y hy)
  exact⟨⟨a,b,c,e,f⟩,rfl⟩
theorem wants_none{ts:List TypeId}(h:(ts.all fun t=>Tryz.prog.wantsStandIn t==false)=true){t:TypeId}(ht:t∈ts):Tryz.prog.wantsStandIn t=false:=by
 have:=bX.1 h t ht
 simpa using this
theorem bytes_inj{a b:ByteArray}(h:a.data.toList=b.data.toList):a=b:=by
 cases a;cases b
 simp only[ByteArray.mk.injEq]
 exact Array.toList_inj.1 h
def strData{H:Type}(ss:List ByteArray):DataW H:=.agg (ss.map fun s=>.lit (.string s.data.toList))
def StrsAre(P:Program)(w:World)(name:String)(ss:List ByteArray):Prop:=w.var? P name=some (ss.map fun s=>Value.string s).toArray
theorem cells_of_strs{H:Type}{enc:TypeId×Value->H}{P:Program}{w:World}{base:Nat}{sp:Nat->Bool}{held:Bool}{fuel:Nat}{t e:TypeId}{n:Nat}{cs:List Value}{ss:List ByteArray}{p:List MemPlace}
  (ht:P.underlying t=some (.array n e))(he:P.underlying e=some .string)(hce:P.cellsOf e=1)(hct:P.cellsOf t=n)
  (h:DataW.trod enc P w base sp held fuel t cs=some (strData ss,p)):cs=ss.map fun s=>Value.string s:=by
 cases fuel with
 |zero=>simp[DataW.trod]at h
 |succ fuel=>
  simp only[DataW.trod,ht,hce,hct,gF]at h
  split at h
  ·rename_i hl
   obtain⟨xs,hm,hx⟩:=bK.1 h
   have hxs:xs.map (·.1)=ss.map fun s=>(DataW.lit (.string s.data.toList):DataW H):=by
    have:=congrArg Prod.fst hx
    simpa[strData]using this
   have hxl:xs.length=n:=by simpa using Lib.mapM_length hm
   have hzl:ss.length=n:=by
    have:=congrArg List.length hxs
    simp at this
    omega
   apply List.ext_getElem?
   intro i
   by_cases hi:i<n
   ·obtain⟨b,hb,hf⟩:=Lib.mapM_at hm i i (by simp[hi])
    obtain⟨z,hc,rfl,_⟩:=DataW.trod_string he hf
    have h1:cs[i]? =some (.string z):=by
     have:=congrArg (·[0]?) hc
     simpa[cS,cC]using this
    have h2:(xs.map (·.1))[i]? =some (DataW.lit (.string z.data.toList):DataW H):=by simp[hb]
    rw[hxs]at h2
    simp only[bP,bK,DataW.lit.injEq,Lit.string.injEq]at h2
    obtain⟨z',hz',e⟩:=h2
    rw[h1,bP,hz',bytes_inj e];rfl
   ·rw[bN zo,bN (by simp;omega)]
  ·cases h
theorem strsAre_of_head{P:Program}{W:World}{name:String}{ss:List ByteArray}{rest:List (String×DataW Unit)}{g:Nat}{t e:TypeId}{n:Nat}
  (hg:P.globalNamed name=some g)(hty:(P.globals[g]?).map (·.type)=some t)(ht:P.underlying t=some (.array n e))(he:P.underlying e=some .string)(hce:P.cellsOf e=1)(hct:P.cellsOf t=n)
  (h:laidMet P ((name,strData ss)::rest) W):StrsAre P W name ss:=by
 obtain⟨ps,⟨g',t',cs,fuel,p,q,hg',ht',hvar,hd,_,_⟩,_⟩:=h
 obtain rfl:=bH (hg.symm.trans hg')
 obtain rfl:=bH (hty.symm.trans ht')
 unfold StrsAre
 rw[hvar,<-cells_of_strs ht he hce hct hd]
theorem StrsAre.cell{P:Program}{W:World}{name:String}{ss:List ByteArray}{g:Nat}(h:StrsAre P W name ss)(hg:P.globalNamed name=some g)(i:Nat)(hi:i<ss.length):
  W.cell? ⟨g,i,none⟩=some (.string (ss.getD i ⟨#[]⟩)):=by
 have:=World.var?_cell hg h i
 simpa[List.getD,hi]using this
def days7:List ByteArray:=[⟨#[109,111,110]⟩,⟨#[116,117,101]⟩,⟨#[119,101,100]⟩,⟨#[116,104,117]⟩,⟨#[102,114,105]⟩,⟨#[115,97,116]⟩,⟨#[115,117,110]⟩]
def laid3:List (String×DataW Unit):=[("netsegment/box.tops",Rows.laid_netsegment_box_tops),("netsegment/calendar.names",Rows.laid_netsegment_calendar_names)]
theorem door_met(os:Os)(args:Array Value):laidMetH Tryz.prog laid3 ((World.doorLaid Tryz.prog 400 os).forCall (fun _ _=>0) ⟨#[],args,[]⟩).memory:=
 laidMetH_of_parts3 (fuel:=8) (laidMet_of_run' 8 zk zk) zk zk
theorem cell_lt{W:World}{g i:Nat}{v:Value}(h:W.cell? ⟨g,i,none⟩=some v):g<W.heap.size:=by
 rcases aB g W.heap.size with h1|h1
 ·exact h1
 ·simp[World.cell?,h1]at h
theorem glob_of{W:World}(h:laidMetH Tryz.prog laid3 W):GlobOk NoE W:=by
 rw[MakeChecks.laidMetH_plain _ _ _ zk]at h
 have g0:Tryz.prog.globalNamed "netsegment/box.tops"=some 0:=by kernel_rfl
 have g1:Tryz.prog.globalNamed "netsegment/calendar.names"=some 1:=by kernel_rfl
 have h1:Lib.TabIs Tryz.prog W "netsegment/box.tops" .u32 [4294967295,4294967295,255,65535,65535]:=
  Lib.tabIs_of_head (t:=184) (e:=55) (n:=5) g0 zk zk zk zk zk (rest:=[("netsegment/calendar.names",Rows.laid_netsegment_calendar_names)]) h
 have h2:StrsAre Tryz.prog W "netsegment/calendar.names" days7:=
  strsAre_of_head (t:=303) (e:=9) (n:=7) g1 zk zk zk zk zk (rest:=[]) (laidMet.tail h)
 have c1:=h1.cell g0
 have c2:=h2.cell g1
 intro g cs hg
 have h5:∀{α:Type} (j:Nat) (y:α) (l:List α),l[j]? =some y->j<l.length/\y=l.getD j y:=fun j y l h=>by
  obtain⟨h1,h2⟩:=aP.1 h
  exact⟨h1,by simp[List.getD,h]⟩
 match g,hg with
 |0,hg=>
  cases hg
  refine⟨fun h=>h,cell_lt (c1 0 zd),fun j y hy=>?_⟩
  obtain⟨hj,_⟩:=h5 _ _ _ hy
  match j,hj,hy with
  |0,_,hy=>cases hy;exact c1 0 zd
  |1,_,hy=>cases hy;exact c1 1 zd
  |2,_,hy=>cases hy;exact c1 2 zd
  |3,_,hy=>cases hy;exact c1 3 zd
  |4,_,hy=>cases hy;exact c1 4 zd
  |j+5,hj,_=>exact absurd hj zx
 |1,hg=>
  cases hg
  refine⟨fun h=>h,cell_lt (c2 0 zd),fun j y hy=>?_⟩
  obtain⟨hj,_⟩:=h5 _ _ _ hy
  match j,hj,hy with
  |0,_,hy=>cases hy;exact c2 0 zd
  |1,_,hy=>cases hy;exact c2 1 zd
  |2,_,hy=>cases hy;exact c2 2 zd
  |3,_,hy=>cases hy;exact c2 3 zd
  |4,_,hy=>cases hy;exact c2 4 zd
  |5,_,hy=>cases hy;exact c2 5 zd
  |6,_,hy=>cases hy;exact c2 6 zd
  |j+7,hj,_=>exact absurd hj zx
 |g+2,hg=>cases hg
noncomputable def gvCon:Ctx:={N:=33,plan:=at1 5 (some (ln [1,3,5,7,9,11,13,15,17,19,21,23,25,27,29,31,33,35])) (fun _=>none)}
noncomputable def bvCon:Code:=bdy Tryz.f70
abbrev ofvCon:=@ofC Tryz.prog gvCon 70 Tryz.f70 bvCon Tryz.func70 zk zk zk zk
noncomputable def gvPt:Ctx:={N:=17}
noncomputable def bvPt:Code:=bdy Tryz.f144
abbrev ofvPt:=@ofC Tryz.prog gvPt 144 Tryz.f144 bvPt Tryz.func144 zk zk zk zk
noncomputable def gvNum:Ctx:={N:=19,np:=1,own:=at1 16 (true) (fun _=>false)}
noncomputable def bvNum:Code:=bdy Tryz.f65
abbrev ofvNum:=@ofC Tryz.prog gvNum 65 Tryz.f65 bvNum Tryz.func65 zk zk zk zk
noncomputable def gr4Same:Ctx:={N:=8}
noncomputable def br4Same:Code:=bdy Tryz.f61
abbrev ofr4Same:=@ofC Tryz.prog gr4Same 61 Tryz.f61 br4Same Tryz.func61 zk zk zk zk
noncomputable def gr4Init:Ctx:={N:=63,hints:=at1 2 ([.virt 1 10]) (fun _=>[])}
noncomputable def br4Init:Code:=bdy Tryz.f128
abbrev ofr4Init:=@ofC Tryz.prog gr4Init 128 Tryz.f128 br4Init Tryz.func128 zk zk zk zk
noncomputable def gr3Isec:Ctx:={N:=48,plan:=at1 5 (some (ln [1,3,5,7,9,11,13,15,17,19,21,23,25,27,29,31,33,35,37,39,41,42])) (fun _=>none)}
noncomputable def br3Isec:Code:=bdy Tryz.f244
abbrev ofr3Isec:=@ofC Tryz.prog gr3Isec 244 Tryz.f244 br3Isec Tryz.func244 zk zk zk zk
noncomputable def gvWho:Ctx:={N:=32}
noncomputable def bvWho:Code:=bdy Tryz.f126
abbrev ofvWho:=@ofC Tryz.prog gvWho 126 Tryz.f126 bvWho Tryz.func126 zk zk zk zk
noncomputable def gvReal:Ctx:={N:=40,hints:=at1 2 ([.virt 5 10]) (fun _=>[])}
noncomputable def bvReal:Code:=bdy Tryz.f162
abbrev ofvReal:=@ofC Tryz.prog gvReal 162 Tryz.f162 bvReal Tryz.func162 zk zk zk zk
noncomputable def gvDisj:Ctx:={N:=34,plan:=at1 7 (some (.one 0 true (.one 1 true (.one 2 true (.one 3 true (.one 4 true (.one 5 true (.one 6 true (.one 7 true (.alt 8 (ln [19,21,23,24,26,29]) (.alt 12 (ln [16,19,21,23,26,29]) (.stop)))))))))))) (fun _=>none)}
noncomputable def bvDisj:Code:=bdy Tryz.f163
abbrev ofvDisj:=@ofC Tryz.prog gvDisj 163 Tryz.f163 bvDisj Tryz.func163 zk zk zk zk
noncomputable def gvVal:Ctx:={N:=91,plan:=at1 7 (some (ln [1,3,4,7,9,11,13,15,17,19,21,23,25,27,29,31,33,35,37,39,41,43,45,47,49,51,53,55,57,58,61,63,65,67,69,71,73,74,77,79])) (at1 12 (some (ln [1,3,5,7,9,11,13,15,16,19])) (fun _=>none)),cut:=at1 9 (true) (fun _=>false)}
noncomputable def bvVal:Code:=bdy Tryz.f85
abbrev ofvVal:=@ofC Tryz.prog gvVal 85 Tryz.f85 bvVal Tryz.func85 zk zk zk zk
noncomputable def gvPair:Ctx:={N:=46,plan:=at1 7 (some (ln [1,3,5,7,9,10,12,14,17,19,21,23])) (fun _=>none)}
noncomputable def bvPair:Code:=bdy Tryz.f84
abbrev ofvPair:=@ofC Tryz.prog gvPair 84 Tryz.f84 bvPair Tryz.func84 zk zk zk zk
noncomputable def gr3Top:Ctx:={N:=12}
noncomputable def br3Top:Code:=bdy Tryz.f133
abbrev ofr3Top:=@ofC Tryz.prog gr3Top 133 Tryz.f133 br3Top Tryz.func133 zk zk zk zk
noncomputable def gr3Full:Ctx:={N:=13}
noncomputable def br3Full:Code:=bdy Tryz.f218
abbrev ofr3Full:=@ofC Tryz.prog gr3Full 218 Tryz.f218 br3Full Tryz.func218 zk zk zk zk
noncomputable def gr3Val:Ctx:={N:=26,plan:=at1 4 (some (ln [1,3,5,7,9,11,13,15,17,19,21,23,25,27,29,30,33,35])) (fun _=>none)}
noncomputable def br3Val:Code:=bdy Tryz.f145
abbrev ofr3Val:=@ofC Tryz.prog gr3Val 145 Tryz.f145 br3Val Tryz.func145 zk zk zk zk
noncomputable def gr3Same:Ctx:={N:=26,plan:=at1 6 (some (ln [1,3,5,7,9,11,13,15,17])) (fun _=>none)}
noncomputable def br3Same:Code:=bdy Tryz.f131
abbrev ofr3Same:=@ofC Tryz.prog gr3Same 131 Tryz.f131 br3Same Tryz.func131 zk zk zk zk
noncomputable def gr4At:Ctx:={N:=45,hints:=at1 2 ([.virt 7 10]) (fun _=>[])}
noncomputable def br4At:Code:=bdy Tryz.f172
abbrev ofr4At:=@ofC Tryz.prog gr4At 172 Tryz.f172 br4At Tryz.func172 zk zk zk zk
noncomputable def gr4Rgs:Ctx:={N:=41,hints:=at1 2 ([.virt 7 2]) (fun _=>[])}
noncomputable def br4Rgs:Code:=bdy Tryz.f171
abbrev ofr4Rgs:=@ofC Tryz.prog gr4Rgs 171 Tryz.f171 br4Rgs Tryz.func171 zk zk zk zk
noncomputable def gr4Hold:Ctx:={N:=30}
noncomputable def br4Hold:Code:=bdy Tryz.f168
abbrev ofr4Hold:=@ofC Tryz.prog gr4Hold 168 Tryz.f168 br4Hold Tryz.func168 zk zk zk zk
noncomputable def gr4None:Ctx:={N:=26}
noncomputable def br4None:Code:=bdy Tryz.f169
abbrev ofr4None:=@ofC Tryz.prog gr4None 169 Tryz.f169 br4None Tryz.func169 zk zk zk zk
noncomputable def gr4Val:Ctx:={N:=24,hints:=at1 2 ([.virt 3 10]) (fun _=>[])}
noncomputable def br4Val:Code:=bdy Tryz.f93
abbrev ofr4Val:=@ofC Tryz.prog gr4Val 93 Tryz.f93 br4Val Tryz.func93 zk zk zk zk
noncomputable def gr4Rests:Ctx:={N:=140,plan:=at1 15 (some (ln [1,3,5,7,9,11,15,17,19,21,23,25,29,31,33,12,26,34,37])) (fun _=>none),hints:=at1 8 ([.virt 9 10]) (fun _=>[]),cut:=at1 15 (true) (fun _=>false)}
noncomputable def br4Rests:Code:=bdy Tryz.f92
abbrev ofr4Rests:=@ofC Tryz.prog gr4Rests 92 Tryz.f92 br4Rests Tryz.func92 zk zk zk zk
noncomputable def gr4Lim:Ctx:={N:=8}
noncomputable def br4Lim:Code:=bdy Tryz.f219
abbrev ofr4Lim:=@ofC Tryz.prog gr4Lim 219 Tryz.f219 br4Lim Tryz.func219 zk zk zk zk
noncomputable def gr4Make:Ctx:={N:=36,hints:=at1 2 ([.asL 4]) (fun _=>[])}
noncomputable def br4Make:Code:=bdy Tryz.f127
abbrev ofr4Make:=@ofC Tryz.prog gr4Make 127 Tryz.f127 br4Make Tryz.func127 zk zk zk zk
noncomputable def gr4Alike:Ctx:={N:=38,plan:=at1 9 (some (ln [1,3,5,7,9,11,13,15,17,19,21,23,25])) (fun _=>none)}
noncomputable def br4Alike:Code:=bdy Tryz.f292
abbrev ofr4Alike:=@ofC Tryz.prog gr4Alike 292 Tryz.f292 br4Alike Tryz.func292 zk zk zk zk
noncomputable def gr4Canl:Ctx:={N:=91,plan:=at1 8 (some (ln [1,3,5,7,9,11,13,15,17,19,21,23,25,27,29,31,33,35,37])) (at1 12 (some (.one 0 true (.one 1 true (.one 2 true (.one 3 true (.one 4 true (.one 5 true (.one 6 true (.one 7 true (.one 8 true (.one 9 true (.one 10 true (.one 11 true (.alt 12 (.alt 13 (ln [28,30,32]) (.alt 14 (ln [26,30,32]) (.stop))) (.alt 13 (.alt 12 (ln [28,30,32]) (.alt 14 (.alt 12 (ln [30,32]) (.alt 15 (ln [25,32]) (.stop))) (.stop))) (.alt 14 (.alt 12 (ln [26,30,32]) (.alt 13 (.alt 12 (ln [30,32]) (.alt 15 (ln [25,32]) (.stop))) (.stop))) (.stop))))))))))))))))) (fun _=>none)),hints:=at1 4 ([.asL 5]) (fun _=>[])}
noncomputable def br4Canl:Code:=bdy Tryz.f243
abbrev ofr4Canl:=@ofC Tryz.prog gr4Canl 243 Tryz.f243 br4Canl Tryz.func243 zk zk zk zk
noncomputable def gr4Canon:Ctx:={N:=6}
noncomputable def br4Canon:Code:=bdy Tryz.f220
abbrev ofr4Canon:=@ofC Tryz.prog gr4Canon 220 Tryz.f220 br4Canon Tryz.func220 zk zk zk zk
noncomputable def gr4Vald:Ctx:={N:=18}
noncomputable def br4Vald:Code:=bdy Tryz.f161
abbrev ofr4Vald:=@ofC Tryz.prog gr4Vald 161 Tryz.f161 br4Vald Tryz.func161 zk zk zk zk
noncomputable def gr4Giv:Ctx:={N:=11}
noncomputable def br4Giv:Code:=bdy Tryz.f221
abbrev ofr4Giv:=@ofC Tryz.prog gr4Giv 221 Tryz.f221 br4Giv Tryz.func221 zk zk zk zk
noncomputable def gr4Comb:Ctx:={N:=34}
noncomputable def br4Comb:Code:=bdy Tryz.f130
abbrev ofr4Comb:=@ofC Tryz.prog gr4Comb 130 Tryz.f130 br4Comb Tryz.func130 zk zk zk zk
noncomputable def gr4Un:Ctx:={N:=11}
noncomputable def br4Un:Code:=bdy Tryz.f59
abbrev ofr4Un:=@ofC Tryz.prog gr4Un 59 Tryz.f59 br4Un Tryz.func59 zk zk zk zk
noncomputable def gr4Int:Ctx:={N:=11}
noncomputable def br4Int:Code:=bdy Tryz.f57
abbrev ofr4Int:=@ofC Tryz.prog gr4Int 57 Tryz.f57 br4Int Tryz.func57 zk zk zk zk
noncomputable def gr4Sub:Ctx:={N:=11}
noncomputable def br4Sub:Code:=bdy Tryz.f58
abbrev ofr4Sub:=@ofC Tryz.prog gr4Sub 58 Tryz.f58 br4Sub Tryz.func58 zk zk zk zk
noncomputable def gr4Subs:Ctx:={N:=12}
noncomputable def br4Subs:Code:=bdy Tryz.f33
abbrev ofr4Subs:=@ofC Tryz.prog gr4Subs 33 Tryz.f33 br4Subs Tryz.func33 zk zk zk zk
structure Grp (α:Type) where
 lo:Int
 hi:Int
 val:α
def gAt{α:Type}(l:List (Grp α))(v:Int):Option α:=(l.find? fun g=>decide (g.lo<=v)&&decide (v<=g.hi)).map (·.val)
inductive Wf {α:Type}:List (Grp α)->Prop
 |nil:Wf []
 |one (g:Grp α) (h:g.lo<=g.hi):Wf [g]
 |cons (g h:Grp α) (l:List (Grp α)) (h1:g.lo<=g.hi) (h2:g.hi<h.lo) (h3:g.hi+1=h.lo->g.val≠h.val) (hw:Wf (h::l)):Wf (g::h::l)
section
variable {α:Type}
theorem Wf.tail{g:Grp α}{l:List (Grp α)}(h:Wf (g::l)):Wf l:=by
 cases h with
 |one=>exact .nil
 |cons _ _ _ _ _ _ hw=>exact hw
theorem Wf.head{g:Grp α}{l:List (Grp α)}(h:Wf (g::l)):g.lo<=g.hi:=by
 cases h with
 |one _ h=>exact h
 |cons _ _ _ h _ _ _=>exact h
theorem Wf.above:∀{l:List (Grp α)} {g:Grp α},Wf (g::l)->∀x,x∈l->g.hi<x.lo/\x.lo<=x.hi
 |[],g,h,x,hx=>by simp at hx
 |y::l,g,h,x,hx=>by
  cases h with
  |cons _ _ _ h1 h2 h3 hw=>
   rcases aW.1 hx with rfl|hx
   ·exact⟨h2,hw.head⟩
   ·have:=Wf.above hw x hx
    have:=hw.head
    omega
theorem Wf.le:∀{l:List (Grp α)},Wf l->∀z,z∈l->z.lo<=z.hi
 |[],_,z,hz=>by simp at hz
 |w::l,hw,z,hz=>by
  rcases aW.1 hz with rfl|hz
  ·exact hw.head
  ·exact Wf.le hw.tail z hz
theorem gAt_nil(v:Int):gAt ([]:List (Grp α)) v=none:=rfl
theorem gAt_cons(g:Grp α)(l:List (Grp α))(v:Int):gAt (g::l) v=if g.lo<=v/\v<=g.hi then some g.val else gAt l v:=by
 unfold gAt
 rw[List.find?_cons]
 by_cases h:g.lo<=v/\v<=g.hi
 ·simp[h]
 ·have:(decide (g.lo<=v)&&decide (v<=g.hi))=false:=by
   rw[cA,ne_eq,aI,aK,aK];exact h
  rw[this,aE h]
theorem gAt_none{l:List (Grp α)}{v:Int}(h:∀g,g∈l->v<g.lo\/g.hi<v):gAt l v=none:=by
 induction l with
 |nil=>rfl
 |cons g l ih=>
  rw[gAt_cons,aE (by have:=h g zx;omega)]
  exact ih fun x hx=>h x (bA _ hx)
theorem gAt_some{l:List (Grp α)}{v:Int}{x:α}(h:gAt l v=some x):∃g,g∈l/\g.lo<=v/\v<=g.hi/\g.val=x:=by
 induction l with
 |nil=>cases h
 |cons g l ih=>
  rw[gAt_cons]at h
  split at h
  ·rename_i hc;cases h;exact⟨g,by simp,hc.1,hc.2,rfl⟩
  ·obtain⟨y,h1,h2⟩:=ih h;exact⟨y,bA _ h1,h2⟩
theorem Wf.at_mem:∀{l:List (Grp α)},Wf l->∀{g:Grp α},g∈l->∀{v:Int},g.lo<=v->v<=g.hi->gAt l v=some g.val
 |[],h,g,hg,v,h1,h2=>by simp at hg
 |y::l,h,g,hg,v,h1,h2=>by
  rw[gAt_cons]
  rcases aW.1 hg with rfl|hg
  ·rw[aG ⟨h1,h2⟩]
  ·have:=h.above g hg
   rw[aE zo]
   exact Wf.at_mem h.tail hg h1 h2
theorem grp_ext:∀{l m:List (Grp α)},Wf l->Wf m->(∀v,gAt l v=gAt m v)->l=m
 |[],[],_,_,_=>rfl
 |[],h::m,_,hm,he=>by
  have:=he h.lo
  rw[gAt_nil,gAt_cons,aG ⟨cF _,hm.head⟩]at this
  cases this
 |g::l,[],hl,_,he=>by
  have:=he g.lo
  rw[gAt_nil,gAt_cons,aG ⟨cF _,hl.head⟩]at this
  cases this
 |g::l,h::m,hl,hm,he=>by
  have first:∀{g h:Grp α} {l m:List (Grp α)},Wf (g::l)->Wf (h::m)->(∀v,gAt (g::l) v=gAt (h::m) v)->h.lo<=g.lo:=by
   intro g h l m hl hm he
   have e:=he g.lo
   rw[gAt_cons,aG ⟨cF _,hl.head⟩]at e
   obtain⟨x,hx,h1,h2,_⟩:=gAt_some e.symm
   rcases aW.1 hx with rfl|hx
   ·exact h1
   ·have:=hm.above x hx;have:=hm.head;omega
  have elo:g.lo=h.lo:=Int.le_antisymm (first hm hl fun v=>(he v).symm) (first hl hm he)
  have eval:g.val=h.val:=by
   have e:=he g.lo
   rw[gAt_cons,aG ⟨cF _,hl.head⟩,gAt_cons,aG ⟨by omega,by have:=hm.head;omega⟩]at e
   exact bH e
  have last:∀{g h:Grp α} {l m:List (Grp α)},Wf (g::l)->Wf (h::m)->g.lo=h.lo->g.val=h.val->(∀v,gAt (g::l) v=gAt (h::m) v)->h.hi<=g.hi:=by
   intro g h l m hl hm elo eval he
   rcases eO g.hi h.hi with hlt|hge
   ·exfalso
    have e:=he (g.hi+1)
    have h1:=hl.head
    rw[gAt_cons,aE zo,gAt_cons (g:=h),aG ⟨by omega,by omega⟩]at e
    obtain⟨x,hx,x1,x2,x3⟩:=gAt_some e
    cases hl with
    |one=>simp at hx
    |cons _ y l _ y2 y3 hw=>
     rcases aW.1 hx with rfl|hx
     ·exact y3 zo (by rw[x3,eval])
     ·have:=hw.above x hx;have:=hw.head;omega
   ·exact hge
  have ehi:g.hi=h.hi:=Int.le_antisymm (last hm hl elo.symm eval.symm fun v=>(he v).symm) (last hl hm elo eval he)
  have eg:g=h:=by
   cases g;cases h
   simp only at elo eval ehi
   subst elo;subst eval;subst ehi;rfl
  subst eg
  congr 1
  refine grp_ext hl.tail hm.tail fun v=>?_
  have e:=he v
  rw[gAt_cons,gAt_cons]at e
  by_cases hc:g.lo<=v/\v<=g.hi
  ·have none_:∀{l:List (Grp α)},Wf (g::l)->gAt l v=none:=fun hw=>gAt_none fun x hx=>by have:=hw.above x hx;omega
   rw[none_ hl,none_ hm]
  ·rw[aE hc,aE hc]at e;exact e
theorem Wf.snoc:∀{l:List (Grp α)} {g:Grp α},Wf l->g.lo<=g.hi->(∀x,l.getLast?=some x->x.hi<g.lo/\(x.hi+1=g.lo->x.val≠g.val))->Wf (l++[g])
 |[],g,_,hg,_=>.one g hg
 |[x],g,hl,hg,h=>.cons x g [] hl.head (h x rfl).1 (h x rfl).2 (.one g hg)
 |x::y::l,g,hl,hg,h=>by
  cases hl with
  |cons _ _ _ h1 h2 h3 hw=>exact .cons x y (l++[g]) h1 h2 h3 (Wf.snoc hw hg fun z hz=>h z (by rw[List.getLast?_cons_cons];exact hz))
theorem Wf.init:∀{l:List (Grp α)} {g:Grp α},Wf (l++[g])->Wf l/\g.lo<=g.hi/\∀x,l.getLast?=some x->x.hi<g.lo/\(x.hi+1=g.lo->x.val≠g.val)
 |[],g,h=>⟨.nil,h.head,fun x hx=>by simp at hx⟩
 |[x],g,h=>by
  cases h with
  |cons _ _ _ h1 h2 h3 hw=>exact⟨.one x h1,hw.head,fun y hy=>by simp at hy;subst hy;exact⟨h2,h3⟩⟩
 |x::y::l,g,h=>by
  cases h with
  |cons _ _ _ h1 h2 h3 hw=>
   obtain⟨i1,i2,i3⟩:=Wf.init (l:=y::l) hw
   exact⟨.cons x y l h1 h2 h3 i1,i2,fun z hz=>i3 z (by rw[List.getLast?_cons_cons]at hz;exact hz)⟩
theorem Wf.under:∀{l:List (Grp α)} {g:Grp α},Wf (l++[g])->∀x,x∈l->x.hi<g.lo:=by
 intro l
 induction l with
 |nil=>intro g _ x hx;simp at hx
 |cons y l ih=>
  intro g h x hx
  rcases aW.1 hx with rfl|hx
  ·exact(Wf.above h g zx).1
  ·exact ih h.tail x hx
theorem gAt_snoc{l:List (Grp α)}{g:Grp α}(hw:Wf (l++[g]))(v:Int):gAt (l++[g]) v=if g.lo<=v/\v<=g.hi then some g.val else gAt l v:=by
 induction l with
 |nil=>rw[cZ,gAt_cons]
 |cons y l ih=>
  rw[List.cons_append,gAt_cons,ih hw.tail,gAt_cons]
  have:=Wf.under (l:=y::l) hw y zx
  by_cases h1:y.lo<=v/\v<=y.hi
  ·rw[aG h1,aG h1,aE zo]
  ·rw[aE h1,aE h1]
end
def lab{β:Type}(R:Int->List β)(v:Int):Option (List β):=if(R v).isEmpty then none else some (R v)
def grow{β:Type}(eq:List β->List β->Bool)(out:List (Grp (List β)))(s:Int×Int)(rest:List β):List (Grp (List β)):=
 if rest.isEmpty then out else match out.getLast? with
  |some g=>if g.hi+1=s.1/\eq g.val rest=true then out.dropLast++[⟨g.lo,s.2,g.val⟩]else out++[⟨s.1,s.2,rest⟩]
  |none=>[⟨s.1,s.2,rest⟩]
structure GInv {β:Type} (R:Int->List β) (out:List (Grp (List β))) (e:Int):Prop where
 wf:Wf out
 at_:∀v,gAt out v=if 0<=v/\v<e then lab R v else none
 low:∀g,g∈out->0<=g.lo/\g.hi<e
 full:∀g,g∈out->g.val≠[]
theorem GInv.start{β:Type}(R:Int->List β):GInv R [] 0:=⟨.nil,fun v=>by rw[gAt_nil,aE zo],fun g h=>by simp at h,fun g h=>by simp at h⟩
theorem GInv.step{β:Type}{eq:List β->List β->Bool}(heq:∀a b,eq a b=true↔a=b){R:Int->List β}{out:List (Grp (List β))}{lo hi:Int}(h:GInv R out lo)(h0:0<=lo)(hle:lo<=hi)(hR:∀v,lo<=v->v<=hi->R v=R lo):
  GInv R (grow eq out (lo,hi) (R lo)) (hi+1):=by
 have at_new:∀(m:List (Grp (List β))),(∀v,gAt m v=if lo<=v/\v<=hi then lab R lo else gAt out v)->∀v,gAt m v=if 0<=v/\v<hi+1 then lab R v else none:=fun m hm v=>by
  rw[hm,h.at_]
  by_cases h1:lo<=v/\v<=hi
  ·rw[aG h1,aG zo,lab,lab,hR v h1.1 h1.2]
  ·rw[aE h1]
   by_cases h2:0<=v/\v<lo
   ·rw[aG h2,aG zo]
   ·rw[aE h2,aE zo]
 unfold grow
 split
 ·rename_i he
  have hl:lab R lo=none:=by unfold lab;rw[aG he]
  refine⟨h.wf,at_new out fun v=>?_,fun g hg=>?_,h.full⟩
  ·by_cases h1:lo<=v/\v<=hi
   ·rw[aG h1,hl,h.at_,aE zo]
   ·rw[aE h1]
  ·have:=h.low g hg;omega
 ·rename_i he
  have hl:lab R lo=some (R lo):=by unfold lab;rw[aE he]
  have hne:R lo≠[]:=fun e=>he (by rw[e];rfl)
  rcases cK out with hn|⟨ini,g,hc⟩
  ·subst hn
   simp only[List.getLast?_nil]
   refine⟨.one _ hle,at_new _ fun v=>?_,fun x hx=>?_,fun x hx=>?_⟩
   ·rw[gAt_cons,hl,gAt_nil]
   ·simp only[aR]at hx;subst hx;exact⟨h0,by simp only;omega⟩
   ·simp only[aR]at hx;subst hx;exact hne
  ·rw[cL]at hc
   subst hc
   simp only[cN,cB,dK,cX]
   have hg:=h.low g zx
   have hin:=h.wf.init
   split
   ·rename_i hc
    have hval:=(heq _ _).1 hc.2
    have hw:Wf (ini++[⟨g.lo,hi,g.val⟩]):=Wf.snoc hin.1 (by have:=hin.2.1;simp only;omega) hin.2.2
    refine⟨hw,at_new _ fun v=>?_,fun x hx=>?_,fun x hx=>?_⟩
    ·rw[gAt_snoc hw,gAt_snoc h.wf,hl]
     simp only
     have:=hin.2.1
     by_cases h1:lo<=v/\v<=hi
     ·rw[aG h1,aG zo,hval]
     ·rw[aE h1]
      by_cases h2:g.lo<=v/\v<=g.hi
      ·rw[aG h2,aG zo]
      ·rw[aE h2,aE zo]
    ·rcases aS.1 hx with hx|hx
     ·have:=h.low x (by simp[hx]);omega
     ·simp only[aR]at hx;subst hx;exact⟨hg.1,by simp only;omega⟩
    ·rcases aS.1 hx with hx|hx
     ·exact h.full x (by simp[hx])
     ·simp only[aR]at hx;subst hx;exact h.full g zx
   ·rename_i hc
    have hw:Wf ((ini++[g])++[⟨lo,hi,R lo⟩]):=Wf.snoc h.wf hle fun x hx=>by
     simp only[cN,cB,dK,bO]at hx
     subst hx
     exact⟨hg.2,fun e1 e2=>hc ⟨e1,(heq _ _).2 e2⟩⟩
    refine⟨hw,at_new _ fun v=>?_,fun x hx=>?_,fun x hx=>?_⟩
    ·rw[gAt_snoc hw,hl]
    ·rcases aS.1 hx with hx|hx
     ·have:=h.low x hx;omega
     ·simp only[aR]at hx;subst hx;exact⟨h0,by simp only;omega⟩
    ·rcases aS.1 hx with hx|hx
     ·exact h.full x hx
     ·simp only[aR]at hx;subst hx;exact hne
theorem GInv.same{β:Type}{R:Int->List β}{l m:List (Grp (List β))}{e:Int}(h1:GInv R l e)(h2:GInv R m e):l=m:=
 grp_ext h1.wf h2.wf fun v=>by rw[h1.at_,h2.at_]
structure Bx where
 r0:Rg
 r1:Rg
 r2:Rg
 r3:Rg
 r4:Rg
deriving DecidableEq
def Bx.get(b:Bx):Nat->Rg
 |0=>b.r0
 |1=>b.r1
 |2=>b.r2
 |3=>b.r3
 |_=>b.r4
def Bx.put(b:Bx)(f:Nat)(r:Rg):Bx:=match f with
 |0=>{b with r0:=r}
 |1=>{b with r1:=r}
 |2=>{b with r2:=r}
 |3=>{b with r3:=r}
 |_=>{b with r4:=r}
def zR:Rg:=⟨0,0,by decide,by decide,by decide,by decide⟩
def zB:Bx:=⟨zR,zR,zR,zR,zR⟩
def topF:Nat->Int
 |0=>4294967295
 |1=>4294967295
 |2=>255
 |3=>65535
 |_=>65535
theorem topF_pos(f:Nat):0<=topF f/\topF f<=4294967295:=by
 unfold topF;split<;>decide
def atF(f:Nat)(v:Int)(l:List Bx):List Bx:=l.filter fun b=>decide ((b.get f).lo<=v)&&decide (v<=(b.get f).hi)
def rngs(f:Nat)(a b:List Bx):List Rg:=a.map (·.get f)++b.map (·.get f)
def eqB(x y:List Bx):Bool:=decide (x=y)
theorem eqB_iff(x y:List Bx):eqB x y=true↔x=y:=by unfold eqB;exact decide_eq_true_iff
def groupsOf(R:Int->List Bx)(top:Int)(st:List Int):List (Grp (List Bx)):=(segs top st).foldl (fun out s=>grow eqB out s (R s.1)) []
def flatG(f:Nat)(gs:List (Grp (List Bx))):List Bx:=gs.flatMap fun g=>g.val.map fun b=>b.put f (mkR g.lo g.hi)
def cano(op:Bool->Bool->Bool):Nat->List Bx->List Bx->List Bx
 |0,a,b=>if op (!a.isEmpty) (!b.isEmpty)then [zB]else []
 |k+1,a,b=>flatG (4-k) (groupsOf (fun v=>cano op k (atF (4-k) v a) (atF (4-k) v b)) (topF (4-k)) (starts (rngs (4-k) a b) (topF (4-k))))
structure Cuts (top:Int) (l:List Rg) (st:List Int):Prop where
 sorted:st.Pairwise (· < ·)
 range:∀x,x∈st->0<=x/\x<=top
 zero:∃r,st=0::r
 mem:∀r,r∈l->r.lo<=r.hi->(r.lo<=top->r.lo∈st)/\(r.hi+1<=top->r.hi+1∈st)
theorem starts_cuts(l:List Rg){top:Int}(ht:0<=top):Cuts top l (starts l top):=by
 have inv:=starts_inv l ht
 exact⟨inv.sorted,inv.range,inv.zero,fun r hr hle=>starts_mem l ht hr hle⟩
theorem Cuts.const{top:Int}{l:List Rg}{st:List Int}(h:Cuts top l st){s:Int×Int}(hs:s∈segs top st){v:Int}(h1:s.1<=v)(h2:v<=s.2){r:Rg}(hr:r∈l):(r.lo<=v/\v<=r.hi)↔(r.lo<=s.1/\s.1<=r.hi):=by
 obtain⟨g1,g2,g3⟩:=segs_spec _ h.sorted (fun x hx=>(h.range x hx).2) s hs
 constructor
 ·rintro⟨a1,a2⟩
  refine⟨?_,by omega⟩
  rcases eO s.1 r.lo with hlt|hge
  ·exact absurd ⟨hlt,by omega⟩ (g3 r.lo ((h.mem r hr zo).1 zo))
  ·exact hge
 ·rintro⟨a1,a2⟩
  refine⟨by omega,?_⟩
  rcases eO r.hi v with hlt|hge
  ·exact absurd ⟨by omega,by omega⟩ (g3 (r.hi+1) ((h.mem r hr zo).2 zo))
  ·exact hge
theorem fold_ginv{R:Int->List Bx}{top:Int}:∀(r:List Int) (x:Int) (out:List (Grp (List Bx))),GInv R out x->0<=x->(x::r).Pairwise (· < ·)->(∀y,y∈x::r->y<=top)->(∀s,s∈segs top (x::r)->∀v,s.1<=v->v<=s.2->R v=R s.1)->
  GInv R ((segs top (x::r)).foldl (fun out s=>grow eqB out s (R s.1)) out) (top+1)
 |[],x,out,h,h0,hp,hb,hR=>by
  simp only[segs,dW,List.foldl_nil]
  exact h.step eqB_iff h0 (hb x zx) (fun v v1 v2=>hR (x,top) (by simp[segs]) v v1 v2)
 |y::r,x,out,h,h0,hp,hb,hR=>by
  simp only[segs,dW]
  obtain⟨p1,p2⟩:=bQ.1 hp
  have hxy:=p1 y zx
  have hs:=h.step eqB_iff (hi:=y-1) h0 zo (fun v v1 v2=>hR (x,y-1) (by simp[segs]) v v1 v2)
  rw[show y-1+1=y by omega]at hs
  exact fold_ginv r y _ hs zo p2 (fun z hz=>hb z (bA _ hz)) (fun s hs=>hR s (by simp only[segs,aW];exact .inr hs))
theorem Cuts.groups{R:Int->List Bx}{top:Int}{l:List Rg}{st:List Int}(h:Cuts top l st)(hR:∀u v,(∀r,r∈l->((r.lo<=u/\u<=r.hi)↔(r.lo<=v/\v<=r.hi)))->R u=R v):GInv R (groupsOf R top st) (top+1):=by
 obtain⟨r,hr⟩:=h.zero
 have hs:=h.sorted;have hb:=fun y hy=>(h.range y hy).2
 have hc:∀s,s∈segs top st->∀v,s.1<=v->v<=s.2->R v=R s.1:=fun s hs v v1 v2=>hR v s.1 fun r hr=>h.const hs v1 v2 hr
 rw[groupsOf,hr]
 rw[hr]at hs hb hc
 exact fold_ginv r 0 [] (GInv.start R) (cF _) hs hb hc
theorem atF_congr{f:Nat}{u v:Int}{l:List Bx}(h:∀b,b∈l->(((b.get f).lo<=u/\u<=(b.get f).hi)↔((b.get f).lo<=v/\v<=(b.get f).hi))):atF f u l=atF f v l:=by
 unfold atF
 refine List.filter_congr fun b hb=>?_
 rw[bG,aI,aI,aK,aK,aK,aK]
 exact h b hb
def restAt(op:Bool->Bool->Bool)(k:Nat)(a b:List Bx)(v:Int):List Bx:=cano op k (atF (4-k) v a) (atF (4-k) v b)
theorem restAt_congr{op:Bool->Bool->Bool}{k:Nat}{a b:List Bx}{u v:Int}(h:∀r,r∈rngs (4-k) a b->((r.lo<=u/\u<=r.hi)↔(r.lo<=v/\v<=r.hi))):restAt op k a b u=restAt op k a b v:=by
 unfold restAt
 rw[atF_congr fun x hx=>h _ (aS.2 (.inl (fQ hx))),atF_congr (l:=b) fun x hx=>h _ (aS.2 (.inr (fQ hx)))]
theorem cano_succ(op:Bool->Bool->Bool)(k:Nat)(a b:List Bx):cano op (k+1) a b=flatG (4-k) (groupsOf (restAt op k a b) (topF (4-k)) (starts (rngs (4-k) a b) (topF (4-k)))):=by rw[cano];rfl
theorem cano_ginv(op:Bool->Bool->Bool)(k:Nat)(a b:List Bx){st:List Int}(hc:Cuts (topF (4-k)) (rngs (4-k) a b) st):GInv (restAt op k a b) (groupsOf (restAt op k a b) (topF (4-k)) st) (topF (4-k)+1):=hc.groups fun u v h=>restAt_congr h
theorem cano_any(op:Bool->Bool->Bool)(k:Nat)(a b:List Bx){st:List Int}(hc:Cuts (topF (4-k)) (rngs (4-k) a b) st):cano op (k+1) a b=flatG (4-k) (groupsOf (restAt op k a b) (topF (4-k)) st):=by
 rw[cano_succ,(cano_ginv op k a b (starts_cuts _ (topF_pos _).1)).same (cano_ginv op k a b hc)]
theorem flatG_nil{f:Nat}{gs:List (Grp (List Bx))}(h:∀g,g∈gs->g.val≠[]):flatG f gs=[]↔gs=[]:=by
 constructor
 ·intro he
  cases gs with
  |nil=>rfl
  |cons g gs=>
   have:=h g zx
   rw[flatG,cR,List.append_eq_nil_iff,List.map_eq_nil_iff]at he
   exact absurd he.1 this
 ·rintro rfl;rfl
theorem cano_nil_iff(op:Bool->Bool->Bool)(k:Nat)(a b:List Bx):cano op (k+1) a b=[]↔∀v,0<=v->v<=topF (4-k)->restAt op k a b v=[]:=by
 have g:=cano_ginv op k a b (starts_cuts (rngs (4-k) a b) (topF_pos (4-k)).1)
 rw[cano_succ,flatG_nil g.full]
 constructor
 ·intro h v v0 v1
  have:=g.at_ v
  rw[h,gAt_nil,aG ⟨v0,by omega⟩,lab]at this
  split at this
  ·rename_i he;exact eW.1 he
  ·cases this
 ·intro h
  cases hg:groupsOf (restAt op k a b) (topF (4-k)) (starts (rngs (4-k) a b) (topF (4-k)))with
  |nil=>rfl
  |cons x l=>
   exfalso
   rw[hg]at g
   have hx:=g.low x zx
   have hle:=g.wf.head
   have e:=g.at_ x.lo
   rw[gAt_cons,aG ⟨cF _,hle⟩,aG ⟨hx.1,by omega⟩,lab,h x.lo hx.1 zo]at e
   cases e
theorem atF_nil_of{f:Nat}{v:Int}{l:List Bx}(h:(atF f v l).isEmpty=false):l.isEmpty=false:=by
 cases l with
 |nil=>simp[atF]at h
 |cons=>rfl
def Dead(op:Bool->Bool->Bool)(x y:Bool):Prop:=∀p q,(p=true->x=true)->(q=true->y=true)->op p q=false
theorem cano_dead(op:Bool->Bool->Bool):∀(k:Nat) (a b:List Bx),Dead op (!a.isEmpty) (!b.isEmpty)->cano op k a b=[]
 |0,a,b,h=>by rw[cano,h _ _ id id];rfl
 |k+1,a,b,h=>by
  rw[cano_nil_iff]
  intro v _ _
  refine cano_dead op k _ _ fun p q hp hq=>h p q (fun e=>?_) (fun e=>?_)
  ·have:=hp e
   simp only[eH]at this⊢
   exact atF_nil_of this
  ·have:=hq e
   simp only[eH]at this⊢
   exact atF_nil_of this
/-! ### The limit -/
def sizeG(gs:List (Grp (List Bx))):Nat:=(gs.map fun g=>g.val.length).sum
theorem flatG_len(f:Nat)(gs:List (Grp (List Bx))):(flatG f gs).length=sizeG gs:=by
 induction gs with
 |nil=>rfl
 |cons g gs ih=>
  rw[flatG]at ih⊢
  rw[cR,aC,aA,ih]
  simp[sizeG]
theorem sizeG_snoc(l:List (Grp (List Bx)))(g:Grp (List Bx)):sizeG (l++[g])=sizeG l+g.val.length:=by simp[sizeG]
theorem grow_size(out:List (Grp (List Bx)))(s:Int×Int)(rest:List Bx):sizeG out<=sizeG (grow eqB out s rest)/\rest.length<=sizeG (grow eqB out s rest):=by
 unfold grow
 split
 ·rename_i h
  rw[eW.1 h]
  exact⟨aM _,aH _⟩
 ·rcases cK out with hn|⟨ini,g,hc⟩
  ·subst hn
   simp[sizeG]
  ·rw[cL]at hc
   subst hc
   simp only[cN,cB,dK,cX]
   split
   ·rename_i hc
    have:=congrArg List.length ((eqB_iff _ _).1 hc.2)
    simp only[sizeG_snoc]
    omega
   ·simp only[sizeG_snoc]
    omega
theorem fold_size(R:Int->List Bx):∀(l:List (Int×Int)) (out:List (Grp (List Bx))),sizeG out<=sizeG (l.foldl (fun out s=>grow eqB out s (R s.1)) out)
 |[],out=>aM _
 |s::l,out=>bR (grow_size out s (R s.1)).1 (fold_size R l _)
theorem get_put{b:Bx}{f:Nat}{r:Rg}(h:f<=4):(b.put f r).get f=r:=by
 rcases f with _|_|_|_|_|f
 all_goals first|rfl|omega
theorem get_put_ne{b:Bx}{f g:Nat}{r:Rg}(hf:f<=4)(hg:g<=4)(h:g≠f):(b.put f r).get g=b.get g:=by
 rcases f with _|_|_|_|_|f<;>rcases g with _|_|_|_|_|g
 all_goals first|rfl|omega
theorem put_put{b:Bx}{f:Nat}{r s:Rg}:(b.put f r).put f s=b.put f s:=by
 rcases f with _|_|_|_|f<;>rfl
theorem put_get{b:Bx}{f:Nat}:b.put f (b.get f)=b:=by
 rcases f with _|_|_|_|f<;>rfl
theorem bx_ext{a b:Bx}(h:∀f,f<=4->a.get f=b.get f):a=b:=by
 have h0:=h 0 zo;have h1:=h 1 zo;have h2:=h 2 zo;have h3:=h 3 zo;have h4:=h 4 zo
 cases a;cases b
 simp only[Bx.get]at h0 h1 h2 h3 h4
 subst h0;subst h1;subst h2;subst h3;subst h4;rfl
def inK(p:Nat->Int):Nat->Bx->Bool
 |0,_=>true
 |k+1,b=>decide ((b.get (4-k)).lo<=p (4-k))&&decide (p (4-k)<=(b.get (4-k)).hi)&&inK p k b
def memK(p:Nat->Int)(k:Nat)(l:List Bx):Bool:=l.any (inK p k)
theorem memK_zero(p:Nat->Int)(l:List Bx):memK p 0 l= !l.isEmpty:=by cases l<;>rfl
theorem memK_succ(p:Nat->Int)(k:Nat)(l:List Bx):memK p (k+1) l=memK p k (atF (4-k) (p (4-k)) l):=by
 rw[memK,memK,atF,List.any_filter]
 rfl
theorem inK_put{p:Nat->Int}{b:Bx}{r:Rg}{k:Nat}(hk:k<=4):∀{j:Nat},j<=k->inK p j (b.put (4-k) r)=inK p j b
 |0,_=>rfl
 |j+1,hj=>by
  rw[inK,inK,inK_put hk zo,get_put_ne zo zo zo]
theorem memK_flatG{p:Nat->Int}{k:Nat}(hk:k<=4):∀{gs:List (Grp (List Bx))},Wf gs->(∀g,g∈gs->0<=g.lo/\g.hi<=4294967295)->memK p (k+1) (flatG (4-k) gs)=match gAt gs (p (4-k))with
  |some l=>memK p k l
  |none=>false:=by
 intro gs
 induction gs with
 |nil=>intro _ _;rfl
 |cons g gs ih=>
  intro hw hb
  have ih:=ih hw.tail fun x hx=>hb x (bA _ hx)
  have hg:=hb g zx
  have hle:=hw.head
  have e:memK p (k+1) (flatG (4-k) (g::gs))=(memK p (k+1) (g.val.map fun b=>b.put (4-k) (mkR g.lo g.hi))||memK p (k+1) (flatG (4-k) gs)):=by
   simp[memK,flatG,List.any_append]
  have e2:memK p (k+1) (g.val.map fun b=>b.put (4-k) (mkR g.lo g.hi))=(decide (g.lo<=p (4-k))&&decide (p (4-k)<=g.hi)&&memK p k g.val):=by
   rw[memK,memK,List.any_map]
   have:(inK p (k+1)∘fun b=>b.put (4-k) (mkR g.lo g.hi))=fun b=>decide (g.lo<=p (4-k))&&decide (p (4-k)<=g.hi)&&inK p k b:=by
    funext b
    simp only[Function.comp,inK]
    rw[get_put zo,inK_put hk (aM _),mkR_lo zo zo zo zo,mkR_hi zo zo zo zo]
   rw[this]
   generalize (decide (g.lo<=p (4-k))&&decide (p (4-k)<=g.hi))=c
   cases c<;>simp
  rw[e,e2,ih,gAt_cons]
  by_cases hc:g.lo<=p (4-k)/\p (4-k)<=g.hi
  ·rw[aG hc,decide_eq_true hc.1,decide_eq_true hc.2]
   have:gAt gs (p (4-k))=none:=gAt_none fun x hx=>by have:=hw.above x hx;omega
   rw[this];simp
  ·rw[aE hc]
   have:(decide (g.lo<=p (4-k))&&decide (p (4-k)<=g.hi))=false:=by
    rw[cA,ne_eq,aI,aK,aK];exact hc
   rw[this];simp
theorem cano_wf(op:Bool->Bool->Bool)(k:Nat)(a b:List Bx):GInv (restAt op k a b) (groupsOf (restAt op k a b) (topF (4-k)) (starts (rngs (4-k) a b) (topF (4-k)))) (topF (4-k)+1):=cano_ginv op k a b (starts_cuts _ (topF_pos _).1)
theorem cano_mem(op:Bool->Bool->Bool){p:Nat->Int}(hp:∀f,0<=p f/\p f<=topF f):∀(k:Nat) (a b:List Bx),k<=5->memK p k (cano op k a b)=op (memK p k a) (memK p k b)
 |0,a,b,_=>by
  rw[memK_zero,memK_zero,memK_zero,cano]
  cases op (!a.isEmpty) (!b.isEmpty)<;>rfl
 |k+1,a,b,hk=>by
  have g:=cano_wf op k a b
  have ht:=topF_pos (4-k)
  have hpk:=hp (4-k)
  rw[cano_succ,memK_flatG zo g.wf (fun x hx=>by have:=g.low x hx;omega),g.at_,aG ⟨hpk.1,by omega⟩,memK_succ,memK_succ,<-cano_mem op hp k _ _ zo]
  have hr:cano op k (atF (4-k) (p (4-k)) a) (atF (4-k) (p (4-k)) b)=restAt op k a b (p (4-k)):=rfl
  rw[hr,lab]
  cases restAt op k a b (p (4-k))with
  |nil=>rfl
  |cons x l=>rfl
def okK:Nat->Bx->Prop
 |0,b=>b=zB
 |k+1,b=>((b.get (4-k)).lo<=(b.get (4-k)).hi/\(b.get (4-k)).hi<=topF (4-k))/\okK k (b.put (4-k) zR)
theorem okK_get:∀{k:Nat} {b:Bx},k<=5->okK k b->∀f,f<=4->if 5<=f+k then((b.get f).lo<=(b.get f).hi/\(b.get f).hi<=topF f)else b.get f=zR
 |0,b,_,h,f,hf=>by
  rw[aE zo]
  rw[okK]at h;subst h
  rcases f with _|_|_|_|_|f<;>first|rfl|omega
 |k+1,b,hk,h,f,hf=>by
  obtain⟨h1,h2⟩:=h
  have ih:=okK_get zo h2 f hf
  by_cases e:f=4-k
  ·subst e
   rw[aG zo]
   exact h1
  ·rw[get_put_ne zo hf e]at ih
   by_cases h5:5<=f+k
   ·rw[aG h5]at ih;rw[aG zo];exact ih
   ·rw[aE h5]at ih;rw[aE zo];exact ih
theorem cano_ok(op:Bool->Bool->Bool):∀(k:Nat) (a b:List Bx),k<=5->∀x,x∈cano op k a b->okK k x
 |0,a,b,_,x,hx=>by
  rw[cano]at hx
  split at hx
  ·simp only[aR]at hx;exact hx
  ·simp at hx
 |k+1,a,b,hk,x,hx=>by
  have g:=cano_wf op k a b
  have ht:=topF_pos (4-k)
  rw[cano_succ]at hx
  obtain⟨gr,hgr,hx⟩:=dT.1 hx
  obtain⟨y,hy,rfl⟩:=bU.1 hx
  have hl:=g.low gr hgr
  have hle:=g.wf.le gr hgr
  have hat:=g.wf.at_mem hgr (cF gr.lo) hle
  rw[g.at_,aG ⟨hl.1,by omega⟩,lab]at hat
  split at hat
  ·cases hat
  ·have hv:=bH hat
   rw[<-hv]at hy
   have hyk:=cano_ok op k _ _ zo y hy
   refine⟨?_,?_⟩
   ·rw[get_put zo,mkR_lo zo zo zo zo,mkR_hi zo zo zo zo]
    exact⟨hle,by omega⟩
   ·rw[put_put]
    have hz:=okK_get zo hyk (4-k) zo
    rw[aE zo]at hz
    rw[<-hz,put_get]
    exact hyk
end Go.Proofs.YtbdikofefjljoaaGreatDoor
