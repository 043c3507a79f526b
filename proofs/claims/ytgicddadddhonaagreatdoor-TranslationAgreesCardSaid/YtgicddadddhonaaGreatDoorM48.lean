/- Lemmas. -/
import Derived.Test.YtgicddadddhonaaGreatDoorProg
import Derived.Test.YtgicddadddhonaaGreatDoorM47
import Derived.Test.YtgicddadddhonaaGreatDoorM43
set_option linter.unusedVariables false
set_option linter.unusedSimpArgs false
set_option maxRecDepth 100000
set_option maxHeartbeats 40000000
noncomputable section
namespace Go.Proofs.YtgicddadddhonaaGreatDoor
open Go Go.Vm
def Bl:Sched:=.alt 34 (ln [71,72,75,77]) (.alt 35 (ln [68,72,75,77]) Ab)
def Cp:Sched:=.alt 24 (lz [54,56,59,61,63,65,67] Bl) (.alt 27 (lz [49,56,59,61,63,65,67] Bl) Ab)
def Cv:Sched:=lz [38,40,43,45,47,51,53] Cp
def aNe:Ctx:={N:=84,own:=oz [9,10,11,14,23],plan:=p1 7 (lz [5,7,9,11,13] (.wch 0 (.wch 1 (lz [14,17,18,21,23,29,31,33,35,37] (.alt 12 (.alt 13 Cv (.alt 19 (lz [27,40,43,45,47,51,53] Cp) Ab)) (.alt 13 (.alt 12 Cv (.alt 19 (lz [25,40,43,45,47,51,53] Cp) Ab)) (.alt 19 (lz [25,27,40,43,45,47,51,53] Cp) Ab))))))) pn}
abbrev aIe:=ofD aNe Tryz.func5
theorem aVe(raw:List Int)(pos:Nat)(t:Tp)(ht:t.devs.length<100/\t.links.length<100/\t.edges.length<100/\t.pools.length<100)(hp:pos<=raw.length)(hr:raw.length<=9223372036854775807){K:KT}
  (hK:∀(u:Tp) (pos':Nat),u.devs.length<=101/\u.edges.length<=101/\u.pools.length<=101->pos'<=raw.length->K (jT u) [iO raw pos']):AC 23 [.op 0 0,jT t] [iO raw pos] K:=by
 obtain⟨l1,l2,l3,l4⟩:=ht;have hE:∀(D L E P:List AV) (tol:Int) (p':Nat),(∀y,y∈D->∃a:Dv,y=pY a)->(∀y,y∈L->∃a:Lk,y=Dn a)->(∀y,y∈E->∃a:Ed,y=lY a)->(∀y,y∈P->∃a:Pf,y=lN a)->D.length<=101->E.length<=101->P.length<=101->p'<=raw.length->K (.agg [.lst D,.lst L,.lst E,.lst P,.v (.int .i64 tol)]) [iO raw p']:=fun D L E P tol p' h1 h2 h3 h4 h5 h6 h7 hp'=>by
  obtain⟨D,rfl⟩:=mM pY h1;obtain⟨L,rfl⟩:=mM Dn h2;obtain⟨E,rfl⟩:=mM lY h3;obtain⟨P,rfl⟩:=mM lN h4;simp only[aA]at h5 h6 h7;exact hK ⟨D,L,E,P,tol⟩ p' ⟨h5,h6,h7⟩ hp'
 refine aPR rfl rfl ?_;(repeat' ((conv=>whnf);first|(with_reducible first|refine aLy t zo ?_|refine jI raw _ _ zo zp hr fun m1 p1 hm1 hp1=>?_|refine iJ zo ?_|refine aRX raw _ r.pf zp hr fun q p2 hp2=>?_|refine aLA raw _ zp hr fun q p2 hp2=>?_|refine rP [⟨#[114,49]⟩,⟨#[97,110,121]⟩,⟨#[82]⟩,⟨#[122,122]⟩] 4 rfl rfl zo fun s hs=>?_|refine rP [⟨#[97,110,121]⟩,⟨#[105,112,115]⟩,⟨#[90]⟩,⟨#[97,32,98]⟩] 4 rfl rfl zo fun s hs=>?_|refine rP [⟨#[]⟩,⟨#[97,110,121]⟩,⟨#[100,109,122]⟩] 3 rfl rfl zo fun s hs=>?_|refine oK [0,1001,-1,7] 4 rfl rfl zo fun c hc=>?_|refine oK [3,-1,2] 3 rfl rfl zo fun c hc=>?_|refine oK [4097,-1,7] 3 rfl rfl zo fun c hc=>?_|refine iB 0 rfl zo ?_|refine iB (t.edges.length-1) zo zo ?_|refine nY zo fun r hx=>?_|refine yY (by rw[aA];omega) ?_|refine iF 1 t.devs.length rfl rfl zo zo ?_|refine iF 1 t.edges.length rfl rfl zo zo ?_|refine mQ zo ?_)|refine zG ?_|apply zA|intro h|exact zT));all_goals conv=>whnf
 all_goals
  refine hE _ _ _ _ _ _ ?_ ?_ ?_ ?_ ?_ ?_ ?_ zp<;>(repeat' first|exact Vn _|refine nP ?_ ?_|refine nQ ?_ ?_|refine mS ?_|refine mT ?_)<;>
   first|exact eD _ _ _ _ _|exact eL _ _ _|exact eE _ _ _ _ _|exact eP _|(simp only[aC,aA,aB,aI,cL,cH,aV];omega)
theorem aOI{t:Tp}(ht:GTop t):t.devs.length<100/\t.links.length<100/\t.edges.length<100/\t.pools.length<100:=by
 have h1:=ht.d6;have h2:=ht.l9;have h3:=ht.e5;refine⟨by omega,by omega,by omega,?_⟩;rcases ht.pools with h|h|h|h<;>rw[h]<;>decide
theorem X1{t:Tp}{g s w x:Nat}{i:Nt}(h1:t.edges.length<1000000)(h2:t.devs.length<1000000)(h3:t.pools.length<1000000)(h:Spo g s w x i)(hg:g<=9)(hs:s<=99)(hw:w<=99)(hx:x<=999):TrB t i:=
 ⟨h1,h2,h3,Xz h hg hs hw hx,h.pa,h.ha⟩
theorem Ua{t:Tp}(h:Yx t=false):t.edges.length<1000000/\t.devs.length<1000000/\t.pools.length<1000000:=by
 unfold Yx at h;simp only[gE,decide_eq_false_iff_not]at h;omega
theorem aLj(raw:List Int)(t:Tp)(i:Nt)(n:Int)(hr:raw.length<=9223372036854775807)(hl:LenNt 140737488351232 i)(hpa:∀p,p∈i.pubs->PbA p)(hha:∀h,h∈i.hids->HnA h):AC 5 [.lst (raw.map encI),jT t,jC i,.v (.int .i64 n)] [] Yes:=by
 refine aIe rfl rfl ?_;(repeat' ((conv=>whnf);first|(with_reducible refine c9 raw ?_)|refine zG ?_|apply zA|intro h|exact zT));all_goals conv=>whnf
 refine gV (Nat×Nat) (fun g=>⟨3,[(0,kM t),(1,lM i),(2,iO raw g.1)],[(3,.v (.int .i64 n)),(5,.op 0 0),(6,.op 1 0),(9,.op 2 0),(10,.v (.int .i64 g.2))]⟩) (fun g=>g.1<=raw.length/\g.2<=3) (fun g=>3-g.2) (0,0) ⟨aK _,by decide⟩ ?_ ?_
 ·exact leA
 rintro⟨p,m⟩ ⟨hp,hm⟩
 simp only at hp hm⊢;have hs1:∀(i:Nt) (pos:Nat),ENt i->pos<=raw.length->∀{K:KT},(∀(j:Nt) (pos':Nat),Spo 4 4 2 100 j->pos'<=raw.length->K (jC j) [iO raw pos'])->AC 11 [.op 0 0,jC i] [iO raw pos] K:=fun i pos hi hp K h=>
  aBA raw pos hp hr i 3 3 1 99 (aJQ hi) zd zd zd zd h
 have hs2:∀(i:Nt) (pos:Nat),Spo 4 4 2 100 i->pos<=raw.length->∀{K:KT},(∀(j:Nt) (pos':Nat),Spo 5 5 3 101 j->pos'<=raw.length->K (jC j) [iO raw pos'])->AC 11 [.op 0 0,jC i] [iO raw pos] K:=fun i pos hi hp K h=>
  aBA raw pos hp hr i 4 4 2 100 hi zd zd zd zd h
 have h4:∀{pos:Nat} {K:KT} (hp:pos<=raw.length),(∀(t:Tp) (i:Nt) (m:Int) (pos':Nat),GTop t->t.devs.length<=3->ENt i->0<=m->m<10080->pos'<=raw.length->K (.tup [jT t,jC i,.v (.int .i64 m)]) [iO raw pos'])->
  AC 10 [.op 0 0,.v (.int .i64 3),.v (.int .i64 1)] [iO raw pos] K:=fun hp h=>aRY 1 zd raw _ hp hr h
 rcases aD m 3 with hm4|hm4
 ·(repeat' ((conv=>whnf);first|(with_reducible first|refine h4 zw fun y j mm p1 ht hyd hj m0 m1 hp1=>?_|refine hs1 _ _ zw zw fun s p2 hs hp2=>?_)|refine zG ?_|apply zA|intro h|exact zT));all_goals conv=>whnf
  have hye:=ht.e5;have hy:=aOI ht;have hyj:=Pr ht hj;have hys:TrB y s:=X1 zo zo zo hs zd zd zd zd;have hyu:∀u,Spo 5 5 3 101 u->TrB y u:=fun u hu=>X1 zo zo zo hu zd zd zd zd;have hvj:∀v:Tp,v.devs.length<=101/\v.edges.length<=101/\v.pools.length<=101->TrB v j:=fun v hv=>⟨by omega,by omega,by omega,hyj.bi,hyj.pa,hyj.ha⟩
  have hel:(y.edges.map lY).length=y.edges.length:=aA ..;(repeat' ((conv=>whnf);first|(with_reducible first|refine jI raw _ _ (by rw[hel];omega) zw hr fun k p3 hk hp3=>?_|refine Rk y j hyj _ ?_|refine Rk y s hys _ ?_|refine hs2 s _ hs zw fun u p4 hu hp4=>?_|refine Rk y _ (hyu _ zw) _ ?_|refine aVe raw _ y hy zw hr fun v p5 hv hp5=>?_|refine Rk _ j (hvj _ zw) _ ?_|refine jO rfl (by rw[hel]at*;omega) (by rw[hel]at*;omega) ?_|refine jO rfl zo zo ?_)|refine zG ?_|apply zA|intro h|exact zT));all_goals conv=>whnf
  all_goals first
   |(refine⟨(_,m+1),⟨by with_reducible assumption,by simp only;omega⟩,by simp only;omega,?_⟩
     simp only[aN,aM];(exact leA))
 ·have hm5:m=3:=by omega
  subst hm5;(repeat' ((conv=>whnf);first|(with_reducible first|refine aLz t ?_|refine aRJ i hl ?_)|(refine Rk t i ⟨(Ua zw).1,(Ua zw).2.1,(Ua zw).2.2,aAp zw,hpa,hha⟩ n ?_)|(with_reducible refine tB ?_)|refine zG ?_|apply zA|intro h|exact zT));all_goals conv=>whnf
  all_goals first
   |exact .inl rfl
   |exact .inr rfl
end Go.Proofs.YtgicddadddhonaaGreatDoor
