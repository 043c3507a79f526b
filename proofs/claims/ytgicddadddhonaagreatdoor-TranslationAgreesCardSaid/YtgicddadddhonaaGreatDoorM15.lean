/- Lemmas. -/
import Derived.Test.YtgicddadddhonaaGreatDoorM14
set_option linter.unusedVariables false
set_option linter.unusedSimpArgs false
set_option maxRecDepth 100000
set_option maxHeartbeats 4000000
noncomputable section
namespace Go.Proofs.YtgicddadddhonaaGreatDoor
open Go Go.Vm
def Yx(t:Tp):Bool:=decide (6<t.devs.length)||decide (9<t.links.length)||decide (5<t.edges.length)||decide (4<t.pools.length)
theorem aLz(t:Tp){K:KT}(hK:K (.sb (Yx t)) []):AC 24 [jT t] [] K:=by
 refine gZ (aIl rfl rfl ?_)
 iterate 60 (all_goals((conv=>whnf);first|refine zG ?_|apply zA|intro h|exact zT|skip))
 all_goals simp only[aA]at*
 all_goals first
  |(refine kE hK ?_;simp only[Yx,bV,aL];omega)
  |(refine iU hK ?_;simp only[Yx,gE,decide_eq_false_iff_not];omega)
  |(refine kB hK ?_;simp only[Yx];rw[bK];simp only[bV,aL];omega)
theorem jI(raw:List Int)(pos:Nat)(n:Int)(hn2:n<=9223372036854775807)(hp:pos<=raw.length)(hr:raw.length<=9223372036854775807){K:KT}
  (hK:∀(m pos':Nat),(m=0\/m<n)->pos'<=raw.length->K (.v (.int .i64 m)) [iO raw pos']):AC 14 [.op 0 0,.v (.int .i64 n)] [iO raw pos] K:=
 c13 raw pos n hn2 hp hr fun m pos' m0 m1 hp'=>by
  obtain⟨k,rfl⟩:=eJ m0;exact hK k pos' zo hp'
theorem oK{xs:List AV}{i:Nat}{K:AV->Prop}(L:List Int)(n:Nat)(h:xs=L.map fun c=>.v (.int .i64 c))(hn:L.length=n)(hi:i<n)(hk:∀c,c∈L->K (.v (.int .i64 c))):Ix xs i K:=by
 subst h;subst hn;exact iH (aE hi) (hk _ (dE hi))
theorem rP{xs:List AV}{i:Nat}{K:AV->Prop}(L:List ByteArray)(n:Nat)(h:xs=L.map fun c=>.v (.string c))(hn:L.length=n)(hi:i<n)(hk:∀c,c∈L->K (.v (.string c))):Ix xs i K:=by
 subst h;subst hn;exact iH (aE hi) (hk _ (dE hi))
theorem Re{xs:List AV}{i:Nat}{K:AV->Prop}(L:List ByteArray)(n:Nat)(h:xs=L.map fun c=>.v (.string c))(hn:L.length=n)(hi:i<n)(hk:K (.v (.string (L.getD i default)))):Ix xs i K:=by
 subst h;subst hn;exact iH (aE hi) (by rw[List.getD_eq_getElem?_getD,aE hi]at hk;exact hk)
def subL:List Pf:=[⟨167772160,24,by decide,by decide⟩,⟨167772416,24,by decide,by decide⟩,⟨167772672,25,by decide,by decide⟩,⟨167772800,26,by decide,by decide⟩,⟨2886729728,16,by decide,by decide⟩,⟨3232237321,32,by decide,by decide⟩]
def uK:Pf:=⟨0,0,by decide,by decide⟩
theorem aOE{xs:List AV}{i:Nat}{K:AV->Prop}(L:List Pf)(n:Nat)(h:xs=L.map lN)(hn:L.length=n)(hi:i<n)(hk:K (lN (L.getD i uK))):Ix xs i K:=by
 subst h;subst hn;exact iH (aE hi) (by rw[List.getD_eq_getElem?_getD,aE hi]at hk;exact hk)
theorem aWG(x:Nat)(n:Int)(hx:x<n)(hn2:n<=9223372036854775807){K:KT}(hK:K (.v (.int .i64 x)) []):AC 52 [.v (.int .i64 x),.v (.int .i64 n)] [] K:=by
 refine aOZ rfl rfl ?_;(conv=>whnf)
 refine xG rfl zo zo ?_;have m1:(x:Int).tmod n=x:=Int.tmod_eq_of_lt zo zo
 iterate 10 (all_goals((conv=>whnf);first|refine zG ?_|apply zA|intro h|exact zT|skip))
 rw[m1];exact hK
theorem Gk(n:Nat)(hn:n<6){K:KT}(hK:K (lN (subL.getD n uK)) []):AC 90 [.v (.int .i64 n)] [] K:=by
 refine aPU rfl rfl ?_
 iterate 30 (all_goals((conv=>whnf);first|(with_reducible first|refine aWG n 6 zo zd ?_|refine iJ hn ?_|refine aOE subL 6 rfl rfl zo ?_)|refine zG ?_|apply zA|intro h|exact zT|skip))
 rw[bM];exact hK
def rnL:List ByteArray:=[⟨#[114,49]⟩,⟨#[114,50]⟩,⟨#[114,51]⟩,⟨#[114,52]⟩,⟨#[114,53]⟩,⟨#[114,54]⟩]
def enL:List ByteArray:=[⟨#[101,49]⟩,⟨#[101,50]⟩,⟨#[101,51]⟩,⟨#[101,52]⟩,⟨#[101,53]⟩]
def clL:List ByteArray:=[⟨#[]⟩,⟨#[105,112,115]⟩,⟨#[100,108,112]⟩]
def zoL:List ByteArray:=[⟨#[108,97,110]⟩,⟨#[100,109,122]⟩,⟨#[110,101,116]⟩]
structure GDv (i:Nat) (d:Dv):Prop where
 name:d.name=rnL.getD i default
 cap:d.cap∈[4096,400,60,20,5,0]
 cls:d.cls∈clL
structure GLk (n:Nat) (l:Lk):Prop where
 a0:0<=l.a
 ab:l.a<l.b
 bn:l.b<n
 cost:l.cost∈[1,2,3,1000]
theorem GLk.mono{n k:Nat}{l:Lk}(h:GLk n l)(hk:n<=k):GLk k l:=⟨h.a0,h.ab,by have:=h.bn;omega,h.cost⟩
structure GEd (n i:Nat) (e:Ed):Prop where
 name:e.name=enL.getD i default
 d0:0<=e.dev
 d1:e.dev<n
 zone:e.zone∈zoL
 pf:e.pf=subL.getD i uK
 pl:e.pl=false
def Mr:Pf:=⟨168296448,22,by decide,by decide⟩
def Ms:Pf:=⟨167772672,24,by decide,by decide⟩
structure GTop (t:Tp):Prop where
 d1:1<=t.devs.length
 d6:t.devs.length<=6
 dv:∀(i:Nat) d,t.devs[i]? =some d->GDv i d
 l9:t.links.length<=8
 lk:∀l,l∈t.links->GLk t.devs.length l
 e5:t.edges.length<=5
 ed:∀(i:Nat) e,t.edges[i]? =some e->GEd t.devs.length i e
 pools:t.pools=[]\/t.pools=[Mr]\/t.pools=[Ms]\/t.pools=[Mr,Ms]
 tol:t.tol∈[0,1,0,1,2]
theorem Jh{α:Type}{P:Nat->α->Prop}{l:List α}{x:α}(h:∀(i:Nat) y,l[i]? =some y->P i y)(hx:P l.length x):∀(i:Nat) y,(l++[x])[i]? =some y->P i y:=by
 intro i y hy;rw[List.getElem?_append]at hy;split at hy
 ·exact h i y hy
 ·rename_i hl;have:i-l.length=0:=by
   rcases aD (i-l.length) 1 with h1|h1
   ·omega
   ·rw[bS (by simpa using h1)]at hy;cases hy
  rw[this]at hy;simp at hy;subst hy;rw[show i=l.length by omega];exact hx
abbrev aWk(d l e p:Nat)(tol:Int):Vm.Obj:=.box [.os 3 5 0 d,.os 4 3 0 l,.os 5 6 0 e,.os 6 2 0 p,.v (.int .i64 tol)]
abbrev aWj:Vm.Obj:=.box [.nils,.nils,.nils,.nils,.v (.int .i64 0)]
abbrev hpX(raw:List Int)(pos:Nat)(d:List Dv)(l:List Lk)(e:List Ed)(p:List Pf)(tol:Int):Hp:=
 [(0,iO raw pos),(1,aWj),(2,aWk d.length l.length e.length p.length tol),(3,.arr 5 (d.map pY)),(4,.arr 3 (l.map Dn)),(5,.arr 6 (e.map lY)),(6,.arr 2 (p.map lN))]
theorem aKn(raw:List Int)(pos:Nat)(n0:Nat)(hn0:n0<=6)(hp:pos<=raw.length)(hr:raw.length<=9223372036854775807){K:KT}
  (hK:∀(t:Tp) (pos':Nat),GTop t->t.devs.length<=max n0 1->pos'<=raw.length->K (.agg [.os 1 5 0 t.devs.length,.os 2 3 0 t.links.length,.os 3 6 0 t.edges.length,.os 4 2 0 t.pools.length,.v (.int .i64 t.tol)]) [iO raw pos',.arr 5 (t.devs.map pY),.arr 3 (t.links.map Dn),.arr 6 (t.edges.map lY),.arr 2 (t.pools.map lN)]):
  AC 42 [.op 0 0,.v (.int .i64 n0)] [iO raw pos] K:=by
 refine aPV rfl rfl ?_
 iterate 20 (all_goals((conv=>whnf);first|(with_reducible refine jI raw _ _ zo zp hr fun m p1 hm hp1=>?_)|refine zG ?_|apply zA|intro h|exact zT|skip))
 have hm5:m<=5/\(m:Int)+1<=max n0 1:=by omega
 refine gV (Nat×List Dv×List Lk) (fun g=>⟨7,hpX raw g.1 g.2.1 g.2.2 [] [] 0,[(0,.op 0 0),(1,.v (.int .i64 (1+(m:Int)))),(4,.op 1 0),(5,.op 2 0),(6,.v (.int .i64 g.2.1.length))]⟩)
  (fun g=>g.1<=raw.length/\g.2.1.length<=1+m/\(∀(i:Nat) d,g.2.1[i]? =some d->GDv i d)/\g.2.2.length<=g.2.1.length-1/\∀l,l∈g.2.2->GLk g.2.1.length l) (fun g=>1+m-g.2.1.length) (p1,[],[]) ?_ ?_ ?_
 ·exact⟨hp1,aK _,fun i d h=>by simp at h,aK _,fun l h=>by simp at h⟩
 ·exact leA
 ·rintro⟨p1,devs,links⟩ ⟨hp1,i1,i2,i3,i4⟩
  simp only at hp1 i1 i2 i3 i4⊢;rcases aD devs.length (1+m)with hlt|hge
  ·iterate 8 (all_goals((conv=>whnf);first|refine zG ?_|apply zA|intro h|exact zT|skip))
   refine iD (Nat×Int) (fun g=>⟨8,(7,.box [.v (.string (rnL.getD (0+devs.length) default)),.v (.int .i64 g.2),.sb false,.sb false,.v (.string ⟨#[]⟩)])::hpX raw g.1 devs links [] [] 0,[(0,.op 0 0),(1,.v (.int .i64 (1+(m:Int)))),(4,.op 1 0),(5,.op 2 0),(6,.v (.int .i64 devs.length)),(7,.op 7 0)]⟩)
    (fun g=>g.1<=raw.length/\g.2∈[4096,400,60,20,5,0]) ?_ ?_
   ·(repeat' ((conv=>whnf);first|(with_reducible first|refine jI raw _ _ zo zp hr fun m1 p1 hm1 hp1=>?_|refine iJ zo ?_|refine Re rnL 6 rfl rfl zo ?_|refine oK [4096,400,60,20,5,0] 6 rfl rfl zo fun cap hcap=>?_)|refine zG ?_|apply zA|intro h|exact zT));all_goals conv=>whnf
    all_goals
     refine⟨(p1,cap),⟨hp1,hcap⟩,?_⟩;exact leA
   ·rintro⟨p1,cap⟩ ⟨hp1,hcap⟩
    simp only at hp1 hcap⊢;(repeat' ((conv=>whnf);first|(with_reducible first|refine jI raw _ _ zo zp hr fun m1 p1 hm1 hp1=>?_|refine iJ zo ?_|refine rP clL 3 rfl rfl zo fun cls hcls=>?_|refine oK [1,2,3,1000] 4 rfl rfl zo fun cost hcost=>?_)|refine zG ?_|apply zA|intro h|exact zT));all_goals conv=>whnf
    all_goals first
     |(rename_i x1 y1 z1 w1 x2 y2 z2 w2 x3 y3 z3 w3 x4 y4 z4 w4
       refine⟨(p1,devs++[⟨rnL.getD (0+devs.length) default,cap,decide ((x1:Int)=1),decide ((x2:Int)=1),cls⟩],links++[⟨x4,devs.length,cost⟩]),⟨hp1,?_,?_,?_,?_⟩,?_,?_⟩
       ·simp only[aC,aB,aI];omega
       ·exact Jh i2 ⟨by rw[bM],hcap,hcls⟩
       ·simp only[aC,aB,aI];omega
       ·intro l hl;simp only[aC,aB,aI];rcases aX.1 hl with hl|hl
        ·exact(i4 l hl).mono zo
        ·simp only[aU]at hl;subst hl;exact⟨by simp only;omega,by simp only;omega,by simp only;omega,hcost⟩
       ·simp only[aC,aB,aI];omega
       ·simp only[hpX,aQ,aC,aR,bI,aB,aI];(exact leA))
     |(rename_i x1 y1 z1 w1 x2 y2 z2 w2
       refine⟨(p1,devs++[⟨rnL.getD (0+devs.length) default,cap,decide ((x1:Int)=1),decide ((x2:Int)=1),cls⟩],links),⟨hp1,?_,?_,?_,?_⟩,?_,?_⟩
       ·simp only[aC,aB,aI];omega
       ·exact Jh i2 ⟨by rw[bM],hcap,hcls⟩
       ·simp only[aC,aB,aI];omega
       ·intro l hl;simp only[aC,aB,aI];exact(i4 l hl).mono zo
       ·simp only[aC,aB,aI];omega
       ·simp only[hpX,aQ,aC,aR,bI,aB,aI];(exact leA))
  ·have hD:devs.length=1+m:=by omega
   (repeat' ((conv=>whnf);first|refine zG ?_|apply zA|intro h|exact zT));all_goals conv=>whnf
   refine iD (Nat×List Lk) (fun g=>⟨7,hpX raw g.1 devs g.2 [] [] 0,[(0,.op 0 0),(1,.v (.int .i64 (1+(m:Int)))),(4,.op 1 0),(5,.op 2 0)]⟩) (fun g=>g.1<=raw.length/\g.2.length<=8/\∀l,l∈g.2->GLk devs.length l) ?_ ?_
   ·(repeat' ((conv=>whnf);first|(with_reducible refine jI raw _ _ zo zp hr fun m2 p2 hm2 hp2=>?_)|refine zG ?_|apply zA|intro h|exact zT));all_goals conv=>whnf
    have hm2':m2<=3:=by omega
    refine gV (Nat×Nat×List Lk) (fun g=>⟨7,hpX raw g.1 devs g.2.2 [] [] 0,[(0,.op 0 0),(1,.v (.int .i64 (1+(m:Int)))),(4,.op 1 0),(5,.op 2 0),(8,.v (.int .i64 g.2.1))]⟩)
     (fun g=>g.1<=raw.length/\g.2.1<=3/\g.2.2.length+g.2.1<=8/\∀l,l∈g.2.2->GLk devs.length l) (fun g=>g.2.1) (p2,m2,links) ?_ ?_ ?_
    ·exact⟨hp2,hm2',by simp only;omega,i4⟩
    ·exact leA
    rintro⟨p2,i,links⟩ ⟨hp2,k1,k2,k3⟩
    simp only at hp2 k1 k2 k3⊢;rcases aD 0 i with hi|hi
    ·obtain⟨i',rfl⟩:∃i',i=i'+1:=⟨i-1,by omega⟩
     have hi1:((i'+1:Nat):Int)-1=(i':Int):=by omega
     (repeat' ((conv=>whnf);first|(with_reducible first|refine jO hi1 zo zo ?_|refine jI raw _ _ zo zp hr fun m1 p1 hm1 hp1=>?_|refine iJ zo ?_|refine oK [1,2,3,1000] 4 rfl rfl zo fun cost hcost=>?_)|refine zG ?_|apply zA|intro h|exact zT));all_goals conv=>whnf
     all_goals first
      |(rename_i x1 y1 z1 w1 x2 y2 z2 w2
        refine⟨(p1,i',links++[⟨x2,1+(x1:Int),cost⟩]),⟨hp1,by simp only;omega,?_,?_⟩,by simp only;omega,?_⟩
        ·simp only[aC,aB,aI];omega
        ·intro l hl;rcases aX.1 hl with hl|hl
         ·exact k3 l hl
         ·simp only[aU]at hl;subst hl;exact⟨by simp only;omega,by simp only;omega,by simp only;omega,hcost⟩
        ·simp only[hpX,aQ,aC,aR,bI,aB,aI];(exact leA))
      |(refine⟨(p2,links),⟨hp2,by simp only;omega,k3⟩,?_⟩
        (exact leA))
    ·have hi0:i=0:=by omega
     subst hi0;(repeat' ((conv=>whnf);first|refine zG ?_|apply zA|intro h|exact zT));all_goals conv=>whnf
     refine⟨(p2,links),⟨hp2,by simp only;omega,k3⟩,?_⟩;exact leA
   rintro⟨p2,links⟩ ⟨hp2,k2,k3⟩
   simp only at hp2 k2 k3⊢;(repeat' ((conv=>whnf);first|(with_reducible first|refine jI raw _ _ zo zp hr fun m3 p3 hm3 hp3=>?_|refine iJ zo ?_|refine oK [2,3,4,1,5,0] 6 rfl rfl zo fun cnt hcnt=>?_)|refine zG ?_|apply zA|intro h|exact zT));all_goals conv=>whnf
   have hcnt5:0<=cnt/\cnt<=5:=by
    simp only[aZ,eB,or_false]at hcnt;omega
   refine gV (Nat×List Ed) (fun g=>⟨7,hpX raw g.1 devs links g.2 [] 0,[(0,.op 0 0),(1,.v (.int .i64 (1+(m:Int)))),(4,.op 1 0),(5,.op 2 0),(10,.v (.int .i64 cnt)),(11,.v (.int .i64 g.2.length))]⟩)
    (fun g=>g.1<=raw.length/\(g.2.length:Int)<=cnt/\∀(i:Nat) e,g.2[i]? =some e->GEd devs.length i e) (fun g=>5-g.2.length) (p3,[]) ?_ ?_ ?_
   ·exact⟨hp3,by simp only[aI];omega,fun i e h=>by simp at h⟩
   ·exact leA
   rintro⟨p3,edges⟩ ⟨hp3,j1,j2⟩
   simp only at hp3 j1 j2⊢;rcases(by omega:(edges.length:Int)<cnt\/cnt<=(edges.length:Int))with hlt|hge
   ·(repeat' ((conv=>whnf);first|refine zG ?_|apply zA|intro h|exact zT));all_goals conv=>whnf
    refine iD (Nat×Ed) (fun g=>⟨7,hpX raw g.1 devs links (edges++[g.2]) [] 0,[(0,.op 0 0),(1,.v (.int .i64 (1+(m:Int)))),(4,.op 1 0),(5,.op 2 0),(10,.v (.int .i64 cnt)),(11,.v (.int .i64 edges.length))]⟩)
     (fun g=>g.1<=raw.length/\GEd devs.length edges.length g.2) ?_ ?_
    ·(repeat' ((conv=>whnf);first|(with_reducible first|refine jI raw _ _ zo zp hr fun m1 p1 hm1 hp1=>?_|refine iJ zo ?_|refine Re enL 5 rfl rfl zo ?_|refine rP zoL 3 rfl rfl zo fun zone hzone=>?_|refine Gk _ zo ?_)|refine zG ?_|apply zA|intro h|exact zT));all_goals conv=>whnf
     all_goals
      rename_i x1 y1 z1 w1;refine⟨(p1,⟨enL.getD (0+edges.length) default,x1,zone,subL.getD edges.length uK,false⟩),⟨hp1,⟨by rw[bM],by simp only;omega,by simp only;omega,hzone,rfl,rfl⟩⟩,?_⟩;simp only[hpX,aQ,aC,aR,bI,aB,aI];exact leA
    ·rintro⟨p4,e⟩ ⟨hp4,he⟩
     simp only at hp4 he⊢;(repeat' ((conv=>whnf);first|refine zG ?_|apply zA|intro h|exact zT));all_goals conv=>whnf
     refine⟨(p4,edges++[e]),⟨hp4,?_,Jh j2 he⟩,?_,?_⟩
     ·simp only[aC,aB,aI];omega
     ·simp only[aC,aB,aI];omega
     ·simp only[aC,aB,aI];exact leA
   ·(repeat' ((conv=>whnf);first|(with_reducible first|refine jI raw _ _ zo zp hr fun m1 p1 hm1 hp1=>?_|refine iJ zo ?_|refine oK [0,1,0,1,2] 5 rfl rfl zo fun tol htol=>?_)|refine zG ?_|apply zA|intro h|exact zT));all_goals conv=>whnf
    all_goals
     have he5:edges.length<=5:=by omega
     have gt:∀pools,(pools=[]\/pools=[Mr]\/pools=[Ms]\/pools=[Mr,Ms])->GTop ⟨devs,links,edges,pools,tol⟩:=fun pools h=>⟨by simp only;omega,by simp only;omega,i2,k2,k3,he5,j2,h,htol⟩
     have hdm:devs.length<=max n0 1:=by omega
    ·exact hK ⟨devs,links,edges,[Mr,Ms],tol⟩ p1 (gt _ (.inr (.inr (.inr rfl)))) hdm hp1
    ·exact hK ⟨devs,links,edges,[Mr],tol⟩ p1 (gt _ (.inr (.inl rfl))) hdm hp1
    ·exact hK ⟨devs,links,edges,[Ms],tol⟩ p1 (gt _ (.inr (.inr (.inl rfl)))) hdm hp1
    ·exact hK ⟨devs,links,edges,[],tol⟩ p1 (gt _ (.inl rfl)) hdm hp1
theorem aLy(t:Tp)(ht:t.devs.length<1000000/\t.links.length<1000000/\t.edges.length<1000000/\t.pools.length<1000000){K:KT}
  (hK:K (.agg [.os 0 5 0 t.devs.length,.os 1 3 0 t.links.length,.os 2 6 0 t.edges.length,.os 3 2 0 t.pools.length,.v (.int .i64 t.tol)]) [.arr 5 (t.devs.map pY),.arr 3 (t.links.map Dn),.arr 6 (t.edges.map lY),.arr 2 (t.pools.map lN)]):
  AC 71 [jT t] [] K:=by
 obtain⟨t1,t2,t3,t4⟩:=ht;refine aIj rfl rfl ?_;(repeat' ((conv=>whnf);first|refine zG ?_|apply zA|intro h|exact zT));all_goals conv=>whnf
 simp only[bM,aA,dB];exact hK
theorem nM(raw:List Int)(pos:Nat)(hp:pos<=raw.length)(hr:raw.length<=9223372036854775807){K:KT}
  (hK:∀(a:Int) (pos':Nat),0<=a->a<=4294967295->pos'<=raw.length->K (.v (.int .u32 a)) [iO raw pos']):AC 33 [.op 0 0] [iO raw pos] K:=by
 refine aIg rfl rfl ?_;(repeat' ((conv=>whnf);first|(with_reducible first|refine jI raw _ _ zo zp hr fun m1 p1 hm1 hp1=>?_|refine iJ zo ?_|refine Gk _ zo ?_|refine Qn _ ?_|refine jD fun r r0 r1=>?_)|refine zG ?_|apply zA|intro h|exact zT));all_goals conv=>whnf
 all_goals refine Ot Vk ?_ (by simp only[aB,aI];omega) ?_
 all_goals first
  |(rintro _ ⟨y,rfl,y0,y1⟩
    (repeat' ((conv=>whnf);first|refine zG ?_|apply zA|intro h|exact zT));all_goals conv=>whnf
    exact hK y _ y0 y1 zp)
  |(simp only[fX]
    (repeat' apply And.intro)<;>first|exact⟨_,rfl,by assumption,by assumption⟩|exact⟨_,rfl,Rg.l0 _,Rg.l1 _⟩|exact⟨_,rfl,Rg.h0 _,Rg.h1 _⟩|exact⟨_,rfl,by decide,by decide⟩|(intro _ h;cases h))
def mE(t:Tp):Bool:=Pp t&& !(t.edges.any fun e=>e.pl)
theorem Ks(l:List Ed):(fixed l).length=l.length↔(l.any fun e=>e.pl)=false:=by
 rw[fixed,aA,List.length_filter_eq_length_iff,fM];exact⟨fun h e he=>by simpa using h e he,fun h e he=>by simpa using h e he⟩
theorem compB_iff{t:Tp}:mE t=true↔TopOk t/\∀e,e∈t.edges->e.pl=false:=by
 unfold mE;rw[aJ,aER,dX,fM];exact⟨fun h=>⟨h.1,fun e he=>by simpa using h.2 e he⟩,fun h=>⟨h.1,fun e he=>by simpa using h.2 e he⟩⟩
theorem lG(t:Tp)(hl:t.edges.length<1000000){K:KT}(hK:K (.sb (mE t)) []):AC 80 [jT t] [] K:=by
 have hf:=Ks t.edges;refine gZ (aIZ rfl rfl ?_);unfold mE at hK;(repeat' ((conv=>whnf);first|(with_reducible first|refine aSq t ?_|refine V1 t hl ?_)|refine zG ?_|apply zA|intro h|exact zT));all_goals conv=>whnf
 ·refine kB hK ?_;rw[h,dQ,aA,aA];cases hp:t.edges.any fun e=>e.pl with
  |false=>rw[decide_eq_true (by rw[hf.2 hp])];rfl
  |true=>rw[decide_eq_false (fun e=>by have:=hf.1 zo;rw[hp]at this;cases this)];rfl
 ·exact iU hK (by rw[h];rfl)
theorem aAK(l:List Ed)(f:FuncId)(p:Ed->Bool)(hF:∀(x:Ed) (K:AV->List Vm.Obj->Prop),K (.sb (p x)) []->AC f [lY x] [] K)(hl:l.length<1000000){K:KT}(hK:K (.v (.int .i64 (jM p l))) []):
  AC 199 [.lst (l.map lY),.fn (.func f) [] []] [] K:=by
 refine Ru rfl rfl ?_;(repeat' ((conv=>whnf);first|refine zG ?_|apply zA|intro h|exact zT));all_goals conv=>whnf
 refine gV Nat (fun k=>⟨0,[],[(0,.lst (l.map lY)),(1,.fn (.func f) [] []),(7,.v (.int .i64 (l.map lY).length)),(8,.v (.int .i64 k))]⟩) (fun k=>k<=l.length/\∀(i:Nat) y,i<k->l[i]? =some y->p y=false) (fun k=>l.length-k) 0 ?_ ?_ ?_
 ·exact⟨aK _,fun i y hi=>absurd hi (bD _)⟩
 ·exact leA
 ·intro k ⟨hk,hinv⟩;rcases aD k l.length with hkl|hkl
  ·obtain⟨r,hr⟩:=gex hkl;(repeat' ((conv=>whnf);first|(with_reducible first|refine iI hkl ?_|refine iH hr ?_|refine hF r _ ?_)|refine zG ?_|apply zA|intro h|exact zT));all_goals conv=>whnf
   ·rw[jN hr h hinv]at hK;exact hK
   ·refine⟨k+1,⟨by omega,jJ hr h hinv⟩,by omega,?_⟩;rw[aN,aM];exact leA
  ·(repeat' ((conv=>whnf);first|refine zG ?_|apply zA|intro h|exact zT));all_goals conv=>whnf
   rw[jS (iL hkl hinv)]at hK;exact hK
theorem Qt{α:Type}(p:α->Bool)(l:List α):decide (0<=jM p l)=l.any p:=by
 rw[bK,bR,aL];constructor
 ·intro h;unfold jM at h;split at h
  ·rename_i i hi;rw[dS]at hi;obtain⟨h1,h2,_⟩:=hi;exact⟨_,dE h1,h2⟩
  ·omega
 ·rintro⟨x,hx,hp⟩
  unfold jM;split
  ·omega
  ·rename_i hn;rw[gD]at hn;have:=hn x hx;simp_all
theorem aLQ(e:Ed){K:KT}(hK:K (.sb e.pl) []):AC 175 [lY e] [] K:=by
 refine aIU rfl rfl ?_;(repeat' ((conv=>whnf);first|refine zG ?_|apply zA|intro h|exact zT));all_goals conv=>whnf
 exact hK
theorem aAF(l:List Ed)(hl:l.length<1000000){K:KT}(hK:K (.sb (l.any fun e=>e.pl)) []):
  AC 174 [.lst (l.map lY),.fn (.func 175) [] []] [] K:=by
 refine gZ (Zb rfl rfl ?_);(repeat' ((conv=>whnf);first|(with_reducible refine aAK _ _ (fun e=>e.pl) (fun x K h=>aLQ x h) hl ?_)|refine zG ?_|apply zA|intro h|exact zT));all_goals conv=>whnf
 exact kB hK (Qt _ _).symm
theorem Is(t:Tp)(hl:t.edges.length<1000000){K:KT}(hK:K (.sb (mE t)) []):AC 109 [jT t] [] K:=by
 refine gZ (aIV rfl rfl ?_);unfold mE at hK;(repeat' ((conv=>whnf);first|(with_reducible first|refine aSo t ?_|refine aAF t.edges hl ?_)|refine zG ?_|apply zA|intro h|exact zT));all_goals conv=>whnf
 ·exact kB hK (by rw[h];rfl)
 ·exact iU hK (by rw[h];rfl)
def mY(t:Tp)(v:Int):Int:=jM (fun e=> !e.pl&&e.pf.has v) t.edges
theorem aBc(t:Tp)(v:Int)(hl:t.edges.length<1000000){K:KT}(hK:K (.v (.int .i64 (mY t v))) []):AC 21 [jT t,.v (.int .u32 v)] [] K:=by
 refine aVE rfl rfl ?_;(repeat' ((conv=>whnf);first|refine zG ?_|apply zA|intro h|exact zT));all_goals conv=>whnf
 refine gV Nat (fun k=>⟨1,[(0,kM t)],[(1,.v (.int .u32 v)),(2,.op 0 0),(5,.v (.int .i64 k))]⟩) (fun k=>k<=t.edges.length/\∀(i:Nat) e,i<k->t.edges[i]? =some e->(!e.pl&&e.pf.has v)=false) (fun k=>t.edges.length-k) 0 ⟨aK _,fun i e h=>absurd h (bD _)⟩ ?_ ?_
 ·exact leA
 intro k ⟨hk,hinv⟩;rcases aD k t.edges.length with hkl|hkl
 ·obtain⟨r,hr⟩:=gex hkl;(repeat' ((conv=>whnf);first|(with_reducible first|refine iI hkl ?_|refine iH hr ?_|refine aAX r.pf v ?_)|refine zG ?_|apply zA|intro h|exact zT));all_goals conv=>whnf
  all_goals first
   |(unfold mY at hK
     rw[jN hr (by simp_all) hinv]at hK;exact hK)
   |(refine⟨k+1,⟨by omega,jJ hr (by simp_all) hinv⟩,by omega,?_⟩
     (exact leA))
 ·(repeat' ((conv=>whnf);first|refine zG ?_|apply zA|intro h|exact zT));all_goals conv=>whnf
  unfold mY at hK;rw[jS (iL hkl hinv)]at hK;exact hK
structure Insp where
 cls:ByteArray
 set:List Bx
structure Pol where
 allow:List Bx
 insp:List Insp
def aRy(p q:Pf):Bx:=⟨p.rg,q.rg,fullB.r2,fullB.r3,fullB.r4⟩
def Xj(es:List Ed)(a:Nat)(ea:Ed)(n:Nat):List Bx:=((es.take n).zipIdx.filter fun q=>decide (a≠q.2)).map fun q=>aRy ea.pf q.1.pf
def Xk(es:List Ed)(n:Nat):List Bx:=((es.take n).zipIdx).flatMap fun q=>Xj es q.2 q.1 es.length
def Fv(es:List Ed):List Bx:=Xk es es.length
theorem rW{op:Bool->Bool->Bool}{a b:List Bx}(ha:jW a=true)(hb:jW b=true):iP op a b=(nZ (jH op 5 a b),pM (jH op 5 a b)):=by
 unfold iP jK;simp[ha,hb]
theorem aQS{l:List Bx}(h:okL l){x:Bx}(hx:x∈l):x.ok:=by
 have h0:=h x hx 0 zo;have h1:=h x hx 1 zo;have h2:=h x hx 2 zo;have h3:=h x hx 3 zo;have h4:=h x hx 4 zo;exact⟨h0,h1,h2,h3,h4⟩
structure Hd where
 src:Int
 dst:Int
 pro:Int
 sp:Int
 dp:Int
structure Hd.Ok (h:Hd):Prop where
 s0:0<=h.src
 s1:h.src<=4294967295
 d0:0<=h.dst
 d1:h.dst<=4294967295
 p0:0<=h.pro
 p1:h.pro<=255
 a0:0<=h.sp
 a1:h.sp<=65535
 b0:0<=h.dp
 b1:h.dp<=65535
abbrev lC(h:Hd):AV:=.agg [.v (.int .u32 h.src),.v (.int .u32 h.dst),.v (.int .u8 h.pro),.v (.int .u16 h.sp),.v (.int .u16 h.dp)]
theorem aAc{e:Int}{K:Int->Prop}(h:∀r,0<=r->r<=255->K r):Wr .u8 e K:=by
 refine Wr.intro rfl (h _ ?_ ?_)
 ·simp only[IntKind.wrap,IntKind.signed,IntKind.bits];simp;omega
 ·simp only[IntKind.wrap,IntKind.signed,IntKind.bits];simp;omega
theorem zY{e:Int}{K:Int->Prop}(h:∀r,0<=r->r<=65535->K r):Wr .u16 e K:=by
 refine Wr.intro rfl (h _ ?_ ?_)
 ·simp only[IntKind.wrap,IntKind.signed,IntKind.bits];simp;omega
 ·simp only[IntKind.wrap,IntKind.signed,IntKind.bits];simp;omega
theorem cvPt(h:Hd)(ho:h.Ok){K:KT}(hK:K (.agg [.v (.int .u32 h.src),.v (.int .u32 h.dst),.v (.int .u32 h.pro),.v (.int .u32 h.sp),.v (.int .u32 h.dp)]) []):AC 92 [lC h] [] K:=by
 obtain⟨s0,s1,d0,d1,p0,p1,a0,a1,b0,b1⟩:=ho;refine aVG rfl rfl ?_;(repeat' ((conv=>whnf);first|(with_reducible refine xF rfl zo zo ?_)|refine zG ?_|apply zA|intro h|exact zT));all_goals conv=>whnf
 exact hK
def inQ(r:Rg)(v:Int):Bool:=decide (r.lo<=v)&&decide (v<=r.hi)
def oG(b:Bx)(h:Hd):Bool:=inQ b.r0 h.src&&(inQ b.r1 h.dst&&(inQ b.r2 h.pro&&(inQ b.r3 h.sp&&(inQ b.r4 h.dp&&decide b.ok))))
theorem pI(b:Bx)(h:Hd):oG b h=true↔(b.r0.lo<=h.src/\h.src<=b.r0.hi)/\(b.r1.lo<=h.dst/\h.dst<=b.r1.hi)/\(b.r2.lo<=h.pro/\h.pro<=b.r2.hi)/\(b.r3.lo<=h.sp/\h.sp<=b.r3.hi)/\(b.r4.lo<=h.dp/\h.dp<=b.r4.hi)/\b.ok:=by
 simp[oG,inQ]
theorem cvCon(b:Bx)(g:Hd)(ho:g.Ok){K:KT}(hK:K (.sb (oG b g)) []):AC 79 [iV b,lC g] [] K:=by
 have hb:=pI b g;refine gZ (aQA rfl rfl ?_);(repeat' ((conv=>whnf);first|(with_reducible refine Lp.times 6 ?_)|(refine kH zd ?_)|(with_reducible first|refine cvPt g ho ?_|refine cr3Val b ?_)|refine zG ?_|apply zA|intro h|exact zT));all_goals conv=>whnf
 all_goals
  first
   |exact iU hK (by rw[bY,ne_eq,hb];omega)
   |(refine kB hK ?_
     rw[bK,hb];simp only[decide_eq_true_iff];constructor
     ·intro hh;exact hh.2.2.2.2.2
     ·intro hh;exact⟨by omega,by omega,by omega,by omega,by omega,hh⟩)
   |(refine kB hK ?_
     rw[bK,hb];simp only[decide_eq_true_iff];constructor
     ·intro hh;exact⟨by omega,by omega,by omega,by omega,by omega,hh⟩
     ·intro hh;exact hh.2.2.2.2.2)
theorem Iv(a b c d e:Int)(a0:0<=a)(a1:a<=4294967295)(b0:0<=b)(b1:b<=4294967295){K:KT}(hK:∀h:Hd,h.Ok->K (lC h) []):AC 54 [.agg [.v (.int .u32 a),.v (.int .u32 b),.v (.int .u32 c),.v (.int .u32 d),.v (.int .u32 e)]] [] K:=by
 refine aVF rfl rfl ?_;(repeat' ((conv=>whnf);first|(refine kH zd ?_)|(with_reducible first|refine aAc fun r r0 r1=>?_|refine zY fun r r0 r1=>?_)|refine zG ?_|apply zA|intro h|exact zT));all_goals conv=>whnf
 exact hK ⟨a,b,_,_,_⟩ ⟨a0,a1,b0,b1,by assumption,by assumption,by assumption,by assumption,by assumption,by assumption⟩
theorem aBe(raw:List Int)(pos:Nat)(top:Int)(t0:0<=top)(t1:top<=4294967295)(hp:pos<=raw.length)(hr:raw.length<=9223372036854775807){K:KT}
  (hK:∀(a:Int) (pos':Nat),0<=a->a<=4294967295->pos'<=raw.length->K (.v (.int .u32 a)) [iO raw pos']):AC 48 [.op 0 0,.v (.int .u32 top)] [iO raw pos] K:=by
 refine aDX rfl rfl ?_;(repeat' ((conv=>whnf);first|(with_reducible first|refine jI raw _ _ zo zp hr fun m1 p1 hm1 hp1=>?_|refine iJ zo ?_|refine jD fun r r0 r1=>?_)|refine zG ?_|apply zA|intro h|exact zT));all_goals conv=>whnf
 refine Ot Vk ?_ (by simp only[aB,aI];omega) ?_
 ·simp only[fX];(repeat' apply And.intro)<;>first|exact⟨_,rfl,by assumption,by assumption⟩|exact⟨_,rfl,by decide,by decide⟩|(intro _ h;cases h)
 ·rintro _ ⟨y,rfl,y0,y1⟩
  (repeat' ((conv=>whnf);first|refine zG ?_|apply zA|intro h|exact zT));all_goals conv=>whnf
  all_goals exact hK _ _ zo zo zp
theorem aOF{i:Nat}{K:AV->Prop}(hi:i<6)(hk:∀y:Int,0<=y->y<=255->K (.v (.int .u8 y))):Ix [.v (.int .u8 6),.v (.int .u8 17),.v (.int .u8 1),.v (.int .u8 0),.v (.int .u8 7),.v (.int .u8 255)] i K:=by
 match i,hi with
 |0,_=>exact iC rfl (hk 6 zd zd)
 |1,_=>exact iC rfl (hk 17 zd zd)
 |2,_=>exact iC rfl (hk 1 zd zd)
 |3,_=>exact iC rfl (hk 0 zd zd)
 |4,_=>exact iC rfl (hk 7 zd zd)
 |5,_=>exact iC rfl (hk 255 zd zd)
theorem Jt{a b c d e:Int}{i:Nat}{K:AV->Prop}(hi:i<5)(h:(0<=a/\a<=4294967295)/\(0<=b/\b<=4294967295)/\(0<=c/\c<=4294967295)/\(0<=d/\d<=4294967295)/\(0<=e/\e<=4294967295))(hk:∀y:Int,0<=y->y<=4294967295->K (.v (.int .u32 y))):
  Ix [.v (.int .u32 a),.v (.int .u32 b),.v (.int .u32 c),.v (.int .u32 d),.v (.int .u32 e)] i K:=by
 obtain⟨h1,h2,h3,h4,h5⟩:=h
 match i,hi with
 |0,_=>exact iC rfl (hk a h1.1 h1.2)
 |1,_=>exact iC rfl (hk b h2.1 h2.2)
 |2,_=>exact iC rfl (hk c h3.1 h3.2)
 |3,_=>exact iC rfl (hk d h4.1 h4.2)
 |4,_=>exact iC rfl (hk e h5.1 h5.2)
theorem cvHdr(raw:List Int)(pos:Nat)(hp:pos<=raw.length)(hr:raw.length<=9223372036854775807){K:KT}
  (hK:∀(h:Hd) (pos':Nat),h.Ok->pos'<=raw.length->K (lC h) [iO raw pos']):AC 40 [.op 0 0] [iO raw pos] K:=by
 refine aQB rfl rfl ?_;(repeat' ((conv=>whnf);first|(with_reducible first|refine jI raw _ _ zo zp hr fun m1 p1 hm1 hp1=>?_|refine iJ zo ?_|refine nM raw _ zp hr fun a p2 a0 a1 hp2=>?_|refine aBe raw _ 65535 zd zd zp hr fun a p2 a0 a1 hp2=>?_|refine zY fun r r0 r1=>?_)|(refine aOF zo fun y y0 y1=>?_)|refine zG ?_|apply zA|intro h|exact zT));all_goals conv=>whnf
 all_goals exact hK ⟨_,_,_,_,_⟩ _ ⟨by assumption,by assumption,by assumption,by assumption,by assumption,by assumption,by assumption,by assumption,by assumption,by assumption⟩ zp
end Go.Proofs.YtgicddadddhonaaGreatDoor
