/- Lemmas. -/
import Derived.Test.YtnomkooikbhgmaaGreatDoorM14
set_option linter.unusedVariables false
set_option linter.unusedSimpArgs false
set_option maxRecDepth 100000
set_option maxHeartbeats 4000000
noncomputable section
namespace Go.Proofs.YtnomkooikbhgmaaGreatDoor
open Go Go.Vm
def huge(t:Tp):Bool:=decide (6<t.devs.length)||decide (9<t.links.length)||decide (5<t.edges.length)||decide (4<t.pools.length)
theorem cnHuge(t:Tp){K:KT}(hK:K (.sb (huge t)) []):AC 12 [encT t] [] K:=by
 refine gO (ofnHuge rfl rfl ?_)
 iterate 60 (all_goals((conv=>whnf);first|refine zG ?_|apply zA|intro h|exact zT|skip))
 all_goals simp only[aA]at*
 all_goals first
  |(refine fin_t hK ?_;simp only[huge,bS,aL];omega)
  |(refine fin_f hK ?_;simp only[huge,eN,decide_eq_false_iff_not];omega)
  |(refine fin_s hK ?_;simp only[huge];rw[bJ];simp only[bS,aL];omega)
theorem nNext(raw:List Int)(pos:Nat)(n:Int)(hn2:n<=9223372036854775807)(hp:pos<=raw.length)(hr:raw.length<=9223372036854775807){K:KT}
  (hK:∀(m pos':Nat),(m=0\/m<n)->pos'<=raw.length->K (.v (.int .i64 m)) [tapeO raw pos']):AC 11 [.op 0 0,.v (.int .i64 n)] [tapeO raw pos] K:=
 c13 raw pos n hn2 hp hr fun m pos' m0 m1 hp'=>by
  obtain⟨k,rfl⟩:=dU m0;exact hK k pos' zo hp'
theorem ix_ints{xs:List AV}{i:Nat}{K:AV->Prop}(L:List Int)(n:Nat)(h:xs=L.map fun c=>.v (.int .i64 c))(hn:L.length=n)(hi:i<n)(hk:∀c,c∈L->K (.v (.int .i64 c))):Ix xs i K:=by
 subst h;subst hn;exact hJ (aE hi) (hk _ (dC hi))
theorem ix_strs{xs:List AV}{i:Nat}{K:AV->Prop}(L:List ByteArray)(n:Nat)(h:xs=L.map fun c=>.v (.string c))(hn:L.length=n)(hi:i<n)(hk:∀c,c∈L->K (.v (.string c))):Ix xs i K:=by
 subst h;subst hn;exact hJ (aE hi) (hk _ (dC hi))
theorem ix_strAt{xs:List AV}{i:Nat}{K:AV->Prop}(L:List ByteArray)(n:Nat)(h:xs=L.map fun c=>.v (.string c))(hn:L.length=n)(hi:i<n)(hk:K (.v (.string (L.getD i default)))):Ix xs i K:=by
 subst h;subst hn;exact hJ (aE hi) (by rw[List.getD_eq_getElem?_getD,aE hi]at hk;exact hk)
def subL:List Pf:=[⟨167772160,24,by decide,by decide⟩,⟨167772416,24,by decide,by decide⟩,⟨167772672,25,by decide,by decide⟩,⟨167772800,26,by decide,by decide⟩,⟨2886729728,16,by decide,by decide⟩,⟨3232237321,32,by decide,by decide⟩]
def noPf:Pf:=⟨0,0,by decide,by decide⟩
theorem ix_pfs{xs:List AV}{i:Nat}{K:AV->Prop}(L:List Pf)(n:Nat)(h:xs=L.map encP)(hn:L.length=n)(hi:i<n)(hk:K (encP (L.getD i noPf))):Ix xs i K:=by
 subst h;subst hn;exact hJ (aE hi) (by rw[List.getD_eq_getElem?_getD,aE hi]at hk;exact hk)
theorem nMod(x:Nat)(n:Int)(hx:x<n)(hn2:n<=9223372036854775807){K:KT}(hK:K (.v (.int .i64 x)) []):AC 49 [.v (.int .i64 x),.v (.int .i64 n)] [] K:=by
 refine of37 rfl rfl ?_;(conv=>whnf)
 refine wr_u64 rfl zo zo ?_;have m1:(x:Int).tmod n=x:=Int.tmod_eq_of_lt zo zo
 iterate 10 (all_goals((conv=>whnf);first|refine zG ?_|apply zA|intro h|exact zT|skip))
 rw[m1];exact hK
theorem cnSub(n:Nat)(hn:n<6){K:KT}(hK:K (encP (subL.getD n noPf)) []):AC 67 [.v (.int .i64 n)] [] K:=by
 refine ofnSub rfl rfl ?_
 iterate 30 (all_goals((conv=>whnf);first|(with_reducible first|refine nMod n 6 zo zd ?_|refine hZ hn ?_|refine ix_pfs subL 6 rfl rfl zo ?_)|refine zG ?_|apply zA|intro h|exact zT|skip))
 rw[bK];exact hK
def rnL:List ByteArray:=[⟨#[114,49]⟩,⟨#[114,50]⟩,⟨#[114,51]⟩,⟨#[114,52]⟩,⟨#[114,53]⟩,⟨#[114,54]⟩]
def enL:List ByteArray:=[⟨#[101,49]⟩,⟨#[101,50]⟩,⟨#[101,51]⟩,⟨#[101,52]⟩,⟨#[101,53]⟩]
def clL:List ByteArray:=[⟨#[]⟩,⟨#[105,112,115]⟩,⟨#[100,108,112]⟩]
def zoL:List ByteArray:=[⟨#[108,97,110]⟩,⟨#[100,109,122]⟩,⟨#[110,101,116]⟩]
structure GDv (i:Nat) (d:Dv):Prop where
 name:d.name=rnL.getD i default
 cap:d.cap∈[4096,400,60,20,5,0]
 cls:d.cls∈clL
structure GLk (n:Nat) (l:Lk):Prop where
 a0:0<=l.a
 ab:l.a<l.b
 bn:l.b<n
 cost:l.cost∈[1,2,3,1000]
theorem GLk.mono{n k:Nat}{l:Lk}(h:GLk n l)(hk:n<=k):GLk k l:=⟨h.a0,h.ab,by have:=h.bn;omega,h.cost⟩
structure GEd (n i:Nat) (e:Ed):Prop where
 name:e.name=enL.getD i default
 d0:0<=e.dev
 d1:e.dev<n
 zone:e.zone∈zoL
 pf:e.pf=subL.getD i noPf
 pl:e.pl=false
def pool1:Pf:=⟨168296448,22,by decide,by decide⟩
def pool2:Pf:=⟨167772672,24,by decide,by decide⟩
structure GTop (t:Tp):Prop where
 d1:1<=t.devs.length
 d6:t.devs.length<=6
 dv:∀(i:Nat) d,t.devs[i]? =some d->GDv i d
 l9:t.links.length<=8
 lk:∀l,l∈t.links->GLk t.devs.length l
 e5:t.edges.length<=5
 ed:∀(i:Nat) e,t.edges[i]? =some e->GEd t.devs.length i e
 pools:t.pools=[]\/t.pools=[pool1]\/t.pools=[pool2]\/t.pools=[pool1,pool2]
 tol:t.tol∈[0,1,0,1,2]
theorem get_snoc{α:Type}{P:Nat->α->Prop}{l:List α}{x:α}(h:∀(i:Nat) y,l[i]? =some y->P i y)(hx:P l.length x):∀(i:Nat) y,(l++[x])[i]? =some y->P i y:=by
 intro i y hy;rw[List.getElem?_append]at hy;split at hy
 ·exact h i y hy
 ·rename_i hl;have:i-l.length=0:=by
   rcases aF (i-l.length) 1 with h1|h1
   ·omega
   ·rw[bO (by simpa using h1)]at hy;cases hy
  rw[this]at hy;simp at hy;subst hy;rw[show i=l.length by omega];exact hx
abbrev boxX(d l e p:Nat)(tol:Int):Vm.Obj:=.box [.os 3 5 0 d,.os 4 3 0 l,.os 5 6 0 e,.os 6 2 0 p,.v (.int .i64 tol)]
abbrev boxN:Vm.Obj:=.box [.nils,.nils,.nils,.nils,.v (.int .i64 0)]
abbrev hpX(raw:List Int)(pos:Nat)(d:List Dv)(l:List Lk)(e:List Ed)(p:List Pf)(tol:Int):Hp:=
 [(0,tapeO raw pos),(1,boxN),(2,boxX d.length l.length e.length p.length tol),(3,.arr 5 (d.map encD)),(4,.arr 3 (l.map encL)),(5,.arr 6 (e.map encE)),(6,.arr 2 (p.map encP))]
theorem cnTop(raw:List Int)(pos:Nat)(n0:Nat)(hn0:n0<=6)(hp:pos<=raw.length)(hr:raw.length<=9223372036854775807){K:KT}
  (hK:∀(t:Tp) (pos':Nat),GTop t->t.devs.length<=max n0 1->pos'<=raw.length->K (.agg [.os 1 5 0 t.devs.length,.os 2 3 0 t.links.length,.os 3 6 0 t.edges.length,.os 4 2 0 t.pools.length,.v (.int .i64 t.tol)]) [tapeO raw pos',.arr 5 (t.devs.map encD),.arr 3 (t.links.map encL),.arr 6 (t.edges.map encE),.arr 2 (t.pools.map encP)]):
  AC 24 [.op 0 0,.v (.int .i64 n0)] [tapeO raw pos] K:=by
 refine ofnTop rfl rfl ?_
 iterate 20 (all_goals((conv=>whnf);first|(with_reducible refine nNext raw _ _ zo zp hr fun m p1 hm hp1=>?_)|refine zG ?_|apply zA|intro h|exact zT|skip))
 have hm5:m<=5/\(m:Int)+1<=max n0 1:=by omega
 refine gL (Nat×List Dv×List Lk) (fun g=>⟨7,hpX raw g.1 g.2.1 g.2.2 [] [] 0,[(0,.op 0 0),(1,.v (.int .i64 (1+(m:Int)))),(4,.op 1 0),(5,.op 2 0),(6,.v (.int .i64 g.2.1.length))]⟩)
  (fun g=>g.1<=raw.length/\g.2.1.length<=1+m/\(∀(i:Nat) d,g.2.1[i]? =some d->GDv i d)/\g.2.2.length<=g.2.1.length-1/\∀l,l∈g.2.2->GLk g.2.1.length l) (fun g=>1+m-g.2.1.length) (p1,[],[]) ?_ ?_ ?_
 ·exact⟨hp1,aK _,fun i d h=>by simp at h,aK _,fun l h=>by simp at h⟩
 ·exact leA
 ·rintro⟨p1,devs,links⟩ ⟨hp1,i1,i2,i3,i4⟩
  simp only at hp1 i1 i2 i3 i4⊢;rcases aF devs.length (1+m)with hlt|hge
  ·iterate 8 (all_goals((conv=>whnf);first|refine zG ?_|apply zA|intro h|exact zT|skip))
   refine gV (Nat×Int) (fun g=>⟨8,(7,.box [.v (.string (rnL.getD (0+devs.length) default)),.v (.int .i64 g.2),.sb false,.sb false,.v (.string ⟨#[]⟩)])::hpX raw g.1 devs links [] [] 0,[(0,.op 0 0),(1,.v (.int .i64 (1+(m:Int)))),(4,.op 1 0),(5,.op 2 0),(6,.v (.int .i64 devs.length)),(7,.op 7 0)]⟩)
    (fun g=>g.1<=raw.length/\g.2∈[4096,400,60,20,5,0]) ?_ ?_
   ·(repeat' ((conv=>whnf);first|(with_reducible first|refine nNext raw _ _ zo zp hr fun m1 p1 hm1 hp1=>?_|refine hZ zo ?_|refine ix_strAt rnL 6 rfl rfl zo ?_|refine ix_ints [4096,400,60,20,5,0] 6 rfl rfl zo fun cap hcap=>?_)|refine zG ?_|apply zA|intro h|exact zT));all_goals conv=>whnf
    all_goals
     refine⟨(p1,cap),⟨hp1,hcap⟩,?_⟩;exact leA
   ·rintro⟨p1,cap⟩ ⟨hp1,hcap⟩
    simp only at hp1 hcap⊢;(repeat' ((conv=>whnf);first|(with_reducible first|refine nNext raw _ _ zo zp hr fun m1 p1 hm1 hp1=>?_|refine hZ zo ?_|refine ix_strs clL 3 rfl rfl zo fun cls hcls=>?_|refine ix_ints [1,2,3,1000] 4 rfl rfl zo fun cost hcost=>?_)|refine zG ?_|apply zA|intro h|exact zT));all_goals conv=>whnf
    all_goals first
     |(rename_i x1 y1 z1 w1 x2 y2 z2 w2 x3 y3 z3 w3 x4 y4 z4 w4
       refine⟨(p1,devs++[⟨rnL.getD (0+devs.length) default,cap,decide ((x1:Int)=1),decide ((x2:Int)=1),cls⟩],links++[⟨x4,devs.length,cost⟩]),⟨hp1,?_,?_,?_,?_⟩,?_,?_⟩
       ·simp only[aC,aB,aH];omega
       ·exact get_snoc i2 ⟨by rw[bK],hcap,hcls⟩
       ·simp only[aC,aB,aH];omega
       ·intro l hl;simp only[aC,aB,aH];rcases aX.1 hl with hl|hl
        ·exact(i4 l hl).mono zo
        ·simp only[aV]at hl;subst hl;exact⟨by simp only;omega,by simp only;omega,by simp only;omega,hcost⟩
       ·simp only[aC,aB,aH];omega
       ·simp only[hpX,aQ,aC,aR,bL,aB,aH];(exact leA))
     |(rename_i x1 y1 z1 w1 x2 y2 z2 w2
       refine⟨(p1,devs++[⟨rnL.getD (0+devs.length) default,cap,decide ((x1:Int)=1),decide ((x2:Int)=1),cls⟩],links),⟨hp1,?_,?_,?_,?_⟩,?_,?_⟩
       ·simp only[aC,aB,aH];omega
       ·exact get_snoc i2 ⟨by rw[bK],hcap,hcls⟩
       ·simp only[aC,aB,aH];omega
       ·intro l hl;simp only[aC,aB,aH];exact(i4 l hl).mono zo
       ·simp only[aC,aB,aH];omega
       ·simp only[hpX,aQ,aC,aR,bL,aB,aH];(exact leA))
  ·have hD:devs.length=1+m:=by omega
   (repeat' ((conv=>whnf);first|refine zG ?_|apply zA|intro h|exact zT));all_goals conv=>whnf
   refine gV (Nat×List Lk) (fun g=>⟨7,hpX raw g.1 devs g.2 [] [] 0,[(0,.op 0 0),(1,.v (.int .i64 (1+(m:Int)))),(4,.op 1 0),(5,.op 2 0)]⟩) (fun g=>g.1<=raw.length/\g.2.length<=8/\∀l,l∈g.2->GLk devs.length l) ?_ ?_
   ·(repeat' ((conv=>whnf);first|(with_reducible refine nNext raw _ _ zo zp hr fun m2 p2 hm2 hp2=>?_)|refine zG ?_|apply zA|intro h|exact zT));all_goals conv=>whnf
    have hm2':m2<=3:=by omega
    refine gL (Nat×Nat×List Lk) (fun g=>⟨7,hpX raw g.1 devs g.2.2 [] [] 0,[(0,.op 0 0),(1,.v (.int .i64 (1+(m:Int)))),(4,.op 1 0),(5,.op 2 0),(8,.v (.int .i64 g.2.1))]⟩)
     (fun g=>g.1<=raw.length/\g.2.1<=3/\g.2.2.length+g.2.1<=8/\∀l,l∈g.2.2->GLk devs.length l) (fun g=>g.2.1) (p2,m2,links) ?_ ?_ ?_
    ·exact⟨hp2,hm2',by simp only;omega,i4⟩
    ·exact leA
    rintro⟨p2,i,links⟩ ⟨hp2,k1,k2,k3⟩
    simp only at hp2 k1 k2 k3⊢;rcases aF 0 i with hi|hi
    ·obtain⟨i',rfl⟩:∃i',i=i'+1:=⟨i-1,by omega⟩
     have hi1:((i'+1:Nat):Int)-1=(i':Int):=by omega
     (repeat' ((conv=>whnf);first|(with_reducible first|refine wr_i64 hi1 zo zo ?_|refine nNext raw _ _ zo zp hr fun m1 p1 hm1 hp1=>?_|refine hZ zo ?_|refine ix_ints [1,2,3,1000] 4 rfl rfl zo fun cost hcost=>?_)|refine zG ?_|apply zA|intro h|exact zT));all_goals conv=>whnf
     all_goals first
      |(rename_i x1 y1 z1 w1 x2 y2 z2 w2
        refine⟨(p1,i',links++[⟨x2,1+(x1:Int),cost⟩]),⟨hp1,by simp only;omega,?_,?_⟩,by simp only;omega,?_⟩
        ·simp only[aC,aB,aH];omega
        ·intro l hl;rcases aX.1 hl with hl|hl
         ·exact k3 l hl
         ·simp only[aV]at hl;subst hl;exact⟨by simp only;omega,by simp only;omega,by simp only;omega,hcost⟩
        ·simp only[hpX,aQ,aC,aR,bL,aB,aH];(exact leA))
      |(refine⟨(p2,links),⟨hp2,by simp only;omega,k3⟩,?_⟩
        (exact leA))
    ·have hi0:i=0:=by omega
     subst hi0;(repeat' ((conv=>whnf);first|refine zG ?_|apply zA|intro h|exact zT));all_goals conv=>whnf
     refine⟨(p2,links),⟨hp2,by simp only;omega,k3⟩,?_⟩;exact leA
   rintro⟨p2,links⟩ ⟨hp2,k2,k3⟩
   simp only at hp2 k2 k3⊢;(repeat' ((conv=>whnf);first|(with_reducible first|refine nNext raw _ _ zo zp hr fun m3 p3 hm3 hp3=>?_|refine hZ zo ?_|refine ix_ints [2,3,4,1,5,0] 6 rfl rfl zo fun cnt hcnt=>?_)|refine zG ?_|apply zA|intro h|exact zT));all_goals conv=>whnf
   have hcnt5:0<=cnt/\cnt<=5:=by
    simp only[aU,dM,or_false]at hcnt;omega
   refine gL (Nat×List Ed) (fun g=>⟨7,hpX raw g.1 devs links g.2 [] 0,[(0,.op 0 0),(1,.v (.int .i64 (1+(m:Int)))),(4,.op 1 0),(5,.op 2 0),(10,.v (.int .i64 cnt)),(11,.v (.int .i64 g.2.length))]⟩)
    (fun g=>g.1<=raw.length/\(g.2.length:Int)<=cnt/\∀(i:Nat) e,g.2[i]? =some e->GEd devs.length i e) (fun g=>5-g.2.length) (p3,[]) ?_ ?_ ?_
   ·exact⟨hp3,by simp only[aH];omega,fun i e h=>by simp at h⟩
   ·exact leA
   rintro⟨p3,edges⟩ ⟨hp3,j1,j2⟩
   simp only at hp3 j1 j2⊢;rcases(by omega:(edges.length:Int)<cnt\/cnt<=(edges.length:Int))with hlt|hge
   ·(repeat' ((conv=>whnf);first|refine zG ?_|apply zA|intro h|exact zT));all_goals conv=>whnf
    refine gV (Nat×Ed) (fun g=>⟨7,hpX raw g.1 devs links (edges++[g.2]) [] 0,[(0,.op 0 0),(1,.v (.int .i64 (1+(m:Int)))),(4,.op 1 0),(5,.op 2 0),(10,.v (.int .i64 cnt)),(11,.v (.int .i64 edges.length))]⟩)
     (fun g=>g.1<=raw.length/\GEd devs.length edges.length g.2) ?_ ?_
    ·(repeat' ((conv=>whnf);first|(with_reducible first|refine nNext raw _ _ zo zp hr fun m1 p1 hm1 hp1=>?_|refine hZ zo ?_|refine ix_strAt enL 5 rfl rfl zo ?_|refine ix_strs zoL 3 rfl rfl zo fun zone hzone=>?_|refine cnSub _ zo ?_)|refine zG ?_|apply zA|intro h|exact zT));all_goals conv=>whnf
     all_goals
      rename_i x1 y1 z1 w1;refine⟨(p1,⟨enL.getD (0+edges.length) default,x1,zone,subL.getD edges.length noPf,false⟩),⟨hp1,⟨by rw[bK],by simp only;omega,by simp only;omega,hzone,rfl,rfl⟩⟩,?_⟩;simp only[hpX,aQ,aC,aR,bL,aB,aH];exact leA
    ·rintro⟨p4,e⟩ ⟨hp4,he⟩
     simp only at hp4 he⊢;(repeat' ((conv=>whnf);first|refine zG ?_|apply zA|intro h|exact zT));all_goals conv=>whnf
     refine⟨(p4,edges++[e]),⟨hp4,?_,get_snoc j2 he⟩,?_,?_⟩
     ·simp only[aC,aB,aH];omega
     ·simp only[aC,aB,aH];omega
     ·simp only[aC,aB,aH];exact leA
   ·(repeat' ((conv=>whnf);first|(with_reducible first|refine nNext raw _ _ zo zp hr fun m1 p1 hm1 hp1=>?_|refine hZ zo ?_|refine ix_ints [0,1,0,1,2] 5 rfl rfl zo fun tol htol=>?_)|refine zG ?_|apply zA|intro h|exact zT));all_goals conv=>whnf
    all_goals
     have he5:edges.length<=5:=by omega
     have gt:∀pools,(pools=[]\/pools=[pool1]\/pools=[pool2]\/pools=[pool1,pool2])->GTop ⟨devs,links,edges,pools,tol⟩:=fun pools h=>⟨by simp only;omega,by simp only;omega,i2,k2,k3,he5,j2,h,htol⟩
     have hdm:devs.length<=max n0 1:=by omega
    ·exact hK ⟨devs,links,edges,[pool1,pool2],tol⟩ p1 (gt _ (.inr (.inr (.inr rfl)))) hdm hp1
    ·exact hK ⟨devs,links,edges,[pool1],tol⟩ p1 (gt _ (.inr (.inl rfl))) hdm hp1
    ·exact hK ⟨devs,links,edges,[pool2],tol⟩ p1 (gt _ (.inr (.inr (.inl rfl)))) hdm hp1
    ·exact hK ⟨devs,links,edges,[],tol⟩ p1 (gt _ (.inl rfl)) hdm hp1
theorem cnAddr(raw:List Int)(pos:Nat)(hp:pos<=raw.length)(hr:raw.length<=9223372036854775807){K:KT}
  (hK:∀(a:Int) (pos':Nat),0<=a->a<=4294967295->pos'<=raw.length->K (.v (.int .u32 a)) [tapeO raw pos']):AC 47 [.op 0 0] [tapeO raw pos] K:=by
 refine ofnAddr rfl rfl ?_;(repeat' ((conv=>whnf);first|(with_reducible first|refine nNext raw _ _ zo zp hr fun m1 p1 hm1 hp1=>?_|refine hZ zo ?_|refine cnSub _ zo ?_|refine crOf _ ?_|refine wr_u32_any fun r r0 r1=>?_)|refine zG ?_|apply zA|intro h|exact zT));all_goals conv=>whnf
 all_goals refine ix_all IsU32 ?_ (by simp only[aB,aH];omega) ?_
 all_goals first
  |(rintro _ ⟨y,rfl,y0,y1⟩
    (repeat' ((conv=>whnf);first|refine zG ?_|apply zA|intro h|exact zT));all_goals conv=>whnf
    exact hK y _ y0 y1 zp)
  |(simp only[gI]
    (repeat' apply And.intro)<;>first|exact⟨_,rfl,by assumption,by assumption⟩|exact⟨_,rfl,Rg.l0 _,Rg.l1 _⟩|exact⟨_,rfl,Rg.h0 _,Rg.h1 _⟩|exact⟨_,rfl,by decide,by decide⟩|(intro _ h;cases h))
def compB(t:Tp):Bool:=topB t&& !(t.edges.any fun e=>e.pl)
theorem fixed_len_iff(l:List Ed):(fixed l).length=l.length↔(l.any fun e=>e.pl)=false:=by
 rw[fixed,aA,List.length_filter_eq_length_iff,fD];exact⟨fun h e he=>by simpa using h e he,fun h e he=>by simpa using h e he⟩
theorem compB_iff{t:Tp}:compB t=true↔TopOk t/\∀e,e∈t.edges->e.pl=false:=by
 unfold compB;rw[aJ,topB_iff,dT,fD];exact⟨fun h=>⟨h.1,fun e he=>by simpa using h.2 e he⟩,fun h=>⟨h.1,fun e he=>by simpa using h.2 e he⟩⟩
theorem cuCompB(t:Tp)(hl:t.edges.length<1000000){K:KT}(hK:K (.sb (compB t)) []):AC 34 [encT t] [] K:=by
 have hf:=fixed_len_iff t.edges;refine gO (ofuComp rfl rfl ?_);unfold compB at hK;(repeat' ((conv=>whnf);first|(with_reducible first|refine cuVal t ?_|refine cuFixed t hl ?_)|refine zG ?_|apply zA|intro h|exact zT));all_goals conv=>whnf
 ·refine fin_s hK ?_;rw[h,eG,aA,aA];cases hp:t.edges.any fun e=>e.pl with
  |false=>rw[decide_eq_true (by rw[hf.2 hp])];rfl
  |true=>rw[decide_eq_false (fun e=>by have:=hf.1 zo;rw[hp]at this;cases this)];rfl
 ·exact fin_f hK (by rw[h];rfl)
theorem cixEdge0(l:List Ed)(f:FuncId)(p:Ed->Bool)(hF:∀(x:Ed) (K:AV->List Vm.Obj->Prop),K (.sb (p x)) []->AC f [encE x] [] K)(hl:l.length<1000000){K:KT}(hK:K (.v (.int .i64 (firstIx p l))) []):
  AC 111 [.lst (l.map encE),.fn (.func f) [] []] [] K:=by
 refine ofixEdge rfl rfl ?_;(repeat' ((conv=>whnf);first|refine zG ?_|apply zA|intro h|exact zT));all_goals conv=>whnf
 refine gL Nat (fun k=>⟨0,[],[(0,.lst (l.map encE)),(1,.fn (.func f) [] []),(7,.v (.int .i64 (l.map encE).length)),(8,.v (.int .i64 k))]⟩) (fun k=>k<=l.length/\∀(i:Nat) y,i<k->l[i]? =some y->p y=false) (fun k=>l.length-k) 0 ?_ ?_ ?_
 ·exact⟨aK _,fun i y hi=>absurd hi (bC _)⟩
 ·exact leA
 ·intro k ⟨hk,hinv⟩;rcases aF k l.length with hkl|hkl
  ·obtain⟨r,hr⟩:=gex hkl;(repeat' ((conv=>whnf);first|(with_reducible first|refine hU hkl ?_|refine hJ hr ?_|refine hF r _ ?_)|refine zG ?_|apply zA|intro h|exact zT));all_goals conv=>whnf
   ·rw[firstIx_at hr h hinv]at hK;exact hK
   ·refine⟨k+1,⟨by omega,before_succ hr h hinv⟩,by omega,?_⟩;rw[aO,aN];exact leA
  ·(repeat' ((conv=>whnf);first|refine zG ?_|apply zA|intro h|exact zT));all_goals conv=>whnf
   rw[firstIx_none (iB hkl hinv)]at hK;exact hK
theorem firstIx_any{α:Type}(p:α->Bool)(l:List α):decide (0<=firstIx p l)=l.any p:=by
 rw[bJ,dJ,aL];constructor
 ·intro h;unfold firstIx at h;split at h
  ·rename_i i hi;rw[dQ]at hi;obtain⟨h1,h2,_⟩:=hi;exact⟨_,dC h1,h2⟩
  ·omega
 ·rintro⟨x,hx,hp⟩
  unfold firstIx;split
  ·omega
  ·rename_i hn;rw[fP]at hn;have:=hn x hx;simp_all
theorem ctCom1(e:Ed){K:KT}(hK:K (.sb e.pl) []):AC 144 [encE e] [] K:=by
 refine oftCom1 rfl rfl ?_;(repeat' ((conv=>whnf);first|refine zG ?_|apply zA|intro h|exact zT));all_goals conv=>whnf
 exact hK
theorem canyEdge(l:List Ed)(hl:l.length<1000000){K:KT}(hK:K (.sb (l.any fun e=>e.pl)) []):
  AC 143 [.lst (l.map encE),.fn (.func 144) [] []] [] K:=by
 refine gO (ofanyEdge rfl rfl ?_);(repeat' ((conv=>whnf);first|(with_reducible refine cixEdge0 _ _ (fun e=>e.pl) (fun x K h=>ctCom1 x h) hl ?_)|refine zG ?_|apply zA|intro h|exact zT));all_goals conv=>whnf
 exact fin_s hK (firstIx_any _ _).symm
theorem ctComp(t:Tp)(hl:t.edges.length<1000000){K:KT}(hK:K (.sb (compB t)) []):AC 73 [encT t] [] K:=by
 refine gO (oftComp rfl rfl ?_);unfold compB at hK;(repeat' ((conv=>whnf);first|(with_reducible first|refine ctVal t ?_|refine canyEdge t.edges hl ?_)|refine zG ?_|apply zA|intro h|exact zT));all_goals conv=>whnf
 ·exact fin_s hK (by rw[h];rfl)
 ·exact fin_f hK (by rw[h];rfl)
def edgeAt(t:Tp)(v:Int):Int:=firstIx (fun e=> !e.pl&&e.pf.has v) t.edges
structure Insp where
 cls:ByteArray
 set:List Bx
structure Pol where
 allow:List Bx
 insp:List Insp
abbrev encIn(x:Insp):AV:=.agg [.v (.string x.cls),encXs x.set]
abbrev encPol(p:Pol):AV:=.agg [encXs p.allow,.lst (p.insp.map encIn)]
abbrev boxPol(p:Pol):Vm.Obj:=.box [encXs p.allow,.lst (p.insp.map encIn)]
def whoB(p q:Pf):Bx:=⟨p.rg,q.rg,fullB.r2,fullB.r3,fullB.r4⟩
def pairsAt(es:List Ed)(a:Nat)(ea:Ed)(n:Nat):List Bx:=((es.take n).zipIdx.filter fun q=>decide (a≠q.2)).map fun q=>whoB ea.pf q.1.pf
def pairsTo(es:List Ed)(n:Nat):List Bx:=((es.take n).zipIdx).flatMap fun q=>pairsAt es q.2 q.1 es.length
def pairsB(es:List Ed):List Bx:=pairsTo es es.length
theorem zip_succ{α:Type}{l:List α}{k:Nat}{x:α}(h:l[k]? =some x):(l.take (k+1)).zipIdx=(l.take k).zipIdx++[(x,k)]:=by
 have hk:=(aP.1 h).1;rw[bI,h,List.zipIdx_append];simp[fI (Nat.le_of_lt hk)]
theorem pairsAt_succ{es:List Ed}{a n:Nat}{ea e:Ed}(h:es[n]? =some e):pairsAt es a ea (n+1)=pairsAt es a ea n++(if a=n then []else [whoB ea.pf e.pf]):=by
 rw[pairsAt,zip_succ h,dF,aQ,pairsAt]
 congr 1
 by_cases hc:a=n
 ·simp[hc]
 ·simp[hc]
theorem pairsTo_succ{es:List Ed}{a:Nat}{ea:Ed}(h:es[a]? =some ea):pairsTo es (a+1)=pairsTo es a++pairsAt es a ea es.length:=by
 rw[pairsTo,zip_succ h,dZ,pairsTo];simp
theorem pairsAt_len(es:List Ed)(a:Nat)(ea:Ed)(n:Nat):(pairsAt es a ea n).length<=n:=by
 rw[pairsAt,aA];refine aZ (dL ..) ?_;rw[List.length_zipIdx,bA];omega
theorem pairsTo_len(es:List Ed):∀n,(pairsTo es n).length<=n*es.length
 |0=>by simp[pairsTo]
 |n+1=>by
  rcases aF n es.length with h|h
  ·rw[pairsTo_succ (aE h),aC,fH];have:=pairsAt_len es n (es[n]) es.length;have:=pairsTo_len es n;omega
  ·have e:pairsTo es (n+1)=pairsTo es n:=by rw[pairsTo,pairsTo,aY zo,aY h]
   rw[e];have:=pairsTo_len es n;rw[fH];omega
def subB(a b:List Bx):Bool:=(cano woB 5 (vldB a) (vldB b)).isEmpty
def leS(s t:ByteArray):Bool:=Op.bytesLess s.toList t.toList||s.toList==t.toList
def disjS(a b:List Bx):Prop:=∀x,x∈a->∀y,y∈b->¬meetX x y
structure InOk (p:Pol) (n:Nat) (x:Insp):Prop where
 name:nameOk x.cls
 ord:∀k y,n=k+1->p.insp[k]? =some y->leS x.cls y.cls=false
 ne:x.set≠[]
 set:setB x.set=true
 sub:subB x.set p.allow=true
 disj:∀k y,k<n->p.insp[k]? =some y->disjS x.set y.set
structure PolOk (t:Tp) (p:Pol):Prop where
 comp:compB t=true
 set:setB p.allow=true
 sub:subB p.allow (pairsB t.edges)=true
 init:subB p.allow initS=true
 insp:∀n x,p.insp[n]? =some x->InOk p n x
open Classical in
def polB(t:Tp)(p:Pol):Bool:=decide (PolOk t p)
theorem polB_true{t:Tp}{p:Pol}(h:PolOk t p):polB t p=true:=by simp[polB,h]
theorem polB_false{t:Tp}{p:Pol}(h:¬PolOk t p):polB t p=false:=by simp[polB,h]
theorem combP_set{op:Bool->Bool->Bool}{a b:List Bx}(ha:setB a=true)(hb:setB b=true):combP op a b=(limP (cano op 5 a b),limE (cano op 5 a b)):=by
 unfold combP givP;simp[ha,hb]
theorem lim_empty(c:List Bx):(limE c≠0\/0<(limP c).length)↔c≠[]:=by
 unfold limE limP;by_cases h:4096<c.length
 ·simp only[h,if_true];constructor
  ·intro _ e;rw[e]at h;simp at h
  ·intro _;left;decide
 ·simp only[h,if_false];cases c with
  |nil=>simp
  |cons x l=>simp
theorem disj_iff{a b:List Bx}(ha:setB a=true)(hb:setB b=true):cano anB 5 a b=[]↔disjS a b:=cano_disj (okL_set ha) (okL_set hb)
theorem filter_two{α:Type}(p:α->Bool):∀l:List α,(l.filter p).length+(l.filter fun q=> !p q).length=l.length
 |[]=>rfl
 |x::l=>by
  have:=filter_two p l;cases hp:p x<;>simp[hp]<;>omega
theorem pairs_len5{es:List Ed}(h:es.length<=5):(pairsTo es es.length).length<=20:=by
 have hat:∀(a:Nat) (ea:Ed),a<es.length->(pairsAt es a ea es.length).length+1<=es.length:=by
  intro a ea ha;rw[pairsAt,aA,dD];have h1:((es.zipIdx.filter fun q=>decide (a≠q.2)).length:Nat)+(es.zipIdx.filter fun q=> !decide (a≠q.2)).length=es.zipIdx.length:=by
   exact filter_two _ _
  have h2:1<=(es.zipIdx.filter fun q=> !decide (a≠q.2)).length:=by
   refine dA.2 fun e=>?_;have:(es[a],a)∈es.zipIdx.filter fun q=> !decide (a≠q.2):=cJ.2 ⟨fF.2 zx,by simp⟩;rw[e]at this;cases this
  rw[List.length_zipIdx]at h1;omega
 have go:∀n,n<=es.length->(pairsTo es n).length<=n*(es.length-1):=by
  intro n
  induction n with
  |zero=>intro _;simp[pairsTo]
  |succ n ih=>
   intro hn;rw[pairsTo_succ (aE (show n<es.length by omega)),aC,fH];have:=hat n (es[n]) zo;have:=ih zo;omega
 have h1:=go es.length (aM _);have h2:es.length*(es.length-1)<=5*4:=dV h zo;omega
theorem okL_ok{l:List Bx}(h:okL l){x:Bx}(hx:x∈l):x.ok:=by
 have h0:=h x hx 0 zo;have h1:=h x hx 1 zo;have h2:=h x hx 2 zo;have h3:=h x hx 3 zo;have h4:=h x hx 4 zo;exact⟨h0,h1,h2,h3,h4⟩
theorem cvWho(t:Tp)(a b:Nat)(ea eb:Ed)(ha:t.edges[a]? =some ea)(hb:t.edges[b]? =some eb){K:KT}(hK:K (encX (whoB ea.pf eb.pf)) []):AC 97 [encT t,.v (.int .i64 a),.v (.int .i64 b)] [] K:=by
 have hal:=(aP.1 ha).1;have hbl:=(aP.1 hb).1;refine ofvWho rfl rfl ?_;(repeat' ((conv=>whnf);first|(with_reducible first|refine cr3Full ?_|refine hU hal ?_|refine hU hbl ?_|refine hJ ha ?_|refine hJ hb ?_|refine crOf _ ?_)|(refine in_c zd ?_)|refine zG ?_|apply zA|intro h|exact zT));all_goals conv=>whnf
 exact hK
structure Hd where
 src:Int
 dst:Int
 pro:Int
 sp:Int
 dp:Int
structure Hd.Ok (h:Hd):Prop where
 s0:0<=h.src
 s1:h.src<=4294967295
 d0:0<=h.dst
 d1:h.dst<=4294967295
 p0:0<=h.pro
 p1:h.pro<=255
 a0:0<=h.sp
 a1:h.sp<=65535
 b0:0<=h.dp
 b1:h.dp<=65535
abbrev encHd(h:Hd):AV:=.agg [.v (.int .u32 h.src),.v (.int .u32 h.dst),.v (.int .u8 h.pro),.v (.int .u16 h.sp),.v (.int .u16 h.dp)]
theorem cvPt(h:Hd)(ho:h.Ok){K:KT}(hK:K (.agg [.v (.int .u32 h.src),.v (.int .u32 h.dst),.v (.int .u32 h.pro),.v (.int .u32 h.sp),.v (.int .u32 h.dp)]) []):AC 187 [encHd h] [] K:=by
 obtain⟨s0,s1,d0,d1,p0,p1,a0,a1,b0,b1⟩:=ho;refine ofvPt rfl rfl ?_;(repeat' ((conv=>whnf);first|(with_reducible refine wr_u32 rfl zo zo ?_)|refine zG ?_|apply zA|intro h|exact zT));all_goals conv=>whnf
 exact hK
def inQ(r:Rg)(v:Int):Bool:=decide (r.lo<=v)&&decide (v<=r.hi)
def conB(b:Bx)(h:Hd):Bool:=inQ b.r0 h.src&&(inQ b.r1 h.dst&&(inQ b.r2 h.pro&&(inQ b.r3 h.sp&&(inQ b.r4 h.dp&&decide b.ok))))
theorem conB_iff(b:Bx)(h:Hd):conB b h=true↔(b.r0.lo<=h.src/\h.src<=b.r0.hi)/\(b.r1.lo<=h.dst/\h.dst<=b.r1.hi)/\(b.r2.lo<=h.pro/\h.pro<=b.r2.hi)/\(b.r3.lo<=h.sp/\h.sp<=b.r3.hi)/\(b.r4.lo<=h.dp/\h.dp<=b.r4.hi)/\b.ok:=by
 simp[conB,inQ]
theorem cvCon(b:Bx)(g:Hd)(ho:g.Ok){K:KT}(hK:K (.sb (conB b g)) []):AC 104 [encX b,encHd g] [] K:=by
 have hb:=conB_iff b g;refine gO (ofvCon rfl rfl ?_);(repeat' ((conv=>whnf);first|(with_reducible refine Lp.times 6 ?_)|(refine in_c zd ?_)|(with_reducible first|refine cvPt g ho ?_|refine cr3Val b ?_)|refine zG ?_|apply zA|intro h|exact zT));all_goals conv=>whnf
 all_goals
  first
   |exact fin_f hK (by rw[bV,ne_eq,hb];omega)
   |(refine fin_s hK ?_
     rw[bJ,hb];simp only[decide_eq_true_iff];constructor
     ·intro hh;exact hh.2.2.2.2.2
     ·intro hh;exact⟨by omega,by omega,by omega,by omega,by omega,hh⟩)
   |(refine fin_s hK ?_
     rw[bJ,hb];simp only[decide_eq_true_iff];constructor
     ·intro hh;exact⟨by omega,by omega,by omega,by omega,by omega,hh⟩
     ·intro hh;exact hh.2.2.2.2.2)
end Go.Proofs.YtnomkooikbhgmaaGreatDoor
