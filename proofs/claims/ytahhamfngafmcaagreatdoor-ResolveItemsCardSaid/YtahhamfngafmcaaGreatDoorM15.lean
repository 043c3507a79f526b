/- The generator: topologies. -/
import Derived.Test.YtahhamfngafmcaaGreatDoorProg
import Derived.Test.YtahhamfngafmcaaGreatDoorM14
set_option linter.unusedVariables false
set_option linter.unusedSimpArgs false
set_option maxRecDepth 100000
set_option maxHeartbeats 4000000
namespace Go.Proofs.YtahhamfngafmcaaGreatDoor
open Go Go.Vm
theorem nNext(raw:List Int)(pos:Nat)(n:Int)(hn2:n<=9223372036854775807)(hp:pos<=raw.length)(hr:raw.length<=9223372036854775807){K:KT}
  (hK:∀(m pos':Nat),(m=0\/m<n)->pos'<=raw.length->K (.v (.int .i64 m)) [tapeO raw pos']):ACall Tryz.prog 12 [.op 0 0,.v (.int .i64 n)] [tapeO raw pos] K:=
 c13 raw pos n hn2 hp hr fun m pos' m0 m1 hp'=>by
  obtain⟨k,rfl⟩:=Int.eq_ofNat_of_zero_le m0
  exact hK k pos' (by omega) hp'
theorem ix_ints{xs:List AV}{i:Nat}{K:AV->Prop}(L:List Int)(n:Nat)(h:xs=L.map fun c=>.v (.int .i64 c))(hn:L.length=n)(hi:i<n)(hk:∀c,c∈L->K (.v (.int .i64 c))):Ix xs i K:=by
 subst h;subst hn
 exact ix_map (List.getElem?_eq_getElem hi) (hk _ (List.getElem_mem hi))
theorem ix_strs{xs:List AV}{i:Nat}{K:AV->Prop}(L:List ByteArray)(n:Nat)(h:xs=L.map fun c=>.v (.string c))(hn:L.length=n)(hi:i<n)(hk:∀c,c∈L->K (.v (.string c))):Ix xs i K:=by
 subst h;subst hn
 exact ix_map (List.getElem?_eq_getElem hi) (hk _ (List.getElem_mem hi))
theorem ix_strAt{xs:List AV}{i:Nat}{K:AV->Prop}(L:List ByteArray)(n:Nat)(h:xs=L.map fun c=>.v (.string c))(hn:L.length=n)(hi:i<n)(hk:K (.v (.string (L.getD i default)))):Ix xs i K:=by
 subst h;subst hn
 exact ix_map (List.getElem?_eq_getElem hi) (by rw[List.getD_eq_getElem?_getD,List.getElem?_eq_getElem hi]at hk;exact hk)
def subL:List Pf:=[⟨167772160,24,by decide,by decide⟩,⟨167772416,24,by decide,by decide⟩,⟨167772672,25,by decide,by decide⟩,⟨167772800,26,by decide,by decide⟩,⟨2886729728,16,by decide,by decide⟩,⟨3232237321,32,by decide,by decide⟩]
def noPf:Pf:=⟨0,0,by decide,by decide⟩
theorem ix_pfs{xs:List AV}{i:Nat}{K:AV->Prop}(L:List Pf)(n:Nat)(h:xs=L.map encP)(hn:L.length=n)(hi:i<n)(hk:K (encP (L.getD i noPf))):Ix xs i K:=by
 subst h;subst hn
 exact ix_map (List.getElem?_eq_getElem hi) (by rw[List.getD_eq_getElem?_getD,List.getElem?_eq_getElem hi]at hk;exact hk)
theorem nMod(x:Nat)(n:Int)(hx:x<n)(hn2:n<=9223372036854775807){K:KT}(hK:K (.v (.int .i64 x)) []):ACall Tryz.prog 43 [.v (.int .i64 x),.v (.int .i64 n)] [] K:=by
 refine of37 rfl rfl ?_
 (conv=>whnf)
 refine wr_u64 rfl (by omega) (by omega) ?_
 have m1:(x:Int).tmod n=x:=Int.tmod_eq_of_lt (by omega) (by omega)
 iterate 10 (all_goals((conv=>whnf);first|refine zG ?_|apply zA|(apply zI;intro h)|exact zT|skip))
 rw[m1]
 exact hK
theorem cnSub(n:Nat)(hn:n<6){K:KT}(hK:K (encP (subL.getD n noPf)) []):ACall Tryz.prog 31 [.v (.int .i64 n)] [] K:=by
 refine ofnSub rfl rfl ?_
 iterate 30 (all_goals((conv=>whnf);first|(with_reducible first|refine nMod n 6 (by omega) (by decide) ?_|refine in_nat hn ?_|refine ix_pfs subL 6 rfl rfl (by omega) ?_)|refine zG ?_|apply zA|(apply zI;intro h)|exact zT|skip))
 rw[Nat.zero_add]
 exact hK
def rnL:List ByteArray:=[⟨#[114,49]⟩,⟨#[114,50]⟩,⟨#[114,51]⟩,⟨#[114,52]⟩,⟨#[114,53]⟩,⟨#[114,54]⟩]
def enL:List ByteArray:=[⟨#[101,49]⟩,⟨#[101,50]⟩,⟨#[101,51]⟩,⟨#[101,52]⟩,⟨#[101,53]⟩]
def clL:List ByteArray:=[⟨#[]⟩,⟨#[105,112,115]⟩,⟨#[100,108,112]⟩]
def zoL:List ByteArray:=[⟨#[108,97,110]⟩,⟨#[100,109,122]⟩,⟨#[110,101,116]⟩]
structure GDv (i:Nat) (d:Dv):Prop where
 name:d.name=rnL.getD i default
 cap:d.cap∈[4096,400,60,20,5,0]
 cls:d.cls∈clL
structure GLk (n:Nat) (l:Lk):Prop where
 a0:0<=l.a
 ab:l.a<l.b
 bn:l.b<n
 cost:l.cost∈[1,2,3,1000]
theorem GLk.mono{n k:Nat}{l:Lk}(h:GLk n l)(hk:n<=k):GLk k l:=⟨h.a0,h.ab,by have:=h.bn;omega,h.cost⟩
structure GEd (n i:Nat) (e:Ed):Prop where
 name:e.name=enL.getD i default
 d0:0<=e.dev
 d1:e.dev<n
 zone:e.zone∈zoL
 pf:e.pf=subL.getD i noPf
 pl:e.pl=false
def pool1:Pf:=⟨168296448,22,by decide,by decide⟩
def pool2:Pf:=⟨167772672,24,by decide,by decide⟩
structure GTop (t:Tp):Prop where
 d1:1<=t.devs.length
 d6:t.devs.length<=6
 dv:∀(i:Nat) d,t.devs[i]? =some d->GDv i d
 l9:t.links.length<=8
 lk:∀l,l∈t.links->GLk t.devs.length l
 e5:t.edges.length<=5
 ed:∀(i:Nat) e,t.edges[i]? =some e->GEd t.devs.length i e
 pools:t.pools=[]\/t.pools=[pool1]\/t.pools=[pool2]\/t.pools=[pool1,pool2]
 tol:t.tol∈[0,1,0,1,2]
theorem get_snoc{α:Type}{P:Nat->α->Prop}{l:List α}{x:α}(h:∀(i:Nat) y,l[i]? =some y->P i y)(hx:P l.length x):∀(i:Nat) y,(l++[x])[i]? =some y->P i y:=by
 intro i y hy
 rw[List.getElem?_append]at hy
 split at hy
 ·exact h i y hy
 ·rename_i hl
  have:i-l.length=0:=by
   rcases Nat.lt_or_ge (i-l.length) 1 with h1|h1
   ·omega
   ·rw[List.getElem?_eq_none (by simpa using h1)]at hy;cases hy
  rw[this]at hy
  simp at hy
  subst hy
  rw[show i=l.length by omega]
  exact hx
noncomputable abbrev boxX(d l e p:Nat)(tol:Int):Vm.Obj:=.box [.os 3 5 0 d,.os 4 3 0 l,.os 5 6 0 e,.os 6 2 0 p,.v (.int .i64 tol)]
noncomputable abbrev boxN:Vm.Obj:=.box [.nils,.nils,.nils,.nils,.v (.int .i64 0)]
noncomputable abbrev hpX(raw:List Int)(pos:Nat)(d:List Dv)(l:List Lk)(e:List Ed)(p:List Pf)(tol:Int):Hp:=
 [(0,tapeO raw pos),(1,boxN),(2,boxX d.length l.length e.length p.length tol),(3,.arr 5 (d.map encD)),(4,.arr 3 (l.map encL)),(5,.arr 6 (e.map encE)),(6,.arr 2 (p.map encP))]
theorem cnTop(raw:List Int)(pos:Nat)(n0:Nat)(hn0:n0<=6)(hp:pos<=raw.length)(hr:raw.length<=9223372036854775807){K:KT}
  (hK:∀(t:Tp) (pos':Nat),GTop t->t.devs.length<=max n0 1->pos'<=raw.length->K (.agg [.os 1 5 0 t.devs.length,.os 2 3 0 t.links.length,.os 3 6 0 t.edges.length,.os 4 2 0 t.pools.length,.v (.int .i64 t.tol)]) [tapeO raw pos',.arr 5 (t.devs.map encD),.arr 3 (t.links.map encL),.arr 6 (t.edges.map encE),.arr 2 (t.pools.map encP)]):
  ACall Tryz.prog 10 [.op 0 0,.v (.int .i64 n0)] [tapeO raw pos] K:=by
 refine ofnTop rfl rfl ?_
 iterate 20 (all_goals((conv=>whnf);first|(with_reducible refine nNext raw _ _ (by omega) (by assumption) hr fun m p1 hm hp1=>?_)|refine zG ?_|apply zA|(apply zI;intro h)|exact zT|skip))
 have hm5:m<=5/\(m:Int)+1<=max n0 1:=by omega
 refine Lp.intro (Nat×List Dv×List Lk) (fun g=>⟨7,hpX raw g.1 g.2.1 g.2.2 [] [] 0,[(0,.op 0 0),(1,.v (.int .i64 (1+(m:Int)))),(4,.op 1 0),(5,.op 2 0),(6,.v (.int .i64 g.2.1.length))]⟩)
  (fun g=>g.1<=raw.length/\g.2.1.length<=1+m/\(∀(i:Nat) d,g.2.1[i]? =some d->GDv i d)/\g.2.2.length<=g.2.1.length-1/\∀l,l∈g.2.2->GLk g.2.1.length l) (fun g=>1+m-g.2.1.length) (p1,[],[]) ?_ ?_ ?_
 ·exact⟨hp1,Nat.zero_le _,fun i d h=>by simp at h,Nat.zero_le _,fun l h=>by simp at h⟩
 ·(exact leA)
 ·rintro⟨p1,devs,links⟩ ⟨hp1,i1,i2,i3,i4⟩
  simp only at hp1 i1 i2 i3 i4⊢
  rcases Nat.lt_or_ge devs.length (1+m)with hlt|hge
  ·iterate 8 (all_goals((conv=>whnf);first|refine zG ?_|apply zA|(apply zI;intro h)|exact zT|skip))
   refine Jn.intro (Nat×Int) (fun g=>⟨8,(7,.box [.v (.string (rnL.getD (0+devs.length) default)),.v (.int .i64 g.2),.sb false,.sb false,.v (.string ⟨#[]⟩)])::hpX raw g.1 devs links [] [] 0,[(0,.op 0 0),(1,.v (.int .i64 (1+(m:Int)))),(4,.op 1 0),(5,.op 2 0),(6,.v (.int .i64 devs.length)),(7,.op 7 0)]⟩)
    (fun g=>g.1<=raw.length/\g.2∈[4096,400,60,20,5,0]) ?_ ?_
   ·(repeat' ((conv=>whnf);first|(with_reducible first|refine nNext raw _ _ (by omega) (by assumption) hr fun m1 p1 hm1 hp1=>?_|refine in_nat (by omega) ?_|refine ix_strAt rnL 6 rfl rfl (by omega) ?_|refine ix_ints [4096,400,60,20,5,0] 6 rfl rfl (by omega) fun cap hcap=>?_)|refine zG ?_|apply zA|(apply zI;intro h)|exact zT));(all_goals conv=>whnf)
    all_goals
     refine⟨(p1,cap),⟨hp1,hcap⟩,?_⟩
     (exact leA)
   ·rintro⟨p1,cap⟩ ⟨hp1,hcap⟩
    simp only at hp1 hcap⊢
    (repeat' ((conv=>whnf);first|(with_reducible first|refine nNext raw _ _ (by omega) (by assumption) hr fun m1 p1 hm1 hp1=>?_|refine in_nat (by omega) ?_|refine ix_strs clL 3 rfl rfl (by omega) fun cls hcls=>?_|refine ix_ints [1,2,3,1000] 4 rfl rfl (by omega) fun cost hcost=>?_)|refine zG ?_|apply zA|(apply zI;intro h)|exact zT));(all_goals conv=>whnf)
    all_goals first
     |(rename_i x1 y1 z1 w1 x2 y2 z2 w2 x3 y3 z3 w3 x4 y4 z4 w4
       refine⟨(p1,devs++[⟨rnL.getD (0+devs.length) default,cap,decide ((x1:Int)=1),decide ((x2:Int)=1),cls⟩],links++[⟨x4,devs.length,cost⟩]),⟨hp1,?_,?_,?_,?_⟩,?_,?_⟩
       ·simp only[List.length_append,List.length_cons,List.length_nil];omega
       ·exact get_snoc i2 ⟨by rw[Nat.zero_add],hcap,hcls⟩
       ·simp only[List.length_append,List.length_cons,List.length_nil];omega
       ·intro l hl
        simp only[List.length_append,List.length_cons,List.length_nil]
        rcases List.mem_append.1 hl with hl|hl
        ·exact(i4 l hl).mono (by omega)
        ·simp only[List.mem_singleton]at hl
         subst hl
         exact⟨by simp only;omega,by simp only;omega,by simp only;omega,hcost⟩
       ·simp only[List.length_append,List.length_cons,List.length_nil];omega
       ·simp only[hpX,List.map_append,List.length_append,List.map_cons,List.map_nil,List.length_cons,List.length_nil]
        (exact leA))
     |(rename_i x1 y1 z1 w1 x2 y2 z2 w2
       refine⟨(p1,devs++[⟨rnL.getD (0+devs.length) default,cap,decide ((x1:Int)=1),decide ((x2:Int)=1),cls⟩],links),⟨hp1,?_,?_,?_,?_⟩,?_,?_⟩
       ·simp only[List.length_append,List.length_cons,List.length_nil];omega
       ·exact get_snoc i2 ⟨by rw[Nat.zero_add],hcap,hcls⟩
       ·simp only[List.length_append,List.length_cons,List.length_nil];omega
       ·intro l hl
        simp only[List.length_append,List.length_cons,List.length_nil]
        exact(i4 l hl).mono (by omega)
       ·simp only[List.length_append,List.length_cons,List.length_nil];omega
       ·simp only[hpX,List.map_append,List.length_append,List.map_cons,List.map_nil,List.length_cons,List.length_nil]
        (exact leA))
  ·have hD:devs.length=1+m:=by omega
   (repeat' ((conv=>whnf);first|refine zG ?_|apply zA|(apply zI;intro h)|exact zT));(all_goals conv=>whnf)
   refine Jn.intro (Nat×List Lk) (fun g=>⟨7,hpX raw g.1 devs g.2 [] [] 0,[(0,.op 0 0),(1,.v (.int .i64 (1+(m:Int)))),(4,.op 1 0),(5,.op 2 0)]⟩) (fun g=>g.1<=raw.length/\g.2.length<=8/\∀l,l∈g.2->GLk devs.length l) ?_ ?_
   ·(repeat' ((conv=>whnf);first|(with_reducible refine nNext raw _ _ (by omega) (by assumption) hr fun m2 p2 hm2 hp2=>?_)|refine zG ?_|apply zA|(apply zI;intro h)|exact zT));(all_goals conv=>whnf)
    have hm2':m2<=3:=by omega
    refine Lp.intro (Nat×Nat×List Lk) (fun g=>⟨7,hpX raw g.1 devs g.2.2 [] [] 0,[(0,.op 0 0),(1,.v (.int .i64 (1+(m:Int)))),(4,.op 1 0),(5,.op 2 0),(8,.v (.int .i64 g.2.1))]⟩)
     (fun g=>g.1<=raw.length/\g.2.1<=3/\g.2.2.length+g.2.1<=8/\∀l,l∈g.2.2->GLk devs.length l) (fun g=>g.2.1) (p2,m2,links) ?_ ?_ ?_
    ·exact⟨hp2,hm2',by simp only;omega,i4⟩
    ·(exact leA)
    rintro⟨p2,i,links⟩ ⟨hp2,k1,k2,k3⟩
    simp only at hp2 k1 k2 k3⊢
    rcases Nat.lt_or_ge 0 i with hi|hi
    ·obtain⟨i',rfl⟩:∃i',i=i'+1:=⟨i-1,by omega⟩
     have hi1:((i'+1:Nat):Int)-1=(i':Int):=by omega
     (repeat' ((conv=>whnf);first|(with_reducible first|refine wr_i64 hi1 (by omega) (by omega) ?_|refine nNext raw _ _ (by omega) (by assumption) hr fun m1 p1 hm1 hp1=>?_|refine in_nat (by omega) ?_|refine ix_ints [1,2,3,1000] 4 rfl rfl (by omega) fun cost hcost=>?_)|refine zG ?_|apply zA|(apply zI;intro h)|exact zT));(all_goals conv=>whnf)
     all_goals first
      |(rename_i x1 y1 z1 w1 x2 y2 z2 w2
        refine⟨(p1,i',links++[⟨x2,1+(x1:Int),cost⟩]),⟨hp1,by simp only;omega,?_,?_⟩,by simp only;omega,?_⟩
        ·simp only[List.length_append,List.length_cons,List.length_nil];omega
        ·intro l hl
         rcases List.mem_append.1 hl with hl|hl
         ·exact k3 l hl
         ·simp only[List.mem_singleton]at hl
          subst hl
          exact⟨by simp only;omega,by simp only;omega,by simp only;omega,hcost⟩
        ·simp only[hpX,List.map_append,List.length_append,List.map_cons,List.map_nil,List.length_cons,List.length_nil]
         (exact leA))
      |(refine⟨(p2,links),⟨hp2,by simp only;omega,k3⟩,?_⟩
        (exact leA))
    ·have hi0:i=0:=by omega
     subst hi0
     (repeat' ((conv=>whnf);first|refine zG ?_|apply zA|(apply zI;intro h)|exact zT));(all_goals conv=>whnf)
     refine⟨(p2,links),⟨hp2,by simp only;omega,k3⟩,?_⟩
     (exact leA)
   rintro⟨p2,links⟩ ⟨hp2,k2,k3⟩
   simp only at hp2 k2 k3⊢
   (repeat' ((conv=>whnf);first|(with_reducible first|refine nNext raw _ _ (by omega) (by assumption) hr fun m3 p3 hm3 hp3=>?_|refine in_nat (by omega) ?_|refine ix_ints [2,3,4,1,5,0] 6 rfl rfl (by omega) fun cnt hcnt=>?_)|refine zG ?_|apply zA|(apply zI;intro h)|exact zT));(all_goals conv=>whnf)
   have hcnt5:0<=cnt/\cnt<=5:=by
    simp only[List.mem_cons,List.not_mem_nil,or_false]at hcnt
    omega
   refine Lp.intro (Nat×List Ed) (fun g=>⟨7,hpX raw g.1 devs links g.2 [] 0,[(0,.op 0 0),(1,.v (.int .i64 (1+(m:Int)))),(4,.op 1 0),(5,.op 2 0),(10,.v (.int .i64 cnt)),(11,.v (.int .i64 g.2.length))]⟩)
    (fun g=>g.1<=raw.length/\(g.2.length:Int)<=cnt/\∀(i:Nat) e,g.2[i]? =some e->GEd devs.length i e) (fun g=>5-g.2.length) (p3,[]) ?_ ?_ ?_
   ·exact⟨hp3,by simp only[List.length_nil];omega,fun i e h=>by simp at h⟩
   ·(exact leA)
   rintro⟨p3,edges⟩ ⟨hp3,j1,j2⟩
   simp only at hp3 j1 j2⊢
   rcases(by omega:(edges.length:Int)<cnt\/cnt<=(edges.length:Int))with hlt|hge
   ·(repeat' ((conv=>whnf);first|refine zG ?_|apply zA|(apply zI;intro h)|exact zT));(all_goals conv=>whnf)
    refine Jn.intro (Nat×Ed) (fun g=>⟨7,hpX raw g.1 devs links (edges++[g.2]) [] 0,[(0,.op 0 0),(1,.v (.int .i64 (1+(m:Int)))),(4,.op 1 0),(5,.op 2 0),(10,.v (.int .i64 cnt)),(11,.v (.int .i64 edges.length))]⟩)
     (fun g=>g.1<=raw.length/\GEd devs.length edges.length g.2) ?_ ?_
    ·(repeat' ((conv=>whnf);first|(with_reducible first|refine nNext raw _ _ (by omega) (by assumption) hr fun m1 p1 hm1 hp1=>?_|refine in_nat (by omega) ?_|refine ix_strAt enL 5 rfl rfl (by omega) ?_|refine ix_strs zoL 3 rfl rfl (by omega) fun zone hzone=>?_|refine cnSub _ (by omega) ?_)|refine zG ?_|apply zA|(apply zI;intro h)|exact zT));(all_goals conv=>whnf)
     all_goals
      rename_i x1 y1 z1 w1
      refine⟨(p1,⟨enL.getD (0+edges.length) default,x1,zone,subL.getD edges.length noPf,false⟩),⟨hp1,⟨by rw[Nat.zero_add],by simp only;omega,by simp only;omega,hzone,rfl,rfl⟩⟩,?_⟩
      simp only[hpX,List.map_append,List.length_append,List.map_cons,List.map_nil,List.length_cons,List.length_nil]
      (exact leA)
    ·rintro⟨p4,e⟩ ⟨hp4,he⟩
     simp only at hp4 he⊢
     (repeat' ((conv=>whnf);first|refine zG ?_|apply zA|(apply zI;intro h)|exact zT));(all_goals conv=>whnf)
     refine⟨(p4,edges++[e]),⟨hp4,?_,get_snoc j2 he⟩,?_,?_⟩
     ·simp only[List.length_append,List.length_cons,List.length_nil];omega
     ·simp only[List.length_append,List.length_cons,List.length_nil];omega
     ·simp only[List.length_append,List.length_cons,List.length_nil]
      (exact leA)
   ·(repeat' ((conv=>whnf);first|(with_reducible first|refine nNext raw _ _ (by omega) (by assumption) hr fun m1 p1 hm1 hp1=>?_|refine in_nat (by omega) ?_|refine ix_ints [0,1,0,1,2] 5 rfl rfl (by omega) fun tol htol=>?_)|refine zG ?_|apply zA|(apply zI;intro h)|exact zT));(all_goals conv=>whnf)
    all_goals
     have he5:edges.length<=5:=by omega
     have gt:∀pools,(pools=[]\/pools=[pool1]\/pools=[pool2]\/pools=[pool1,pool2])->GTop ⟨devs,links,edges,pools,tol⟩:=fun pools h=>⟨by simp only;omega,by simp only;omega,i2,k2,k3,he5,j2,h,htol⟩
     have hdm:devs.length<=max n0 1:=by omega
    ·exact hK ⟨devs,links,edges,[pool1,pool2],tol⟩ p1 (gt _ (.inr (.inr (.inr rfl)))) hdm hp1
    ·exact hK ⟨devs,links,edges,[pool1],tol⟩ p1 (gt _ (.inr (.inl rfl))) hdm hp1
    ·exact hK ⟨devs,links,edges,[pool2],tol⟩ p1 (gt _ (.inr (.inr (.inl rfl)))) hdm hp1
    ·exact hK ⟨devs,links,edges,[],tol⟩ p1 (gt _ (.inl rfl)) hdm hp1
theorem cnAddr(raw:List Int)(pos:Nat)(hp:pos<=raw.length)(hr:raw.length<=9223372036854775807){K:KT}
  (hK:∀(a:Int) (pos':Nat),0<=a->a<=4294967295->pos'<=raw.length->K (.v (.int .u32 a)) [tapeO raw pos']):ACall Tryz.prog 14 [.op 0 0] [tapeO raw pos] K:=by
 refine ofnAddr rfl rfl ?_
 (repeat' ((conv=>whnf);first|(with_reducible first|refine nNext raw _ _ (by omega) (by assumption) hr fun m1 p1 hm1 hp1=>?_|refine in_nat (by omega) ?_|refine cnSub _ (by omega) ?_|refine crOf _ ?_|refine wr_u32_any fun r r0 r1=>?_)|refine zG ?_|apply zA|(apply zI;intro h)|exact zT));(all_goals conv=>whnf)
 all_goals refine ix_all IsU32 ?_ (by simp only[List.length_cons,List.length_nil];omega) ?_
 all_goals first
  |(rintro _ ⟨y,rfl,y0,y1⟩
    (repeat' ((conv=>whnf);first|refine zG ?_|apply zA|(apply zI;intro h)|exact zT));(all_goals conv=>whnf)
    exact hK y _ y0 y1 (by assumption))
  |(simp only[List.forall_mem_cons]
    (repeat' apply And.intro)<;>first|exact⟨_,rfl,by assumption,by assumption⟩|exact⟨_,rfl,Rg.l0 _,Rg.l1 _⟩|exact⟨_,rfl,Rg.h0 _,Rg.h1 _⟩|exact⟨_,rfl,by decide,by decide⟩|(intro _ h;cases h))
noncomputable def compB(t:Tp):Bool:=topB t&& !(t.edges.any fun e=>e.pl)
theorem compB_iff{t:Tp}:compB t=true↔TopOk t/\∀e,e∈t.edges->e.pl=false:=by
 unfold compB
 rw[Bool.and_eq_true,topB_iff,Bool.not_eq_true',List.any_eq_false]
 exact⟨fun h=>⟨h.1,fun e he=>by simpa using h.2 e he⟩,fun h=>⟨h.1,fun e he=>by simpa using h.2 e he⟩⟩
theorem cixEdge0(l:List Ed)(f:FuncId)(p:Ed->Bool)(hF:∀(x:Ed) (K:AV->List Vm.Obj->Prop),K (.sb (p x)) []->ACall Tryz.prog f [encE x] [] K)(hl:l.length<1000000){K:KT}(hK:K (.v (.int .i64 (firstIx p l))) []):
  ACall Tryz.prog 133 [.lst (l.map encE),.fn (.func f) [] []] [] K:=by
 refine ofixEdge rfl rfl ?_
 (repeat' ((conv=>whnf);first|refine zG ?_|apply zA|(apply zI;intro h)|exact zT));(all_goals conv=>whnf)
 refine Lp.intro Nat (fun k=>⟨0,[],[(0,.lst (l.map encE)),(1,.fn (.func f) [] []),(7,.v (.int .i64 (l.map encE).length)),(8,.v (.int .i64 k))]⟩) (fun k=>k<=l.length/\∀(i:Nat) y,i<k->l[i]? =some y->p y=false) (fun k=>l.length-k) 0 ?_ ?_ ?_
 ·exact⟨Nat.zero_le _,fun i y hi=>absurd hi (Nat.not_lt_zero _)⟩
 ·(exact leA)
 ·intro k ⟨hk,hinv⟩
  rcases Nat.lt_or_ge k l.length with hkl|hkl
  ·obtain⟨r,hr⟩:=gex hkl
   (repeat' ((conv=>whnf);first|(with_reducible first|refine in_map hkl ?_|refine ix_map hr ?_|refine hF r _ ?_)|refine zG ?_|apply zA|(apply zI;intro h)|exact zT));(all_goals conv=>whnf)
   ·rw[firstIx_at hr h hinv]at hK;exact hK
   ·refine⟨k+1,⟨by omega,before_succ hr h hinv⟩,by omega,?_⟩
    rw[Int.natCast_add,Int.natCast_one]
    (exact leA)
  ·(repeat' ((conv=>whnf);first|refine zG ?_|apply zA|(apply zI;intro h)|exact zT));(all_goals conv=>whnf)
   rw[firstIx_none (before_all hkl hinv)]at hK
   exact hK
theorem firstIx_any{α:Type}(p:α->Bool)(l:List α):decide (0<=firstIx p l)=l.any p:=by
 rw[Bool.eq_iff_iff,List.any_eq_true,decide_eq_true_eq]
 constructor
 ·intro h
  unfold firstIx at h
  split at h
  ·rename_i i hi
   rw[List.findIdx?_eq_some_iff_getElem]at hi
   obtain⟨h1,h2,_⟩:=hi
   exact⟨_,List.getElem_mem h1,h2⟩
  ·omega
 ·rintro⟨x,hx,hp⟩
  unfold firstIx
  split
  ·omega
  ·rename_i hn
   rw[List.findIdx?_eq_none_iff]at hn
   have:=hn x hx
   simp_all
theorem ctCom1(e:Ed){K:KT}(hK:K (.sb e.pl) []):ACall Tryz.prog 74 [encE e] [] K:=by
 refine oftCom1 rfl rfl ?_
 (repeat' ((conv=>whnf);first|refine zG ?_|apply zA|(apply zI;intro h)|exact zT));(all_goals conv=>whnf)
 exact hK
theorem canyEdge(l:List Ed)(hl:l.length<1000000){K:KT}(hK:K (.sb (l.any fun e=>e.pl)) []):
  ACall Tryz.prog 73 [.lst (l.map encE),.fn (.func 74) [] []] [] K:=by
 refine ACall.bool (ofanyEdge rfl rfl ?_)
 (repeat' ((conv=>whnf);first|(with_reducible refine cixEdge0 _ _ (fun e=>e.pl) (fun x K h=>ctCom1 x h) hl ?_)|refine zG ?_|apply zA|(apply zI;intro h)|exact zT));(all_goals conv=>whnf)
 exact fin_s hK (firstIx_any _ _).symm
theorem ctComp(t:Tp)(hl:t.edges.length<1000000){K:KT}(hK:K (.sb (compB t)) []):ACall Tryz.prog 44 [encT t] [] K:=by
 refine ACall.bool (oftComp rfl rfl ?_)
 unfold compB at hK
 (repeat' ((conv=>whnf);first|(with_reducible first|refine ctVal t ?_|refine canyEdge t.edges hl ?_)|refine zG ?_|apply zA|(apply zI;intro h)|exact zT));(all_goals conv=>whnf)
 ·exact fin_s hK (by rw[h];rfl)
 ·exact fin_f hK (by rw[h];rfl)
def edgeAt(t:Tp)(v:Int):Int:=firstIx (fun e=> !e.pl&&e.pf.has v) t.edges
theorem cuAtI(t:Tp)(v:Int)(hl:t.edges.length<1000000){K:KT}(hK:K (.v (.int .i64 (edgeAt t v))) []):ACall Tryz.prog 16 [encT t,.v (.int .u32 v)] [] K:=by
 refine ofuAt rfl rfl ?_
 (repeat' ((conv=>whnf);first|refine zG ?_|apply zA|(apply zI;intro h)|exact zT));(all_goals conv=>whnf)
 refine Lp.intro Nat (fun k=>⟨1,[(0,boxT t)],[(1,.v (.int .u32 v)),(2,.op 0 0),(5,.v (.int .i64 k))]⟩) (fun k=>k<=t.edges.length/\∀(i:Nat) e,i<k->t.edges[i]? =some e->(!e.pl&&e.pf.has v)=false) (fun k=>t.edges.length-k) 0 ⟨Nat.zero_le _,fun i e h=>absurd h (Nat.not_lt_zero _)⟩ ?_ ?_
 ·(exact leA)
 intro k ⟨hk,hinv⟩
 rcases Nat.lt_or_ge k t.edges.length with hkl|hkl
 ·obtain⟨r,hr⟩:=gex hkl
  (repeat' ((conv=>whnf);first|(with_reducible first|refine in_map hkl ?_|refine ix_map hr ?_|refine crCon r.pf v ?_)|refine zG ?_|apply zA|(apply zI;intro h)|exact zT));(all_goals conv=>whnf)
  all_goals first
   |(unfold edgeAt at hK
     rw[firstIx_at hr (by simp_all) hinv]at hK
     exact hK)
   |(refine⟨k+1,⟨by omega,before_succ hr (by simp_all) hinv⟩,by omega,?_⟩
     (exact leA))
 ·(repeat' ((conv=>whnf);first|refine zG ?_|apply zA|(apply zI;intro h)|exact zT));(all_goals conv=>whnf)
  unfold edgeAt at hK
  rw[firstIx_none (before_all hkl hinv)]at hK
  exact hK
structure Insp where
 cls:ByteArray
 set:List Bx
structure Pol where
 allow:List Bx
 insp:List Insp
def whoB(p q:Pf):Bx:=⟨p.rg,q.rg,fullB.r2,fullB.r3,fullB.r4⟩
def pairsAt(es:List Ed)(a:Nat)(ea:Ed)(n:Nat):List Bx:=((es.take n).zipIdx.filter fun q=>decide (a≠q.2)).map fun q=>whoB ea.pf q.1.pf
def pairsTo(es:List Ed)(n:Nat):List Bx:=((es.take n).zipIdx).flatMap fun q=>pairsAt es q.2 q.1 es.length
def pairsB(es:List Ed):List Bx:=pairsTo es es.length
theorem combP_set{op:Bool->Bool->Bool}{a b:List Bx}(ha:setB a=true)(hb:setB b=true):combP op a b=(limP (cano op 5 a b),limE (cano op 5 a b)):=by
 unfold combP givP
 simp[ha,hb]
theorem cano_ext2(op op':Bool->Bool->Bool):∀(k:Nat) (a b a' b':List Bx),k<=5->(∀p,InP p->op (memK p k a) (memK p k b)=op' (memK p k a') (memK p k b'))->cano op k a b=cano op' k a' b'
 |0,a,b,a',b',_,h=>by
  have h1:=h _ inP_zero
  rw[memK_zero,memK_zero,memK_zero,memK_zero]at h1
  rw[cano,cano,h1]
 |k+1,a,b,a',b',hk,h=>by
  have g:=cano_ginv op k a b (starts_cuts _ (topF_pos (4-k)).1)
  have g':=cano_ginv op' k a' b' (starts_cuts _ (topF_pos (4-k)).1)
  have part:∀v,0<=v->v<topF (4-k)+1->∀p,InP p->op (memK p k (atF (4-k) v a)) (memK p k (atF (4-k) v b))=op' (memK p k (atF (4-k) v a')) (memK p k (atF (4-k) v b')):=by
   intro v v0 v1 p hp
   have hq:InP (fun f=>if f=4-k then v else p f):=fun f=>by
    by_cases e:f=4-k
    ·simp only[e,if_true];omega
    ·simp only[e,if_false];exact hp f
   have h:=h _ hq
   rw[memK_succ,memK_succ,memK_succ,memK_succ,if_pos rfl]at h
   have e:∀c:List Bx,memK p k (atF (4-k) v c)=memK (fun f=>if f=4-k then v else p f) k (atF (4-k) v c):=fun c=>memK_congr (by omega) fun f hf h5=>by rw[if_neg (by omega)]
   rw[e,e,e,e,h]
  have hR:∀v,0<=v->v<topF (4-k)+1->restAt op k a b v=restAt op' k a' b' v:=fun v v0 v1=>
   cano_ext2 op op' k _ _ _ _ (by omega) (part v v0 v1)
  rw[cano_succ,cano_succ,(g.congr hR).same g']
theorem memK_nil{p:Nat->Int}{k:Nat}:memK p k []=false:=rfl
theorem cano_same(op:Bool->Bool->Bool)(a b:List Bx):cano orB 5 (cano op 5 a b) []=cano op 5 a b:=
 cano_ext2 orB op 5 _ _ _ _ (Nat.le_refl _) fun p hp=>by rw[cano_mem op hp 5 a b (Nat.le_refl _),memK_nil,orB,Bool.or_false]
theorem okL_bx{l:List Bx}(h:okL l):∀x,x∈l->x.ok:=fun x hx=>⟨h x hx 0 (by omega),h x hx 1 (by omega),h x hx 2 (by omega),h x hx 3 (by omega),h x hx 4 (by omega)⟩
theorem vld_all{l:List Bx}(h:okL l):vldB l=l:=List.filter_eq_self.2 fun x hx=>by simpa using okL_bx h x hx
theorem setB_cano{op:Bool->Bool->Bool}{a b:List Bx}(h:(cano op 5 a b).length<=4096):setB (cano op 5 a b)=true:=by
 have ho:=okL_cano op a b
 unfold setB
 rw[vld_all ho]
 simp only[Bool.and_eq_true,decide_eq_true_eq,true_and]
 refine⟨h,(canB_iff 5 _ (Nat.le_refl _) (fun x hx f hf _=>ho x hx f hf) (by omega)).2 ?_⟩
 rw[cano_same]
 exact((List.map_congr_left fun x _=>zeroTo_five x).trans (List.map_id _)).symm
theorem setB_nil:setB []=true:=by decide+kernel
theorem setB_lim(op:Bool->Bool->Bool)(a b:List Bx):setB (limP (cano op 5 a b))=true:=by
 unfold limP;split
 ·exact setB_nil
 ·exact setB_cano (by omega)
theorem setB_makeGo:∀(l s:List Bx),setB s=true->setB (makeGo s l).1=true
 |[],s,h=>h
 |b::l,s,h=>by
  rw[makeGo]
  split
  ·split
   ·exact setB_nil
   ·exact setB_makeGo l _ (setB_cano (by unfold addO at*;omega))
  ·exact setB_makeGo l s h
theorem setB_makeP(l:List Bx):setB (makeP l).1=true:=setB_makeGo l [] setB_nil
theorem setB_combP(op:Bool->Bool->Bool)(a b:List Bx):setB (combP op a b).1=true:=by
 unfold combP;split
 ·exact setB_nil
 ·split
  ·exact setB_nil
  ·exact setB_lim ..
theorem combP_mem{op:Bool->Bool->Bool}{a b:List Bx}(ha:setB a=true)(hb:setB b=true)(he:(combP op a b).2=0){p:Nat->Int}(hp:InP p):memK p 5 (combP op a b).1=op (memK p 5 a) (memK p 5 b):=by
 rw[combP_set ha hb]at he⊢
 simp only at he⊢
 have:(cano op 5 a b).length<=4096:=by
  have:=mt limE_ne.2 (fun h=>h he);omega
 rw[limP,if_neg (by omega),cano_mem op hp 5 a b (Nat.le_refl _)]
theorem vldB_cons(b:Bx)(l:List Bx):vldB (b::l)=if b.ok then b::vldB l else vldB l:=by
 unfold vldB
 by_cases h:b.ok
 ·rw[List.filter_cons_of_pos (by simpa using h),if_pos h]
 ·rw[List.filter_cons_of_neg (by simpa using h),if_neg h]
/-! texts in their order -/
def ltS(s t:ByteArray):Bool:=Op.bytesLess s.toList t.toList
theorem bl_trans:∀(a b c:List UInt8),Op.bytesLess a b=true->Op.bytesLess b c=true->Op.bytesLess a c=true
 |_,_,[],_,h=>by simp[Op.bytesLess]at h
 |[],_,_::_,_,_=>by simp[Op.bytesLess]
 |_::_,[],_,h,_=>by simp[Op.bytesLess]at h
 |a::x,b::y,c::z,h,h'=>by
  simp only[Op.bytesLess,Bool.or_eq_true,Bool.and_eq_true,decide_eq_true_eq,beq_iff_eq]at h h'⊢
  rcases h with h|⟨rfl,h⟩<;>rcases h' with h'|⟨rfl,h'⟩
  ·exact .inl (UInt8.lt_trans h h')
  ·exact .inl h
  ·exact .inl h'
  ·exact .inr ⟨rfl,bl_trans x y z h h'⟩
theorem bl_total:∀(a b:List UInt8),Op.bytesLess a b=false->(a==b)=false->Op.bytesLess b a=true
 |[],[],_,h=>by simp at h
 |[],_::_,h,_=>by simp[Op.bytesLess]at h
 |_::_,[],_,_=>by simp[Op.bytesLess]
 |a::x,b::y,h,h'=>by
  simp only[Op.bytesLess,Bool.or_eq_false_iff,Bool.and_eq_false_iff,decide_eq_false_iff_not,beq_eq_false_iff_ne,ne_eq]at h
  simp only[Op.bytesLess,Bool.or_eq_true,Bool.and_eq_true,decide_eq_true_eq,beq_iff_eq]
  obtain⟨h1,h2⟩:=h
  by_cases e:a=b
  ·subst e
   refine .inr ⟨rfl,bl_total x y ?_ ?_⟩
   ·rcases h2 with h2|h2
    ·exact absurd rfl h2
    ·simpa using h2
   ·simpa using h'
  ·refine .inl ?_
   have h1':¬a.toNat<b.toNat:=fun h=>h1 (UInt8.lt_iff_toNat_lt.2 h)
   have:a.toNat≠b.toNat:=fun h=>e (UInt8.toNat_inj.1 h)
   exact UInt8.lt_iff_toNat_lt.2 (by omega)
/-! the policy of an intent, step by step -/
def realM(t:Tp)(q:Nat->Int):Prop:=memK q 5 (vldB (pairsB t.edges))=true/\memK q 5 initS=true
structure AtInv (t:Tp) (rest:List Bx) (p:Pol):Prop where
 rs:setB rest=true
 al:setB p.allow=true
 rr:∀q,InP q->memK q 5 rest=true->realM t q
 ar:∀q,InP q->memK q 5 p.allow=true->realM t q
 dj:∀q,InP q->memK q 5 rest=true->memK q 5 p.allow=false
 nm:∀x,x∈p.insp->nameOk x.cls
 ne:∀x,x∈p.insp->x.set≠[]
 st:∀x,x∈p.insp->setB x.set=true
 sb:∀x,x∈p.insp->∀q,InP q->memK q 5 x.set=true->memK q 5 p.allow=true
 ds:p.insp.Pairwise fun x y=>∀q,InP q->memK q 5 x.set=true->memK q 5 y.set=false
 od:p.insp.Pairwise fun x y=>ltS x.cls y.cls=true
inductive PutR (l:List Insp) (c:ByteArray) (s:List Bx):List Insp->Int->Prop
 |skip:(c.toList=[]\/s=[])->PutR l c s l 0
 |ins (k:Nat):c.toList≠[]->s≠[]->k<=l.length->(∀(j:Nat) y,j<k->l[j]? =some y->ltS y.cls c=true)->(∀y,l[k]? =some y->ltS y.cls c=false/\(y.cls.toList==c.toList)=false)->PutR l c s (l.take k++⟨c,s⟩::l.drop k) 0
 |uni (k:Nat) (y:Insp):c.toList≠[]->s≠[]->l[k]? =some y->(y.cls.toList==c.toList)=true->PutR l c s (l.set k ⟨y.cls,(combP orB y.set s).1⟩) (combP orB y.set s).2
theorem AtInv.permit{t:Tp}{rest s:List Bx}{p:Pol}{c:ByteArray}{l':List Insp}{e:Int}(h:AtInv t rest p)(hs:setB s=true)(hc:c.toList=[]\/nameOk c)(e1:(combP anB rest s).2=0)
  (e2:(combP woB rest s).2=0)(e3:(combP orB p.allow (combP anB rest s).1).2=0)(hp:PutR p.insp c (combP anB rest s).1 l' e)(he:e=0):
  AtInv t (combP woB rest s).1 ⟨(combP orB p.allow (combP anB rest s).1).1,l'⟩:=by
 have hps:setB (combP anB rest s).1=true:=setB_combP ..
 have hpm:∀q,InP q->memK q 5 (combP anB rest s).1=(memK q 5 rest&&memK q 5 s):=fun q hq=>by rw[combP_mem h.rs hs e1 hq];rfl
 have hrm:∀q,InP q->memK q 5 (combP woB rest s).1=(memK q 5 rest&& !memK q 5 s):=fun q hq=>by rw[combP_mem h.rs hs e2 hq];rfl
 have ham:∀q,InP q->memK q 5 (combP orB p.allow (combP anB rest s).1).1=(memK q 5 p.allow||memK q 5 (combP anB rest s).1):=fun q hq=>by rw[combP_mem h.al hps e3 hq];rfl
 have hdis:∀x,x∈p.insp->∀q,InP q->memK q 5 (combP anB rest s).1=true->memK q 5 x.set=false:=fun x hx q hq h1=>by
  rw[hpm q hq]at h1
  simp only[Bool.and_eq_true]at h1
  rw[Bool.eq_false_iff]
  intro h2
  have:=h.dj q hq h1.1
  rw[h.sb x hx q hq h2]at this
  cases this
 have hsb:∀x,x∈p.insp->∀q,InP q->memK q 5 x.set=true->memK q 5 (combP orB p.allow (combP anB rest s).1).1=true:=fun x hx q hq h1=>by
  rw[ham q hq,h.sb x hx q hq h1];rfl
 have hpb:∀q,InP q->memK q 5 (combP anB rest s).1=true->memK q 5 (combP orB p.allow (combP anB rest s).1).1=true:=fun q hq h1=>by rw[ham q hq,h1,Bool.or_true]
 have f1:setB (combP woB rest s).1=true:=setB_combP ..
 have f2:setB (combP orB p.allow (combP anB rest s).1).1=true:=setB_combP ..
 have f3:∀q,InP q->memK q 5 (combP woB rest s).1=true->realM t q:=fun q hq h1=>by
  rw[hrm q hq]at h1
  simp only[Bool.and_eq_true]at h1
  exact h.rr q hq h1.1
 have f4:∀q,InP q->memK q 5 (combP orB p.allow (combP anB rest s).1).1=true->realM t q:=fun q hq h1=>by
  rw[ham q hq,hpm q hq]at h1
  simp only[Bool.or_eq_true,Bool.and_eq_true]at h1
  rcases h1 with h1|h1
  ·exact h.ar q hq h1
  ·exact h.rr q hq h1.1
 have f5:∀q,InP q->memK q 5 (combP woB rest s).1=true->memK q 5 (combP orB p.allow (combP anB rest s).1).1=false:=fun q hq h1=>by
  rw[hrm q hq]at h1
  simp only[Bool.and_eq_true,Bool.not_eq_true']at h1
  rw[ham q hq,hpm q hq,h.dj q hq h1.1,h1.2,Bool.and_false];rfl
 cases hp with
 |skip h0=>exact⟨f1,f2,f3,f4,f5,h.nm,h.ne,h.st,hsb,h.ds,h.od⟩
 |ins k h0 h1 hk hlt hge=>
  have hmem:∀x,x∈p.insp.take k++⟨c,(combP anB rest s).1⟩::p.insp.drop k->x∈p.insp\/x=⟨c,(combP anB rest s).1⟩:=fun x hx=>by
   rcases List.mem_append.1 hx with hx|hx
   ·exact .inl (List.mem_of_mem_take hx)
   ·rcases List.mem_cons.1 hx with hx|hx
    ·exact .inr hx
    ·exact .inl (List.mem_of_mem_drop hx)
  have hall:∀(Q:Insp->Prop),(∀x,x∈p.insp->Q x)->Q ⟨c,(combP anB rest s).1⟩->∀x,x∈p.insp.take k++⟨c,(combP anB rest s).1⟩::p.insp.drop k->Q x:=fun Q g1 g2 x hx=>by
   rcases hmem x hx with hx|rfl
   ·exact g1 x hx
   ·exact g2
  have hpw:∀(R:Insp->Insp->Prop),p.insp.Pairwise R->(∀x,x∈p.insp.take k->R x ⟨c,(combP anB rest s).1⟩)->(∀x,x∈p.insp.drop k->R ⟨c,(combP anB rest s).1⟩ x)->(p.insp.take k++⟨c,(combP anB rest s).1⟩::p.insp.drop k).Pairwise R:=fun R g g1 g2=>by
   rw[<-List.take_append_drop k p.insp]at g
   rw[List.pairwise_append]at g⊢
   refine⟨g.1,List.pairwise_cons.2 ⟨g2,g.2.1⟩,fun a ha b hb=>?_⟩
   rcases List.mem_cons.1 hb with rfl|hb
   ·exact g1 a ha
   ·exact g.2.2 a ha b hb
  refine⟨f1,f2,f3,f4,f5,hall _ h.nm (hc.resolve_left h0),hall (fun x=>x.set≠[]) h.ne h1,hall (fun x=>setB x.set=true) h.st hps,hall (fun x=>∀q,InP q->memK q 5 x.set=true->_) hsb hpb,?_,?_⟩
  ·refine hpw _ h.ds (fun x hx q hq h2=>?_) (fun x hx q hq h2=>hdis x (List.mem_of_mem_drop hx) q hq h2)
   rw[Bool.eq_false_iff]
   intro h3
   rw[hdis x (List.mem_of_mem_take hx) q hq h3]at h2
   cases h2
  ·refine hpw _ h.od (fun x hx=>?_) (fun x hx=>?_)
   ·obtain⟨j,hj⟩:=List.mem_iff_getElem?.1 hx
    rw[List.getElem?_take]at hj
    split at hj
    ·exact hlt j x (by assumption) hj
    ·cases hj
   ·obtain⟨j,hj⟩:=List.mem_iff_getElem?.1 hx
    rw[List.getElem?_drop]at hj
    obtain⟨y,hy⟩:∃y,p.insp[k]? =some y:=⟨_,List.getElem?_eq_getElem (by have:=(List.getElem?_eq_some_iff.1 hj).1;omega)⟩
    obtain⟨g1,g2⟩:=hge y hy
    have hcy:ltS c y.cls=true:=bl_total _ _ g1 g2
    rcases Nat.eq_zero_or_pos j with rfl|hj0
    ·rw[Nat.add_zero,hy]at hj
     cases hj;exact hcy
    ·have:=List.pairwise_iff_getElem.1 h.od k (k+j) (List.getElem?_eq_some_iff.1 hy).1 (List.getElem?_eq_some_iff.1 hj).1 (by omega)
     rw[(List.getElem?_eq_some_iff.1 hy).2,(List.getElem?_eq_some_iff.1 hj).2]at this
     exact bl_trans _ _ _ hcy this
 |uni k y h0 h1 hk hy=>
  have hym:y∈p.insp:=List.mem_of_getElem? hk
  have hum:∀q,InP q->memK q 5 (combP orB y.set (combP anB rest s).1).1=(memK q 5 y.set||memK q 5 (combP anB rest s).1):=fun q hq=>by rw[combP_mem (h.st y hym) hps he hq];rfl
  have hall:∀(Q:Insp->Prop),(∀x,x∈p.insp->Q x)->Q ⟨y.cls,(combP orB y.set (combP anB rest s).1).1⟩->∀x,x∈p.insp.set k ⟨y.cls,(combP orB y.set (combP anB rest s).1).1⟩->Q x:=fun Q g1 g2 x hx=>by
   rcases List.mem_or_eq_of_mem_set hx with hx|rfl
   ·exact g1 x hx
   ·exact g2
  have hkl:=(List.getElem?_eq_some_iff.1 hk).1
  have hke:=(List.getElem?_eq_some_iff.1 hk).2
  have hpw:∀(R:Insp->Insp->Prop),p.insp.Pairwise R->(∀x,x∈p.insp->R x y->R x ⟨y.cls,(combP orB y.set (combP anB rest s).1).1⟩)->(∀x,x∈p.insp->R y x->R ⟨y.cls,(combP orB y.set (combP anB rest s).1).1⟩ x)->(p.insp.set k ⟨y.cls,(combP orB y.set (combP anB rest s).1).1⟩).Pairwise R:=fun R g g1 g2=>by
   rw[List.pairwise_iff_getElem]at g⊢
   intro i j hi hj hij
   rw[List.length_set]at hi hj
   rw[List.getElem_set,List.getElem_set]
   by_cases e1:k=i
   ·rw[if_pos e1,if_neg (by omega)]
    refine g2 _ (List.getElem_mem _) ?_
    subst e1
    have:=g k j hi hj hij
    rwa[hke]at this
   ·rw[if_neg e1]
    by_cases e2:k=j
    ·rw[if_pos e2]
     refine g1 _ (List.getElem_mem _) ?_
     subst e2
     have:=g i k hi hj hij
     rwa[hke]at this
    ·rw[if_neg e2];exact g i j hi hj hij
  refine⟨f1,f2,f3,f4,f5,hall _ h.nm (h.nm y hym),hall (fun x=>x.set≠[]) h.ne ?_,hall (fun x=>setB x.set=true) h.st (setB_combP ..),hall (fun x=>∀q,InP q->memK q 5 x.set=true->_) hsb ?_,?_,?_⟩
  ·intro e0
   simp only at e0
   have:∀q,InP q->memK q 5 y.set=false:=fun q hq=>by
    have:=hum q hq
    rw[e0,memK_nil]at this
    cases hy:memK q 5 y.set
    ·rfl
    ·rw[hy]at this;cases this
   obtain⟨b,hb⟩:=List.exists_mem_of_ne_nil _ (h.ne y hym)
   obtain⟨q,hq,hqb⟩:=box_point (okL_set (h.st y hym) b hb)
   have h3:=this q hq
   rw[memK_iff.2 ⟨b,hb,hqb⟩]at h3
   cases h3
  ·intro q hq h2
   simp only at h2
   rw[hum q hq,Bool.or_eq_true]at h2
   rcases h2 with h2|h2
   ·exact hsb y hym q hq h2
   ·exact hpb q hq h2
  ·refine hpw _ h.ds (fun x hx hr q hq h2=>?_) (fun x hx hr q hq h2=>?_)
   ·simp only
    rw[hum q hq,hr q hq h2,Bool.false_or,Bool.eq_false_iff]
    intro h3
    rw[hdis x hx q hq h3]at h2
    cases h2
   ·simp only at h2
    rw[hum q hq,Bool.or_eq_true]at h2
    rcases h2 with h2|h2
    ·exact hr q hq h2
    ·exact hdis x hx q hq h2
  ·exact hpw _ h.od (fun x hx hr=>hr) (fun x hx hr=>hr)
theorem init_set:setB initS=true:=by decide+kernel
def realP(t:Tp):List Bx×Int:=if(makeP (pairsB t.edges)).2≠0 then([],(makeP (pairsB t.edges)).2)else combP anB (makeP (pairsB t.edges)).1 initS
structure It where
 kind:Int
 name:ByteArray
 pf:Pf
 proto:Int
 ports:Rg
structure Df where
 name:ByteArray
 items:List It
structure Wn where
 name:ByteArray
 act:List Rg
structure Sm where
 permit:Bool
 frm:ByteArray
 to:ByteArray
 svc:ByteArray
 exc:Bool
 exF:ByteArray
 exT:ByteArray
 cls:ByteArray
 dur:ByteArray
 pri:Int
structure Pb where
 addr:Int
 proto:Int
 port:Int
 edge:ByteArray
 real:Int
 rport:Int
structure Hn where
 grp:ByteArray
 edge:ByteArray
 addr:Int
 ports:Rg
structure Nt where
 grps:List Df
 svcs:List Df
 wins:List Wn
 sts:List Sm
 pubs:List Pb
 hids:List Hn
noncomputable abbrev encIt(x:It):AV:=.agg [.v (.int .i64 x.kind),.v (.string x.name),.v (.int .u32 x.pf.addr),.v (.int .i64 x.pf.bits),.v (.int .i64 x.proto),.v (.int .u32 x.ports.lo),.v (.int .u32 x.ports.hi)]
noncomputable abbrev encDf(x:Df):AV:=.agg [.v (.string x.name),.lst (x.items.map encIt)]
noncomputable abbrev encWn(x:Wn):AV:=.agg [.v (.string x.name),encRs x.act]
noncomputable abbrev encSm(x:Sm):AV:=.agg [.sb x.permit,.v (.string x.frm),.v (.string x.to),.v (.string x.svc),.sb x.exc,.v (.string x.exF),.v (.string x.exT),.v (.string x.cls),.v (.string x.dur),.v (.int .i64 x.pri)]
noncomputable abbrev encPb(x:Pb):AV:=.agg [.v (.int .u32 x.addr),.v (.int .i64 x.proto),.v (.int .i64 x.port),.v (.string x.edge),.v (.int .u32 x.real),.v (.int .i64 x.rport)]
noncomputable abbrev encHn(x:Hn):AV:=.agg [.v (.string x.grp),.v (.string x.edge),.v (.int .u32 x.addr),.v (.int .u32 x.ports.lo),.v (.int .u32 x.ports.hi)]
noncomputable abbrev celNt(i:Nt):List AV:=[.lst (i.grps.map encDf),.lst (i.svcs.map encDf),.lst (i.wins.map encWn),.lst (i.sts.map encSm),.lst (i.pubs.map encPb),.lst (i.hids.map encHn)]
noncomputable abbrev encNt(i:Nt):AV:=.agg (celNt i)
noncomputable abbrev boxNt(i:Nt):Vm.Obj:=.box (celNt i)
structure Sml (i:Nt):Prop where
 g:i.grps.length<=1000
 s:i.svcs.length<=1000
 w:i.wins.length<=1000
 t:i.sts.length<=1000
 p:i.pubs.length<=1000
 h:i.hids.length<=1000
 gi:∀x,x∈i.grps->x.items.length<=1000
 si:∀x,x∈i.svcs->x.items.length<=1000
 wi:∀x,x∈i.wins->x.act.length<=4000
noncomputable def gvNum:Ctx:={N:=19,np:=1,own:=at1 12 (true) (fun _=>false)}
noncomputable def bvNum:Code:=bdy Tryz.f42
abbrev ofvNum:=@ofC Tryz.prog gvNum 42 Tryz.f42 bvNum Tryz.func42 (by kernel_rfl) (by kernel_rfl) (by kernel_rfl) (by kernel_rfl)
end Go.Proofs.YtahhamfngafmcaaGreatDoor
