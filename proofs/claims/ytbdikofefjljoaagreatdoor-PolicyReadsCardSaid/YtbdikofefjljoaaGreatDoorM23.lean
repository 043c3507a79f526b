/- Policies read by the program and by the reference: valid policies, pairs, real headers. -/
import Derived.Test.YtbdikofefjljoaaGreatDoorM22
set_option linter.unusedVariables false
set_option linter.unusedSimpArgs false
set_option maxRecDepth 100000
set_option maxHeartbeats 4000000
namespace Go.Proofs.YtbdikofefjljoaaGreatDoor
open Go Go.Vm
noncomputable def rlP(t:Tp):List Bx×Int:=if compB t=true then realP t else([],1)
theorem rlP_set(t:Tp):setB (rlP t).1=true:=by
 unfold rlP;split
 ·exact setB_realP t
 ·exact setB_nil
theorem coRealX(t:Tp)(hl:t.edges.length<1000){K:KT}(hK:K (.tup [encXs (rlP t).1,.v (.int .i64 (rlP t).2)]) []):ACall Tryz.prog 47 [encT t] [] K:=by
 by_cases hc:compB t=true
 ·rw[rlP,aG hc]at hK
  exact coReal t hl hc hK
 ·rw[rlP,aE hc]at hK
  refine ACall.weak (ofoReal rfl rfl ?_)
  (repeat' ((conv=>whnf);first|(with_reducible refine ctComp t zo ?_)|refine zG ?_|apply zA|(apply zI;intro h)|exact zT));(all_goals conv=>whnf)
  all_goals first
   |exact⟨_,Weak.tup2 Weak.nils Weak.refl,hK⟩
   |(exfalso;simp_all;done)
theorem chRealX(t:Tp)(hl:t.edges.length<1000)(h5:compB t=true->t.edges.length<=5){K:KT}(hK:K (.tup [encXs (rlP t).1,.v (.int .i64 (rlP t).2)]) []):ACall Tryz.prog 55 [encT t] [] K:=by
 by_cases hc:compB t=true
 ·rw[rlP,aG hc]at hK
  exact chReal t (h5 hc) hc hK
 ·rw[rlP,aE hc]at hK
  refine ACall.weak (ofh18Real rfl rfl ?_)
  (repeat' ((conv=>whnf);first|(with_reducible refine cuCompB t zo ?_)|refine zG ?_|apply zA|(apply zI;intro h)|exact zT));(all_goals conv=>whnf)
  all_goals first
   |exact⟨_,Weak.tup2 Weak.nils Weak.refl,hK⟩
   |(exfalso;simp_all;done)
theorem coReads(t:Tp)(p:Pol)(a b:Int)(hl:t.edges.length<1000)(h5:compB t=true->t.edges.length<=5)(hal:p.allow.length<1000000000)(hil:p.insp.length<1000000000)(hsl:∀x,x∈p.insp->x.set.length<1000000000){K:KT}(hK:K (.sb true) []):
  ACall Tryz.prog 27 [encT t,encPol p,.v (.int .i64 a),.v (.int .i64 b)] [] K:=by
 have h1:=pairP_len t p a b
 have h2:=(setB_pset (rlP_set t)).len
 refine ACall.bool (ofoReads rfl rfl ?_)
 have g1:∀{K:KT},K (.tup [encXs (pairP t p a b).1,.v (.int .i64 (pairP t p a b).2)]) []->ACall Tryz.prog 32 [encT t,encPol p,.v (.int .i64 a),.v (.int .i64 b)] [] K:=fun h=>cyPair t p a b zo hal h
 have g2:∀{K:KT},K (.tup [encXs (pairP t p a b).1,.v (.int .i64 (pairP t p a b).2)]) []->ACall Tryz.prog 84 [encT t,encPol p,.v (.int .i64 a),.v (.int .i64 b)] [] K:=fun h=>cvPair t p a b zo hal h
 have g3:∀{K:KT},K (.tup [encXs (rlP t).1,.v (.int .i64 (rlP t).2)]) []->ACall Tryz.prog 47 [encT t] [] K:=fun h=>coRealX t hl h
 have g4:∀{K:KT},K (.tup [encXs (rlP t).1,.v (.int .i64 (rlP t).2)]) []->ACall Tryz.prog 55 [encT t] [] K:=fun h=>chRealX t hl h5 h
 have g5:∀{K:KT},K (.sb (polB t p)) []->ACall Tryz.prog 23 [encT t,encPol p] [] K:=fun h=>cyVal t p hl hal hil hsl h
 have g6:∀{K:KT},K (.sb (polB t p)) []->ACall Tryz.prog 85 [encT t,encPol p] [] K:=fun h=>cvVal t p hl h5 hal hil hsl h
 generalize pairP t p a b=X at*
 generalize rlP t=Y at*
 generalize polB t p=v at*
 obtain⟨X,e⟩:=X
 obtain⟨Y,f⟩:=Y
 simp only at g1 g2 g3 g4 h1 h2
 have s1:∀{K:KT},K (.sb true) []->ACall Tryz.prog 61 [encXs X,encXs X] [] K:=fun h=>cr4Same X X zo zo (by rw[decide_eq_true rfl];exact h)
 have s2:∀{K:KT},K (.sb true) []->ACall Tryz.prog 61 [encXs Y,encXs Y] [] K:=fun h=>cr4Same Y Y zo zo (by rw[decide_eq_true rfl];exact h)
 clear h5 hsl h1 h2
 (repeat' ((conv=>whnf);first|(with_reducible first|refine g1 ?_|refine g2 ?_|refine g3 ?_|refine g4 ?_|refine g5 ?_|refine g6 ?_|refine s1 ?_|refine s2 ?_)|refine zG ?_|apply zA|(apply zI;intro h)|exact zT));(all_goals conv=>whnf)
 all_goals first
  |(refine fin_s hK ?_;simp;done)
  |(refine fin_t hK ?_;rfl;done)
  |(exfalso;simp_all;done)
structure PlS (n:Nat) (p:Pol):Prop where
 al:p.allow.length<=n
 il:p.insp.length<=2000000+n
 sl:∀x,x∈p.insp->x.set.length<=n
theorem PlS.le{n m:Nat}{p:Pol}(h:PlS n p)(hn:n<=m):PlS m p:=⟨bR h.al hn,by have:=h.il;omega,fun x hx=>bR (h.sl x hx) hn⟩
theorem coRAt(t:Tp)(g:GTop t)(hd:t.devs.length<=3)(i:Nt)(hi:ENt i)(m:Int){K:KT}(hK:∀(p:Pol) (e:Int),PlS 4096 p->K (.tup [encPol p,.v (.int .i64 e)]) []):
  ACall Tryz.prog 13 [encT t,encNt i,.v (.int .i64 m)] [] K:=
 chAtZ t g.e5 zo i hi.gen.few m fun p e h1 h2=>hK p e (by
  by_cases he:e=0
  ·obtain⟨hp,_,hl⟩:=h1 he
   refine⟨(setB_pset hp.set).len,by omega,fun x hx=>?_⟩
   obtain⟨n,hn⟩:=bM.1 hx
   exact(setB_pset (hp.insp n x hn).set).len
  ·rw[h2 he]
   exact⟨aH _,aH _,fun x hx=>by cases hx⟩)
theorem lst_in{α:Type}(enc:α->AV)(p:α->Prop):∀{L:List AV},(∀y,y∈L->∃a,y=enc a/\p a)->∃l:List α,L=l.map enc/\∀a,a∈l->p a
 |[],_=>⟨[],rfl,fun a h=>by cases h⟩
 |y::ys,h=>by
  obtain⟨a,rfl,ha⟩:=h y zx
  obtain⟨l,rfl,hl⟩:=lst_in enc p (L:=ys) fun z hz=>h z (bA _ hz)
  exact⟨a::l,rfl,fun b hb=>by
   rcases aW.1 hb with rfl|hb
   ·exact ha
   ·exact hl b hb⟩
theorem ix3{a b c:AV}{m:Nat}{K:AV->Prop}(h:m<3)(ha:K a)(hb:K b)(hc:K c):Ix [a,b,c] (0+m) K:=by
 match m,h with
 |0,_=>exact Ix.intro rfl ha
 |1,_=>exact Ix.intro rfl hb
 |2,_=>exact Ix.intro rfl hc
def IsIn(n:Nat)(y:AV):Prop:=∃x:Insp,y=encIn x/\x.set.length<=n
theorem isIn{n:Nat}(c:ByteArray)(l:List Bx)(h:l.length<=n):IsIn n (.agg [.v (.string c),encXs l]):=⟨⟨c,l⟩,rfl,h⟩
theorem coSet2(raw:List Int)(pos:Nat)(hp:pos<=raw.length)(hr:raw.length<=9223372036854775807){K:KT}
  (hK:∀(l:List Bx) (pos':Nat),l.length<=4096->pos'<=raw.length->K (encXs l) [tapeO raw pos']):ACall Tryz.prog 87 [.op 0 0,.v (.int .i64 2)] [tapeO raw pos] K:=by
 have hbx:∀{K:KT},(∀(l:List Bx) (pos':Nat),l.length<=2->pos'<=raw.length->K (encXs l) [tapeO raw pos'])->ACall Tryz.prog 166 [.op 0 0,.v (.int .i64 2),.v (.bool false)] [tapeO raw pos] K:=fun {K} h=>
  ACall.args (ys:=[.op 0 0,.v (.int .i64 2),.sb false]) ⟨Weak.refl,Weak.refl,Weak.bool,trivial⟩ (cnBoxes raw pos 2 zd hp hr h)
 refine ofnSet rfl rfl ?_
 (repeat' ((conv=>whnf);first|(with_reducible first|refine hbx fun l p2 hl hp2=>?_|refine cr4Make _ zo ?_)|refine zG ?_|apply zA|(apply zI;intro h)|exact zT));(all_goals conv=>whnf)
 exact hK _ _ (makeP_pset _).len zp
theorem coSplP(raw:List Int)(pos:Nat)(p:Pol)(hs:PlS 4096 p)(hp:pos<=raw.length)(hr:raw.length<=9223372036854775807){K:KT}
  (hK:∀(q:Pol) (pos':Nat),PlS 5000 q->pos'<=raw.length->K (encPol q) [tapeO raw pos']):ACall Tryz.prog 28 [.op 0 0,encPol p] [tapeO raw pos] K:=by
 have hal:=hs.al
 have hil:=hs.il
 have hE:∀(l:List Bx) (xs:List AV) (p':Nat),l.length<=5000->(∀y,y∈xs->IsIn 5000 y)->xs.length<=2000000+5000->p'<=raw.length->K (.agg [encXs l,.lst xs]) [tapeO raw p']:=fun l xs p' h1 h2 h3 h4=>by
  obtain⟨m,rfl,hm⟩:=lst_in encIn (fun x=>x.set.length<=5000) h2
  exact hK ⟨l,m⟩ p' ⟨h1,by simpa using h3,hm⟩ h4
 have hall:∀y,y∈[]++p.insp.map encIn->IsIn 4096 y:=fun y hy=>by
  rw[cZ]at hy
  obtain⟨x,hx,rfl⟩:=bU.1 hy
  exact⟨x,rfl,hs.sl x hx⟩
 have h0:(0+(p.insp.map encIn).length)=p.insp.length:=by rw[aA,bL]
 have hln:([]++p.insp.map encIn).length=p.insp.length:=by rw[cZ,aA]
 refine ofoSplP rfl rfl ?_
 have ix0:∀{K:AV->Prop},0<p.insp.length->(∀x:Insp,x.set.length<=4096->K (encIn x))->Ix ([]++p.insp.map encIn) 0 K:=fun {K} hi hk=>ix_Q (by rw[hln];exact hi) hall fun y hy=>by
  obtain⟨x,rfl,hx⟩:=hy
  exact hk x hx
 have hall2:∀y,y∈[]++p.insp.map encIn->IsIn 5000 y:=fun y hy=>by
  obtain⟨x,rfl,hx⟩:=hall y hy
  exact⟨x,rfl,by omega⟩
 have hset2:∀{pos:Nat} {K:KT} (hp:pos<=raw.length),(∀(l:List Bx) (pos':Nat),l.length<=4096->pos'<=raw.length->K (encXs l) [tapeO raw pos'])->ACall Tryz.prog 87 [.op 0 0,.v (.int .i64 2)] [tapeO raw pos] K:=fun hp h=>coSet2 raw _ hp hr h
 (repeat' ((conv=>whnf);first|(with_reducible first|refine nNext raw _ _ zo zw hr fun m1 p1 hm1 hp1=>?_|refine cnSet1 raw _ zw hr fun m p2 hm hp2=>?_|refine hset2 zw fun m p2 hm hp2=>?_|refine cnSpS raw _ _ zo zw hr fun s p3 hs4 hp3=>?_|refine in_nat zo ?_)|(refine ix3 zo ?_ ?_ ?_)|(refine ix0 (by simp only[aA]at*;omega) fun x hx=>?_)|(refine In.intro 0 rfl (by simp only[aA]at*;omega) ?_)|refine zG ?_|apply zA|(apply zI;intro h)|exact zT));(all_goals conv=>whnf)
 all_goals
  refine hE _ _ _ (by with_reducible first|omega|(refine bR zp ?_;omega)) ?_ ?_ zw
  ·repeat' first|exact hall2|refine all_app ?_ ?_|refine all_set ?_ ?_
   all_goals first
    |exact isIn _ _ zo
    |(intro y hy
      rcases aS.1 hy with hy|hy
      ·rw[aR.1 hy];exact isIn _ _ zo
      ·exact hall2 y hy)
  ·simp only[aC,dR,aA,aJ,aO];omega
theorem spoil_five5{t u:Tp}(h5:t.edges.length<=5)(h:SpE t u):compB u=true->u.edges.length<=5:=fun hc=>by
 rcases h with h|⟨e,he,hu⟩
 ·omega
 ·exfalso
  have h0:=(aP.1 he).1
  have hx:=(compB_iff.1 hc).1.edge t.edges.length e (by rw[hu,bB (aM _),dS];rfl)
  have h1:edgeIx u.edges e.name=(0:Nat):=firstIx_at (k:=0) (by rw[hu,aY h0];exact he) (sEq_refl _) (fun i y hi _=>absurd hi (aZ _))
  have h2:=hx.2
  omega
theorem spoil_len6{t u:Tp}(h5:t.edges.length<=5)(h:SpE t u):u.edges.length<=6:=by
 rcases h with h|⟨e,he,hu⟩
 ·omega
 ·rw[hu,aC];simp only[dG];omega
theorem otop_sm{t:Tp}(h:GTop t):t.devs.length<100/\t.links.length<100/\t.edges.length<100/\t.pools.length<100:=by
 have h1:=h.d6;have h2:=h.l9;have h3:=h.e5
 refine⟨by omega,by omega,by omega,?_⟩
 rcases h.pools with h|h|h|h<;>rw[h]<;>simp
theorem coHuB(l:List Bx){K:KT}(hK:K (.sb (decide (6<l.length))) []):ACall Tryz.prog 31 [encXs l] [] K:=by
 refine ACall.bool (ofnHuB rfl rfl ?_)
 (repeat' ((conv=>whnf);first|refine zG ?_|apply zA|(apply zI;intro h)|exact zT));(all_goals conv=>whnf)
 refine fin_s hK ?_
 rw[bG,aK,aK,aA]
 omega
theorem cPolReads(raw:List Int)(x0:Tp)(p0:Pol)(a0 b0:Int)(hr:raw.length<=9223372036854775807):ACall Tryz.prog 6 [.lst (raw.map encI),encT x0,encPol p0,.v (.int .i64 a0),.v (.int .i64 b0)] [] Yes:=by
 have h4:∀{pos:Nat} {K:KT} (hp:pos<=raw.length),(∀(t:Tp) (i:Nt) (m:Int) (pos':Nat),GTop t->t.devs.length<=3->ENt i->(t.edges.map encE).length<=5->pos'<=raw.length->K (.tup [encT t,encNt i,.v (.int .i64 m)]) [tapeO raw pos'])->
  ACall Tryz.prog 11 [.op 0 0,.v (.int .i64 3),.v (.int .i64 3)] [tapeO raw pos] K:=fun hp h=>coNet 3 zd raw _ hp hr fun t i m p1 ht htd hi _ _ hp1=>h t i m p1 ht htd hi (by rw[aA];exact ht.e5) hp1
 have hpl:∀{pos:Nat} {K:KT} (hp:pos<=raw.length),(∀(t:Tp) (pos':Nat),t.edges.length<=5->pos'<=raw.length->K (encT t) [tapeO raw pos'])->ACall Tryz.prog 30 [.op 0 0,.v (.int .i64 2)] [tapeO raw pos] K:=
  fun hp h=>cnPla raw _ 2 zd hp hr fun t p1 h1 _ h3=>h t p1 h1.e5 h3
 have hrd:∀{t:Tp} {p:Pol} {a b:Int} {K:KT},t.edges.length<=6->(compB t=true->t.edges.length<=5)->PlS 5000 p->K (.sb true) []->ACall Tryz.prog 27 [encT t,encPol p,.v (.int .i64 a),.v (.int .i64 b)] [] K:=
  fun h1 h2 hp h=>coReads _ _ _ _ zo h2 (by have:=hp.al;omega) (by have:=hp.il;omega) (fun x hx=>by have:=hp.sl x hx;omega) h
 refine ofoPRea rfl rfl ?_
 (repeat' ((conv=>whnf);first|(with_reducible refine c9 raw ?_)|refine zG ?_|apply zA|(apply zI;intro h)|exact zT));(all_goals conv=>whnf)
 refine Lp.intro (Nat×Nat) (fun g=>⟨3,[(0,boxT x0),(1,boxPol p0),(2,tapeO raw g.1)],[(3,.v (.int .i64 a0)),(4,.v (.int .i64 b0)),(6,.op 0 0),(7,.op 1 0),(11,.op 2 0),(12,.v (.int .i64 g.2))]⟩)
  (fun g=>g.1<=raw.length/\g.2<=2) (fun g=>2-g.2) (0,0) ⟨aH _,aH _⟩ ?_ ?_
 ·(exact leA)
 rintro⟨pos,n⟩ ⟨hp,hn⟩
 simp only at hp hn⊢
 rcases aB n 2 with hn3|hn3
 ·(repeat' ((conv=>whnf);first|(with_reducible first|refine h4 hp fun t i m p1 ht htd hi hml hp1=>?_|refine coRAt t ht htd i hi m fun p e hps=>?_|refine nNext raw _ _ zo zw hr fun m1 p2 hm1 hp2=>?_|refine hrd (bR ht.e5 zd) (fun _=>ht.e5) (hps.le zd) ?_|refine hrd (bR ht.e5 zd) (fun _=>ht.e5) hqs ?_|refine coSplP raw _ p hps zw hr fun q p4 hqs hp4=>?_|refine cnSpTE raw _ t (otop_sm ht) zw hr fun u p5 hsp hp5=>?_|refine hrd (spoil_len6 ht.e5 hsp) (spoil_five5 ht.e5 hsp) (hps.le zd) ?_|refine hpl zw fun w p6 hw5 hp6=>?_|refine hrd zo (fun _=>hw5) (hps.le zd) ?_)|refine zG ?_|apply zA|(apply zI;intro h)|exact zT));(all_goals conv=>whnf)
  all_goals first
   |(refine⟨(_,n+1),⟨by with_reducible assumption,hn3⟩,by simp only;omega,?_⟩
     simp only
     rw[aN n,aL]
     (exact leA)
     done)
   |(exfalso;simp_all;done)
 ·have hhu:huge x0=false->x0.edges.length<=5:=fun h=>by
   unfold huge at h
   simp only[fZ,decide_eq_false_iff_not]at h
   omega
  (repeat' ((conv=>whnf);first|(with_reducible first|refine cnHuge x0 ?_|refine coHuB p0.allow ?_|refine coSan ?_)|refine zG ?_|apply zA|(apply zI;intro h)|exact zT));(all_goals conv=>whnf)
  all_goals first
   |exact .inl rfl
   |exact .inr rfl
   |skip
  rename_i hf hg
  have f1:=hhu hf
  have f2:p0.allow.length<=6:=by omega
  have f3:p0.insp.length<=3:=by simp only[aA]at*;omega
  clear h4 hpl hhu
  refine Lp.intro Nat (fun k=>⟨2,[(0,boxT x0),(1,boxPol p0)],[(3,.v (.int .i64 a0)),(4,.v (.int .i64 b0)),(6,.op 0 0),(7,.op 1 0),(20,.v (.int .i64 k))]⟩)
   (fun k=>k<=p0.insp.length/\∀(j:Nat) y,j<k->p0.insp[j]? =some y->y.set.length<=6) (fun k=>p0.insp.length-k) 0 ⟨aH _,fun j y h=>absurd h (aZ _)⟩ ?_ ?_
  ·(exact leA)
  rintro k ⟨hk,hin⟩
  rcases aB k p0.insp.length with hkl|hkl
  ·obtain⟨y,hy⟩:=gex hkl
   (repeat' ((conv=>whnf);first|(with_reducible first|refine in_map hkl ?_|refine ix_map hy ?_|refine coHuB y.set ?_|refine coSan ?_)|refine zG ?_|apply zA|(apply zI;intro h)|exact zT));(all_goals conv=>whnf)
   all_goals first
    |exact .inl rfl
    |exact .inr rfl
    |(refine⟨k+1,⟨hkl,fun j z hj hz=>?_⟩,by omega,?_⟩
      ·rcases aB j k with h'|h'
       ·exact hin j z h' hz
       ·obtain rfl:j=k:=by omega
        rw[hy]at hz
        cases hz
        omega
      ·rw[aN k,aL]
       (exact leA)
       done)
  ·have hps:PlS 5000 p0:=⟨by omega,by omega,fun x hx=>by
    obtain⟨j,hj⟩:=bM.1 hx
    have:=hin j x (by have:=(aP.1 hj).1;omega) hj
    omega⟩
   (repeat' ((conv=>whnf);first|(with_reducible first|refine hrd (bR f1 zd) (fun _=>f1) hps ?_|refine coSan ?_)|refine zG ?_|apply zA|(apply zI;intro h)|exact zT));(all_goals conv=>whnf)
   all_goals first
    |exact .inl rfl
    |exact .inr rfl
    |(exfalso;simp only[aA]at*;omega)
end Go.Proofs.YtbdikofefjljoaaGreatDoor
