/- Which lists of placed pairs are valid, and their costs, are those of the reference: the statement PlacementCostsCardSaid holds, for every input, without a condition of ours (its card ties the package-level variables to the program's text). -/
import Derived.Test.YtokmdghjgegclaaGreatDoorProg
import Derived.Test.YtokmdghjgegclaaGreatDoorM23
set_option linter.unusedVariables false
set_option linter.unusedSimpArgs false
set_option maxRecDepth 100000
set_option maxHeartbeats 4000000
namespace Go.Proofs.YtokmdghjgegclaaGreatDoor
open Go Go.Vm
theorem cnSet1(raw:List Int)(pos:Nat)(hp:pos<=raw.length)(hr:raw.length<=9223372036854775807){K:KT}
  (hK:∀(l:List Bx) (pos':Nat),l.length<=4096->pos'<=raw.length->K (encXs l) [tapeO raw pos']):ACall Tryz.prog 48 [.op 0 0,.v (.int .i64 1)] [tapeO raw pos] K:=by
 have hbx:∀{K:KT},(∀(l:List Bx) (pos':Nat),l.length<=1->pos'<=raw.length->K (encXs l) [tapeO raw pos'])->ACall Tryz.prog 40 [.op 0 0,.v (.int .i64 1),.v (.bool false)] [tapeO raw pos] K:=fun {K} h=>
  ACall.args (ys:=[.op 0 0,.v (.int .i64 1),.sb false]) ⟨Weak.refl,Weak.refl,Weak.bool,trivial⟩ (cnBoxes raw pos 1 (by decide) hp hr h)
 refine ofnSet rfl rfl ?_
 (repeat' ((conv=>whnf);first|(with_reducible first|refine hbx fun l p2 hl hp2=>?_|refine cr4Make _ (by omega) ?_)|refine zG ?_|apply zA|(apply zI;intro h)|exact zT));(all_goals conv=>whnf)
 exact hK _ _ (makeP_pset _).len (by assumption)
theorem ix_Q{Q:AV->Prop}{xs:List AV}{i:Nat}{K:AV->Prop}(hi:i<xs.length)(hQ:∀y,y∈xs->Q y)(hk:∀y,Q y->K y):Ix xs i K:=
 Ix.intro (List.getElem?_eq_getElem hi) (hk _ (hQ _ (List.getElem_mem hi)))
def IsX(y:AV):Prop:=∃b:Bx,y=encX b
theorem isX(b:Bx):IsX (encX b):=⟨b,rfl⟩
theorem ix_X{xs:List AV}{i:Nat}{K:AV->Prop}(hi:i<xs.length)(hQ:∀y,y∈xs->IsX y)(hk:∀b:Bx,K (encX b)):Ix xs i K:=
 ix_Q hi hQ fun y ⟨b,hb⟩=>hb▸hk b
theorem cnSpS(raw:List Int)(pos:Nat)(l:List Bx)(hl:l.length<100000)(hp:pos<=raw.length)(hr:raw.length<=9223372036854775807){K:KT}
  (hK:∀(m:List Bx) (pos':Nat),m.length<=l.length+1->pos'<=raw.length->K (encXs m) [tapeO raw pos']):ACall Tryz.prog 49 [.op 0 0,encXs l] [tapeO raw pos] K:=by
 have hE:∀(xs:List AV) (p':Nat),(∀y,y∈xs->IsX y)->xs.length<=l.length+1->p'<=raw.length->K (.lst xs) [tapeO raw p']:=fun xs p' h1 h2 h3=>by
  obtain⟨m,rfl⟩:=list_enc encX h1
  exact hK m p' (by rwa[List.length_map]at h2) h3
 have h0:(0+(l.map encX).length)=l.length:=by rw[List.length_map,Nat.zero_add]
 have hall:∀y,y∈[]++l.map encX->IsX y:=fun y hy=>by
  rw[List.nil_append]at hy
  obtain⟨b,_,rfl⟩:=List.mem_map.1 hy
  exact isX b
 have hal:([]++l.map encX).length=l.length:=by rw[List.nil_append,List.length_map]
 refine ofnSpS rfl rfl ?_
 (repeat' ((conv=>whnf);first|(with_reducible first|refine cnBox raw _ (by with_reducible assumption) hr fun b p2 hp2=>?_|refine cnSpB raw _ _ (by with_reducible assumption) hr fun b p2 hp2=>?_)|refine zG ?_|apply zA|(apply zI;intro h)|exact zT));(all_goals conv=>whnf)
 ·exact hE _ _ (all_app hall (isX b)) (by rw[List.length_append,hal];simp) (by assumption)
 rw[h0]at h⊢
 generalize []++l.map encX=xs at hall hal⊢
 have hset:∀(i:Nat) (b:Bx),∀y,y∈xs.set i (encX b)->IsX y:=fun i b=>all_set hall (isX b)
 (repeat' ((conv=>whnf);first|(refine nNext raw _ l.length (by omega) (by with_reducible assumption) hr fun i p1 hi hp1=>?_)|(refine nN5 raw _ (by assumption) hr (fun p1 hp1=>?_) (fun p1 hp1=>?_) (fun p1 hp1=>?_) (fun p1 hp1=>?_) fun p1 hp1=>?_)|(with_reducible first|refine in_nat (by omega) ?_|refine in_nat (by simp only[List.length_set];omega) ?_)|(refine in_c (by decide) ?_)|(refine In.intro 0 rfl (by omega) ?_)|(with_reducible first|refine cnBox raw _ (by with_reducible assumption) hr fun b p2 hp2=>?_|refine cnSpB raw _ _ (by with_reducible assumption) hr fun b p2 hp2=>?_)|(refine ix_X (by omega) hall fun r=>?_)|(refine ix_X (by simp only[List.length_set];omega) (hset _ _) fun r=>?_)|(with_reducible refine wr_u32_any fun e he0 he1=>?_)|refine zG ?_|apply zA|(apply zI;intro h)|exact zT));(all_goals conv=>whnf)
 all_goals
  refine hE _ _ ?_ ?_ (by with_reducible assumption)
  ·repeat' first|exact hall|refine all_app ?_ ?_|refine all_set ?_ ?_
   all_goals first
    |exact isX _
    |exact isX ⟨⟨e,_,he0,he1,r.r0.h0,r.r0.h1⟩,r.r1,r.r2,r.r3,r.r4⟩
    |exact isX ⟨r.r0,⟨e,_,he0,he1,r.r1.h0,r.r1.h1⟩,r.r2,r.r3,r.r4⟩
    |exact isX ⟨r.r0,r.r1,⟨e,_,he0,he1,r.r2.h0,r.r2.h1⟩,r.r3,r.r4⟩
    |exact isX ⟨r.r0,r.r1,r.r2,⟨e,_,he0,he1,r.r3.h0,r.r3.h1⟩,r.r4⟩
    |exact isX ⟨r.r0,r.r1,r.r2,r.r3,⟨e,_,he0,he1,r.r4.h0,r.r4.h1⟩⟩
  ·simp only[List.length_append,List.length_set,hal,List.length_cons,List.length_nil];omega
theorem cmVal(t:Tp)(l:List Pl)(hl:t.edges.length<1000)(hll:l.length<1000000000)(hsl:∀x,x∈l->x.allow.length<1000000000){K:KT}(hK:K (.sb (plsB t l)) []):ACall Tryz.prog 50 [encT t,.lst (l.map encPl)] [] K:=by
 refine ACall.bool (ofmVal rfl rfl ?_)
 by_cases hc:compB t=false
 case pos=>
  have hf:plsB t l=false:=plsB_false fun hp=>by rw[hp.comp]at hc;cases hc
  (repeat' ((conv=>whnf);first|(with_reducible refine cuCompB t (by omega) ?_)|refine zG ?_|apply zA|(apply zI;intro h)|exact zT));(all_goals conv=>whnf)
  all_goals first
   |exact fin_f hK hf
   |(exfalso;simp_all;done)
 have hct:compB t=true:=by simpa using hc
 (repeat' ((conv=>whnf);first|(with_reducible refine cuCompB t (by omega) ?_)|refine zG ?_|apply zA|(apply zI;intro h)|exact zT));(all_goals conv=>whnf)
 all_goals first
  |(exfalso;simp_all;done)
  |skip
 refine Lp.intro Nat (fun n=>⟨1,[(0,boxT t)],[(1,.lst (l.map encPl)),(2,.op 0 0),(5,.v (.int .i64 n))]⟩) (fun n=>n<=l.length/\∀(i:Nat) x,i<n->l[i]? =some x->PlOk1 t l i x) (fun n=>l.length-n) 0 ⟨Nat.zero_le _,fun i x h=>absurd h (Nat.not_lt_zero _)⟩ ?_ ?_
 ·(exact leA)
 intro n ⟨hn,hinv⟩
 rcases Nat.lt_or_ge n l.length with hnl|hnl
 ·obtain⟨x,hx⟩:=gex hnl
  have hxl:=hsl x (List.mem_of_getElem? hx)
  have hbx:¬PlOk1 t l n x->plsB t l=false:=fun hb=>plsB_false fun hp=>hb (hp.all _ _ hx)
  have hin:(0<=x.a/\x.a<t.edges.length/\0<=x.b/\x.b<t.edges.length)\/¬(0<=x.a/\x.a<t.edges.length/\0<=x.b/\x.b<t.edges.length):=Decidable.em _
  rcases hin with hin|hin
  case inr=>
   (repeat' ((conv=>whnf);first|(with_reducible first|refine in_map hnl ?_|refine ix_map hx ?_)|refine zG ?_|apply zA|(apply zI;intro h)|exact zT));(all_goals conv=>whnf)
   all_goals first
    |exact fin_f hK (hbx fun ho=>hin ⟨ho.a0,ho.a1,ho.b0,ho.b1⟩)
    |(exfalso;simp only[List.length_map]at*;omega)
  obtain⟨a0,a1,b0,b1⟩:=hin
  have hW:∀{K:KT},K (encX (whoT t x.a x.b)) []->ACall Tryz.prog 62 [encT t,.v (.int .i64 x.a),.v (.int .i64 x.b)] [] K:=fun {K} h=>by
   obtain⟨i,hi⟩:=Int.eq_ofNat_of_zero_le a0
   obtain⟨j,hj⟩:=Int.eq_ofNat_of_zero_le b0
   rw[hi,hj]at h⊢
   obtain⟨ea,hea⟩:∃e,t.edges[i]? =some e:=⟨_,List.getElem?_eq_getElem (by omega)⟩
   obtain⟨eb,heb⟩:∃e,t.edges[j]? =some e:=⟨_,List.getElem?_eq_getElem (by omega)⟩
   simp only[whoT,Int.toNat_natCast,hea,heb]at h
   exact cvWho t i j ea eb hea heb h
  have hsub:setB x.allow=true->∀{K:KT},K (.sb (subB x.allow [whoT t x.a x.b])) []->ACall Tryz.prog 93 [encXs x.allow,.lst [encX (whoT t x.a x.b)]] [] K:=fun hs {K} h=>by
   have hps:=setB_pset hs
   have hva:vldB x.allow=x.allow:=List.filter_eq_self.2 fun y hy=>by simpa using okL_ok (okL_set hs) hy
   exact cr4Subs x.allow [whoT t x.a x.b] (by have:=hps.len;simp only[List.length_singleton];omega) (by rw[hva];exact room1 _ hps (Nat.le_trans (vldB_len _) (by simp))) h
  have hemp:∀{l:List Bx},¬(((l.map encX).length:Nat):Int)=0->l≠[]:=fun h e=>h (by rw[e];rfl)
  have hprev:n=0\/∃k y,n=k+1/\l[k]? =some y:=by
   cases n with
   |zero=>exact .inl rfl
   |succ k=>exact .inr ⟨k,_,rfl,List.getElem?_eq_getElem (by omega)⟩
  have hl2:(t.edges.map encE).length=t.edges.length:=List.length_map ..
  rcases hprev with rfl|⟨k,y,rfl,hy⟩
  ·(repeat' ((conv=>whnf);first|(with_reducible first|refine in_map hnl ?_|refine in_nat hnl ?_|refine ix_map hx ?_|refine cr4Vald x.allow hxl ?_|refine hW ?_|refine hsub (by with_reducible assumption) ?_)|refine zG ?_|apply zA|(apply zI;intro h)|exact zT));(all_goals conv=>whnf)
   all_goals first
    |(exfalso;omega)
    |exact fin_f hK (hbx fun ho=>by first
      |exact ho.ne (by assumption)
      |exact ho.al (List.length_eq_zero_iff.1 (by rw[List.length_map]at h;omega))
      |exact absurd h (by rw[ho.set];decide)
      |exact absurd h (by rw[ho.sub];decide))
    |(refine⟨0+1,⟨hnl,all_succ hx ⟨a0,a1,b0,b1,by assumption,hemp (by assumption),by assumption,fun k y h=>by omega,by assumption⟩ hinv⟩,by omega,?_⟩
      (exact leA)
      done)
    |trace_state
  ·have hkl:k<l.length:=by omega
   (repeat' ((conv=>whnf);first|(with_reducible first|refine in_map hnl ?_|refine in_nat hnl ?_|refine In.intro k (by omega) (by rw[List.length_map];exact hkl) ?_|refine ix_map hx ?_|refine ix_map hy ?_|refine cr4Vald x.allow hxl ?_|refine hW ?_|refine hsub (by with_reducible assumption) ?_)|refine zG ?_|apply zA|(apply zI;intro h)|exact zT));(all_goals conv=>whnf)
   all_goals first
    |(exfalso;omega)
    |exact fin_f hK (hbx fun ho=>by first
      |exact ho.ne (by assumption)
      |exact ho.al (List.length_eq_zero_iff.1 (by rw[List.length_map]at h;omega))
      |exact absurd h (by rw[ho.set];decide)
      |exact absurd h (by rw[ho.sub];decide)
      |(have:=ho.ord k y rfl hy;omega))
    |(refine⟨k+1+1,⟨hnl,all_succ hx ⟨a0,a1,b0,b1,by assumption,hemp (by assumption),by assumption,fun k' y' h1 h2=>?_,by assumption⟩ hinv⟩,by omega,?_⟩
      ·obtain rfl:k=k':=by omega
       rw[hy]at h2;cases h2
       omega
      ·(exact leA)
       done)
    |trace_state
 ·(repeat' ((conv=>whnf);first|refine zG ?_|apply zA|(apply zI;intro h)|exact zT));(all_goals conv=>whnf)
  exact fin_t hK (plsB_true ⟨hct,before_all hnl hinv⟩)
theorem cmCosts(t:Tp)(l:List Pl)(hl:t.edges.length<1000)(hll:l.length<400000)(hsl:∀x,x∈l->x.allow.length<1000000000){K:KT}(hK:K (.lst ((costsP t l).map cI)) []):ACall Tryz.prog 52 [encT t,.lst (l.map encPl)] [] K:=by
 refine ACall.weak (ofmCosts rfl rfl ?_)
 unfold costsP at hK
 by_cases hp:plsB t l=true
 case neg=>
  rw[if_neg hp]at hK
  (repeat' ((conv=>whnf);first|(with_reducible refine cmVal t l hl (by omega) hsl ?_)|refine zG ?_|apply zA|(apply zI;intro h)|exact zT));(all_goals conv=>whnf)
  all_goals first
   |exact⟨_,Weak.nils,hK⟩
   |(exfalso;simp_all;done)
 rw[if_pos hp]at hK
 have hok:=plsB_iff.1 hp
 obtain⟨hdi,hnd,hne,hnd1⟩:=comp_dev hok.comp
 have hin:∀x,x∈l->PlIn t x:=fun x hx=>by
  obtain⟨i,hi⟩:=List.mem_iff_getElem?.1 hx
  exact(hok.all i x hi).inn
 (repeat' ((conv=>whnf);first|(with_reducible first|refine cmVal t l hl (by omega) hsl ?_|refine In.intro t.devs.length (by rw[List.length_map]) (by omega) ?_|refine Ob.intro ⟨Nat.le_refl _,Nat.le_trans (Nat.mul_le_mul_left _ hnd) (Nat.le_of_ble_eq_true (by kernel_rfl))⟩ ?_)|refine zG ?_|apply zA|(apply zI;intro h)|exact zT));(all_goals conv=>whnf)
 all_goals first
  |(exfalso;simp_all;done)
  |skip
 refine Sl.intro (ys:=(zeros t.devs.length).map cI) (by rw[List.length_replicate];omega) (by rw[List.drop_zero,List.take_of_length_le (by rw[List.length_replicate];exact Nat.le_refl _),zeros,List.map_replicate];rfl) ?_
 (repeat' ((conv=>whnf);first|refine zG ?_|apply zA|(apply zI;intro h)|exact zT));(all_goals conv=>whnf)
 refine Lp.intro (Nat×List Nat) (fun g=>⟨1,[(0,boxT t)],[(1,.lst (l.map encPl)),(2,.op 0 0),(5,.lst (g.2.map cI)),(6,.v (.int .i64 g.1))]⟩) (fun g=>g.1<=l.length/\g.2.length=t.devs.length/\g.2=costsGo t (l.take g.1) (zeros t.devs.length)/\Small g.1 g.2) (fun g=>l.length-g.1) (0,zeros t.devs.length) ⟨Nat.zero_le _,by simp[zeros],rfl,small_zero _⟩ ?_ ?_
 ·(exact leA)
 rintro⟨k,s⟩ ⟨hk,hsl1,hsg,hsm⟩
 simp only at hk hsl1 hsg hsm⊢
 rcases Nat.lt_or_ge k l.length with hkl|hkl
 ·obtain⟨x,hx⟩:=gex hkl
  have hxi:=hin x (List.mem_of_getElem? hx)
  have hc1:=fun {K} h=>@cmCost t s x hxi hdi hsl1 (by omega) k (by omega) hsm K h
  have hnx:=costsGo_succ (t:=t) (s:=zeros t.devs.length) hx
  rw[<-hsg]at hnx
  have hsm1:=costP_small (t:=t) hxi.len hsm
  (repeat' ((conv=>whnf);first|(with_reducible first|refine in_map hkl ?_|refine in_nat hkl ?_|refine ix_map hx ?_)|(refine hc1 ?_)|refine zG ?_|apply zA|(apply zI;intro h)|exact zT));(all_goals conv=>whnf)
  refine⟨(k+1,costP t s x),⟨hkl,by rw[costP_len];exact hsl1,hnx.symm,hsm1⟩,by simp only;omega,?_⟩
  simp only
  rw[Int.natCast_add,Int.natCast_one]
  (exact leA)
 ·have hke:k=l.length:=by omega
  rw[hke,List.take_length]at hsg
  rw[<-hsg]at hK
  (repeat' ((conv=>whnf);first|refine zG ?_|apply zA|(apply zI;intro h)|exact zT));(all_goals conv=>whnf)
  exact⟨_,Weak.refl,hK⟩
def IsPn(B:Nat)(y:AV):Prop:=∃x:Pl,x.allow.length<=B/\(y=encPl x\/(x.allow=[]/\y=.agg [.v (.int .i64 x.a),.v (.int .i64 x.b),.sb x.eg,.nils]))
theorem isPn{B:Nat}(x:Pl)(h:x.allow.length<=B):IsPn B (encPl x):=⟨x,h,.inl rfl⟩
theorem isPn0{B:Nat}(a b:Int)(eg:Bool):IsPn B (.agg [.v (.int .i64 a),.v (.int .i64 b),.sb eg,.nils]):=⟨⟨a,b,eg,[]⟩,Nat.zero_le _,.inr ⟨rfl,rfl⟩⟩
theorem isPn1{B:Nat}(a b:Int)(eg:Bool)(l:List Bx)(h:l.length<=B):IsPn B (.agg [.v (.int .i64 a),.v (.int .i64 b),.sb eg,encXs l]):=isPn ⟨a,b,eg,l⟩ h
theorem Weak.lst{xs ys:List AV}(hl:xs.length=ys.length)(h:∀(i:Nat) x y,xs[i]? =some x->ys[i]? =some y->x.cells.length=y.cells.length/\∀(j:Nat) c d,x.cells[j]? =some c->y.cells[j]? =some d->Weak c d):Weak (.lst xs) (.lst ys):=fun E w ι v hv=>by
 cases hv with
 |lnil a c=>
  rw[List.length_eq_zero_iff.1 hl.symm];exact .lnil a c
 |lst _ b off n cap sz hE hb hn hcap hz g hg hr=>
  have hx:∀(i:Nat) y,ys[i]? =some y->∃x,xs[i]? =some x:=fun i y hy=>⟨_,List.getElem?_eq_getElem (by rw[hl];exact(List.getElem?_eq_some_iff.1 hy).1)⟩
  have hc:∀(i:Nat) x y,xs[i]? =some x->ys[i]? =some y->∀(j:Nat) d,y.cells[j]? =some d->∃c,x.cells[j]? =some c/\Weak c d:=fun i x y h1 h2 j d h3=>by
   obtain⟨k1,k2⟩:=h i x y h1 h2
   obtain⟨c,hc⟩:∃c,x.cells[j]? =some c:=⟨_,List.getElem?_eq_getElem (by rw[k1];exact(List.getElem?_eq_some_iff.1 h3).1)⟩
   exact⟨c,hc,k2 j c d hc h3⟩
  refine .lst ys b off n cap sz hE hb (by rw[hn,hl]) hcap (fun i y hy=>?_) g (fun i y j d hy hd=>?_) (fun i y j d hy hd=>?_)
  ·obtain⟨x,hx⟩:=hx i y hy
   rw[<-(h i x y hx hy).1];exact hz i x hx
  ·obtain⟨x,hx⟩:=hx i y hy
   obtain⟨c,hc1,_⟩:=hc i x y hx hy j d hd
   exact hg i x j c hx hc1
  ·obtain⟨x,hx⟩:=hx i y hy
   obtain⟨c,hc1,hw⟩:=hc i x y hx hy j d hd
   exact hw _ _ _ _ (hr i x j c hx hc1)
theorem IsPn.of{B:Nat}:∀{xs:List AV},(∀y,y∈xs->IsPn B y)->∃m:List Pl,(∀x,x∈m->x.allow.length<=B)/\m.length=xs.length/\∀(i:Nat) x y,xs[i]? =some x->(m.map encPl)[i]? =some y->x.cells.length=y.cells.length/\∀(j:Nat) c d,x.cells[j]? =some c->y.cells[j]? =some d->Weak c d
 |[],_=>⟨[],by simp,rfl,fun i x y h=>by simp at h⟩
 |a::xs,h=>by
  obtain⟨m,h1,h2,h3⟩:=IsPn.of (xs:=xs) fun y hy=>h y (List.mem_cons_of_mem _ hy)
  obtain⟨x,hx,he⟩:=h a List.mem_cons_self
  refine⟨x::m,fun y hy=>?_,by simp[h2],fun i u v hu hv=>?_⟩
  ·rcases List.mem_cons.1 hy with rfl|hy
   ·exact hx
   ·exact h1 y hy
  ·cases i with
   |succ i=>exact h3 i u v hu hv
   |zero=>
    simp only[List.getElem?_cons_zero,Option.some.injEq,List.map_cons]at hu hv
    subst hu;subst hv
    rcases he with rfl|⟨h0,rfl⟩
    ·refine⟨rfl,fun j c d hc hd=>?_⟩
     rw[hc]at hd;cases hd;exact Weak.refl
    ·refine⟨rfl,fun j c d hc hd=>?_⟩
     match j with
     |0=>simp only[AV.cells,List.getElem?_cons_zero,Option.some.injEq]at hc hd;subst hc;subst hd;exact Weak.refl
     |1=>simp only[AV.cells,List.getElem?_cons_zero,List.getElem?_cons_succ,Option.some.injEq]at hc hd;subst hc;subst hd;exact Weak.refl
     |2=>simp only[AV.cells,List.getElem?_cons_zero,List.getElem?_cons_succ,Option.some.injEq]at hc hd;subst hc;subst hd;exact Weak.refl
     |3=>simp only[AV.cells,List.getElem?_cons_zero,List.getElem?_cons_succ,Option.some.injEq,h0]at hc hd;subst hc;subst hd;exact Weak.nils
     |j+4=>simp[AV.cells]at hc
theorem ix_3{a b c:AV}{m:Nat}{K:AV->Prop}(h:m<3)(ha:K a)(hb:K b)(hc:K c):Ix [a,b,c] (0+m) K:=by
 match m,h with
 |0,_=>exact Ix.intro rfl ha
 |1,_=>exact Ix.intro rfl hb
 |2,_=>exact Ix.intro rfl hc
theorem clSpl(raw:List Int)(pos:Nat)(l:List Pl)(hl:l.length<100000)(B:Nat)(hB:4096<=B)(hB2:B<50000)(hs:∀x,x∈l->x.allow.length<=B)(hp:pos<=raw.length)(hr:raw.length<=9223372036854775807){K:KT}
  (hK:∀(m:List Pl) (pos':Nat),m.length<=l.length+1->(∀x,x∈m->x.allow.length<=B+1)->pos'<=raw.length->K (.lst (m.map encPl)) [tapeO raw pos']):ACall Tryz.prog 19 [.op 0 0,.lst (l.map encPl)] [tapeO raw pos] K:=by
 have h0:(0+(l.map encPl).length)=l.length:=by rw[List.length_map,Nat.zero_add]
 have hall:∀y,y∈[]++l.map encPl->∃x:Pl,x.allow.length<=B/\y=encPl x:=fun y hy=>by
  rw[List.nil_append]at hy
  obtain⟨x,hx,rfl⟩:=List.mem_map.1 hy
  exact⟨x,hs x hx,rfl⟩
 have hal:([]++l.map encPl).length=l.length:=by rw[List.nil_append,List.length_map]
 refine ACall.weak (oflSpl rfl rfl ?_)
 have hE:∀(xs:List AV) (p':Nat),(∀y,y∈xs->IsPn (B+1) y)->xs.length<=l.length+1->p'<=raw.length->∃y,Weak (.lst xs) y/\K y [tapeO raw p']:=fun xs p' h1 h2 h3=>by
  obtain⟨m,k1,k2,k3⟩:=IsPn.of h1
  exact⟨_,Weak.lst (by rw[List.length_map,k2]) k3,hK m p' (by omega) k1 h3⟩
 have hall2:∀y,y∈[]++l.map encPl->IsPn (B+1) y:=fun y hy=>by
  obtain⟨x,hx,rfl⟩:=hall y hy
  exact isPn x (by omega)
 (repeat' ((conv=>whnf);first|(refine nNext raw _ 3 (by omega) (by with_reducible assumption) hr fun i p1 hi hp1=>?_)|(with_reducible refine cnSet1 raw _ (by with_reducible assumption) hr fun m p2 hm hp2=>?_)|refine zG ?_|apply zA|(apply zI;intro h)|exact zT));(all_goals conv=>whnf)
 ·exact hE _ _ (all_app hall2 (isPn1 _ _ _ _ (by omega))) (by rw[List.length_append,hal];simp) (by assumption)
 rw[h0]at h⊢
 generalize []++l.map encPl=xs at hall hall2 hal⊢
 have ixp:∀{i:Nat} {K:AV->Prop},i<xs.length->(∀x:Pl,x.allow.length<=B->K (encPl x))->Ix xs i K:=fun {i K} hi hk=>ix_Q hi hall fun y hy=>by
  obtain⟨x,hx,rfl⟩:=hy
  exact hk x hx
 have hone:∀y,y∈xs->y.cells.all AV.one=true:=fun y hy=>by
  obtain⟨x,_,rfl⟩:=hall y hy
  rfl
 (repeat' ((conv=>whnf);first|(refine nNext raw _ l.length (by omega) (by with_reducible assumption) hr fun i p1 hi hp1=>?_)|(with_reducible first|refine nNext raw _ _ (by omega) (by with_reducible assumption) hr fun m2 p2 hm2 hp2=>?_|refine in_nat (by omega) ?_)|(refine ixp (by omega) fun x hx=>?_)|(with_reducible first|refine cnSet1 raw _ (by with_reducible assumption) hr fun s p3 hs3 hp3=>?_|refine cnSpS raw _ _ (by omega) (by with_reducible assumption) hr fun s p3 hs4 hp3=>?_)|(refine ix_3 (by omega) ?_ ?_ ?_)|(refine Sb.intro 0 i rfl rfl (Nat.zero_le _) (by omega) ?_)|(refine Sb.intro (i+1) l.length (by omega) rfl (by omega) (by omega) ?_)|(refine Sl.intro (by omega) rfl ?_)|(refine Ob.intro ⟨by simp only[List.length_take,List.length_drop];omega,fun y hy=>hone y (List.mem_of_mem_drop (List.mem_of_mem_take hy))⟩ ?_)|refine zG ?_|apply zA|(apply zI;intro h)|exact zT));(all_goals conv=>whnf)
 all_goals
  refine hE _ _ ?_ ?_ (by with_reducible assumption)
  ·repeat' first|exact hall2|refine all_app ?_ ?_|refine all_set ?_ ?_|refine all_take ?_|refine all_drop ?_
   all_goals first
    |exact isPn0 _ _ _
    |exact isPn1 _ _ _ _ (by omega)
    |(intro y hy
      rcases List.mem_append.1 hy with hy|hy
      ·exact hall2 y (List.mem_of_mem_drop (List.mem_of_mem_take hy))
      ·exact hall2 y (List.mem_of_mem_drop (List.mem_of_mem_take hy)))
  ·simp only[List.length_append,List.length_set,List.length_take,List.length_drop,hal,List.length_cons,List.length_nil];omega
theorem csInts(l:List Nat)(hl:l.length<1000000){K:KT}(hK:K (.sb true) []):ACall Tryz.prog 97 [.lst (l.map cI),.lst (l.map cI)] [] K:=by
 refine ACall.bool (ofsInts rfl rfl ?_)
 (repeat' ((conv=>whnf);first|refine zG ?_|apply zA|(apply zI;intro h)|exact zT));(all_goals conv=>whnf)
 refine Lp.intro Nat (fun k=>⟨0,[],[(0,.lst (l.map cI)),(1,.lst (l.map cI)),(5,.v (.int .i64 k))]⟩) (fun k=>k<=l.length) (fun k=>l.length-k) 0 (Nat.zero_le _) ?_ ?_
 ·(exact leA)
 intro k hk
 rcases Nat.lt_or_ge k l.length with hkl|hkl
 ·obtain⟨x,hx⟩:=gex hkl
  (repeat' ((conv=>whnf);first|(with_reducible first|refine in_map hkl ?_|refine ix_map hx ?_)|refine zG ?_|apply zA|(apply zI;intro h)|exact zT));(all_goals conv=>whnf)
  refine⟨k+1,hkl,by omega,?_⟩
  rw[Int.natCast_add,Int.natCast_one]
  (exact leA)
 ·(repeat' ((conv=>whnf);first|refine zG ?_|apply zA|(apply zI;intro h)|exact zT));(all_goals conv=>whnf)
  exact fin_t hK rfl
theorem csIdx(l:List Nat)(hl:l.length<1000000){K:KT}(hK:K (.sb true) []):ACall Tryz.prog 51 [.lst (l.map cI),.lst (l.map cI)] [] K:=by
 refine ofsIdx rfl rfl ?_
 (repeat' ((conv=>whnf);first|(with_reducible refine csInts l hl ?_)|refine zG ?_|apply zA|(apply zI;intro h)|exact zT));(all_goals conv=>whnf)
 exact hK
theorem costsP_len(t:Tp)(l:List Pl):(costsP t l).length<1000000:=by
 unfold costsP
 split
 ·rename_i h
  have:=(comp_dev (plsB_iff.1 h).comp).2.1
  rw[costsGo_len,zeros,List.length_replicate];omega
 ·simp
theorem clCo(t:Tp)(l:List Pl)(hl:t.edges.length<1000)(hll:l.length<400000)(hsl:∀x,x∈l->x.allow.length<1000000000){K:KT}(hK:K (.sb true) []):ACall Tryz.prog 20 [encT t,.lst (l.map encPl)] [] K:=by
 refine ACall.bool (oflCo rfl rfl ?_)
 (repeat' ((conv=>whnf);first|(with_reducible first|refine czVal t l hl (by omega) hsl ?_|refine cmVal t l hl (by omega) hsl ?_|refine czCosts t l hl hll hsl ?_|refine cmCosts t l hl hll hsl ?_|refine csIdx _ (costsP_len t l) ?_)|refine zG ?_|apply zA|(apply zI;intro h)|exact zT));(all_goals conv=>whnf)
 all_goals first
  |exact fin_t hK rfl
  |(refine fin_s hK ?_;simp;done)
  |(exfalso;simp_all;done)
  |trace_state
theorem place_B{t:Tp}{p:Pol}(h5:t.edges.length<=5)(hp:PolOk t p):(placeP t p).1.length<=25/\∀x,x∈(placeP t p).1->x.allow.length<=4096:=by
 rcases place_cases hp with h0|⟨m,h0,hk,_,hpl⟩
 ·rw[h0];exact⟨by simp,fun x hx=>by simp at hx⟩
 ·rw[h0]
  refine⟨keys_len h5 hk,fun x hx=>?_⟩
  obtain⟨i,hi⟩:=List.mem_iff_getElem?.1 hx
  exact((plsB_iff.1 hpl).all i x hi).inn.len
theorem cCostsA(raw:List Int)(hr:raw.length<=9223372036854775807)(l0:List Pl):ACall Tryz.prog 4 [.lst (raw.map encI),.lst (l0.map encPl)] [] Yes:=by
 refine oflCosts rfl rfl ?_
 (repeat' ((conv=>whnf);first|(with_reducible refine c9 raw ?_)|refine zG ?_|apply zA|(apply zI;intro h)|exact zT));(all_goals conv=>whnf)
 refine Lp.intro (Nat×Nat) (fun g=>⟨1,[(0,tapeO raw g.1)],[(5,.op 0 0),(6,.v (.int .i64 g.2)),(1,.lst (l0.map encPl))]⟩)
  (fun g=>g.1<=raw.length/\g.2<=3) (fun g=>3-g.2) (0,0) ⟨Nat.zero_le _,Nat.zero_le _⟩ ?_ ?_
 ·(exact leA)
 rintro⟨pos,n⟩ ⟨hp,hn⟩
 simp only at hp hn⊢
 rcases Nat.lt_or_ge n 3 with hn3|hn3
 ·have hpo:∀{t:Tp} {p:Pol},t.edges.length<=5->GPol t p->∀{K:KT},(∀m:List Pl,m.length<=25->(∀x,x∈m->x.allow.length<=4096)->∀e:Int,K (.tup [.lst (m.map encPl),.v (.int .i64 e)]) [])->ACall Tryz.prog 18 [encT t,encPol p] [] K:=fun {t p} h5 hg {K} h=>
   cmPlace t p (by omega) (fun _=>h5) (setB_len hg.ok.set) (by have:=hg.il;omega) (pol_sets hg.ok) (h _ (place_B h5 hg.ok).1 (place_B h5 hg.ok).2 _)
  have hco:∀{t u:Tp} {m:List Pl} {B:Nat},t.edges.length<=5->SpE t u->m.length<=27->(∀x,x∈m->x.allow.length<=B)->B<=4098->∀{K:KT},K (.sb true) []->ACall Tryz.prog 20 [encT u,.lst (m.map encPl)] [] K:=fun {t u m B} h5 hu hm hx hB {K} h=>
   clCo u m (by have:=spoil_len h5 hu;omega) (by omega) (fun x h1=>by have:=hx x h1;omega) h
  (repeat' ((conv=>whnf);first|(refine cnTop3 raw _ (by with_reducible assumption) hr fun t p1 ht hd hp1=>?_)|(with_reducible first|refine cnPol raw _ t ht.e5 (by omega) (comp_top ht) (by with_reducible assumption) hr fun p p2 hg hp2=>?_|refine hpo ht.e5 hg fun m hml hmx e=>?_|refine clSpl raw _ m (by omega) 4096 (by omega) (by omega) hmx (by with_reducible assumption) hr fun s p3 hsl hsx hp3=>?_|refine clSpl raw _ s (by omega) 4097 (by omega) (by omega) hsx (by with_reducible assumption) hr fun s2 p4 hsl2 hsx2 hp4=>?_|refine cnSpTE raw _ t (gtop_sm ht) (by with_reducible assumption) hr fun u p4 hsp hp4=>?_|refine hco ht.e5 (spE_refl _) (by omega) hmx (by omega) ?_|refine hco ht.e5 (spE_refl _) (by omega) hsx (by omega) ?_|refine hco ht.e5 (spE_refl _) (by omega) hsx2 (by omega) ?_|refine hco ht.e5 hsp (by omega) hmx (by omega) ?_)|refine zG ?_|apply zA|(apply zI;intro h)|exact zT));(all_goals conv=>whnf)
  all_goals first
   |(refine⟨(_,n+1),⟨by with_reducible assumption,hn3⟩,by simp only;omega,?_⟩
     simp only
     rw[Int.natCast_add n,Int.natCast_one]
     (exact leA)
     done)
   |(exfalso;simp_all;done)
   |trace_state
 ·(repeat' ((conv=>whnf);first|(with_reducible refine cvSane ?_)|refine zG ?_|apply zA|(apply zI;intro h)|exact zT));(all_goals conv=>whnf)
  all_goals first
   |exact .inl rfl
   |exact .inr rfl
   |skip
  have hl4:l0.length<=4:=by simp only[List.length_map]at*;omega
  refine Lp.intro Nat (fun k=>⟨0,[],[(1,.lst (l0.map encPl)),(11,.v (.int .i64 k))]⟩) (fun k=>k<=l0.length/\∀(i:Nat) x,i<k->l0[i]? =some x->x.allow.length<=6) (fun k=>l0.length-k) 0 ⟨Nat.zero_le _,fun i x h=>absurd h (Nat.not_lt_zero _)⟩ ?_ ?_
  ·(exact leA)
  intro k ⟨hk,hinv⟩
  rcases Nat.lt_or_ge k l0.length with hkl|hkl
  ·obtain⟨x,hx⟩:=gex hkl
   (repeat' ((conv=>whnf);first|(with_reducible first|refine in_map hkl ?_|refine ix_map hx ?_|refine cnHuB x.allow ?_|refine cvSane ?_)|refine zG ?_|apply zA|(apply zI;intro h)|exact zT));(all_goals conv=>whnf)
   all_goals first
    |exact .inl rfl
    |exact .inr rfl
    |(refine⟨k+1,⟨hkl,all_succ hx (by omega) hinv⟩,by omega,?_⟩
      rw[Int.natCast_add,Int.natCast_one]
      (exact leA)
      done)
    |trace_state
  ·have hall:=before_all hkl hinv
   (repeat' ((conv=>whnf);first|(with_reducible first|refine cvNet _ _ ?_|refine cvSane ?_)|(refine clCo (netT 9 9) l0 (by simp[netT]) (by omega) (fun x hx=>by obtain⟨i,hi⟩:=List.mem_iff_getElem?.1 hx;have:=hall i x hi;omega) ?_)|refine zG ?_|apply zA|(apply zI;intro h)|exact zT));(all_goals conv=>whnf)
   all_goals first
    |exact .inl rfl
    |exact .inr rfl
    |trace_state
theorem cCosts(raw:List Int)(l0:List Pl)(hr:raw.length<=9223372036854775807){A:Prop}(_:A):ACall Tryz.prog 4 [.lst (raw.map encI),.lst (l0.map encPl)] [] Yes:=cCostsA raw hr l0
open Go Go.Vm Go.ChangeShapes Go.WideShapes Go.ChangeAt Go.RowKit
theorem placementCosts_lifted(os:Os)(started:os.Started)(H:Type)(enc:TypeId×Value->H):
  ReturnsInHanded {} Tryz.checked os 4 .any (fun w args=>(Rows.placementCostsSpec.pre enc Tryz.prog Tryz.f4 [] false w args/\laidMetH Tryz.prog laid2 w)/\sizedMet enc Tryz.prog Tryz.f4 (OpenSpec.ofChange Rows.placementCostsSpec) false w args)
   (Rows.placementCostsSpec.post enc Tryz.prog Tryz.f4 false true false false):=by
 refine returnsInHanded_of_change_and (C:=Tryz.checked) (X:=fun w _=>laidMetH Tryz.prog laid2 w) (fun _ _ _ hh h=>h.of_heap hh) ownNone started (by kernel_rfl) Tryz.func4
  (ChangeSpec.witness_shaped (enc:=enc) (C:=Tryz.checked) (os:=os) (X:=fun w _=>laidMetH Tryz.prog laid2 w) false (World.doorLaid Tryz.prog 400 os) #[.slice none 0 0,.slice none 0 0] 8 rfl (World.shaped_of_RefB (by kernel_rfl) (by kernel_rfl)) (by kernel_rfl) (by kernel_rfl) (by kernel_rfl) (door_met os _)) ?_
 intro W base args ds gs before hval0 hW _ _ hL _
 have hval:∀(j:Nat) t v,Tryz.f4.params[j]? =some t->args[j]? =some v->Value.okWide Tryz.prog W .any base t v:=hval0
 refine law_contract (P:=Tryz.prog) (t:=4) (d:=8) laidOut (by kernel_rfl) (by kernel_rfl) rfl rfl (by kernel_rfl) (fun ds hds=>?_) (fun xs hxs=>?_) (glob_of hL) hval hW
 ·have hds:ds.length=2:=hds.trans (show Tryz.f4.params.size=2 by kernel_rfl)
  match ds,hds with
  |[d0,d1],_=>rfl
 ·match xs,hxs with
  |[a0,a1],⟨h0,h1,_⟩=>
   obtain⟨raw0,rfl,hr0⟩:=ty_is (d:=6) h0
   obtain⟨l1,rfl,q1⟩:=ty_pls (d:=2) h1
   exact cCosts raw0 l1 hr0 q1
theorem placementCosts_row:Rows.PlacementCostsSaid:=
 OpenClaim.holds_of_wide 4 Tryz.f4 rfl rfl rfl rfl rfl rfl rfl ⟨rfl,rfl,rfl,rfl,rfl⟩ rfl rfl rfl rfl rfl (by kernel_rfl) Tryz.func4 (by kernel_rfl)
  (of_decide_eq_true (by kernel_rfl)) (by unfold Func.isWrapper;first|(rw[if_pos (by decide+kernel)];kernel_rfl)|(rw[if_neg (by decide+kernel)];exact⟨rfl,rfl⟩))
  (fun os started H enc _=>placementCosts_lifted os started H enc)
theorem placementCosts_holds:Rows.PlacementCostsCardSaid:=
 Claim7.holds_tied_plain_at .later [] [.data,.data] true Rows.placementCostsCard.stood.harness false
  placementCosts_row (fun _ h=>by cases h) (by kernel_rfl) (fun _ h=>by cases h) placementCosts_row_tie rfl ⟨rfl,rfl⟩ (by kernel_rfl) rfl
  (fun f fn hf hfn=>by
   obtain rfl:f=4:=Option.some.inj ((show Tryz.prog.funcNamed "netsegment/nsglaw21.PlacementCosts"=some 4 by kernel_rfl).symm.trans hf)|>.symm
   obtain rfl:fn=Tryz.f4:=(Option.some.inj (Tryz.func4.symm.trans hfn)).symm
   exact⟨by kernel_rfl,fun j t ht=>wants_none (ts:=Tryz.f4.params.toList) (by kernel_rfl) (List.mem_of_getElem? (by rw[Array.getElem?_toList];exact ht))⟩)
  (by kernel_rfl)
#print axioms placementCosts_holds
noncomputable def glRoom:Ctx:={N:=140,own:=at1 9 (true) (at1 10 (true) (at1 12 (true) (at1 26 (true) (fun _=>false)))),plan:=at1 8 (some (.one 0 true (.one 1 true (.one 2 true (.one 3 true (.one 5 true (.one 6 true (.one 7 true (.alt 4 (.one 8 false (.one 9 true (.one 10 true (.one 11 false (.done))))) (.alt 8 (.one 4 true (.one 9 true (.one 10 true (.one 11 false (.done))))) (.stop))))))))))) (at1 15 (some (ln [1,3,5,7,9,11,13,15,17,19,21,23,24,27,29,31,33,35])) (fun _=>none)),hints:=at1 3 ([.freezeB 4]) (at1 9 ([.freezeB 6]) (at1 28 ([.freezeB 15]) (fun _=>[])))}
noncomputable def blRoom:Code:=bdy Tryz.f7
abbrev oflRoom:=@ofC Tryz.prog glRoom 7 Tryz.f7 blRoom Tryz.func7 (by kernel_rfl) (by kernel_rfl) (by kernel_rfl) (by kernel_rfl)
theorem cano_len_by(op:Bool->Bool->Bool)(k:Nat)(a b:List Bx)(L:List Rg)(hc:∀u v,0<=u->u<=topF (4-k)->0<=v->v<=topF (4-k)->(∀r,r∈L->((r.lo<=u/\u<=r.hi)↔(r.lo<=v/\v<=r.hi)))->restAt op k a b u=restAt op k a b v):
  (cano op (k+1) a b).length<=((starts L (topF (4-k))).map fun e=>(restAt op k a b e).length).sum:=by
 have h:=starts_cuts L (topF_pos (4-k)).1
 have g:=cano_ginv op k a b (starts_cuts (rngs (4-k) a b) (topF_pos (4-k)).1)
 have g2:GInv (restAt op k a b) (groupsOf (restAt op k a b) (topF (4-k)) (starts L (topF (4-k)))) (topF (4-k)+1):=by
  obtain⟨r,hr⟩:=h.zero
  have hs:=h.sorted
  have hb:=fun y hy=>h.range y hy
  have hcc:∀s,s∈segs (topF (4-k)) (starts L (topF (4-k)))->∀v,s.1<=v->v<=s.2->restAt op k a b v=restAt op k a b s.1:=fun s hs v v1 v2=>by
   obtain⟨q1,q2,q3⟩:=segs_spec _ h.sorted (fun x hx=>(h.range x hx).2) s hs
   have hm:s.1∈starts L (topF (4-k)):=by
    rw[<-segs_fst (topF (4-k)) (starts L (topF (4-k)))]
    exact List.mem_map_of_mem hs
   have:=h.range _ hm
   have ht:s.2<=topF (4-k):=by
    first
     |exact q2
     |omega
   exact hc v s.1 (by omega) (by omega) this.1 this.2 fun r hr=>h.const hs v1 v2 hr
  rw[groupsOf,hr]
  rw[hr]at hs hb hcc
  exact fold_ginv r 0 [] (GInv.start _) (Int.le_refl _) hs (fun y hy=>(hb y hy).2) hcc
 rw[cano_succ,g.same g2,flatG_len]
 exact groups_le _ _ _
def ApartR(es:List Rg):Prop:=es.Pairwise fun r s=>r.hi<s.lo\/s.hi<r.lo
def cutsR(C:List Rg):List Int:=C.flatMap fun r=>[r.lo,r.hi+1]
theorem cutsR_len(C:List Rg):(cutsR C).length=2*C.length:=by
 induction C with
 |nil=>rfl
 |cons r C ih=>rw[cutsR,List.flatMap_cons,List.length_append,<-cutsR,ih];simp;omega
def pieces(L:List Rg)(top:Int)(r:Rg):Nat:=((starts L top).filter (inR r)).length
theorem inR_iff{r:Rg}{e:Int}:inR r e=true↔r.lo<=e/\e<=r.hi:=by rw[inR,Bool.and_eq_true,decide_eq_true_eq,decide_eq_true_eq]
theorem apart_mem{es:List Rg}(h:ApartR es):∀r,r∈es->∀s,s∈es->r=s\/r.hi<s.lo\/s.hi<r.lo:=by
 intro r hr s hs
 obtain⟨i,hi,rfl⟩:=List.mem_iff_getElem.1 hr
 obtain⟨j,hj,rfl⟩:=List.mem_iff_getElem.1 hs
 have hp:=List.pairwise_iff_getElem.1 h
 rcases Nat.lt_trichotomy i j with h|h|h
 ·exact .inr (hp i j hi hj h)
 ·subst h;exact .inl rfl
 ·exact .inr (hp j i hj hi h).symm
theorem pieces_le{es C:List Rg}(hd:ApartR es)(hle:∀r,r∈es->r.lo<=r.hi){top:Int}(ht:0<=top){r:Rg}(hr:r∈es):pieces (es++C) top r<=1+((cutsR C).filter (inR r)).length:=by
 have hs:=(starts_inv (es++C) ht).sorted
 have:=nodup_sub (filter_nodup hs (inR r)) (m:=r.lo::(cutsR C).filter (inR r)) fun e he=>by
  obtain⟨h1,h2⟩:=List.mem_filter.1 he
  have h2':=h2
  rw[inR_iff]at h2
  rcases starts_from _ _ e h1 with h0|⟨s,hs,hse⟩
  ·have:=r.l0
   rw[show e=r.lo by omega];exact List.mem_cons_self
  ·rcases List.mem_append.1 hs with hs|hs
   ·have hls:=hle s hs
    rcases apart_mem hd r hr s hs with h|h|h
    ·subst h;rw[show e=r.lo by omega];exact List.mem_cons_self
    ·exfalso;omega
    ·rw[show e=r.lo by omega];exact List.mem_cons_self
   ·refine List.mem_cons_of_mem _ (List.mem_filter.2 ⟨List.mem_flatMap.2 ⟨s,hs,?_⟩,h2'⟩)
    rcases hse with h|h<;>simp[h]
 simp only[List.length_cons]at this
 unfold pieces;omega
theorem filter_both{α:Type}(p:α->Bool):∀l:List α,(l.filter p).length+(l.filter fun q=> !p q).length=l.length
 |[]=>rfl
 |x::l=>by
  have:=filter_both p l
  cases hp:p x<;>simp[hp]<;>omega
theorem sum_filter_le:∀(es:List Rg),ApartR es->∀(l:List Int),(es.map fun r=>(l.filter (inR r)).length).sum<=l.length
 |[],_,l=>Nat.zero_le _
 |r::es,h,l=>by
  obtain⟨h1,h2⟩:=List.pairwise_cons.1 h
  have ih:=sum_filter_le es h2 (l.filter fun x=> !inR r x)
  have e:(es.map fun s=>(l.filter (inR s)).length)=es.map fun s=>((l.filter fun x=> !inR r x).filter (inR s)).length:=by
   refine List.map_congr_left fun s hs=>?_
   rw[List.filter_filter]
   congr 1
   refine List.filter_congr fun x _=>?_
   have:=h1 s hs
   cases hx:inR s x with
   |false=>rfl
   |true=>
    rw[inR_iff]at hx
    have:inR r x=false:=by
     rw[Bool.eq_false_iff,ne_eq,inR_iff];omega
    rw[this];rfl
  have:=filter_both (inR r) l
  rw[List.map_cons,List.sum_cons,e];omega
theorem sum_nat_add{α:Type}(f g:α->Nat)(l:List α):(l.map fun e=>f e+g e).sum=(l.map f).sum+(l.map g).sum:=by
 induction l with
 |nil=>rfl
 |cons e l ih=>simp only[List.map_cons,List.sum_cons,ih];omega
theorem sum_nat_le{α:Type}{f g:α->Nat}{l:List α}(h:∀e,e∈l->f e<=g e):(l.map f).sum<=(l.map g).sum:=by
 induction l with
 |nil=>exact Nat.le_refl _
 |cons e l ih=>
  have h1:=h e (by simp)
  have h2:=ih fun x hx=>h x (List.mem_cons_of_mem _ hx)
  simp only[List.map_cons,List.sum_cons];omega
theorem sum_nat_const{α:Type}(c:Nat)(l:List α):(l.map fun _=>c).sum=l.length*c:=by
 induction l with
 |nil=>simp
 |cons e l ih=>simp only[List.map_cons,List.sum_cons,ih,List.length_cons,Nat.succ_mul];omega
theorem le_sum_nat{α:Type}{f:α->Nat}{l:List α}{x:α}(h:x∈l):f x<=(l.map f).sum:=by
 induction l with
 |nil=>simp at h
 |cons e l ih=>
  simp only[List.map_cons,List.sum_cons]
  rcases List.mem_cons.1 h with h|h
  ·subst h;omega
  ·have:=ih h;omega
theorem pieces_sum{es C:List Rg}(hd:ApartR es)(hle:∀r,r∈es->r.lo<=r.hi){top:Int}(ht:0<=top):(es.map fun r=>pieces (es++C) top r).sum<=es.length+2*C.length:=by
 have h1:(es.map fun r=>pieces (es++C) top r).sum<=(es.map fun r=>1+((cutsR C).filter (inR r)).length).sum:=sum_nat_le fun r hr=>pieces_le hd hle ht hr
 have h2:=sum_nat_add (fun _=>1) (fun r=>((cutsR C).filter (inR r)).length) es
 have h3:=sum_filter_le es hd (cutsR C)
 rw[cutsR_len]at h3
 have h4:=sum_nat_const 1 es
 rw[h2,h4]at h1
 omega
theorem pieces_one{L:List Rg}(hd:ApartR L)(hle:∀r,r∈L->r.lo<=r.hi){top:Int}(ht:0<=top){r:Rg}(hr:r∈L):pieces L top r<=1:=by
 have:=pieces_le (C:=[]) hd hle ht hr
 rw[List.append_nil]at this
 exact this
theorem sum_by{L:List Rg}{N:Rg->Nat}{R:Int->Nat}:∀{st:List Int},(∀e,e∈st->R e=0\/∃r,r∈L/\inR r e=true/\R e<=N r)->(st.map R).sum<=(L.map fun r=>(st.filter (inR r)).length*N r).sum
 |[],_=>Nat.zero_le _
 |e::st,h=>by
  have ih:=sum_by (st:=st) fun x hx=>h x (List.mem_cons_of_mem _ hx)
  have e1:(L.map fun r=>((e::st).filter (inR r)).length*N r).sum=(L.map fun r=>(if inR r e=true then N r else 0)).sum+(L.map fun r=>(st.filter (inR r)).length*N r).sum:=by
   rw[<-sum_nat_add]
   refine congrArg List.sum (List.map_congr_left fun r _=>?_)
   rw[List.filter_cons]
   split
   ·rw[List.length_cons,Nat.succ_mul];omega
   ·omega
  have e2:R e<=(L.map fun r=>if inR r e=true then N r else 0).sum:=by
   rcases h e (by simp)with h|⟨r,hr,h1,h2⟩
   ·omega
   ·refine Nat.le_trans h2 ?_
    have:=le_sum_nat (f:=fun r=>if inR r e=true then N r else 0) hr
    simpa only[h1,if_true]using this
  rw[List.map_cons,List.sum_cons,e1];omega
theorem cano_len_ranges(op:Bool->Bool->Bool)(k:Nat)(a b:List Bx)(L:List Rg)(hd:ApartR L)(hle:∀r,r∈L->r.lo<=r.hi)(N:Rg->Nat)
  (hout:∀v,0<=v->v<=topF (4-k)->(∀r,r∈L->inR r v=false)->restAt op k a b v=[])
  (hin:∀r,r∈L->∀u v,inR r u=true->inR r v=true->0<=u->u<=topF (4-k)->0<=v->v<=topF (4-k)->restAt op k a b u=restAt op k a b v)
  (hN:∀r,r∈L->∀u,inR r u=true->0<=u->u<=topF (4-k)->(restAt op k a b u).length<=N r):(cano op (k+1) a b).length<=(L.map N).sum:=by
 have ht:=(topF_pos (4-k)).1
 have h0:=cano_len_by op k a b L fun u v u0 u1 v0 v1 h=>by
  by_cases he:∃r,r∈L/\inR r u=true
  ·obtain⟨r,hr,hu⟩:=he
   exact hin r hr u v hu (inR_iff.2 ((h r hr).1 (inR_iff.1 hu))) u0 u1 v0 v1
  ·have hu:∀r,r∈L->inR r u=false:=fun r hr=>by
    rw[Bool.eq_false_iff];exact fun hh=>he ⟨r,hr,hh⟩
   rw[hout u u0 u1 hu,hout v v0 v1 fun r hr=>by
    have:=hu r hr
    rw[Bool.eq_false_iff,ne_eq,inR_iff]at this⊢
    exact fun hh=>this ((h r hr).2 hh)]
 have hr0:=fun e he=>(starts_inv L ht).range e he
 have h1:=sum_by (L:=L) (N:=N) (R:=fun e=>(restAt op k a b e).length) (st:=starts L (topF (4-k))) fun e he=>by
  have hb:=(starts_cuts L ht).range e he
  by_cases hx:∃r,r∈L/\inR r e=true
  ·obtain⟨r,hr,hu⟩:=hx
   exact .inr ⟨r,hr,hu,hN r hr e hu hb.1 hb.2⟩
  ·left
   show(restAt op k a b e).length=0
   rw[hout e hb.1 hb.2 fun r hr=>by rw[Bool.eq_false_iff];exact fun hh=>hx ⟨r,hr,hh⟩];rfl
 refine Nat.le_trans h0 (Nat.le_trans h1 (sum_nat_le fun r hr=>?_))
 have:=pieces_one hd hle ht hr
 unfold pieces at this
 have:=Nat.mul_le_mul_right (N r) this
 omega
def setF(p:Nat->Int)(f:Nat)(v:Int):Nat->Int:=fun g=>if g=f then v else p g
theorem setF_at(p:Nat->Int)(f:Nat)(v:Int):setF p f v f=v:=if_pos rfl
theorem setF_ne{p:Nat->Int}{f:Nat}{v:Int}{g:Nat}(h:g≠f):setF p f v g=p g:=if_neg h
theorem inP_set{p:Nat->Int}(hp:InP p){f:Nat}{v:Int}(h0:0<=v)(h1:v<=topF f):InP (setF p f v):=fun g=>by
 by_cases h:g=f
 ·subst h;rw[setF_at];exact⟨h0,h1⟩
 ·rw[setF_ne h];exact hp g
theorem memK_at{p:Nat->Int}{k:Nat}(hk:k<=4)(e:Int)(A:List Bx):memK p k (atF (4-k) e A)=memK (setF p (4-k) e) (k+1) A:=by
 rw[memK_succ,setF_at]
 exact memK_congr (by omega) fun f h4 h5=>(setF_ne (by omega)).symm
theorem rest_ext{op:Bool->Bool->Bool}{k:Nat}(hk:k<=4){A W:List Bx}{u v:Int}(hA:∀p,InP p->memK (setF p (4-k) u) (k+1) A=memK (setF p (4-k) v) (k+1) A)(hW:∀p,InP p->memK (setF p (4-k) u) (k+1) W=memK (setF p (4-k) v) (k+1) W):restAt op k A W u=restAt op k A W v:=
 cano_ext op k _ _ _ _ (by omega) (fun p hp=>by rw[memK_at hk,memK_at hk];exact hA p hp) (fun p hp=>by rw[memK_at hk,memK_at hk];exact hW p hp)
theorem rest_nil{op:Bool->Bool->Bool}{k:Nat}(hk:k<=4)(hop:op false false=false){A W:List Bx}{u:Int}(hA:∀p,InP p->op (memK (setF p (4-k) u) (k+1) A) (memK (setF p (4-k) u) (k+1) W)=false):restAt op k A W u=[]:=by
 have:restAt op k A W u=cano op k [] []:=cano_ext2 op op k _ _ _ _ (by omega) fun p hp=>by rw[memK_at hk,memK_at hk,hA p hp,memK_nil,hop]
 rw[this]
 refine cano_dead op k _ _ fun p q h1 h2=>?_
 have e1:p=false:=by cases p with|false=>rfl|true=>exact absurd (h1 rfl) (by decide)
 have e2:q=false:=by cases q with|false=>rfl|true=>exact absurd (h2 rfl) (by decide)
 rw[e1,e2,hop]
theorem cano_len_box(k:Nat)(A:List Bx)(w:Bx)(L:List Rg)(hc:∀u v,0<=u->u<=topF (4-k)->0<=v->v<=topF (4-k)->(∀r,r∈L->((r.lo<=u/\u<=r.hi)↔(r.lo<=v/\v<=r.hi)))->restAt anB k A [w] u=restAt anB k A [w] v)
  (M:Nat)(hM:∀e,inR (w.get (4-k)) e=true->0<=e->e<=topF (4-k)->(restAt anB k A [w] e).length<=M):(cano anB (k+1) A [w]).length<=pieces L (topF (4-k)) (w.get (4-k))*M:=by
 have ht:=(topF_pos (4-k)).1
 refine Nat.le_trans (cano_len_by anB k A [w] L hc) ?_
 have h1:=sum_by (L:=[w.get (4-k)]) (N:=fun _=>M) (R:=fun e=>(restAt anB k A [w] e).length) (st:=starts L (topF (4-k))) fun e he=>by
  have hb:=(starts_cuts L ht).range e he
  cases hx:inR (w.get (4-k)) e with
  |true=>exact .inr ⟨_,by simp,hx,hM e hx hb.1 hb.2⟩
  |false=>
   left
   have h0:atF (4-k) e [w]=[]:=by
    rw[atF,List.filter_cons]
    have:(decide ((w.get (4-k)).lo<=e)&&decide (e<=(w.get (4-k)).hi))=false:=hx
    rw[this];rfl
   show(restAt anB k A [w] e).length=0
   rw[restAt,h0,cano_dead anB k _ _ fun p q h1 h2=>by
    cases q with
    |false=>unfold anB;rw[Bool.and_false]
    |true=>exact absurd (h2 rfl) (by decide)]
   rfl
 simp only[List.map_cons,List.map_nil,List.sum_cons,List.sum_nil,Nat.add_zero]at h1
 exact h1
theorem last_len(op:Bool->Bool->Bool)(a b:List Bx)(v:Int):(restAt op 0 a b v).length<=1:=by
 rw[restAt,cano];split<;>simp
theorem one_pt{k:Nat}(hk:k<=4){Y:List Bx}{r:Rg}(hr:r.lo<=r.hi){M:Nat}(h:∀p,InP p->memK p (k+1) Y=true->inR r (p (4-k))=true)
  (hc:∀p u v,InP p->inR r u=true->inR r v=true->0<=u->u<=topF (4-k)->0<=v->v<=topF (4-k)->memK (setF p (4-k) u) (k+1) Y=memK (setF p (4-k) v) (k+1) Y)
  (hM:∀u,inR r u=true->0<=u->u<=topF (4-k)->(cano orB k (atF (4-k) u Y) []).length<=M):(cano orB (k+1) Y []).length<=M:=by
 have:=cano_len_ranges orB k Y [] [r] (List.pairwise_singleton ..) (fun s hs=>by rw[List.mem_singleton.1 hs];exact hr) (fun _=>M)
  (fun v v0 v1 hv=>rest_nil hk rfl fun p hp=>by
   have hv:=hv r (by simp)
   rw[memK_nil,orB,Bool.or_false]
   cases hm:memK (setF p (4-k) v) (k+1) Y with
   |false=>rfl
   |true=>
    have:=h _ (inP_set hp v0 v1) hm
    rw[setF_at,hv]at this;cases this)
  (fun s hs u v hu hv u0 u1 v0 v1=>by
   rw[List.mem_singleton.1 hs]at hu hv
   exact rest_ext hk (fun p hp=>hc p u v hp hu hv u0 u1 v0 v1) fun p hp=>rfl)
  (fun s hs u hu u0 u1=>by
   rw[List.mem_singleton.1 hs]at hu
   exact hM u hu u0 u1)
 simpa using this
theorem inK_fb{p:Nat->Int}{p0 p1 s0 s1 d0 d1:Int}(h:(0<=p0/\p0<=4294967295)/\(0<=p1/\p1<=4294967295)/\(0<=s0/\s0<=4294967295)/\(0<=s1/\s1<=4294967295)/\(0<=d0/\d0<=4294967295)/\(0<=d1/\d1<=4294967295)):
  inK p 3 (fb p0 p1 s0 s1 d0 d1)=true↔(p0<=p 2/\p 2<=p1)/\(s0<=p 3/\p 3<=s1)/\d0<=p 4/\p 4<=d1:=by
 obtain⟨⟨h1,h2⟩,⟨h3,h4⟩,⟨h5,h6⟩,⟨h7,h8⟩,⟨h9,h10⟩,h11,h12⟩:=h
 simp only[inK,fb,Bx.get,Nat.sub_zero,Nat.reduceSub,Bool.and_true,Bool.and_eq_true,decide_eq_true_eq]
 rw[mkR_lo h1 h2 h3 h4,mkR_hi h1 h2 h3 h4,mkR_lo h5 h6 h7 h8,mkR_hi h5 h6 h7 h8,mkR_lo h9 h10 h11 h12,mkR_hi h9 h10 h11 h12]
def iniQ(q q':Nat->Int):Prop:=
 ((q 2=0/\q 3=0/\q 4=0)↔(q' 2=0/\q' 3=0/\q' 4=0))/\((q 2=1/\q 3<=7/\q 4=8)↔(q' 2=1/\q' 3<=7/\q' 4=8))/\((q 2=1/\9<=q 3/\q 4=8)↔(q' 2=1/\9<=q' 3/\q' 4=8))/\
 ((2<=q 2/\q 2<=5/\q 3=0/\q 4=0)↔(2<=q' 2/\q' 2<=5/\q' 3=0/\q' 4=0))/\(q 2=6↔q' 2=6)/\((7<=q 2/\q 2<=16/\q 3=0/\q 4=0)↔(7<=q' 2/\q' 2<=16/\q' 3=0/\q' 4=0))/\(q 2=17↔q' 2=17)/\((18<=q 2/\q 3=0/\q 4=0)↔(18<=q' 2/\q' 3=0/\q' 4=0))
theorem inP_b{q:Nat->Int}(hq:InP q):(0<=q 2/\q 2<=255)/\(0<=q 3/\q 3<=65535)/\0<=q 4/\q 4<=65535:=⟨hq 2,hq 3,hq 4⟩
theorem ini_same{q q':Nat->Int}(hq:InP q)(hq':InP q')(h:iniQ q q'):∀b,b∈initS->inK q 3 b=inK q' 3 b:=by
 have b1:=inP_b hq;have b2:=inP_b hq'
 obtain⟨h1,h2,h3,h4,h5,h6,h7,h8⟩:=h
 unfold initS
 simp only[List.forall_mem_cons]
 refine⟨?_,?_,?_,?_,?_,?_,?_,?_,fun b hb=>by simp at hb⟩<;>rw[Bool.eq_iff_iff,inK_fb (by decide),inK_fb (by decide)]
 ·clear h2 h3 h4 h5 h6 h7 h8;omega
 ·clear h1 h3 h4 h5 h6 h7 h8;omega
 ·clear h1 h2 h4 h5 h6 h7 h8;omega
 ·clear h1 h2 h3 h5 h6 h7 h8;omega
 ·clear h1 h2 h3 h4 h6 h7 h8;omega
 ·clear h1 h2 h3 h4 h5 h7 h8;omega
 ·clear h1 h2 h3 h4 h5 h6 h8;omega
 ·clear h1 h2 h3 h4 h5 h6 h7;omega
theorem ini_pt{q:Nat->Int}(hq:InP q)(h:memK q 3 initS=true):(q 2=6\/q 2=17)\/(q 2=1/\q 3≠8/\q 4=8)\/(q 2≠1/\q 3=0/\q 4=0):=by
 have b1:=inP_b hq
 rw[memK,List.any_eq_true]at h
 obtain⟨b,hb,hi⟩:=h
 simp only[initS,List.mem_cons,List.not_mem_nil,or_false]at hb
 rcases hb with rfl|rfl|rfl|rfl|rfl|rfl|rfl|rfl<;>rw[inK_fb (by decide)]at hi<;>omega
structure Sh (I:List (Int×Rg)) (X:List Bx):Prop where
 ini:∀p,InP p->memK p 3 X=true->memK p 3 initS=true
 sig:∀p p',InP p->InP p'->(∀b,b∈initS->inK p 3 b=inK p' 3 b)->(∀x,x∈I->((p 2=x.1/\x.2.lo<=p 4/\p 4<=x.2.hi)↔(p' 2=x.1/\x.2.lo<=p' 4/\p' 4<=x.2.hi)))->memK p 3 X=memK p' 3 X
def kindI(x:Int×Rg):Prop:=x.1=6\/x.1=17\/(x.1=1/\x.2.lo=8/\x.2.hi=8)\/(x.1=50/\x.2.lo=0/\x.2.hi=0)\/(x.1=0/\x.2.lo=0/\x.2.hi=0)
def cntI(I:List (Int×Rg))(e:Int):Nat:=(I.filter fun x=>decide (x.1=e)).length
section
variable {I:List (Int×Rg)} {X:List Bx}
theorem pt2{p:Nat->Int}(e:Int):memK p 2 (atF 2 e X)=memK (setF p 2 e) 3 X:=memK_at (k:=2) (by omega) e X
theorem pt3{p:Nat->Int}(e u:Int):memK p 1 (atF 3 u (atF 2 e X))=memK (setF (setF p 3 u) 2 e) 3 X:=by
 rw[memK_at (k:=1) (by omega) u];exact pt2 e
theorem vals(p:Nat->Int)(e:Int):setF p 2 e 2=e/\setF p 2 e 3=p 3/\setF p 2 e 4=p 4:=⟨rfl,rfl,rfl⟩
theorem vals3(p:Nat->Int)(u:Int):setF p 3 u 2=p 2/\setF p 3 u 3=u/\setF p 3 u 4=p 4:=⟨rfl,rfl,rfl⟩
theorem vals4(p:Nat->Int)(u:Int):setF p 4 u 2=p 2/\setF p 4 u 3=p 3/\setF p 4 u 4=u:=⟨rfl,rfl,rfl⟩
theorem len_pro(h:Sh I X){e:Int}(he:e=6\/e=17):(cano orB 2 (atF 2 e X) []).length<=1+2*cntI I e:=by
 have e0:0<=e/\e<=topF 2:=⟨by omega,by show e<=255;omega⟩
 have m:(mkR 0 65535).lo=0/\(mkR 0 65535).hi=65535:=by decide
 refine one_pt (k:=1) (by omega) (r:=mkR 0 65535) (by decide) (fun p hp _=>inR_iff.2 ?_) (fun p u v hp hu hv u0 u1 v0 v1=>?_) fun u hu u0 u1=>?_
 ·have:=(inP_b hp).2.1
  show(mkR 0 65535).lo<=p 3/\p 3<=(mkR 0 65535).hi
  omega
 ·have q1:=inP_set (inP_set hp (f:=3) u0 u1) e0.1 e0.2
  have q2:=inP_set (inP_set hp (f:=3) v0 v1) e0.1 e0.2
  have a1:=vals (setF p 3 u) e;have a2:=vals (setF p 3 v) e;have a3:=vals3 p u;have a4:=vals3 p v
  show memK (setF p 3 u) 2 (atF 2 e X)=memK (setF p 3 v) 2 (atF 2 e X)
  rw[pt2,pt2]
  refine h.sig _ _ q1 q2 (ini_same q1 q2 ?_) fun x hx=>?_
  ·unfold iniQ;omega
  ·omega
 ·have hc:=cano_len_by orB 0 (atF 3 u (atF 2 e X)) [] ((I.filter fun x=>decide (x.1=e)).map (·.2)) fun a b a0 a1 b0 b1 hab=>rest_ext (k:=0) (by omega) (fun p hp=>by
   show memK (setF p 4 a) 1 (atF 3 u (atF 2 e X))=memK (setF p 4 b) 1 (atF 3 u (atF 2 e X))
   have q1:=inP_set (inP_set (inP_set hp (f:=4) a0 a1) (f:=3) u0 u1) e0.1 e0.2
   have q2:=inP_set (inP_set (inP_set hp (f:=4) b0 b1) (f:=3) u0 u1) e0.1 e0.2
   have v1:=vals (setF (setF p 4 a) 3 u) e;have v2:=vals (setF (setF p 4 b) 3 u) e;have v3:=vals3 (setF p 4 a) u;have v4:=vals3 (setF p 4 b) u;have v5:=vals4 p a;have v6:=vals4 p b
   rw[pt3,pt3]
   refine h.sig _ _ q1 q2 (ini_same q1 q2 ?_) fun x hx=>?_
   ·unfold iniQ;omega
   ·by_cases hxe:x.1=e
    ·have:=hab x.2 (List.mem_map.2 ⟨x,List.mem_filter.2 ⟨hx,by simpa using hxe⟩,rfl⟩)
     omega
    ·omega) (fun p hp=>rfl)
  have hs:=sum_mono (st:=starts ((I.filter fun x=>decide (x.1=e)).map (·.2)) (topF (4-0))) (f:=fun v=>(restAt orB 0 (atF 3 u (atF 2 e X)) [] v).length) (g:=fun _=>1) fun v _=>last_len ..
  rw[sum_one]at hs
  have hl:=starts_length ((I.filter fun x=>decide (x.1=e)).map (·.2)) (topF_pos (4-0)).1
  rw[List.length_map]at hl
  unfold cntI
  exact Nat.le_trans hc (Nat.le_trans hs (by omega))
theorem len_last(h:Sh I X){e u d:Int}(he:0<=e/\e<=255)(hu:0<=u/\u<=65535)(hd:0<=d/\d<=65535)(hp:∀p,InP p->memK (setF (setF p 3 u) 2 e) 3 X=true->p 4=d):(cano orB 1 (atF 3 u (atF 2 e X)) []).length<=1:=by
 have m1:=mkR_lo hd.1 (by omega) hd.1 (show d<=4294967295 by omega)
 have m2:=mkR_hi hd.1 (by omega) hd.1 (show d<=4294967295 by omega)
 refine one_pt (k:=0) (by omega) (r:=mkR d d) (by omega) (fun p hpp hm=>inR_iff.2 ?_) (fun p a b _ ha hb _ _ _ _=>?_) fun v _ _ _=>?_
 ·rw[pt3]at hm
  have:=hp p hpp hm
  show(mkR d d).lo<=p 4/\p 4<=(mkR d d).hi
  omega
 ·rw[inR_iff]at ha hb
  rw[show a=b by omega]
 ·rw[cano];split<;>simp
theorem len_one(h:Sh I X):(cano orB 2 (atF 2 1 X) []).length<=2:=by
 have m:(mkR 0 7).lo=0/\(mkR 0 7).hi=7/\(mkR 9 65535).lo=9/\(mkR 9 65535).hi=65535:=by decide
 have hb:∀r,r∈[mkR 0 7,mkR 9 65535]->(r.lo=0/\r.hi=7)\/(r.lo=9/\r.hi=65535):=fun r hr=>by
  simp only[List.mem_cons,List.not_mem_nil,or_false]at hr
  rcases hr with rfl|rfl
  ·exact .inl ⟨m.1,m.2.1⟩
  ·exact .inr m.2.2
 have:=cano_len_ranges orB 1 (atF 2 1 X) [] [mkR 0 7,mkR 9 65535] (by
   refine List.pairwise_cons.2 ⟨fun s hs=>?_,List.pairwise_singleton ..⟩
   rw[List.mem_singleton.1 hs];omega) (fun r hr=>by have:=hb r hr;omega) (fun _=>1)
  (fun v v0 v1 hv=>rest_nil (k:=1) (by omega) rfl fun p hp=>by
   have n1:=hv (mkR 0 7) (by simp)
   have n2:=hv (mkR 9 65535) (by simp)
   rw[Bool.eq_false_iff,ne_eq,inR_iff]at n1 n2
   have q1:=inP_set (inP_set hp (f:=3) v0 v1) (f:=2) (v:=1) (by decide) (by decide)
   show orB (memK (setF p 3 v) 2 (atF 2 1 X)) (memK (setF p 3 v) 2 [])=false
   rw[memK_nil,orB,Bool.or_false,pt2]
   cases hm:memK (setF (setF p 3 v) 2 1) 3 X with
   |false=>rfl
   |true=>
    have:=ini_pt q1 (h.ini _ q1 hm)
    have a1:=vals (setF p 3 v) 1;have a3:=vals3 p v
    have v1':v<=65535:=v1
    exfalso;omega)
  (fun r hr u v hu hv u0 u1 v0 v1=>rest_ext (k:=1) (by omega) (fun p hp=>by
   show memK (setF p 3 u) 2 (atF 2 1 X)=memK (setF p 3 v) 2 (atF 2 1 X)
   have q1:=inP_set (inP_set hp (f:=3) u0 u1) (f:=2) (v:=1) (by decide) (by decide)
   have q2:=inP_set (inP_set hp (f:=3) v0 v1) (f:=2) (v:=1) (by decide) (by decide)
   have a1:=vals (setF p 3 u) 1;have a2:=vals (setF p 3 v) 1;have a3:=vals3 p u;have a4:=vals3 p v
   rw[pt2,pt2]
   have:=hb r hr
   rw[inR_iff]at hu hv
   refine h.sig _ _ q1 q2 (ini_same q1 q2 ?_) fun x hx=>?_
   ·unfold iniQ;omega
   ·omega) (fun p hp=>rfl))
  (fun r hr u hu u0 u1=>len_last h (e:=1) (d:=8) (by omega) ⟨u0,u1⟩ (by omega) fun p hp hm=>by
   have q1:=inP_set (inP_set hp (f:=3) u0 u1) (f:=2) (v:=1) (by decide) (by decide)
   have:=ini_pt q1 (h.ini _ q1 hm)
   have a1:=vals (setF p 3 u) 1;have a3:=vals3 p u
   omega)
 simpa using this
theorem len_pt(h:Sh I X){e:Int}(e0:0<=e)(e1:e<=255)(he:e≠1/\e≠6/\e≠17):(cano orB 2 (atF 2 e X) []).length<=1:=by
 have m:(mkR 0 0).lo=0/\(mkR 0 0).hi=0:=by decide
 have hpt:∀p,InP p->memK (setF p 2 e) 3 X=true->p 3=0/\p 4=0:=fun p hp hm=>by
  have q1:=inP_set hp (f:=2) (v:=e) e0 e1
  have:=ini_pt q1 (h.ini _ q1 hm)
  have a1:=vals p e
  omega
 refine one_pt (k:=1) (by omega) (r:=mkR 0 0) (by decide) (fun p hp hm=>inR_iff.2 ?_) (fun p u v hp hu hv u0 u1 v0 v1=>?_) fun u hu u0 u1=>?_
 ·have:=hpt p hp (by rw[<-pt2];exact hm)
  show(mkR 0 0).lo<=p 3/\p 3<=(mkR 0 0).hi
  omega
 ·rw[inR_iff]at hu hv
  rw[show u=v by omega]
 ·refine len_last h (d:=0) ⟨e0,e1⟩ ⟨u0,u1⟩ (by omega) fun p hp hm=>?_
  have:=hpt _ (inP_set hp (f:=3) u0 u1) hm
  have a3:=vals3 p u
  omega
def nPro(I:List (Int×Rg))(r:Rg):Nat:=if r.lo=1 then 2 else if r.lo=6 then 1+2*cntI I 6 else if r.lo=17 then 1+2*cntI I 17 else 1
theorem len_by(h:Sh I X)(hk:∀x,x∈I->kindI x)(L:List Rg)(hd:ApartR L)(hle:∀r,r∈L->r.lo<=r.hi)(hall:∀v,0<=v->v<=255->∃r,r∈L/\inR r v=true)
  (hs:∀r,r∈L->r.lo=r.hi\/(2<=r.lo/\r.hi<=5)\/(7<=r.lo/\r.hi<=16)\/(18<=r.lo/\∀x,x∈I->x.1=50->r.hi<50\/50<r.lo)):(cano orB 3 X []).length<=(L.map (nPro I)).sum:=by
 refine cano_len_ranges orB 2 X [] L hd hle (nPro I) (fun v v0 v1 hv=>?_) (fun r hr u v hu hv u0 u1 v0 v1=>?_) fun r hr u hu u0 u1=>?_
 ·obtain⟨r,hr,h1⟩:=hall v v0 v1
  rw[hv r hr]at h1;cases h1
 ·refine rest_ext (k:=2) (by omega) (fun p hp=>?_) fun p hp=>rfl
  show memK (setF p 2 u) 3 X=memK (setF p 2 v) 3 X
  have q1:=inP_set hp (f:=2) u0 u1
  have q2:=inP_set hp (f:=2) v0 v1
  have a1:=vals p u;have a2:=vals p v
  rw[inR_iff]at hu hv
  rcases hs r hr with h1|h1|h1|⟨h1,h2⟩
  ·rw[show u=v by omega]
  ·refine h.sig _ _ q1 q2 (ini_same q1 q2 ?_) fun x hx=>?_
   ·unfold iniQ;omega
   ·have:=hk x hx;unfold kindI at this;omega
  ·refine h.sig _ _ q1 q2 (ini_same q1 q2 ?_) fun x hx=>?_
   ·unfold iniQ;omega
   ·have:=hk x hx;unfold kindI at this;omega
  ·refine h.sig _ _ q1 q2 (ini_same q1 q2 ?_) fun x hx=>?_
   ·unfold iniQ;omega
   ·have:=hk x hx;have:=h2 x hx;unfold kindI at*;omega
 ·rw[inR_iff]at hu
  have hsr:=hs r hr
  have u1':u<=255:=u1
  have hu2:restAt orB 2 X [] u=cano orB 2 (atF 2 u X) []:=rfl
  rw[hu2]
  have hlo:(u=1->r.lo=1)/\(u=6->r.lo=6)/\(u=17->r.lo=17):=by
   rcases hsr with h1|h1|h1|⟨h1,_⟩<;>omega
  unfold nPro
  by_cases hu1:u=1
  ·rw[if_pos (hlo.1 hu1),hu1];exact len_one h
  ·by_cases hu6:u=6
   ·rw[if_neg (by omega),if_pos (hlo.2.1 hu6),hu6];exact len_pro h (.inl rfl)
   ·by_cases hu17:u=17
    ·rw[if_neg (by omega),if_neg (by omega),if_pos (hlo.2.2 hu17),hu17];exact len_pro h (.inr rfl)
    ·have:=len_pt h u0 u1' ⟨hu1,hu6,hu17⟩
     split
     ·omega
     ·split
      ·omega
      ·split
       ·omega
       ·omega
theorem cnt_three(I:List (Int×Rg)):cntI I 6+cntI I 17+cntI I 50<=I.length:=by
 unfold cntI
 induction I with
 |nil=>exact Nat.le_refl _
 |cons x I ih=>
  simp only[List.filter_cons,List.length_cons]
  by_cases h1:x.1=6
  ·rw[if_pos (by simpa using h1),if_neg (by simp;omega),if_neg (by simp;omega)];simp only[List.length_cons];omega
  ·by_cases h2:x.1=17
   ·rw[if_neg (by simpa using h1),if_pos (by simpa using h2),if_neg (by simp;omega)];simp only[List.length_cons];omega
   ·by_cases h3:x.1=50
    ·rw[if_neg (by simpa using h1),if_neg (by simpa using h2),if_pos (by simpa using h3)];simp only[List.length_cons];omega
    ·rw[if_neg (by simpa using h1),if_neg (by simpa using h2),if_neg (by simpa using h3)];omega
def lotA:List Rg:=[mkR 0 0,mkR 1 1,mkR 2 5,mkR 6 6,mkR 7 16,mkR 17 17,mkR 18 255]
def lotB:List Rg:=[mkR 0 0,mkR 1 1,mkR 2 5,mkR 6 6,mkR 7 16,mkR 17 17,mkR 18 49,mkR 50 50,mkR 51 255]
theorem lotA_ok:ApartR lotA/\(∀r,r∈lotA->r.lo<=r.hi)/\(∀r,r∈lotA->r.lo=r.hi\/(2<=r.lo/\r.hi<=5)\/(7<=r.lo/\r.hi<=16)\/18<=r.lo):=by
 unfold ApartR lotA;decide
theorem lotB_ok:ApartR lotB/\(∀r,r∈lotB->r.lo<=r.hi)/\(∀r,r∈lotB->r.lo=r.hi\/(2<=r.lo/\r.hi<=5)\/(7<=r.lo/\r.hi<=16)\/(18<=r.lo/\(r.hi<50\/50<r.lo))):=by
 unfold ApartR lotB;decide
theorem lot_all{L:List Rg}(h:∀n:Nat,n<256->(L.any fun r=>inR r (n:Int))=true):∀v,0<=v->v<=255->∃r,r∈L/\inR r v=true:=fun v v0 v1=>by
 have:=h v.toNat (by omega)
 rw[show((v.toNat:Nat):Int)=v by omega,List.any_eq_true]at this
 exact this
theorem three_len(h:Sh I X)(hk:∀x,x∈I->kindI x)(h4:I.length<=4):(cano orB 3 X []).length<=16:=by
 have hc:=cnt_three I
 by_cases h50:cntI I 50=0
 ·have:=len_by h hk lotA lotA_ok.1 lotA_ok.2.1 (lot_all (by decide)) fun r hr=>by
   rcases lotA_ok.2.2 r hr with h1|h1|h1|h1
   ·exact .inl h1
   ·exact .inr (.inl h1)
   ·exact .inr (.inr (.inl h1))
   ·refine .inr (.inr (.inr ⟨h1,fun x hx hx50=>?_⟩))
    exfalso
    have:=List.length_eq_zero_iff.1 h50
    have hm:x∈I.filter fun x=>decide (x.1=50):=List.mem_filter.2 ⟨hx,by simpa using hx50⟩
    rw[this]at hm;simp at hm
  have e:(lotA.map (nPro I)).sum=1+(2+(1+((1+2*cntI I 6)+(1+((1+2*cntI I 17)+(1+0)))))):=rfl
  omega
 ·have:=len_by h hk lotB lotB_ok.1 lotB_ok.2.1 (lot_all (by decide)) fun r hr=>by
   rcases lotB_ok.2.2 r hr with h1|h1|h1|h1
   ·exact .inl h1
   ·exact .inr (.inl h1)
   ·exact .inr (.inr (.inl h1))
   ·exact .inr (.inr (.inr ⟨h1.1,fun _ _ _=>h1.2⟩))
  have e:(lotB.map (nPro I)).sum=1+(2+(1+((1+2*cntI I 6)+(1+((1+2*cntI I 17)+(1+(1+(1+0)))))))):=rfl
  omega
end
theorem atF_one(f:Nat)(v:Int)(w:Bx):atF f v [w]=if inR (w.get f) v=true then [w]else []:=by
 rw[atF,inR,List.filter_cons,List.filter_nil]
end Go.Proofs.YtokmdghjgegclaaGreatDoor
