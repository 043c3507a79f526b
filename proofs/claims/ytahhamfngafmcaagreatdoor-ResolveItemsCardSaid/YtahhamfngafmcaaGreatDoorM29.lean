/- The generator's windows are windows that can be written: Parse, Window. -/
import Derived.Test.YtahhamfngafmcaaGreatDoorM28
set_option linter.unusedVariables false
set_option linter.unusedSimpArgs false
set_option maxRecDepth 100000
set_option maxHeartbeats 4000000
namespace Go.Proofs.YtahhamfngafmcaaGreatDoor
open Go Go.Vm
def OutOk(out:List Rg):Prop:=∀r,r∈out->∃d:Nat,d<7/\1440*(d:Int)<=r.lo/\r.lo<=r.hi/\r.hi<=1440*(d:Int)+1439
def inD(d:Nat)(r:Rg):Bool:=decide (1440*(d:Int)<=r.lo)&&decide (r.hi<=1440*(d:Int)+1439)
theorem ind_le{p:Nat->Bool}{k:Nat}(h:∀d,p d=true->d=k):∀n,((List.range n).map fun d=>if p d=true then 1 else 0).sum<=if k<n then 1 else 0
 |0=>by simp
 |n+1=>by
  have ih:=ind_le h n
  rw[List.range_succ,List.map_append,List.sum_append]
  simp only[List.map_cons,List.map_nil,List.sum_cons,List.sum_nil]
  by_cases hp:p n=true
  ·have:=h n hp
   subst this
   rw[if_pos hp,if_pos (Nat.lt_succ_self _)]
   rw[if_neg (Nat.lt_irrefl _)]at ih
   omega
  ·rw[if_neg hp]
   split at ih
   ·rw[if_pos (by omega)];omega
   ·split<;>omega
theorem sum_add2{α:Type}(f g:α->Nat):∀l:List α,(l.map fun d=>f d+g d).sum=(l.map f).sum+(l.map g).sum
 |[]=>rfl
 |x::l=>by simp only[List.map_cons,List.sum_cons,sum_add2 f g l];omega
theorem sum_days:∀out:List Rg,(∀r,r∈out->r.lo<=r.hi)->((List.range 7).map fun d=>(out.filter (inD d)).length).sum<=out.length
 |[],_=>Nat.le_of_eq rfl
 |r::out,h=>by
  have ih:=sum_days out fun x hx=>h x (List.mem_cons_of_mem _ hx)
  have e:((List.range 7).map fun d=>((r::out).filter (inD d)).length)=(List.range 7).map fun d=>(if inD d r=true then 1 else 0)+(out.filter (inD d)).length:=by
   refine List.map_congr_left fun d _=>?_
   rw[List.filter_cons]
   split
   ·rw[List.length_cons];omega
   ·omega
  have hr:=h r (by simp)
  have h1:=ind_le (p:=fun d=>inD d r) (k:=(r.lo/1440).toNat) (fun d hd=>by
   simp only[inD,Bool.and_eq_true,decide_eq_true_eq]at hd
   omega) 7
  rw[e,sum_add2,List.length_cons]
  have h2:(if(r.lo/1440).toNat<7 then 1 else 0)<=1:=by split<;>omega
  omega
theorem win_of_out{out rs:List Rg}(ho:OutOk out)(hl:out.length<=16)(hc:Canon rs)(hh:∀v,has rs v=has out v):WinOk rs:=by
 refine⟨hc,fun r hr=>?_,?_⟩
 ·have h1:=has_iff.2 ⟨r,hr,hc.1 r hr,Int.le_refl _⟩
  rw[hh]at h1
  obtain⟨q,hq,q1,q2⟩:=has_iff.1 h1
  obtain⟨d,d1,d2,d3,d4⟩:=ho q hq
  omega
 ·have hd:∀d,(dayW rs d).length<=(out.filter (inD d)).length:=fun d=>by
   have e:(fun v=>has rs v&&(decide (1440*(d:Int)<=v)&&decide (v<=1440*(d:Int)+1439)))=has (out.filter (inD d)):=by
    funext v
    rw[hh,Bool.eq_iff_iff]
    simp only[Bool.and_eq_true,decide_eq_true_eq]
    constructor
    ·rintro⟨h1,h2,h3⟩
     obtain⟨q,hq,q1,q2⟩:=has_iff.1 h1
     obtain⟨e,d1,d2,d3,d4⟩:=ho q hq
     have:e=d:=by omega
     subst this
     exact has_iff.2 ⟨q,List.mem_filter.2 ⟨hq,by simp only[inD,Bool.and_eq_true,decide_eq_true_eq];omega⟩,q1,q2⟩
    ·intro h
     obtain⟨q,hq,q1,q2⟩:=has_iff.1 h
     obtain⟨hq1,hq2⟩:=List.mem_filter.1 hq
     simp only[inD,Bool.and_eq_true,decide_eq_true_eq]at hq2
     exact⟨has_iff.2 ⟨q,hq1,q1,q2⟩,by omega,by omega⟩
   unfold dayW
   rw[e]
   exact canO_len _
  have hs:=sum_days out fun r hr=>by obtain⟨d,d1,d2,d3,d4⟩:=ho r hr;exact d3
  have hm:cntW rs 7<=((List.range 7).map fun d=>(out.filter (inD d)).length).sum:=by
   unfold cntW
   generalize List.range 7=l
   induction l with
   |nil=>simp
   |cons x l ih=>simp only[List.map_cons,List.sum_cons];have:=hd x;omega
  omega
theorem win_nil:WinOk []:=win_of_out (out:=[]) (fun r h=>by cases h) (by simp) canon_nil fun v=>rfl
structure Wds (ws:List ByteArray):Prop where
 mod:ws.length%3=2
 len:ws.length<=8
 size:∀s,s∈ws->s.size<=1000
 day:∀(j:Nat) s,ws[3*j]? =some s->DayW s
theorem djParse(ws:List ByteArray)(hw:Wds ws){K:KT}(hK:∀(rs:List Rg) (e:Int),WinOk rs->rs.length<=16->K (.tup [encRs rs,.v (.int .i64 e)]) []):ACall Tryz.prog 68 [.lst (ws.map encSt)] [] K:=by
 have hl:=hw.len
 have hmod:=hw.mod
 have hm:(ws.length:Int).tmod 3=((ws.length%3:Nat):Int):=by rw[Int.tmod_eq_emod_of_nonneg (by omega)];omega
 refine ACall.weak (ofq9Parse rfl rfl ?_)
 (repeat' ((conv=>whnf);first|(refine In.intro 0 rfl (by omega) ?_)|(with_reducible first|refine ix_map_any (by simp only[List.length_map]at*;omega) fun c hc=>?_|refine Ob.intro (by decide) ?_)|refine zG ?_|apply zA|(apply zI;intro h)|exact zT));(all_goals conv=>whnf)
 all_goals first
  |exact⟨_,Weak.tup2 Weak.nils Weak.refl,hK [] _ win_nil (by simp)⟩
  |skip
 all_goals
  refine Lp.intro (Nat×List Rg) (fun g=>⟨1,[(0,.arr 2 (g.2.map encR))],[(0,.lst (ws.map encSt)),(4,.os 0 2 0 g.2.length),(5,.v (.int .i64 (3*g.1:Nat)))]⟩)
   (fun g=>3*g.1<=ws.length+1/\g.2.length<=5*g.1/\OutOk g.2) (fun g=>ws.length+3-3*g.1) (0,[]) ⟨Nat.zero_le _,Nat.zero_le _,fun r h=>by cases h⟩ ?_ ?_
  ·(exact leA)
  rintro⟨i,out⟩ ⟨h2,h3,h4⟩
  simp only at h2 h3 h4⊢
  rcases Nat.lt_or_ge (3*i) ws.length with hil|hil
  ·have hi1:3*i+1<ws.length:=by omega
   obtain⟨s0,hs0⟩:∃s,ws[3*i]? =some s:=⟨_,List.getElem?_eq_getElem hil⟩
   obtain⟨s1,hs1⟩:∃s,ws[3*i+1]? =some s:=⟨_,List.getElem?_eq_getElem hi1⟩
   (repeat' ((conv=>whnf);first|(with_reducible first|refine in_map hil ?_|refine ix_map hs0 ?_|refine In.intro (3*i+1) (by omega) (by rw[List.length_map];exact hi1) ?_|refine ix_map hs1 ?_|refine djSpan s0 (hw.day i s0 hs0) fun a b a0 a1 a2 a3=>?_|refine djTimes s1 (hw.size _ (List.mem_of_getElem? hs1)) fun f g f0 g1 g0=>?_|refine In.intro (3*i+2) (by omega) (by rw[List.length_map]at*;omega) ?_|refine ix_map_any (by simp only[List.length_map]at*;omega) fun c hc=>?_)|refine zG ?_|apply zA|(apply zI;intro h)|exact zT));(all_goals conv=>whnf)
   all_goals first
    |exact⟨_,Weak.tup2 Weak.nils Weak.refl,hK [] _ win_nil (by simp)⟩
    |skip
   all_goals
    have hf:0<=f/\f<g:=by omega
    refine Lp.intro (Int×List Rg) (fun q=>⟨1,[(0,.arr 2 (q.2.map encR))],[(0,.lst (ws.map encSt)),(4,.os 0 2 0 q.2.length),(5,.v (.int .i64 (3*i:Nat))),(7,.v (.int .i64 b)),(8,.v (.int .i64 f)),(9,.v (.int .i64 g)),(10,.v (.int .i64 q.1))]⟩)
     (fun q=>a<=q.1/\q.1<=b+1/\(q.2.length:Int)<=5*i+(q.1-a)/\OutOk q.2) (fun q=>(7-q.1).toNat) (a,out) ⟨by simp only;omega,by simp only;omega,by simp only;omega,h4⟩ ?_ ?_
    ·(exact leA)
    rintro⟨d,ou⟩ ⟨k1,k2,k3,k4⟩
    simp only at k1 k2 k3 k4⊢
    rcases Int.lt_or_le b d with hbd|hbd
    ·(repeat' ((conv=>whnf);first|refine zG ?_|apply zA|(apply zI;intro h)|exact zT));(all_goals conv=>whnf)
     refine⟨(i+1,ou),⟨by simp only;omega,by simp only;omega,k4⟩,by simp only;omega,?_⟩
     rw[show((3*((i+1,ou):Nat×List Rg).1:Nat):Int)=((3*i:Nat):Int)+3 from by simp only;omega]
     (exact leA)
    ·(repeat' ((conv=>whnf);first|(with_reducible first|refine wr_i64 rfl (by omega) (by omega) ?_|refine wr_u32 rfl (by omega) (by omega) ?_)|refine zG ?_|apply zA|(apply zI;intro h)|exact zT));(all_goals conv=>whnf)
     refine⟨(d+1,ou++[⟨1440*d+f,1440*d+g-1,by omega,by omega,by omega,by omega⟩]),⟨by simp only;omega,by simp only;omega,by simp only[List.length_append,List.length_cons,List.length_nil];omega,fun r hr=>?_⟩,by simp only;omega,?_⟩
     ·rcases List.mem_append.1 hr with hr|hr
      ·exact k4 r hr
      ·rw[List.mem_singleton.1 hr]
       exact⟨d.toNat,by omega,by simp only;omega,by simp only;omega,by simp only;omega⟩
     ·simp only[List.map_append,List.length_append,List.map_cons,List.map_nil,List.length_cons,List.length_nil]
      (exact leA)
  ·(repeat' ((conv=>whnf);first|(with_reducible first|refine Ob.intro (by decide) ?_|refine wr_any fun r=>?_|refine sl_full (List.length_map ..) ?_)|(refine c14 out [] (by omega) (by simp) fun rs q1 q2 q3=>?_)|refine zG ?_|apply zA|(apply zI;intro h)|exact zT));(all_goals conv=>whnf)
   all_goals first
    |exact⟨_,Weak.tup2 Weak.nils Weak.refl,hK [] _ win_nil (by simp)⟩
    |exact⟨_,Weak.refl,hK _ _ (win_of_out h4 (by omega) q1 fun v=>by rw[q2,has_nil];simp) (Nat.le_trans (canon_len (rs:=out) q1 fun v=>by rw[q2,has_nil];simp) (by omega))⟩
    |trace_state
theorem wds_two{c e:ByteArray}(hc:c∈winL)(he:e.size<=1000):Wds [c,e] where
 mod:=rfl
 len:=by simp
 size:=fun s hs=>by
  simp only[List.mem_cons,List.not_mem_nil,or_false]at hs
  rcases hs with rfl|rfl
  ·exact(winL_days _ hc).size
  ·exact he
 day:=fun j s hs=>by
  have:=(List.getElem?_eq_some_iff.1 hs).1
  simp only[List.length_cons,List.length_nil]at this
  obtain rfl:j=0:=by omega
  cases hs
  exact winL_days _ hc
theorem wds_snoc{ws:List ByteArray}{x y:ByteArray}(h:Wds ws)(hl:ws.length<=5)(hx:x∈winL)(hy:y.size<=1000):Wds (ws++[⟨#[44]⟩,x,y]) where
 mod:=by have:=h.mod;simp only[List.length_append,List.length_cons,List.length_nil];omega
 len:=by simp only[List.length_append,List.length_cons,List.length_nil];omega
 size:=fun s hs=>by
  rcases List.mem_append.1 hs with hs|hs
  ·exact h.size s hs
  ·simp only[List.mem_cons,List.not_mem_nil,or_false]at hs
   rcases hs with rfl|rfl|rfl
   ·decide
   ·exact(winL_days _ hx).size
   ·exact hy
 day:=fun j s hs=>by
  have hm:=h.mod
  rcases Nat.lt_or_ge (3*j) ws.length with hlt|hge
  ·rw[List.getElem?_append_left hlt]at hs
   exact h.day j s hs
  ·rw[List.getElem?_append_right hge]at hs
   have:=(List.getElem?_eq_some_iff.1 hs).1
   simp only[List.length_cons,List.length_nil]at this
   rw[show 3*j-ws.length=1 by omega]at hs
   cases hs
   exact winL_days _ hx
theorem enWin(raw:List Int)(pos:Nat)(hp:pos<=raw.length)(hr:raw.length<=9223372036854775807){K:KT}
  (hK:∀(rs:List Rg) (pos':Nat),WinOk rs->rs.length<=16->pos'<=raw.length->K (encRs rs) [tapeO raw pos']):ACall Tryz.prog 39 [.op 0 0] [tapeO raw pos] K:=by
 have b2:∀s,s∈houL->s.size<=1000:=by decide+kernel
 refine ofnWin rfl rfl ?_
 (repeat' ((conv=>whnf);first|(with_reducible first|refine nNext raw _ _ (by omega) (by assumption) hr fun m1 p1 hm1 hp1=>?_|refine in_nat (by omega) ?_|refine ix_strs winL 6 rfl rfl (by omega) fun c hc=>?_|refine ix_strs houL 5 rfl rfl (by omega) fun e he=>?_)|refine zG ?_|apply zA|(apply zI;intro h)|exact zT));(all_goals conv=>whnf)
 all_goals
  refine Lp.intro (Nat×Nat×List ByteArray) (fun g=>⟨4,[(0,tapeO raw g.1),(1,.arr 1 (winL.map encSt)),(2,.arr 1 (houL.map encSt)),(3,.arr 1 (g.2.2.map encSt))],[(0,.op 0 0),(3,.os 1 1 0 6),(4,.os 2 1 0 5),(5,.os 3 1 0 g.2.2.length),(6,.v (.int .i64 g.2.1))]⟩)
   (fun g=>g.1<=raw.length/\3*g.2.1+g.2.2.length<=8/\Wds g.2.2) (fun g=>g.2.1) (p1,m1,[c,e]) ⟨hp1,by simp only[List.length_cons,List.length_nil];omega,wds_two hc (b2 _ he)⟩ ?_ ?_
  ·(exact leA)
  rintro⟨p2,i,ws⟩ ⟨h1,h2,h3⟩
  simp only at h1 h2 h3⊢
  rcases Nat.lt_or_ge 0 i with hi0|hi0
  ·obtain⟨i',rfl⟩:∃i',i=i'+1:=⟨i-1,by omega⟩
   have hi1:((i'+1:Nat):Int)-1=(i':Int):=by omega
   (repeat' ((conv=>whnf);first|(with_reducible first|refine wr_i64 hi1 (by omega) (by omega) ?_|refine nNext raw _ _ (by omega) (by assumption) hr fun m1 p1 hm1 hp1=>?_|refine in_nat (by omega) ?_|refine ix_strs winL 6 rfl rfl (by omega) fun x hx=>?_|refine ix_strs houL 5 rfl rfl (by omega) fun y hy=>?_)|refine zG ?_|apply zA|(apply zI;intro h)|exact zT));(all_goals conv=>whnf)
   all_goals first
    |(refine⟨(p1,i',ws++[⟨#[44]⟩,x,y]),⟨hp1,by simp only[List.length_append,List.length_cons,List.length_nil];omega,wds_snoc h3 (by omega) hx (b2 _ hy)⟩,by simp only;omega,?_⟩
      simp only[List.map_append,List.length_append,List.map_cons,List.map_nil,List.length_cons,List.length_nil]
      (exact leA))
    |trace_state
  ·obtain rfl:i=0:=by omega
   (repeat' ((conv=>whnf);first|(with_reducible first|refine sl_full (List.length_map ..) ?_|refine djParse ws h3 fun rs e hrs hrl=>?_)|refine zG ?_|apply zA|(apply zI;intro h)|exact zT));(all_goals conv=>whnf)
   exact hK _ _ hrs hrl h1
theorem enPick(raw:List Int)(pos:Nat)(l:List Df)(hl:l.length<=1000)(hp:pos<=raw.length)(hr:raw.length<=9223372036854775807){K:KT}
  (hK:∀(s:ByteArray) (pos':Nat),(s=⟨#[]⟩\/∃d,d∈l/\s=d.name)->pos'<=raw.length->K (.v (.string s)) [tapeO raw pos']):ACall Tryz.prog 69 [.op 0 0,.lst (l.map encDf)] [tapeO raw pos] K:=by
 refine ofnPick rfl rfl ?_
 (repeat' ((conv=>whnf);first|(with_reducible first|refine nNext raw _ _ (by simp only[List.length_map];omega) (by assumption) hr fun m1 p1 hm1 hp1=>?_|refine in_map (by simp only[List.length_map]at*;omega) ?_|refine ix_map_any (by simp only[List.length_map]at*;omega) fun d hd=>?_)|refine zG ?_|apply zA|(apply zI;intro h)|exact zT));(all_goals conv=>whnf)
 all_goals first
  |exact hK _ _ (.inl rfl) (by assumption)
  |exact hK _ _ (.inr ⟨d,hd,rfl⟩) (by assumption)
  |trace_state
theorem enNum(raw:List Int)(pos:Nat)(top:Int)(t0:0<=top)(t1:top<=4294967295)(hp:pos<=raw.length)(hr:raw.length<=9223372036854775807){K:KT}
  (hK:∀(a:Int) (pos':Nat),0<=a->a<=top->pos'<=raw.length->K (.v (.int .u32 a)) [tapeO raw pos']):ACall Tryz.prog 42 [.op 0 0,.v (.int .u32 top)] [tapeO raw pos] K:=by
 refine ofvNum rfl rfl ?_
 (repeat' ((conv=>whnf);first|(with_reducible first|refine nNext raw _ _ (by omega) (by assumption) hr fun m1 p1 hm1 hp1=>?_|refine in_nat (by omega) ?_|refine wr_u32_any fun r r0 r1=>?_)|refine zG ?_|apply zA|(apply zI;intro h)|exact zT));(all_goals conv=>whnf)
 refine ix_all IsU32 ?_ (by simp only[List.length_cons,List.length_nil];omega) ?_
 ·simp only[List.forall_mem_cons]
  (repeat' apply And.intro)<;>first|exact⟨_,rfl,by assumption,by assumption⟩|exact⟨_,rfl,by decide,by decide⟩|(intro _ h;cases h)
 ·rintro _ ⟨y,rfl,y0,y1⟩
  (repeat' ((conv=>whnf);first|refine zG ?_|apply zA|(apply zI;intro h)|exact zT));(all_goals conv=>whnf)
  all_goals exact hK _ _ (by omega) (by omega) (by assumption)
theorem enRange(raw:List Int)(pos:Nat)(top:Int)(t0:0<=top)(t1:top<=4294967295)(hp:pos<=raw.length)(hr:raw.length<=9223372036854775807){K:KT}
  (hK:∀(r:Rg) (pos':Nat),r.lo<=r.hi->r.hi<=top->pos'<=raw.length->K (encR r) [tapeO raw pos']):ACall Tryz.prog 23 [.op 0 0,.v (.int .u32 top)] [tapeO raw pos] K:=by
 refine ofnRange rfl rfl ?_
 (repeat' ((conv=>whnf);first|(with_reducible refine enNum raw _ top t0 t1 (by assumption) hr fun a p2 a0 a1 hp2=>?_)|refine zG ?_|apply zA|(apply zI;intro h)|exact zT));(all_goals conv=>whnf)
 all_goals exact hK ⟨_,_,by omega,by omega,by omega,by omega⟩ _ (by simp only;omega) (by simp only;omega) (by assumption)
theorem sub_okQ(n:Nat):(subL.getD n noPf).okP:=by
 have h:∀q,q∈subL->q.okP:=by decide+kernel
 rcases Nat.lt_or_ge n subL.length with hn|hn
 ·rw[List.getD,List.getElem?_eq_getElem hn];exact h _ (List.getElem_mem hn)
 ·rw[List.getD,List.getElem?_eq_none hn];decide
theorem shr_wr{a c:Int}{K:Int->Prop}(c0:0<=c)(c1:c<32)(a0:0<=a)(a1:a<=4294967295)(hk:∀r:Int,0<=r->r<=4294967295->r%pz c=0->K r):
  Wr .u32 (a.fdiv (2^min (32-c).toNat IntKind.u32.bits)*2^min (32-c).toNat IntKind.u32.bits) K:=by
 have hb:IntKind.u32.bits=32:=rfl
 have hp:=pz_pos c
 have e:(2:Int)^min (32-c).toNat IntKind.u32.bits=pz c:=by
  rw[hb,Nat.min_eq_left (by omega),pz,Int.natCast_pow];rfl
 rw[e,Int.fdiv_eq_ediv_of_nonneg _ (Int.le_of_lt hp)]
 have h1:0<=a/pz c:=Int.ediv_nonneg a0 (Int.le_of_lt hp)
 have h2:a/pz c*pz c<=a:=Int.ediv_mul_le a (by omega)
 have h3:0<=a/pz c*pz c:=Int.mul_nonneg h1 (Int.le_of_lt hp)
 exact wr_u32 rfl h3 (by omega) (hk _ h3 (by omega) (Int.mul_emod_left _ _))
theorem enPref(raw:List Int)(pos:Nat)(hp:pos<=raw.length)(hr:raw.length<=9223372036854775807){K:KT}
  (hK:∀(q:Pf) (pos':Nat),q.okP->pos'<=raw.length->K (encP q) [tapeO raw pos']):ACall Tryz.prog 21 [.op 0 0] [tapeO raw pos] K:=by
 refine ofnPref rfl rfl ?_
 (repeat' ((conv=>whnf);first|(with_reducible first|refine nNext raw _ _ (by omega) (by assumption) hr fun m1 p1 hm1 hp1=>?_|refine in_nat (by omega) ?_|refine cnSub _ (by omega) ?_|refine ix_intsB [32,31,24,25,8,1,0,16,30,23] 10 0 32 rfl rfl (by decide) (by omega) fun c c0 c1=>?_|refine cnAddr raw _ (by assumption) hr fun a p2 a0 a1 hp2=>?_|refine shr_wr (by omega) (by omega) a0 a1 fun r r0 r1 r2=>?_)|refine zG ?_|apply zA|(apply zI;intro h)|exact zT));(all_goals conv=>whnf)
 all_goals first
  |exact hK _ _ (sub_okQ _) (by assumption)
  |exact hK ⟨r,c,r0,r1⟩ _ ⟨c0,c1,r2⟩ (by assumption)
  |(refine hK ⟨a,c,a0,a1⟩ _ ⟨c0,c1,?_⟩ (by assumption)
    have hc:c=32:=by omega
    show a%pz c=0
    rw[hc]
    exact Int.emod_one a)
  |trace_state
theorem opt_nil:optB ⟨#[]⟩=true:=by unfold optB;rw[sEq_data];rfl
theorem opt_nm{s:ByteArray}(h:nameB s=true):optB s=true:=by unfold optB;rw[h,Bool.or_true]
theorem nil_self:sEq ⟨#[]⟩ ⟨#[]⟩=true:=sEq_self _
theorem enPickO(raw:List Int)(pos:Nat)(l:List Df)(hn:∀d,d∈l->nameB d.name=true)(hl:l.length<=1000)(hp:pos<=raw.length)(hr:raw.length<=9223372036854775807){K:KT}
  (hK:∀(s:ByteArray) (pos':Nat),optB s=true->pos'<=raw.length->K (.v (.string s)) [tapeO raw pos']):ACall Tryz.prog 69 [.op 0 0,.lst (l.map encDf)] [tapeO raw pos] K:=
 enPick raw pos l hl hp hr fun s p h hp=>hK s p (by
  rcases h with rfl|⟨d,hd,rfl⟩
  ·exact opt_nil
  ·exact opt_nm (hn d hd)) hp
theorem sm_1{p e:Bool}{f t s a b:ByteArray}(h1:optB f=true)(h2:optB t=true)(h3:optB s=true)(h4:e=true/\optB a=true/\optB b=true\/(a=⟨#[]⟩/\b=⟨#[]⟩)):smB ⟨p,f,t,s,e,a,b,⟨#[]⟩,⟨#[]⟩,0⟩=true:=by
 have hz:=opt_nil
 have hy:=nil_self
 rcases h4 with⟨rfl,h5,h6⟩|⟨rfl,rfl⟩<;>simp_all[smB]
theorem sm_cls{x:Sm}{c:ByteArray}(h:smB x=true)(hp:x.permit=true)(hc:optB c=true):smB ⟨x.permit,x.frm,x.to,x.svc,x.exc,x.exF,x.exT,c,x.dur,x.pri⟩=true:=by
 simp only[smB,Bool.and_eq_true,Bool.or_eq_true]at h⊢
 simp_all
theorem sm_dur{x:Sm}{c:ByteArray}(h:smB x=true)(hc:optB c=true):smB ⟨x.permit,x.frm,x.to,x.svc,x.exc,x.exF,x.exT,x.cls,c,x.pri⟩=true:=by
 simp only[smB,Bool.and_eq_true,Bool.or_eq_true]at h⊢
 simp_all
theorem sm_pri{x:Sm}{c:Int}(h:smB x=true)(h0:0<=c)(h1:c<=1000):smB ⟨x.permit,x.frm,x.to,x.svc,x.exc,x.exF,x.exT,x.cls,x.dur,c⟩=true:=by
 simp only[smB,Bool.and_eq_true,Bool.or_eq_true,decide_eq_true_eq]at h⊢
 simp_all
theorem sm_exB{raw:List Int}{L:Sm×Nat->Prop}(a:Bool)(b c d:ByteArray)(e:Bool)(f g:ByteArray)(q:Nat)(hL:L (⟨a,b,c,d,e,f,g,⟨#[]⟩,⟨#[]⟩,0⟩,q))(hR:q<=raw.length)(hB:smB ⟨a,b,c,d,e,f,g,⟨#[]⟩,⟨#[]⟩,0⟩=true):∃g:Sm×Nat,(g.2<=raw.length/\smB g.1=true)/\L g:=⟨_,⟨hR,hB⟩,hL⟩
theorem enStm(raw:List Int)(pos:Nat)(t:Tp)(htd:t.devs.length<=100)(gs ss:List Df)(ws:List Wn)(sts:List Sm)(hg:gs.length<=1000)(hs:ss.length<=1000)(hw:ws.length<=1000)(hp:pos<=raw.length)(hr:raw.length<=9223372036854775807){K:KT}
  (hcl:∀d,d∈t.devs->optB d.cls=true)(hgn:∀d,d∈gs->nameB d.name=true)(hsn:∀d,d∈ss->nameB d.name=true)(hwn:∀d,d∈ws->nameB d.name=true)
  (hK:∀(s:Sm) (pos':Nat),smB s=true->pos'<=raw.length->K (encSm s) [tapeO raw pos',.arr 10 (sts.map encSm)]):
  ACall Tryz.prog 40 [.op 0 0,encT t,.agg [.lst (gs.map encDf),.lst (ss.map encDf),.lst (ws.map encWn),.os 1 10 0 sts.length,.nils,.nils]] [tapeO raw pos,.arr 10 (sts.map encSm)] K:=by
 refine ofnStm rfl rfl ?_
 (repeat' ((conv=>whnf);first|(with_reducible first|refine nNext raw _ _ (by omega) (by assumption) hr fun m1 p1 hm1 hp1=>?_|refine enPickO raw _ gs hgn hg (by assumption) hr fun s p2 hso hp2=>?_|refine enPickO raw _ ss hsn hs (by assumption) hr fun s p2 hso hp2=>?_)|refine zG ?_|apply zA|(apply zI;intro h)|exact zT));(all_goals conv=>whnf)
 all_goals
  refine Jn.intro (Sm×Nat) (fun g=>⟨6,[(0,tapeO raw g.2),(1,.arr 10 (sts.map encSm)),(2,boxT t),(3,.box [.lst (gs.map encDf),.lst (ss.map encDf),.lst (ws.map encWn),.os 1 10 0 sts.length,.nils,.nils]),(4,smBox sm0),(5,smBox g.1)],[(0,.op 0 0),(4,.op 2 0),(5,.op 3 0),(6,.op 4 0),(7,.op 5 0)]⟩) (fun g=>g.2<=raw.length/\smB g.1=true) ?_ ?_
  ·(repeat' ((conv=>whnf);first|(with_reducible first|refine nNext raw _ _ (by omega) (by assumption) hr fun m1 p1 hm1 hp1=>?_|refine enPickO raw _ gs hgn hg (by assumption) hr fun s p2 hso hp2=>?_|refine enPickO raw _ ss hsn hs (by assumption) hr fun s p2 hso hp2=>?_)|refine zG ?_|apply zA|(apply zI;intro h)|exact zT));(all_goals conv=>whnf)
   all_goals
    apply sm_exB
    ·(exact leA)
    ·with_reducible assumption
    ·exact sm_1 (by with_reducible assumption) (by with_reducible assumption) (by with_reducible assumption) (by first|exact .inr ⟨rfl,rfl⟩|exact .inl ⟨rfl,by with_reducible assumption,by with_reducible assumption⟩)
  rintro⟨x,q⟩ ⟨hq,hx⟩
  simp only at hq hx⊢
  (repeat' ((conv=>whnf);first|refine zG ?_|apply zA|(apply zI;intro h)|exact zT));(all_goals conv=>whnf)
  refine Jn.intro (Sm×Nat) (fun g=>⟨6,[(0,tapeO raw g.2),(1,.arr 10 (sts.map encSm)),(2,boxT t),(3,.box [.lst (gs.map encDf),.lst (ss.map encDf),.lst (ws.map encWn),.os 1 10 0 sts.length,.nils,.nils]),(4,smBox sm0),(5,smBox g.1)],[(0,.op 0 0),(4,.op 2 0),(5,.op 3 0),(6,.op 4 0),(7,.op 5 0)]⟩) (fun g=>g.2<=raw.length/\smB g.1=true) ?_ ?_
  ·(repeat' ((conv=>whnf);first|(with_reducible first|refine nNext raw _ _ (by(try simp only[List.length_map]);omega) (by with_reducible assumption) hr fun m1 p1 hm1 hp1=>?_|refine in_map (by simp only[List.length_map]at*;omega) ?_|refine ix_map_any (by simp only[List.length_map]at*;omega) fun r hrm=>?_)|refine zG ?_|apply zA|(apply zI;intro h)|exact zT));(all_goals conv=>whnf)
   all_goals first
    |(refine⟨(⟨x.permit,x.frm,x.to,x.svc,x.exc,x.exF,x.exT,r.cls,x.dur,x.pri⟩,p1),⟨(by with_reducible assumption),sm_cls hx (by with_reducible assumption) (hcl r (by with_reducible assumption))⟩,?_⟩
      (exact leA)
      done)
    |(refine⟨(x,p1),⟨(by with_reducible assumption),hx⟩,?_⟩
      (exact leA)
      done)
    |(refine⟨(x,q),⟨(by with_reducible assumption),hx⟩,?_⟩
      (exact leA)
      done)
  clear hq hx q x
  rintro⟨x,q⟩ ⟨hq,hx⟩
  simp only at hq hx⊢
  (repeat' ((conv=>whnf);first|refine zG ?_|apply zA|(apply zI;intro h)|exact zT));(all_goals conv=>whnf)
  refine Jn.intro (Sm×Nat) (fun g=>⟨6,[(0,tapeO raw g.2),(1,.arr 10 (sts.map encSm)),(2,boxT t),(3,.box [.lst (gs.map encDf),.lst (ss.map encDf),.lst (ws.map encWn),.os 1 10 0 sts.length,.nils,.nils]),(4,smBox sm0),(5,smBox g.1)],[(0,.op 0 0),(4,.op 2 0),(5,.op 3 0),(6,.op 4 0),(7,.op 5 0)]⟩) (fun g=>g.2<=raw.length/\smB g.1=true) ?_ ?_
  ·(repeat' ((conv=>whnf);first|(with_reducible first|refine nNext raw _ _ (by(try simp only[List.length_map]);omega) (by with_reducible assumption) hr fun m1 p1 hm1 hp1=>?_|refine in_map (by simp only[List.length_map]at*;omega) ?_|refine ix_map_any (by simp only[List.length_map]at*;omega) fun r hrm=>?_)|refine zG ?_|apply zA|(apply zI;intro h)|exact zT));(all_goals conv=>whnf)
   all_goals first
    |(refine⟨(⟨x.permit,x.frm,x.to,x.svc,x.exc,x.exF,x.exT,x.cls,r.name,x.pri⟩,p1),⟨(by with_reducible assumption),sm_dur hx (opt_nm (hwn r (by with_reducible assumption)))⟩,?_⟩
      (exact leA)
      done)
    |(refine⟨(x,p1),⟨(by with_reducible assumption),hx⟩,?_⟩
      (exact leA)
      done)
    |(refine⟨(x,q),⟨(by with_reducible assumption),hx⟩,?_⟩
      (exact leA)
      done)
  clear hq hx q x
  rintro⟨x,q⟩ ⟨hq,hx⟩
  simp only at hq hx⊢
  (repeat' ((conv=>whnf);first|(with_reducible first|refine nNext raw _ _ (by omega) (by with_reducible assumption) hr fun m1 p1 hm1 hp1=>?_|refine in_nat (by omega) ?_|refine ix_ints [0,0,1,5,1000] 5 rfl rfl (by omega) fun c hc=>?_)|refine zG ?_|apply zA|(apply zI;intro h)|exact zT));(all_goals conv=>whnf)
  have hc2:0<=c/\c<=1000:=(show ∀c:Int,c∈[0,0,1,5,1000]->0<=c/\c<=1000 by decide) c hc
  exact hK ⟨x.permit,x.frm,x.to,x.svc,x.exc,x.exF,x.exT,x.cls,x.dur,c⟩ _ (sm_pri hx hc2.1 hc2.2) (by with_reducible assumption)
def gN:List ByteArray:=[⟨#[103,49]⟩,⟨#[103,50]⟩,⟨#[103,51]⟩]
def sN:List ByteArray:=[⟨#[119,101,98]⟩,⟨#[115,115,104]⟩,⟨#[100,110,115]⟩]
theorem ix_strX{xs:List AV}{i:Nat}{K:AV->Prop}(L:List ByteArray)(n:Nat)(h:xs=L.map fun c=>.v (.string c))(hn:L.length=n)(hi:i<n)(hk:∀c,L[i]? =some c->K (.v (.string c))):Ix xs i K:=by
 subst h;subst hn
 exact ix_map (List.getElem?_eq_getElem hi) (hk _ (List.getElem?_eq_getElem hi))
theorem nameB_lit{s:ByteArray}(h:nmChk s.data.toList=true):nameB s=true:=by
 exact nameB_true (nameOk_data h)
theorem gN_ok:∀s,s∈gN->nameB s=true:=fun s hs=>nameB_lit ((show ∀s,s∈gN->nmChk s.data.toList=true by decide+kernel) s hs)
theorem sN_ok:∀s,s∈sN->nameB s=true:=fun s hs=>nameB_lit ((show ∀s,s∈sN->nmChk s.data.toList=true by decide+kernel) s hs)
theorem gN_ne:∀(j i:Nat) (x y:ByteArray),j<i->gN[j]? =some x->gN[i]? =some y->sEq x y=false:=by
 have h:∀j i:Fin 3,j.val<i.val->sEqD (gN.getD j.val default) (gN.getD i.val default)=false:=by decide+kernel
 intro j i x y hji hx hy
 have h1:=(List.getElem?_eq_some_iff.1 hx).1
 have h2:=(List.getElem?_eq_some_iff.1 hy).1
 have:=h ⟨j,h1⟩ ⟨i,h2⟩ hji
 simp only[List.getD,hx,hy,Option.getD_some]at this
 rw[sEq_data];exact this
theorem sN_ne:∀(j i:Nat) (x y:ByteArray),j<i->sN[j]? =some x->sN[i]? =some y->sEq x y=false:=by
 have h:∀j i:Fin 3,j.val<i.val->sEqD (sN.getD j.val default) (sN.getD i.val default)=false:=by decide+kernel
 intro j i x y hji hx hy
 have h1:=(List.getElem?_eq_some_iff.1 hx).1
 have h2:=(List.getElem?_eq_some_iff.1 hy).1
 have:=h ⟨j,h1⟩ ⟨i,h2⟩ hji
 simp only[List.getD,hx,hy,Option.getD_some]at this
 rw[sEq_data];exact this
structure GDs (N:List ByteArray) (l:List Df) (g:Bool):Prop where
 nm:∀(i:Nat) d,l[i]? =some d->N[i]? =some d.name
 it:∀d,d∈l->1<=d.items.length/\d.items.length<=2
 ok:∀d,d∈l->∀y,y∈d.items->itB y g=true
theorem gds_nil{N:List ByteArray}{g:Bool}:GDs N [] g:=⟨fun i d h=>by simp at h,fun d h=>by simp at h,fun d h=>by simp at h⟩
theorem gds_snoc{N:List ByteArray}{l:List Df}{g:Bool}(h:GDs N l g){c:ByteArray}{its:List It}(hc:N[l.length]? =some c)(h1:1<=its.length/\its.length<=2)(h2:∀y,y∈its->itB y g=true):GDs N (l++[⟨c,its⟩]) g where
 nm:=fun i d hd=>by
  rcases Nat.lt_or_ge i l.length with hlt|hge
  ·rw[List.getElem?_append_left hlt]at hd;exact h.nm i d hd
  ·rw[List.getElem?_append_right hge]at hd
   have:=(List.getElem?_eq_some_iff.1 hd).1
   simp only[List.length_cons,List.length_nil]at this
   have e:i=l.length:=by omega
   subst e
   simp only[Nat.sub_self,List.getElem?_cons_zero,Option.some.injEq]at hd
   subst hd;exact hc
 it:=fun d hd=>by
  rcases List.mem_append.1 hd with hd|hd
  ·exact h.it d hd
  ·rw[List.mem_singleton.1 hd];exact h1
 ok:=fun d hd=>by
  rcases List.mem_append.1 hd with hd|hd
  ·exact h.ok d hd
  ·rw[List.mem_singleton.1 hd];exact h2
theorem gds_names{N:List ByteArray}{l:List Df}{g:Bool}(h:GDs N l g)(hN:∀s,s∈N->nameB s=true):∀d,d∈l->nameB d.name=true:=fun d hd=>by
 obtain⟨i,hi⟩:=List.mem_iff_getElem?.1 hd
 exact hN _ (List.mem_of_getElem? (h.nm i d hi))
theorem gds_ok{N:List ByteArray}{l:List Df}{g:Bool}(h:GDs N l g)(hN:∀s,s∈N->nameB s=true)(hne:∀(j i:Nat) (x y:ByteArray),j<i->N[j]? =some x->N[i]? =some y->sEq x y=false)(hl:l.length<=32):DfsOk l g:=by
 refine⟨hl,fun i d hd=>⟨gds_names h hN d (List.mem_of_getElem? hd),?_,(h.it d (List.mem_of_getElem? hd)).1,Nat.le_trans (h.it d (List.mem_of_getElem? hd)).2 (by decide),h.ok d (List.mem_of_getElem? hd)⟩⟩
 unfold dfIx
 exact firstIx_at (p:=fun x=>sEq x.name d.name) hd (sEq_self _) fun j y hj hy=>hne j i _ _ hj (h.nm j y hy) (h.nm i d hd)
theorem itB_zone{z:ByteArray}(h:nameB z=true):itB ⟨1,z,noPf,0,zR⟩ true=true:=by simp[itB,h,itN,noPf,zR]
theorem itB_sub{q:Pf}(h:q.okP):itB ⟨2,⟨#[]⟩,q,0,zR⟩ true=true:=by
 have:=nil_self
 simp[itB,h,itP,zR,this]
theorem itB_name{z:ByteArray}{g:Bool}(h:nameB z=true):itB ⟨3,z,noPf,0,zR⟩ g=true:=by simp[itB,h,itN,noPf,zR]
theorem itB_svc{v:Int}{r:Rg}(h:prB v r=true):itB ⟨4,⟨#[]⟩,noPf,v,r⟩ false=true:=by
 have:=nil_self
 simp[itB,h,itS,noPf,this]
theorem pb_exB{raw:List Int}{L:Nat×List Pb->Prop}(a b c:Int)(d:ByteArray)(e f:Int)(q:Nat)(hL:L (q,[⟨a,b,c,d,e,f⟩]))(hR:q<=raw.length)(hB:pbB ⟨a,b,c,d,e,f⟩=true):∃g:Nat×List Pb,(g.1<=raw.length/\g.2.length<=1/\∀x,x∈g.2->pbB x=true)/\L g:=⟨_,⟨hR,by simp,fun x hx=>by rw[List.mem_singleton.1 hx];exact hB⟩,hL⟩
structure TpN (t:Tp):Prop where
 cls:∀d,d∈t.devs->optB d.cls=true
 zone:∀e,e∈t.edges->nameB e.zone=true
 edge:∀e,e∈t.edges->nameB e.name=true
structure ENt (i:Nt):Prop where
 gen:GNt i
 ok:NtOk i
 g:GDs gN i.grps true
 s:GDs sN i.svcs false
 g1:1<=i.grps.length
theorem enInt(raw:List Int)(pos:Nat)(t:Tp)(hte:t.edges.length<=5)(htd:t.devs.length<=100)(htn:TpN t)(ns:Nat)(hns:ns<=3)(hp:pos<=raw.length)(hr:raw.length<=9223372036854775807){K:KT}
  (hK:∀(i:Nt) (pos':Nat),ENt i->pos'<=raw.length->K (encNt i) [tapeO raw pos']):
  ACall Tryz.prog 11 [.op 0 0,encT t,.v (.int .i64 ns)] [tapeO raw pos] K:=by
 refine ofnInt rfl rfl ?_
 (repeat' ((conv=>whnf);first|(with_reducible refine nNext raw _ _ (by omega) (by assumption) hr fun m1 p1 hm1 hp1=>?_)|refine zG ?_|apply zA|(apply zI;intro h)|exact zT));(all_goals conv=>whnf)
 refine Lp.intro (Nat×Nat×List Df) (fun g=>⟨7,[(0,tapeO raw g.1),(1,boxT t),(2,nilNt),(3,.box [.os 4 2 0 g.2.2.length,.os 5 2 0 0,.os 6 2 0 0,.nils,.nils,.nils]),(4,.arr 2 (g.2.2.map encDf)),(5,.arr 2 []),(6,.arr 2 [])],[(0,.op 0 0),(2,.v (.int .i64 ns)),(4,.op 1 0),(6,.op 2 0),(7,.op 3 0),(8,.v (.int .i64 g.2.1))]⟩)
  (fun g=>g.1<=raw.length/\(g.2.1+g.2.2.length<=3/\1<=g.2.1+g.2.2.length)/\GDs gN g.2.2 true) (fun g=>g.2.1) (p1,m1+1,[]) ⟨hp1,by simp only[List.length_nil];omega,gds_nil⟩ ?_ ?_
 ·rw[show(((p1,m1+1,[]):Nat×Nat×List Df).2.1:Int)=1+(m1:Int)from by simp only;omega]
  (exact leA)
 rintro⟨p,k,gs⟩ ⟨h1,⟨h2,h2b⟩,h3⟩
 simp only at h1 h2 h2b h3⊢
 have hgnm:=gds_names h3 gN_ok
 rcases Nat.lt_or_ge 0 k with hk|hk
 ·obtain⟨k',rfl⟩:∃k',k=k'+1:=⟨k-1,by omega⟩
  have hk1:((k'+1:Nat):Int)-1=(k':Int):=by omega
  (repeat' ((conv=>whnf);first|(with_reducible first|refine nNext raw _ _ (by omega) (by assumption) hr fun m1 p1 hm1 hp1=>?_|refine wr_i64 hk1 (by omega) (by omega) ?_|refine in_nat (by omega) ?_|refine ix_strX gN 3 rfl rfl (by omega) fun c hc=>?_)|refine zG ?_|apply zA|(apply zI;intro h)|exact zT));(all_goals conv=>whnf)
  refine Lp.intro (Nat×Nat×List It) (fun g=>⟨9,[(0,tapeO raw g.1),(1,boxT t),(2,nilNt),(3,.box [.os 4 2 0 gs.length,.os 5 2 0 0,.os 6 2 0 0,.nils,.nils,.nils]),(4,.arr 2 (gs.map encDf)),(5,.arr 2 []),(6,.arr 2 []),(7,.box [.v (.string c),.os 8 7 0 g.2.2.length]),(8,.arr 7 (g.2.2.map encIt))],[(0,.op 0 0),(2,.v (.int .i64 ns)),(4,.op 1 0),(6,.op 2 0),(7,.op 3 0),(8,.v (.int .i64 ((k'+1:Nat):Int))),(9,.op 7 0),(10,.v (.int .i64 g.2.1))]⟩)
   (fun g=>g.1<=raw.length/\(g.2.1+g.2.2.length<=2/\1<=g.2.1+g.2.2.length)/\∀y,y∈g.2.2->itB y true=true) (fun g=>g.2.1) (p1,m1+1,[]) ⟨by with_reducible assumption,by simp only[List.length_nil];omega,fun y h=>by simp at h⟩ ?_ ?_
  ·rw[show(((p1,m1+1,[]):Nat×Nat×List It).2.1:Int)=1+(m1:Int)from by simp only;omega]
   (exact leA)
  clear h1 p hm1 hp1 m1 p1
  rintro⟨p,m,its⟩ ⟨h1,⟨h4,h4b⟩,h9⟩
  simp only at h1 h4 h4b h9⊢
  rcases Nat.lt_or_ge 0 m with hm|hm
  ·obtain⟨m',rfl⟩:∃m',m=m'+1:=⟨m-1,by omega⟩
   have hm1:((m'+1:Nat):Int)-1=(m':Int):=by omega
   (repeat' ((conv=>whnf);first|(with_reducible refine enPref raw _ (by with_reducible assumption) hr fun q p2 hqo hp2=>?_)|refine zG ?_|apply zA|(apply zI;intro h)|exact zT));(all_goals conv=>whnf)
   all_goals
    refine Jn.intro (It×Nat) (fun g=>⟨10,[(0,tapeO raw g.2),(1,boxT t),(2,nilNt),(3,.box [.os 4 2 0 gs.length,.os 5 2 0 0,.os 6 2 0 0,.nils,.nils,.nils]),(4,.arr 2 (gs.map encDf)),(5,.arr 2 []),(6,.arr 2 []),(7,.box [.v (.string c),.os 8 7 0 its.length]),(8,.arr 7 (its.map encIt)),(9,itBox g.1)],[(0,.op 0 0),(2,.v (.int .i64 ns)),(4,.op 1 0),(6,.op 2 0),(7,.op 3 0),(8,.v (.int .i64 ((k'+1:Nat):Int))),(9,.op 7 0),(10,.v (.int .i64 ((m'+1:Nat):Int))),(11,.op 9 0)]⟩) (fun g=>g.2<=raw.length/\itB g.1 true=true) ?_ ?_
    ·(repeat' ((conv=>whnf);first|(with_reducible first|refine nNext raw _ _ (by(try simp only[List.length_map]);omega) (by with_reducible assumption) hr fun m1 p1 hm1 hp1=>?_|refine in_map (by(try simp only[List.length_map]at*);omega) ?_|refine ix_map_any (f:=encE) (by(try simp only[List.length_map]at*);omega) fun e he=>?_)|refine zG ?_|apply zA|(apply zI;intro h)|exact zT));(all_goals conv=>whnf)
     all_goals first
      |(refine⟨(⟨1,e.zone,noPf,0,zR⟩,p1),⟨(by with_reducible assumption),itB_zone (htn.zone e (by with_reducible assumption))⟩,?_⟩
        (exact leA)
        done)
      |(refine⟨(⟨2,⟨#[]⟩,q,0,zR⟩,p1),⟨(by with_reducible assumption),itB_sub hqo⟩,?_⟩
        (exact leA)
        done)
    rintro⟨y0,p4⟩ ⟨hp4,hy0⟩
    simp only at hp4 hy0⊢
    (repeat' ((conv=>whnf);first|refine zG ?_|apply zA|(apply zI;intro h)|exact zT));(all_goals conv=>whnf)
    all_goals
     refine Jn.intro (It×Nat) (fun g=>⟨10,[(0,tapeO raw g.2),(1,boxT t),(2,nilNt),(3,.box [.os 4 2 0 gs.length,.os 5 2 0 0,.os 6 2 0 0,.nils,.nils,.nils]),(4,.arr 2 (gs.map encDf)),(5,.arr 2 []),(6,.arr 2 []),(7,.box [.v (.string c),.os 8 7 0 its.length]),(8,.arr 7 (its.map encIt)),(9,itBox g.1)],[(0,.op 0 0),(2,.v (.int .i64 ns)),(4,.op 1 0),(6,.op 2 0),(7,.op 3 0),(8,.v (.int .i64 ((k'+1:Nat):Int))),(9,.op 7 0),(10,.v (.int .i64 ((m'+1:Nat):Int))),(11,.op 9 0)]⟩) (fun g=>g.2<=raw.length/\itB g.1 true=true) ?_ ?_
     ·(repeat' ((conv=>whnf);first|(with_reducible first|refine nNext raw _ _ (by(try simp only[List.length_map]);omega) (by with_reducible assumption) hr fun m1 p1 hm1 hp1=>?_|refine In.intro 0 rfl (by(try simp only[List.length_map]at*);omega) ?_|refine ix_map_any (f:=encDf) (by(try simp only[List.length_map]at*);omega) fun d hd=>?_)|refine zG ?_|apply zA|(apply zI;intro h)|exact zT));(all_goals conv=>whnf)
      all_goals first
       |(refine⟨(⟨3,d.name,noPf,0,zR⟩,p1),⟨(by with_reducible assumption),itB_name (hgnm d (by with_reducible assumption))⟩,?_⟩
         (exact leA)
         done)
       |(refine⟨(y0,p1),⟨(by with_reducible assumption),hy0⟩,?_⟩
         (exact leA)
         done)
       |(refine⟨(y0,p4),⟨(by with_reducible assumption),hy0⟩,?_⟩
         (exact leA)
         done)
     rintro⟨y,p3⟩ ⟨hp3,hyv⟩
     simp only at hp3 hyv⊢
     (repeat' ((conv=>whnf);first|(with_reducible refine wr_i64 hm1 (by omega) (by omega) ?_)|refine zG ?_|apply zA|(apply zI;intro h)|exact zT));(all_goals conv=>whnf)
     refine⟨(p3,m',its++[y]),⟨hp3,by simp only[List.length_append,List.length_cons,List.length_nil];omega,fun z hz=>by
      rcases List.mem_append.1 hz with hz|hz
      ·exact h9 z hz
      ·rw[List.mem_singleton.1 hz];exact hyv⟩,by simp only;omega,?_⟩
     simp only[List.map_append,List.length_append,List.map_cons,List.map_nil,List.length_cons,List.length_nil]
     (exact leA)
  ·obtain rfl:m=0:=by omega
   (repeat' ((conv=>whnf);first|(with_reducible refine wr_i64 hk1 (by omega) (by omega) ?_)|refine zG ?_|apply zA|(apply zI;intro h)|exact zT));(all_goals conv=>whnf)
   refine⟨(p,k',gs++[⟨c,its⟩]),⟨h1,by simp only[List.length_append,List.length_cons,List.length_nil];omega,gds_snoc h3 (by rw[<-hc,Nat.zero_add]) (by omega) h9⟩,by simp only;omega,?_⟩
   simp only[List.map_append,List.length_append,List.map_cons,List.map_nil,List.length_cons,List.length_nil]
   (exact leA)
 obtain rfl:k=0:=by omega
 clear hk
 (repeat' ((conv=>whnf);first|(with_reducible refine nNext raw _ _ (by omega) (by with_reducible assumption) hr fun m1 p1 hm1 hp1=>?_)|refine zG ?_|apply zA|(apply zI;intro h)|exact zT));(all_goals conv=>whnf)
 refine Lp.intro (Nat×Nat×List Df) (fun g=>⟨7,[(0,tapeO raw g.1),(1,boxT t),(2,nilNt),(3,.box [.os 4 2 0 gs.length,.os 5 2 0 g.2.2.length,.os 6 2 0 0,.nils,.nils,.nils]),(4,.arr 2 (gs.map encDf)),(5,.arr 2 (g.2.2.map encDf)),(6,.arr 2 [])],[(0,.op 0 0),(2,.v (.int .i64 ns)),(4,.op 1 0),(6,.op 2 0),(7,.op 3 0),(13,.v (.int .i64 g.2.1))]⟩)
  (fun g=>g.1<=raw.length/\g.2.1+g.2.2.length<=2/\GDs sN g.2.2 false/\∀d,d∈g.2.2->∀y,y∈d.items->SvcIt y) (fun g=>g.2.1) (p1,m1,[]) ⟨by with_reducible assumption,by simp only[List.length_nil];omega,gds_nil,fun d h=>by simp at h⟩ ?_ ?_
 ·(exact leA)
 clear h1 p hm1 hp1 m1 p1
 rintro⟨p,k,ss⟩ ⟨h1,h4,h5,h6⟩
 simp only at h1 h4 h5 h6⊢
 have hsnm:=gds_names h5 sN_ok
 rcases Nat.lt_or_ge 0 k with hk|hk
 ·obtain⟨k',rfl⟩:∃k',k=k'+1:=⟨k-1,by omega⟩
  have hk1:((k'+1:Nat):Int)-1=(k':Int):=by omega
  (repeat' ((conv=>whnf);first|(with_reducible first|refine nNext raw _ _ (by(try simp only[List.length_map]);omega) (by with_reducible assumption) hr fun m1 p1 hm1 hp1=>?_|refine wr_i64 hk1 (by omega) (by omega) ?_|refine in_nat (by omega) ?_|refine ix_strX sN 3 rfl rfl (by omega) fun c hc=>?_)|refine zG ?_|apply zA|(apply zI;intro h)|exact zT));(all_goals conv=>whnf)
  refine Lp.intro (Nat×Nat×List It) (fun g=>⟨9,[(0,tapeO raw g.1),(1,boxT t),(2,nilNt),(3,.box [.os 4 2 0 gs.length,.os 5 2 0 ss.length,.os 6 2 0 0,.nils,.nils,.nils]),(4,.arr 2 (gs.map encDf)),(5,.arr 2 (ss.map encDf)),(6,.arr 2 []),(7,.box [.v (.string c),.os 8 7 0 g.2.2.length]),(8,.arr 7 (g.2.2.map encIt))],[(0,.op 0 0),(2,.v (.int .i64 ns)),(4,.op 1 0),(6,.op 2 0),(7,.op 3 0),(13,.v (.int .i64 ((k'+1:Nat):Int))),(14,.op 7 0),(15,.v (.int .i64 g.2.1))]⟩)
   (fun g=>g.1<=raw.length/\(g.2.1+g.2.2.length<=2/\1<=g.2.1+g.2.2.length)/\∀y,y∈g.2.2->SvcIt y/\itB y false=true) (fun g=>g.2.1) (p1,m1+1,[]) ⟨by with_reducible assumption,by simp only[List.length_nil];omega,fun y h=>by simp at h⟩ ?_ ?_
  ·rw[show(((p1,m1+1,[]):Nat×Nat×List It).2.1:Int)=1+(m1:Int)from by simp only;omega]
   (exact leA)
  clear h1 p hm1 hp1 m1 p1
  rintro⟨p,m,its⟩ ⟨h1,⟨h7,h7b⟩,h8⟩
  simp only at h1 h7 h7b h8⊢
  rcases Nat.lt_or_ge 0 m with hm|hm
  ·obtain⟨m',rfl⟩:∃m',m=m'+1:=⟨m-1,by omega⟩
   have hmm:((m'+1:Nat):Int)-1=(m':Int):=by omega
   (repeat' ((conv=>whnf);first|(with_reducible first|refine nNext raw _ _ (by(try simp only[List.length_map]);omega) (by with_reducible assumption) hr fun m1 p1 hm1 hp1=>?_|refine in_nat (by omega) ?_|refine ix_ints [6,17,6,1,50] 5 rfl rfl (by omega) fun v hv=>?_)|refine zG ?_|apply zA|(apply zI;intro h)|exact zT));(all_goals conv=>whnf)
   simp only[List.mem_cons,List.not_mem_nil,or_false]at hv
   refine Jn.intro (It×Nat) (fun g=>⟨10,[(0,tapeO raw g.2),(1,boxT t),(2,nilNt),(3,.box [.os 4 2 0 gs.length,.os 5 2 0 ss.length,.os 6 2 0 0,.nils,.nils,.nils]),(4,.arr 2 (gs.map encDf)),(5,.arr 2 (ss.map encDf)),(6,.arr 2 []),(7,.box [.v (.string c),.os 8 7 0 its.length]),(8,.arr 7 (its.map encIt)),(9,itBox g.1)],[(0,.op 0 0),(2,.v (.int .i64 ns)),(4,.op 1 0),(6,.op 2 0),(7,.op 3 0),(13,.v (.int .i64 ((k'+1:Nat):Int))),(14,.op 7 0),(15,.v (.int .i64 ((m'+1:Nat):Int))),(16,.op 9 0)]⟩) (fun g=>g.2<=raw.length/\SvcIt g.1/\itB g.1 false=true) ?_ ?_
   ·(repeat' ((conv=>whnf);first|(with_reducible refine enRange raw _ 65535 (by decide) (by decide) (by with_reducible assumption) hr fun r p2 hlo hhi hp2=>?_)|refine zG ?_|apply zA|(apply zI;intro h)|exact zT));(all_goals conv=>whnf)
    all_goals first
     |(refine⟨(⟨4,⟨#[]⟩,noPf,v,⟨8,8,by decide,by decide,by decide,by decide⟩⟩,p1),⟨by with_reducible assumption,.inr (.inr (.inl ⟨by simp only;omega,rfl,rfl⟩)),itB_svc (by rw[show v=1 by omega];rfl)⟩,?_⟩
       (exact leA)
       done)
     |(refine⟨(⟨4,⟨#[]⟩,noPf,v,r⟩,p2),⟨by with_reducible assumption,.inr (.inl (by simp only;omega)),itB_svc (by rw[prB,if_pos (by omega)];exact decide_eq_true ⟨hlo,hhi⟩)⟩,?_⟩
       (exact leA)
       done)
     |(refine⟨(⟨4,⟨#[]⟩,noPf,v,zR⟩,p1),⟨by with_reducible assumption,.inr (.inr (.inr ⟨by simp only;omega,rfl,rfl⟩)),itB_svc (by rw[show v=50 by omega];rfl)⟩,?_⟩
       (exact leA)
       done)
     |trace_state
   rintro⟨y0,p4⟩ ⟨hp4,hy0⟩
   simp only at hp4 hy0⊢
   (repeat' ((conv=>whnf);first|refine zG ?_|apply zA|(apply zI;intro h)|exact zT));(all_goals conv=>whnf)
   refine Jn.intro (It×Nat) (fun g=>⟨10,[(0,tapeO raw g.2),(1,boxT t),(2,nilNt),(3,.box [.os 4 2 0 gs.length,.os 5 2 0 ss.length,.os 6 2 0 0,.nils,.nils,.nils]),(4,.arr 2 (gs.map encDf)),(5,.arr 2 (ss.map encDf)),(6,.arr 2 []),(7,.box [.v (.string c),.os 8 7 0 its.length]),(8,.arr 7 (its.map encIt)),(9,itBox g.1)],[(0,.op 0 0),(2,.v (.int .i64 ns)),(4,.op 1 0),(6,.op 2 0),(7,.op 3 0),(13,.v (.int .i64 ((k'+1:Nat):Int))),(14,.op 7 0),(15,.v (.int .i64 ((m'+1:Nat):Int))),(16,.op 9 0)]⟩) (fun g=>g.2<=raw.length/\SvcIt g.1/\itB g.1 false=true) ?_ ?_
   ·(repeat' ((conv=>whnf);first|(with_reducible first|refine nNext raw _ _ (by(try simp only[List.length_map]);omega) (by with_reducible assumption) hr fun m1 p1 hm1 hp1=>?_|refine In.intro 0 rfl (by(try simp only[List.length_map]at*);omega) ?_|refine ix_map_any (f:=encDf) (by(try simp only[List.length_map]at*);omega) fun d hd=>?_)|refine zG ?_|apply zA|(apply zI;intro h)|exact zT));(all_goals conv=>whnf)
    all_goals first
     |(refine⟨(⟨3,d.name,noPf,0,zR⟩,p1),⟨by with_reducible assumption,.inl ⟨rfl,rfl,rfl,rfl⟩,itB_name (hsnm d (by with_reducible assumption))⟩,?_⟩
       (exact leA)
       done)
     |(refine⟨(y0,p1),⟨by with_reducible assumption,hy0⟩,?_⟩
       (exact leA)
       done)
     |(refine⟨(y0,p4),⟨by with_reducible assumption,hy0⟩,?_⟩
       (exact leA)
       done)
   rintro⟨y,p3⟩ ⟨hp3,hyv⟩
   simp only at hp3 hyv⊢
   (repeat' ((conv=>whnf);first|(with_reducible refine wr_i64 hmm (by omega) (by omega) ?_)|refine zG ?_|apply zA|(apply zI;intro h)|exact zT));(all_goals conv=>whnf)
   refine⟨(p3,m',its++[y]),⟨hp3,by simp only[List.length_append,List.length_cons,List.length_nil];omega,fun z hz=>by
    rcases List.mem_append.1 hz with hz|hz
    ·exact h8 z hz
    ·rw[List.mem_singleton.1 hz];exact hyv⟩,by simp only;omega,?_⟩
   simp only[List.map_append,List.length_append,List.map_cons,List.map_nil,List.length_cons,List.length_nil]
   (exact leA)
  ·obtain rfl:m=0:=by omega
   (repeat' ((conv=>whnf);first|(with_reducible refine wr_i64 hk1 (by omega) (by omega) ?_)|refine zG ?_|apply zA|(apply zI;intro h)|exact zT));(all_goals conv=>whnf)
   refine⟨(p,k',ss++[⟨c,its⟩]),⟨h1,by simp only[List.length_append,List.length_cons,List.length_nil];omega,gds_snoc h5 (by rw[<-hc,Nat.zero_add]) (by omega) (fun y hy=>(h8 y hy).2),fun d hd=>by
    rcases List.mem_append.1 hd with hd|hd
    ·exact h6 d hd
    ·rw[List.mem_singleton.1 hd];exact fun y hy=>(h8 y hy).1⟩,by simp only;omega,?_⟩
   simp only[List.map_append,List.length_append,List.map_cons,List.map_nil,List.length_cons,List.length_nil]
   (exact leA)
 obtain rfl:k=0:=by omega
 clear hk
 (repeat' ((conv=>whnf);first|refine zG ?_|apply zA|(apply zI;intro h)|exact zT));(all_goals conv=>whnf)
 refine Jn.intro (Nat×List Wn) (fun g=>⟨7,[(0,tapeO raw g.1),(1,boxT t),(2,nilNt),(3,.box [.os 4 2 0 gs.length,.os 5 2 0 ss.length,.os 6 2 0 g.2.length,.nils,.nils,.nils]),(4,.arr 2 (gs.map encDf)),(5,.arr 2 (ss.map encDf)),(6,.arr 2 (g.2.map encWn))],[(0,.op 0 0),(2,.v (.int .i64 ns)),(4,.op 1 0),(6,.op 2 0),(7,.op 3 0)]⟩)
  (fun g=>g.1<=raw.length/\g.2.length<=1/\∀w,w∈g.2->w.name=⟨#[119,111,114,107]⟩/\WinOk w.act/\w.act.length<=16) ?_ ?_
 ·(repeat' ((conv=>whnf);first|(with_reducible first|refine nNext raw _ _ (by(try simp only[List.length_map]);omega) (by with_reducible assumption) hr fun m1 p1 hm1 hp1=>?_|refine enWin raw _ (by with_reducible assumption) hr fun rs p2 hrs hrl hp2=>?_)|refine zG ?_|apply zA|(apply zI;intro h)|exact zT));(all_goals conv=>whnf)
  all_goals first
   |(refine⟨(p2,[⟨⟨#[119,111,114,107]⟩,rs⟩]),⟨by with_reducible assumption,by simp,fun w hw=>by rw[List.mem_singleton.1 hw];exact⟨rfl,hrs,hrl⟩⟩,?_⟩
     (exact leA)
     done)
   |(refine⟨(p1,[]),⟨by with_reducible assumption,by simp,fun w hw=>by simp at hw⟩,?_⟩
     (exact leA)
     done)
   |trace_state
 rintro⟨p5,ws⟩ ⟨hp5,hw1,hw2⟩
 simp only at hp5 hw1 hw2⊢
 have hwnm:∀w,w∈ws->nameB w.name=true:=fun w hw=>by rw[(hw2 w hw).1];exact nameB_lit (by decide+kernel)
 (repeat' ((conv=>whnf);first|(with_reducible first|refine sl_full (List.length_map ..) ?_|refine nNext raw _ _ (by(try simp only[List.length_map]);omega) (by with_reducible assumption) hr fun m1 p1 hm1 hp1=>?_)|refine zG ?_|apply zA|(apply zI;intro h)|exact zT));(all_goals conv=>whnf)
 refine Lp.intro (Nat×Nat×List Sm) (fun g=>⟨5,[(0,tapeO raw g.1),(1,boxT t),(2,nilNt),(3,.box [.lst (gs.map encDf),.lst (ss.map encDf),.lst (ws.map encWn),.os 4 10 0 g.2.2.length,.nils,.nils]),(4,.arr 10 (g.2.2.map encSm))],[(0,.op 0 0),(4,.op 1 0),(6,.op 2 0),(7,.op 3 0),(17,.v (.int .i64 g.2.1))]⟩)
  (fun g=>g.1<=raw.length/\g.2.1+g.2.2.length<=3/\∀x,x∈g.2.2->smB x=true) (fun g=>g.2.1) (p1,m1,[]) ⟨by with_reducible assumption,by simp only[List.length_nil];omega,fun x h=>by simp at h⟩ ?_ ?_
 ·(exact leA)
 clear h1 p hm1 hp1 m1 p1
 rintro⟨p,k,sts⟩ ⟨h1,h7,hst⟩
 simp only at h1 h7 hst⊢
 rcases Nat.lt_or_ge 0 k with hk|hk
 ·obtain⟨k',rfl⟩:∃k',k=k'+1:=⟨k-1,by omega⟩
  have hkk:((k'+1:Nat):Int)-1=(k':Int):=by omega
  (repeat' ((conv=>whnf);first|(with_reducible first|refine wr_i64 hkk (by omega) (by omega) ?_|refine enStm raw _ t htd gs ss ws sts (by omega) (by omega) (by omega) (by with_reducible assumption) hr htn.cls hgnm hsnm hwnm fun x p2 hxo hp2=>?_)|refine zG ?_|apply zA|(apply zI;intro h)|exact zT));(all_goals conv=>whnf)
  all_goals
   refine⟨(p2,k',sts++[x]),⟨by with_reducible assumption,by simp only[List.length_append,List.length_cons,List.length_nil];omega,fun z hz=>by
    rcases List.mem_append.1 hz with hz|hz
    ·exact hst z hz
    ·rw[List.mem_singleton.1 hz];exact hxo⟩,by simp only;omega,?_⟩
   simp only[List.map_append,List.length_append,List.map_cons,List.map_nil,List.length_cons,List.length_nil]
   (exact leA)
 obtain rfl:k=0:=by omega
 clear hk
 (repeat' ((conv=>whnf);first|refine zG ?_|apply zA|(apply zI;intro h)|exact zT));(all_goals conv=>whnf)
 refine Jn.intro (Nat×List Pb) (fun g=>⟨7,[(0,tapeO raw g.1),(1,boxT t),(2,nilNt),(3,.box [.lst (gs.map encDf),.lst (ss.map encDf),.lst (ws.map encWn),.os 4 10 0 sts.length,.os 5 6 0 g.2.length,.os 6 5 0 0]),(4,.arr 10 (sts.map encSm)),(5,.arr 6 (g.2.map encPb)),(6,.arr 5 [])],[(0,.op 0 0),(4,.op 1 0),(6,.op 2 0),(7,.op 3 0)]⟩) (fun g=>g.1<=raw.length/\g.2.length<=1/\∀x,x∈g.2->pbB x=true) ?_ ?_
 ·(repeat' ((conv=>whnf);first|(with_reducible first|refine nNext raw _ _ (by(try simp only[List.length_map]);omega) (by with_reducible assumption) hr fun m1 p1 hm1 hp1=>?_|refine In.intro 1 rfl (by(try simp only[List.length_map]at*);omega) ?_|refine In.intro 0 rfl (by(try simp only[List.length_map]at*);omega) ?_|refine ix_map_any (f:=encE) (by(try simp only[List.length_map]at*);omega) fun e he=>?_|refine crOf _ ?_|refine in_nat (by omega) ?_|refine ix_ints [6,17] 2 rfl rfl (by omega) fun v hv=>?_|refine enNum raw _ 65535 (by decide) (by decide) (by with_reducible assumption) hr fun a p2 a0 a1 hp2=>?_)|refine zG ?_|apply zA|(apply zI;intro h)|exact zT));(all_goals conv=>whnf)
  all_goals first
   |(refine⟨(p1,[]),⟨by with_reducible assumption,by simp,fun x h=>by simp at h⟩,?_⟩
     (exact leA)
     done)
   |(refine⟨(p,[]),⟨by with_reducible assumption,by simp,fun x h=>by simp at h⟩,?_⟩
     (exact leA)
     done)
   |(apply pb_exB
     ·(exact leA)
     ·with_reducible assumption
     ·have hnm:=htn.edge _ (by with_reducible assumption)
      simp only[List.mem_cons,List.not_mem_nil,or_false]at hv
      simp only[pbB,ptB,hnm,Bool.and_true,Bool.and_eq_true,Bool.or_eq_true,decide_eq_true_eq]
      omega)
 rintro⟨p6,pbs⟩ ⟨hp6,hb1,hb2⟩
 simp only at hp6 hb1 hb2⊢
 (repeat' ((conv=>whnf);first|refine zG ?_|apply zA|(apply zI;intro h)|exact zT));(all_goals conv=>whnf)
 refine Jn.intro (Nat×List Hn) (fun g=>⟨7,[(0,tapeO raw g.1),(1,boxT t),(2,nilNt),(3,.box [.lst (gs.map encDf),.lst (ss.map encDf),.lst (ws.map encWn),.os 4 10 0 sts.length,.os 5 6 0 pbs.length,.os 6 5 0 g.2.length]),(4,.arr 10 (sts.map encSm)),(5,.arr 6 (pbs.map encPb)),(6,.arr 5 (g.2.map encHn))],[(0,.op 0 0),(4,.op 1 0),(6,.op 2 0),(7,.op 3 0)]⟩) (fun g=>g.1<=raw.length/\g.2.length<=1/\∀x,x∈g.2->hnB x=true) ?_ ?_
 ·(repeat' ((conv=>whnf);first|(with_reducible first|refine nNext raw _ _ (by(try simp only[List.length_map]);omega) (by with_reducible assumption) hr fun m1 p1 hm1 hp1=>?_|refine in_map (by(try simp only[List.length_map]at*);omega) ?_|refine ix_map_any (f:=encE) (by(try simp only[List.length_map]at*);omega) fun e he=>?_)|refine zG ?_|apply zA|(apply zI;intro h)|exact zT));(all_goals conv=>whnf)
  all_goals first
   |(refine⟨(p1,[⟨⟨#[103,49]⟩,e.name,3325256705,⟨1024,1024+(m1:Int),by decide,by decide,by omega,by omega⟩⟩]),⟨by with_reducible assumption,by simp,fun x h=>by
      rw[List.mem_singleton.1 h]
      have hnm:=htn.edge e (by with_reducible assumption)
      have hg1:nameB ⟨#[103,49]⟩=true:=nameB_lit (by decide+kernel)
      simp only[hnB,hnm,hg1,Bool.true_and,decide_eq_true_eq]
      omega⟩,?_⟩
     (exact leA)
     done)
   |(refine⟨(p1,[]),⟨by with_reducible assumption,by simp,fun x h=>by simp at h⟩,?_⟩
     (exact leA)
     done)
   |(refine⟨(p6,[]),⟨by with_reducible assumption,by simp,fun x h=>by simp at h⟩,?_⟩
     (exact leA)
     done)
 rintro⟨p7,hds⟩ ⟨hp7,hh1,hh2⟩
 simp only at hp7 hh1 hh2⊢
 (repeat' ((conv=>whnf);first|(with_reducible refine sl_full (List.length_map ..) ?_)|refine zG ?_|apply zA|(apply zI;intro h)|exact zT));(all_goals conv=>whnf)
 refine hK ⟨gs,ss,ws,sts,pbs,hds⟩ p7 ⟨⟨⟨⟨by simp only;omega,by simp only;omega,by simp only;omega,by simp only;omega,by simp only;omega,by simp only;omega,fun d hd=>Nat.le_trans (h3.it d hd).2 (by decide),fun d hd=>Nat.le_trans (h5.it d hd).2 (by decide),fun w hw=>?_⟩,by simp only;omega,by simp only;omega,fun d hd=>(h3.it d hd).2,fun d hd=>(h5.it d hd).2⟩,by simp only;omega,h6⟩,
  ⟨gds_ok h3 gN_ok gN_ne (by simp only;omega),gds_ok h5 sN_ok sN_ne (by simp only;omega),by simp only;omega,by simp only;omega,by simp only;omega,by simp only;omega,fun i x hx=>?_,hst,hb2,hh2⟩,h3,h5,by simp only;omega⟩ hp7
 ·exact Nat.le_trans (hw2 w hw).2.2 (by decide)
 ·have hi:=(List.getElem?_eq_some_iff.1 hx).1
  obtain rfl:i=0:=by simp only at hi;omega
  refine⟨hwnm x (List.mem_of_getElem? hx),?_,(hw2 x (List.mem_of_getElem? hx)).2.1⟩
  unfold wnIx
  exact firstIx_at (p:=fun y=>sEq y.name x.name) hx (sEq_self _) fun j y hj _=>absurd hj (Nat.not_lt_zero _)
theorem tpn_top{t:Tp}(h:GTop t):TpN t where
 cls:=fun d hd=>by
  obtain⟨i,hi⟩:=List.mem_iff_getElem?.1 hd
  have hc:=(h.dv i d hi).cls
  have hl:∀s,s∈clL->sEqD s ⟨#[]⟩=true\/nmChk s.data.toList=true:=by decide+kernel
  unfold optB
  rw[Bool.or_eq_true]
  rcases hl _ hc with h1|h1
  ·exact .inl (by rw[sEq_data];exact h1)
  ·exact .inr (nameB_lit h1)
 zone:=fun e he=>by
  obtain⟨i,hi⟩:=List.mem_iff_getElem?.1 he
  have hz:=(h.ed i e hi).zone
  exact nameB_lit ((show ∀s,s∈zoL->nmChk s.data.toList=true by decide+kernel) _ hz)
 edge:=fun e he=>by
  obtain⟨i,hi⟩:=List.mem_iff_getElem?.1 he
  have hl:=(List.getElem?_eq_some_iff.1 hi).1
  have h5:=h.e5
  rw[(h.ed i e hi).name]
  exact nameB_lit ((show ∀j:Fin 5,nmChk (enL.getD j.val default).data.toList=true by decide+kernel) ⟨i,by omega⟩)
theorem sum_two(l:List Df)(h:∀d,d∈l->d.items.length<=2):itsN l<=2*l.length:=by
 unfold itsN
 induction l with
 |nil=>simp
 |cons d l ih=>
  have:=ih fun x hx=>h x (List.mem_cons_of_mem _ hx)
  have:=h d (by simp)
  simp only[List.map_cons,List.sum_cons,List.length_cons];omega
theorem bnd_ent{i:Nt}(h:ENt i):Bnd i:=by
 have f:=h.gen.few
 have o:=h.ok
 have g3:=f.g3;have s3:=f.s3
 have a:=sum_two _ f.gi;have b:=sum_two _ f.si
 have c1:=o.wl;have c2:=o.tl;have c3:=o.pl;have c4:=o.hl
 exact⟨by omega,by omega,by omega,by omega,by omega,by omega,fun x hx=>Nat.le_trans (f.gi x hx) (by decide),fun x hx=>Nat.le_trans (f.si x hx) (by decide),f.sml.wi,by omega,by omega⟩
theorem find_at{l:List Df}{g:Bool}(h:DfsOk l g){n:Nat}{d:Df}(hd:l[n]? =some d):findD l d.name=some n:=by
 have hf:=(h.all n d hd).first
 unfold dfIx at hf
 rw[firstIx_find]at hf
 cases hm:findD l d.name with
 |none=>rw[hm]at hf;simp only at hf;omega
 |some m=>rw[hm]at hf;simp only at hf;rw[show m=n by omega]
theorem name_ne{s:ByteArray}(h:nameB s=true):sEq s ⟨#[]⟩=false:=(nameB_iff.1 h).1
def inItem(t:Tp)(l:List Df)(y:It)(u:Int):Prop:=if y.kind=3 then has (grpE t l y.name).2 u=true else inIt t y u
theorem items_law{t:Tp}{l:List Df}(h:DfsOk l true){n:Nat}{g:Df}(hg:l[n]? =some g)(h0:(grpE t l g.name).1=0):
  (∀y,y∈g.items->y.kind=3->(grpE t l y.name).1=0)/\∀u,has (grpE t l g.name).2 u=true↔∃y,y∈g.items/\inItem t l y u:=by
 have hf:=find_at h hg
 have hne:=name_ne (h.all n g hg).name
 obtain⟨hgood,hlead⟩:=grp_lead hne h0
 have hy3:∀y,y∈g.items->y.kind=3->nameB y.name=true/\(grpE t l y.name).1=0:=fun y hy hk=>by
  have hi:=(h.all n g hg).all y hy
  unfold itB at hi
  rw[if_pos hk,Bool.and_eq_true]at hi
  refine⟨hi.1,?_⟩
  cases hgood with
  |mk h1 h2 h3 h4=>
   rw[hf]at h1;cases h1
   rw[hg]at h2;cases h2
   exact grp_good (h4 y hy hk)
 refine⟨fun y hy hk=>(hy3 y hy hk).2,fun u=>?_⟩
 rw[hlead u]
 constructor
 ·intro hl
  cases hl with
  |@here _ n' d x _ h1 h2 h3 h4 h5=>
   rw[hf]at h1;cases h1
   rw[hg]at h2;cases h2
   exact⟨x,h3,by rw[inItem,if_neg h4];exact h5⟩
  |@there _ n' d x _ h1 h2 h3 h4 h5=>
   rw[hf]at h1;cases h1
   rw[hg]at h2;cases h2
   obtain⟨a,b⟩:=hy3 x h3 h4
   exact⟨x,h3,by rw[inItem,if_pos h4];exact((grp_lead (name_ne a) b).2 u).2 h5⟩
 ·rintro⟨y,hy,hu⟩
  unfold inItem at hu
  by_cases hk:y.kind=3
  ·rw[if_pos hk]at hu
   obtain⟨a,b⟩:=hy3 y hy hk
   exact .there hf hg hy hk (((grp_lead (name_ne a) b).2 u).1 hu)
  ·rw[if_neg hk]at hu
   exact .here hf hg hy hk hu
theorem edge_has{t:Tp}(hc:compB t=true){i:Nat}{e:Ed}(he:t.edges[i]? =some e)(u:Int):(!e.pl&&e.pf.has u)=has [e.pf.rg] u:=by
 obtain⟨ht,hp⟩:=compB_iff.1 hc
 obtain⟨_,_,_,_,_,ok,_⟩:=(ht.edge i e he).1
 rw[hp e (List.mem_of_getElem? he),Pf.has,decide_eq_true ok]
 simp[has]
theorem at_law{t:Tp}(hc:compB t=true)(z:ByteArray)(u:Int):(∃e,e∈t.edges/\sEq e.zone z=true/\has [e.pf.rg] u=true)↔∃(n:Nat) (e:Ed),edgeAt t u=n/\t.edges[n]? =some e/\sEq e.zone z=true:=by
 constructor
 ·rintro⟨e,he,hz,hu⟩
  obtain⟨n,hn⟩:=List.mem_iff_getElem?.1 he
  refine⟨n,e,?_,hn,hz⟩
  refine firstIx_at (p:=fun e:Ed=> !e.pl&&e.pf.has u) hn (by rw[edge_has hc hn];exact hu) fun j y hj hy=>?_
  rw[edge_has hc hy]
  cases hyu:has [y.pf.rg] u with
  |false=>rfl
  |true=>
   exfalso
   have hap:=edges_apart hc
   have hnl:=(List.getElem?_eq_some_iff.1 hn).1
   have hjl:=(List.getElem?_eq_some_iff.1 hy).1
   have h1:=List.pairwise_iff_getElem.1 hap j n (by rw[List.length_map];exact hjl) (by rw[List.length_map];exact hnl) hj
   rw[List.getElem_map,List.getElem_map]at h1
   rw[(List.getElem?_eq_some_iff.1 hn).2,(List.getElem?_eq_some_iff.1 hy).2]at h1
   obtain⟨r,hr,r1,r2⟩:=has_iff.1 hu
   obtain⟨s,hs,s1,s2⟩:=has_iff.1 hyu
   rw[List.mem_singleton.1 hr]at r1 r2
   rw[List.mem_singleton.1 hs]at s1 s2
   omega
 ·rintro⟨n,e,h1,h2,h3⟩
  obtain⟨x,hx,hp⟩:=firstIx_get (p:=fun e:Ed=> !e.pl&&e.pf.has u) h1
  rw[h2]at hx;cases hx
  rw[edge_has hc h2]at hp
  exact⟨e,List.mem_of_getElem? h2,h3,hp⟩
end Go.Proofs.YtahhamfngafmcaaGreatDoor
