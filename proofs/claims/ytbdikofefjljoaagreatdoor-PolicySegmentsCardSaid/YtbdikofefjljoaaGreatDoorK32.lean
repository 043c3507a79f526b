/- Membership, the edge of an address, windows at a minute: the program's. -/
import Derived.Test.YtbdikofefjljoaaGreatDoorK31
set_option linter.unusedVariables false
set_option linter.unusedSimpArgs false
set_option maxRecDepth 100000
set_option maxHeartbeats 4000000
namespace Go.Proofs.YtbdikofefjljoaaGreatDoor
open Go Go.Vm
theorem firstIx_cases{α:Type}(p:α->Bool)(l:List α):firstIx p l= -1\/∃(k:Nat) (x:α),firstIx p l=(k:Int)/\l[k]? =some x:=by
 unfold firstIx
 cases h:l.findIdx? p with
 |none=>exact .inl rfl
 |some k=>
  have:=(List.findIdx?_eq_some_iff_getElem.1 h).1
  exact .inr ⟨k,_,rfl,List.getElem?_eq_getElem this⟩
theorem coNaNI(x:Int){K:KT}(hK:K (.sb false) []):ACall Tryz.prog 184 [.v (.int .i64 x)] [] K:=by
 refine ofoNaNI rfl rfl ?_
 (repeat' ((conv=>whnf);first|refine zG ?_|apply zA|(apply zI;intro h)|exact zT));(all_goals conv=>whnf)
 have e:(!decide (x=x))=false:=by simp
 first
  |(unfold one?;rw[e];exact hK)
  |exact fin_f hK e
theorem coCmpI(x y:Int){K:KT}(hK:K (.v (.int .i64 (cmpI x y))) []):ACall Tryz.prog 101 [.v (.int .i64 x),.v (.int .i64 y)] [] K:=by
 refine ofoCmpI rfl rfl ?_
 (repeat' ((conv=>whnf);first|(with_reducible refine coNaNI _ ?_)|refine zG ?_|apply zA|(apply zI;intro h)|exact zT));(all_goals conv=>whnf)
 all_goals
  unfold cmpI at hK
  first
   |(rw[if_pos zw]at hK;exact hK)
   |(rw[if_neg zw,if_pos zw]at hK;exact hK)
   |(rw[if_neg zw,if_neg zw]at hK;exact hK)
noncomputable abbrev clHd(g:Hd):List AV:=[.v (.int .u32 g.src),.v (.int .u32 g.dst),.v (.int .u8 g.pro),.v (.int .u16 g.sp),.v (.int .u16 g.dp)]
theorem coCon(b:Bx)(g:Hd)(ho:g.Ok){K:KT}(hK:K (.sb (conB b g)) []):ACall Tryz.prog 140 [encX b,encHd g] [] K:=by
 have hv:∀{K:KT},K (.agg [.v (.int .u32 g.src),.v (.int .u32 g.dst),.v (.int .u32 g.pro),.v (.int .u32 g.sp),.v (.int .u32 g.dp)]) []->ACall Tryz.prog 226 [encHd g] [] K:=fun h=>cxVals g.src g.dst g.pro g.sp g.dp ⟨ho.s0,ho.d0,ho.p0,ho.a0,ho.b0,ho.s1,ho.d1,ho.p1,ho.a1,ho.b1⟩ h
 refine ACall.bool (ofoCon rfl rfl ?_)
 (repeat' ((conv=>whnf);first|(with_reducible first|refine cxBVal b ?_|refine hv ?_|refine Lp.times 6 ?_)|(refine in_c zd ?_)|(refine Ix.intro rfl ?_)|refine zG ?_|apply zA|(apply zI;intro h)|exact zT));(all_goals conv=>whnf)
 all_goals first
  |exact fin_t hK ((conB_iff b g).2 (by repeat' (first|with_reducible assumption|omega|apply And.intro)))
  |(refine fin_f hK ?_;rw[Bool.eq_false_iff,ne_eq,conB_iff];omega)
  |(refine fin_f hK ?_;rw[Bool.eq_false_iff,ne_eq,conB_iff];simp_all)
theorem coPCon1(b:Bx)(g:Hd)(ho:g.Ok){K:KT}(hK:K (.sb (conB b g)) []):ACall Tryz.prog 139 [encX b,.fp (clHd g)] [] K:=by
 refine ofoPCon1 rfl rfl ?_
 (repeat' ((conv=>whnf);first|(with_reducible refine coCon b g ho ?_)|refine zG ?_|apply zA|(apply zI;intro h)|exact zT));(all_goals conv=>whnf)
 exact hK
theorem coIxX(l:List Bx)(f:FuncId)(cs:List AV)(p:Bx->Bool)(hF:∀(x:Bx) (K:AV->List Vm.Obj->Prop),K (.sb (p x)) []->ACall Tryz.prog f [encX x,.fp cs] [] K)(hl:l.length<1000000000){K:KT}(hK:K (.v (.int .i64 (firstIx p l))) []):
  ACall Tryz.prog 224 [encXs l,.fn (.func f) [] [.fp cs]] [] K:=by
 refine ofoIxX rfl rfl ?_
 (repeat' ((conv=>whnf);first|refine zG ?_|apply zA|(apply zI;intro h)|exact zT));(all_goals conv=>whnf)
 refine Lp.intro Nat (fun k=>⟨0,[],[(0,encXs l),(1,.fn (.func f) [] [.fp cs]),(7,.v (.int .i64 (l.map encX).length)),(8,.v (.int .i64 k))]⟩) (fun k=>k<=l.length/\∀(i:Nat) y,i<k->l[i]? =some y->p y=false) (fun k=>l.length-k) 0 ⟨Nat.zero_le _,fun i y hi=>absurd hi (Nat.not_lt_zero _)⟩ ?_ ?_
 ·(exact leA)
 intro k ⟨hk,hinv⟩
 rcases Nat.lt_or_ge k l.length with hkl|hkl
 ·obtain⟨r,hr⟩:=gex hkl
  (repeat' ((conv=>whnf);first|(with_reducible first|refine in_map hkl ?_|refine ix_map hr ?_|refine hF r _ ?_)|refine zG ?_|apply zA|(apply zI;intro h)|exact zT));(all_goals conv=>whnf)
  ·rw[firstIx_at hr h hinv]at hK;exact hK
  ·refine⟨k+1,⟨by omega,before_succ hr h hinv⟩,by omega,?_⟩
   rw[Int.natCast_add,Int.natCast_one]
   (exact leA)
 ·(repeat' ((conv=>whnf);first|refine zG ?_|apply zA|(apply zI;intro h)|exact zT));(all_goals conv=>whnf)
  rw[firstIx_none (before_all hkl hinv)]at hK
  exact hK
theorem coPCon(l:List Bx)(g:Hd)(ho:g.Ok)(hl:l.length<1000000000){K:KT}(hK:K (.sb (l.any fun b=>conB b g)) []):ACall Tryz.prog 68 [encXs l,encHd g] [] K:=by
 have hc:∀{K:KT},K (.v (.int .i64 (firstIx (fun b=>conB b g) l))) []->ACall Tryz.prog 224 [encXs l,.fn (.func 139) [] [.fp (clHd g)]] [] K:=fun h=>coIxX l _ _ (fun b=>conB b g) (fun x K h=>coPCon1 x g ho h) hl h
 have hd:∀{K:KT},K (.sb (l.any fun b=>conB b g)) []->ACall Tryz.prog 138 [encXs l,.fn (.func 139) [] [.fp (clHd g)]] [] K:=by
  intro K hK
  refine ofoAnyX rfl rfl ?_
  (repeat' ((conv=>whnf);first|(with_reducible refine hc ?_)|refine zG ?_|apply zA|(apply zI;intro h)|exact zT));(all_goals conv=>whnf)
  rw[<-first_any]at hK
  exact hK
 refine ofoPCon rfl rfl ?_
 (repeat' ((conv=>whnf);first|(with_reducible refine hd ?_)|refine zG ?_|apply zA|(apply zI;intro h)|exact zT));(all_goals conv=>whnf)
 exact hK
theorem coTAt1(e:Ed)(v:Int)(v0:0<=v)(v1:v<=4294967295){K:KT}(hK:K (.sb (!e.pl&&e.pf.has v)) []):ACall Tryz.prog 136 [encE e,.fp [.v (.int .u32 v)]] [] K:=by
 refine ACall.bool (ofoTAt1 rfl rfl ?_)
 (repeat' ((conv=>whnf);first|(with_reducible refine cpCon e.pf v v0 v1 ?_)|refine zG ?_|apply zA|(apply zI;intro h)|exact zT));(all_goals conv=>whnf)
 all_goals first
  |exact fin_s hK (by simp_all)
  |exact fin_f hK (by simp_all)
  |exact fin_t hK (by simp_all)
theorem coTAt(t:Tp)(v:Int)(v0:0<=v)(v1:v<=4294967295)(hl:t.edges.length<1000000){K:KT}(hK:K (.v (.int .i64 (edgeAt t v))) []):ACall Tryz.prog 67 [encT t,.v (.int .u32 v)] [] K:=by
 have hc:∀{K:KT},K (.v (.int .i64 (edgeAt t v))) []->ACall Tryz.prog 135 [.lst (t.edges.map encE),.fn (.func 136) [] [.fp [.v (.int .u32 v)]]] [] K:=fun h=>cixEdge t.edges _ _ (fun e=> !e.pl&&e.pf.has v) (fun x K h=>coTAt1 x v v0 v1 h) hl h
 refine ofoTAt rfl rfl ?_
 (repeat' ((conv=>whnf);first|(with_reducible refine hc ?_)|refine zG ?_|apply zA|(apply zI;intro h)|exact zT));(all_goals conv=>whnf)
 exact hK
theorem coCAct(l:List Rg)(m:Int)(hl:l.length<1000000){K:KT}(hK:K (.sb (actW l m)) []):ACall Tryz.prog 182 [encRs l,.v (.int .i64 m)] [] K:=by
 refine ACall.bool (ofoCAct rfl rfl ?_)
 unfold actW at hK
 by_cases hm:0<=m/\m<=4294967295
 ·rw[decide_eq_true hm.1,decide_eq_true hm.2,Bool.true_and,Bool.true_and]at hK
  (repeat' ((conv=>whnf);first|(with_reducible refine c21 l _ hl ?_)|refine zG ?_|apply zA|(apply zI;intro h)|exact zT));(all_goals conv=>whnf)
  all_goals first
   |exact fin_s hK rfl
   |exact fin_f hK zw
   |(exfalso;omega)
 ·have e:(decide (0<=m)&&(decide (m<=4294967295)&&has l m))=false:=by
   by_cases h0:0<=m
   ·rw[decide_eq_false (show ¬m<=4294967295 by omega)];simp
   ·rw[decide_eq_false h0];simp
  (repeat' ((conv=>whnf);first|(with_reducible refine c21 l _ hl ?_)|refine zG ?_|apply zA|(apply zI;intro h)|exact zT));(all_goals conv=>whnf)
  all_goals first
   |exact fin_f hK e
   |(exfalso;omega)
theorem coMin(m:Int){K:KT}(hK:K (.sb (decide (0<=m/\m<10080))) []):ACall Tryz.prog 97 [.v (.int .i64 m)] [] K:=by
 refine ACall.bool (ofoMin rfl rfl ?_)
 (repeat' ((conv=>whnf);first|refine zG ?_|apply zA|(apply zI;intro h)|exact zT));(all_goals conv=>whnf)
 all_goals first
  |exact fin_t hK (decide_eq_true zo)
  |exact fin_f hK (decide_eq_false zo)
  |(refine fin_s hK ?_;rw[Bool.eq_iff_iff];simp only[decide_eq_true_eq];omega)
theorem coAct1(w:Wn)(x:Sm){K:KT}(hK:K (.sb (sEq w.name x.dur)) []):ACall Tryz.prog 181 [encWn w,.fp (clSm x)] [] K:=by
 refine ofoAct1 rfl rfl ?_
 (repeat' ((conv=>whnf);first|refine zG ?_|apply zA|(apply zI;intro h)|exact zT));(all_goals conv=>whnf)
 exact hK
theorem win_few{i:Nt}(hb:Bnd i){n:Nat}{w:Wn}(h:i.wins[n]? =some w):w.act.length<=4000:=hb.wi w (List.mem_of_getElem? h)
theorem coAct(i:Nt)(hb:Bnd i)(x:Sm)(m:Int){K:KT}(hK:K (.sb (actB i x m)) []):ACall Tryz.prog 98 [encNt i,encSm x,.v (.int .i64 m)] [] K:=by
 have hw:=hb.w
 have hc:∀{K:KT},K (.v (.int .i64 (wnIx i.wins x.dur))) []->ACall Tryz.prog 180 [.lst (i.wins.map encWn),.fn (.func 181) [] [.fp (clSm x)]] [] K:=fun h=>cixW i.wins _ _ (fun d=>sEq d.name x.dur) (fun y K h=>coAct1 y x h) zo h
 refine ACall.bool (ofoAct rfl rfl ?_)
 unfold actB at hK
 by_cases h0:sEq x.dur ⟨#[]⟩=true
 ·rw[h0,Bool.true_or]at hK
  (repeat' ((conv=>whnf);first|(with_reducible refine hc ?_)|refine zG ?_|apply zA|(apply zI;intro h)|exact zT));(all_goals conv=>whnf)
  all_goals first
   |exact fin_t hK rfl
   |(exfalso;simp_all[sEq];done)
 ·have h0:sEq x.dur ⟨#[]⟩=false:=by simpa using h0
  rw[h0,Bool.false_or]at hK
  rcases firstIx_cases (fun d:Wn=>sEq d.name x.dur) i.wins with h1|⟨k,w,h1,h2⟩
  ·have h1:wnIx i.wins x.dur= -1:=h1
   rw[h1]at hc hK
   (repeat' ((conv=>whnf);first|(with_reducible refine hc ?_)|refine zG ?_|apply zA|(apply zI;intro h)|exact zT));(all_goals conv=>whnf)
   all_goals first
    |exact fin_f hK rfl
    |(exfalso;simp_all[sEq];done)
  ·have h1:wnIx i.wins x.dur=(k:Int):=h1
   rw[h1]at hc hK
   have hkl:=(List.getElem?_eq_some_iff.1 h2).1
   have hwl:=win_few hb h2
   simp only[Int.toNat_natCast,h2,Option.map_some,Option.getD_some]at hK
   rw[decide_eq_true (show(0:Int)<=k by omega),Bool.true_and]at hK
   (repeat' ((conv=>whnf);first|(with_reducible first|refine hc ?_|refine in_map hkl ?_|refine ix_map h2 ?_|refine coCAct w.act m zo ?_)|refine zG ?_|apply zA|(apply zI;intro h)|exact zT));(all_goals conv=>whnf)
   all_goals first
    |exact fin_s hK rfl
    |exact fin_f hK zw
    |(exfalso;simp_all[sEq];done)
noncomputable abbrev clNt(i:Nt):List AV:=[.lst (i.grps.map encDf),.lst (i.svcs.map encDf),.lst (i.wins.map encWn),.lst (i.sts.map encSm),.lst (i.pubs.map encPb),.lst (i.hids.map encHn)]
theorem coOrd1(i:Nt)(a b:Nat)(ha:a<i.sts.length)(hb:b<i.sts.length){K:KT}(hK:K (.v (.int .i64 (cmpI (priN i b) (priN i a)))) []):ACall Tryz.prog 100 [vN a,vN b,.fp (clNt i)] [] K:=by
 obtain⟨x,hx⟩:=gex ha
 obtain⟨y,hy⟩:=gex hb
 have e1:priN i a=x.pri:=by simp[priN,hx]
 have e2:priN i b=y.pri:=by simp[priN,hy]
 rw[e1,e2]at hK
 refine ofoOrd1 rfl rfl ?_
 (repeat' ((conv=>whnf);first|(with_reducible first|refine in_map ha ?_|refine in_map hb ?_|refine ix_map hx ?_|refine ix_map hy ?_|refine coCmpI _ _ ?_)|refine zG ?_|apply zA|(apply zI;intro h)|exact zT));(all_goals conv=>whnf)
 exact hK
theorem cmpI_lt(a b:Int):decide (cmpI a b<0)=decide (a<b):=by
 unfold cmpI
 by_cases h1:a<b
 ·simp[h1]
 ·by_cases h2:b<a<;>simp[h1,h2]
theorem ord_flt(i:Nt)(m:Int)(k:Nat):(List.range (k+1)).filter (actN i m)=(List.range k).filter (actN i m)++(if actN i m k=true then [k]else []):=by
 rw[List.range_succ,List.filter_append]
 cases h:actN i m k<;>simp[h]
theorem nt_pri{i:Nt}(h:ntB i=true):∀x,x∈i.sts->0<=x.pri/\x.pri<=1000:=fun x hx=>by
 have:=(ntB_iff.1 h).t x hx
 unfold smB at this
 simp only[Bool.and_eq_true,decide_eq_true_eq]at this
 exact this.2.2.2
noncomputable def ordV(i:Nt)(m:Int):List Nat:=if ntB i=true/\(0<=m/\m<10080)then ordP i m else []
theorem coOrd(i:Nt)(hb:Bnd i)(hs:i.sts.length<=12)(m:Int){K:KT}(hK:K (.lst ((ordV i m).map vN)) []):ACall Tryz.prog 37 [encNt i,.v (.int .i64 m)] [] K:=by
 refine ACall.weak (ofoOrd rfl rfl ?_)
 unfold ordV at hK
 by_cases hv:ntB i=true/\(0<=m/\m<10080)
 case neg=>
  rw[if_neg hv]at hK
  (repeat' ((conv=>whnf);first|(with_reducible first|refine ckNt i hb ?_|refine coMin m ?_)|refine zG ?_|apply zA|(apply zI;intro h)|exact zT));(all_goals conv=>whnf)
  all_goals first
   |exact⟨_,Weak.nils,hK⟩
   |(exfalso;simp_all;done)
   |(exfalso;simp_all;omega)
 rw[if_pos hv]at hK
 (repeat' ((conv=>whnf);first|(with_reducible first|refine ckNt i hb ?_|refine coMin m ?_)|refine zG ?_|apply zA|(apply zI;intro h)|exact zT));(all_goals conv=>whnf)
 all_goals first
  |(exfalso;simp_all;done)
  |(exfalso;simp_all;omega)
  |skip
 refine Lp.intro Nat (fun k=>⟨2,[(0,boxNt i),(1,.arr 1 (((List.range k).filter (actN i m)).map vN))],[(1,.v (.int .i64 m)),(2,.op 0 0),(5,.os 1 1 0 ((List.range k).filter (actN i m)).length),(17,.lst (i.sts.map encSm)),(18,.v (.int .i64 ((i.sts.map encSm).length:Nat))),(19,.v (.int .i64 k))]⟩) (fun k=>k<=i.sts.length) (fun k=>i.sts.length-k) 0 (Nat.zero_le _) ?_ ?_
 ·(exact leA)
 intro k hk
 have hfl:((List.range k).filter (actN i m)).length<=k:=Nat.le_trans (List.length_filter_le ..) zx
 rcases Nat.lt_or_ge k i.sts.length with hkl|hkl
 ·obtain⟨x,hx⟩:=gex hkl
  have ha:actN i m k=actB i x m:=by simp[actN,hx]
  have hf:=ord_flt i m k
  (repeat' ((conv=>whnf);first|(with_reducible first|refine in_map hkl ?_|refine ix_map hx ?_|refine coAct i hb x m ?_)|refine zG ?_|apply zA|(apply zI;intro h)|exact zT));(all_goals conv=>whnf)
  all_goals first
   |(refine⟨k+1,hkl,by omega,?_⟩
     rw[if_pos (by rw[ha];with_reducible assumption)]at hf
     rw[hf,List.map_append,List.length_append,Int.natCast_add,Int.natCast_one]
     (exact leA)
     done)
   |(refine⟨k+1,hkl,by omega,?_⟩
     rw[if_neg (by rw[ha];simp_all),List.append_nil]at hf
     rw[hf,Int.natCast_add,Int.natCast_one]
     (exact leA)
     done)
 ·have hke:k=i.sts.length:=by omega
  subst hke
  have hord:=ord_sort (i:=i) (m:=m) (nt_pri hv.1)
  have hlt:(fun x y=>decide (cmpI (priN i y) (priN i x)<0))=fun a b=>decide (priN i b<priN i a):=by funext a b;exact cmpI_lt _ _
  have hsort:∀{K:KT},K (.tup []) [.arr 1 ((ordP i m).map vN)]->ACall Tryz.prog 99 [.os 0 1 0 ((List.range i.sts.length).filter (actN i m)).length,.fn (.func 100) [] [.fp (clNt i)]] [.arr 1 (((List.range i.sts.length).filter (actN i m)).map vN)] K:=fun {K} h=>
   coSort _ (clNt i) (fun a b=>cmpI (priN i b) (priN i a)) _ zo (fun a b ha hb' K h=>coOrd1 i a b (List.mem_range.1 (List.mem_filter.1 ha).1) (List.mem_range.1 (List.mem_filter.1 hb').1) h) (by rw[hlt,hord];exact h)
  have hlen:((List.range i.sts.length).filter (actN i m)).length=(ordP i m).length:=by rw[<-hord,isort_length]
  (repeat' ((conv=>whnf);first|(with_reducible first|refine hsort ?_|refine sl_full (by rw[hlen];exact List.length_map ..) ?_)|refine zG ?_|apply zA|(apply zI;intro h)|exact zT));(all_goals conv=>whnf)
  exact⟨_,Weak.refl,hK⟩
theorem coReal(t:Tp)(hl:t.edges.length<1000)(hc:compB t=true){K:KT}(hK:K (.tup [encXs (realP t).1,.v (.int .i64 (realP t).2)]) []):ACall Tryz.prog 47 [encT t] [] K:=by
 have hpl:=pairsTo_len t.edges t.edges.length
 have hpl2:t.edges.length*t.edges.length<=1000*1000:=Nat.mul_le_mul zo zo
 unfold realP at hK
 refine ACall.weak (ofoReal rfl rfl ?_)
 (repeat' ((conv=>whnf);first|(with_reducible first|refine ctComp t zo ?_|refine cyPairs t zo ?_|refine cxMake (pairsB t.edges) (by rw[pairsB];omega) ?_|refine cxInit ?_|refine cxInt _ _ (setBlen (setB_makeP _)) zd ?_)|refine zG ?_|apply zA|(apply zI;intro h)|exact zT));(all_goals conv=>whnf)
 all_goals first
  |(exfalso;simp_all;done)
  |(rw[if_neg (by simp_all)]at hK;exact⟨_,Weak.refl,hK⟩)
  |(rw[if_pos (by simp_all)]at hK;exact⟨_,Weak.tup2 Weak.nils Weak.refl,hK⟩)
theorem coChk(t:Tp)(ht:t.edges.length<1000)(hd:t.devs.length<1000)(i:Nt)(hb:Bnd i)(m:Int){K:KT}(hK:K (.v (.int .i64 (preV t i m))) []):ACall Tryz.prog 46 [encT t,encNt i,.v (.int .i64 m)] [] K:=by
 refine ofoChk rfl rfl ?_
 unfold preV at hK
 (repeat' ((conv=>whnf);first|(with_reducible first|refine ctComp t zo ?_|refine ckNt i hb ?_|refine coMin m ?_|refine crCheck t zo zo i hb ?_)|refine zG ?_|apply zA|(apply zI;intro h)|exact zT));(all_goals conv=>whnf)
 all_goals first
  |(rw[if_neg (by simp_all)]at hK;exact hK)
  |(rw[if_pos (by simp_all),if_neg (by simp_all)]at hK;exact hK)
  |(rw[if_pos (by simp_all),if_pos (by simp_all)]at hK;rw[chkV,if_pos (by simp_all)];exact hK)
noncomputable def hitN(t:Tp)(i:Nt)(q:Nat->Int)(n:Nat):Bool:=match i.sts[n]? with
 |some x=>memK q 5 (stmP t i x).1
 |none=>false
def perN(i:Nt)(n:Nat):Bool:=match i.sts[n]? with
 |some x=>x.permit
 |none=>false
theorem folI_err{S:Type}{v:It->S->Int×S}(hv:∀x s,(v x s).1=0\/(v x s).1=5){rec:ByteArray->List Nat->S->Int×List Nat×S}(hr:∀nm d s,(rec nm d s).1=0\/(rec nm d s).1=5\/(rec nm d s).1=8):
  ∀(its:List It) (d:List Nat) (s:S),(folI v rec its d s).1=0\/(folI v rec its d s).1=5\/(folI v rec its d s).1=8
 |[],d,s=>.inl rfl
 |x::r,d,s=>by
  rw[folI_cons]
  have hq:(if x.kind=3 then rec x.name d s else((v x s).1,d,(v x s).2)).1=0\/(if x.kind=3 then rec x.name d s else((v x s).1,d,(v x s).2)).1=5\/(if x.kind=3 then rec x.name d s else((v x s).1,d,(v x s).2)).1=8:=by
   by_cases hk:x.kind=3
   ·rw[if_pos hk];exact hr _ _ _
   ·rw[if_neg hk]
    rcases hv x s with h|h
    ·exact .inl h
    ·exact .inr (.inl h)
  generalize (if x.kind=3 then rec x.name d s else((v x s).1,d,(v x s).2))=q at*
  split
  ·exact folI_err hv hr r _ _
  ·exact hq
theorem fol_err{S:Type}{v:It->S->Int×S}(hv:∀x s,(v x s).1=0\/(v x s).1=5)(l:List Df):∀(k:Nat) (p:List Nat) (nm:ByteArray) (d:List Nat) (s:S),(fol v l k p nm d s).1=0\/(fol v l k p nm d s).1=5\/(fol v l k p nm d s).1=8
 |0,p,nm,d,s=>by simp[fol]
 |k+1,p,nm,d,s=>by
  unfold fol
  cases findD l nm with
  |none=>simp
  |some n=>
   simp only
   split
   ·simp
   ·split
    ·simp
    ·split
     ·simp
     ·exact folI_err hv (fun nm d s=>fol_err hv l k (p++[n]) nm d s) _ _ _
theorem grpE_err(t:Tp)(l:List Df)(nm:ByteArray):(grpE t l nm).1=0\/(grpE t l nm).1=5\/(grpE t l nm).1=8:=by
 unfold grpE
 split
 ·exact .inl rfl
 ·exact fol_err (fun x s=>by
   unfold visG
   split
   ·exact .inl rfl
   ·split
    ·exact .inr rfl
    ·exact .inl rfl) l _ _ _ _ _
theorem svcF_err(l:List Df)(nm:ByteArray):(svcF l nm).1=0\/(svcF l nm).1=5\/(svcF l nm).1=8:=fol_err (fun x s=>.inl rfl) l _ _ _ _ _
def sEqD(a b:ByteArray):Bool:=a.data.toList==b.data.toList
def itC(x:It)(g:Bool):Bool:=
 if x.kind=3 then nmChk x.name.data.toList&&itN x
 else if x.kind=1 then g&&(nmChk x.name.data.toList&&itN x)
 else if x.kind=2 then g&&(decide x.pf.okP&&(sEqD x.name ⟨#[]⟩&&decide (x.proto=0/\x.ports.lo=0/\x.ports.hi=0)))
 else if x.kind=4 then !g&&(prB x.proto x.ports&&(sEqD x.name ⟨#[]⟩&&decide (x.pf.addr=0/\x.pf.bits=0)))else false
theorem itC_itB{x:It}{g:Bool}(h:itC x g=true):itB x g=true:=by
 have hn:nmChk x.name.data.toList=true->nameB x.name=true:=fun h=>nameB_true (nameOk_data h)
 have he:sEqD x.name ⟨#[]⟩=sEq x.name ⟨#[]⟩:=(sEq_data _ _).symm
 unfold itC at h
 unfold itB itP itS
 rw[he]at h
 split
 ·rename_i hk
  rw[if_pos hk,Bool.and_eq_true]at h
  rw[hn h.1,h.2];rfl
 ·rename_i hk
  rw[if_neg hk]at h
  split
  ·rename_i hk1
   rw[if_pos hk1,Bool.and_eq_true,Bool.and_eq_true]at h
   rw[h.1,hn h.2.1,h.2.2];rfl
  ·rename_i hk1
   rw[if_neg hk1]at h
   exact h
def dfC(l:List Df)(g:Bool)(i:Nat)(d:Df):Bool:=
 nmChk d.name.data.toList&&(decide (l.findIdx? (fun e=>sEqD e.name d.name)=some i)&&(decide (1<=d.items.length)&&(decide (d.items.length<=16)&&d.items.all fun x=>itC x g)))
def dfsC(l:List Df)(g:Bool):Bool:=decide (l.length<=32)&&(l.zipIdx.all fun q=>dfC l g q.2 q.1)
theorem dfsC_ok{l:List Df}{g:Bool}(h:dfsC l g=true):DfsOk l g:=by
 unfold dfsC at h
 rw[Bool.and_eq_true,decide_eq_true_eq,List.all_eq_true]at h
 refine⟨h.1,fun i d hd=>?_⟩
 have h2:=h.2 (d,i) (List.mem_zipIdx_iff_getElem?.2 hd)
 unfold dfC at h2
 simp only[Bool.and_eq_true,decide_eq_true_eq,List.all_eq_true]at h2
 obtain⟨h3,h4,h5,h6,h7⟩:=h2
 refine⟨nameB_true (nameOk_data h3),?_,h5,h6,fun x hx=>itC_itB (h7 x hx)⟩
 have e:(fun e:Df=>sEq e.name d.name)=fun e=>sEqD e.name d.name:=by funext e;exact sEq_data _ _
 unfold dfIx firstIx
 rw[e,h4]
/-! the topology of the examples -/
def pf0:Pf:=⟨167772160,24,by decide,by decide⟩
def pf4:Pf:=⟨2886729728,16,by decide,by decide⟩
def netR:Tp:=⟨[⟨⟨#[114]⟩,0,false,false,⟨#[]⟩⟩],[],[⟨⟨#[97]⟩,0,⟨#[108,97,110]⟩,pf0,false⟩,⟨⟨#[98]⟩,0,⟨#[100,109,122]⟩,pf4,false⟩],[],0⟩
theorem topOk_netR:TopOk netR:=by
 have sEqr:∀s:ByteArray,sEq s s=true:=fun s=>by rw[sEq_data];simp
 refine⟨by simp[netR],by simp[netR],by simp[netR],by simp[netR],by simp[netR],by simp[netR],by simp[netR],?_,?_,?_,?_,?_⟩
 ·intro i d hi
  match i,hi with
  |0,hi=>
   simp[netR]at hi;subst hi
   exact⟨⟨nameOk_data (s:=⟨#[114]⟩) zd,by decide,by decide,.inl (sEqr _)⟩,firstIx_at (k:=0) rfl (sEqr _) (fun j y hj=>absurd hj (Nat.not_lt_zero _))⟩
  |i+1,hi=>simp[netR]at hi
 ·intro i l hi
  simp[netR]at hi
 ·intro i e hi
  match i,hi with
  |0,hi=>
   simp[netR]at hi;subst hi
   exact⟨⟨nameOk_data zd,nameOk_data zd,by decide,by simp[netR],by decide,by decide,by decide⟩,firstIx_at (k:=0) rfl (sEqr _) (fun j y hj=>absurd hj (Nat.not_lt_zero _))⟩
  |1,hi=>
   simp[netR]at hi;subst hi
   refine⟨⟨nameOk_data zd,nameOk_data zd,by decide,by simp[netR],by decide,by decide,by decide⟩,firstIx_at (k:=1) rfl (sEqr _) (fun j y hj hy=>?_)⟩
   obtain rfl:j=0:=by omega
   simp[netR]at hy;subst hy
   rw[sEq_data];rfl
  |i+2,hi=>simp[netR]at hi
 ·rintro i e hi j o hj ho ⟨_,_,h3⟩
  match i,hi,j,ho with
  |0,hi,j,ho=>omega
  |1,hi,0,ho=>simp[netR]at hi ho;subst hi;subst ho;revert h3;decide
  |1,hi,j+1,ho=>omega
  |i+2,hi,j,ho=>simp[netR]at hi
 ·intro i p hi
  simp[netR]at hi
theorem comp_netR:compB netR=true:=compB_iff.2 ⟨topOk_netR,fun e he=>by
 simp only[netR,List.mem_cons,List.not_mem_nil,or_false]at he
 rcases he with rfl|rfl<;>rfl⟩
def atB(s:ByteArray)(c:Int)(i:Nat):Bool:=match s[i]? with
 |some b=>decide ((b.toNat:Int)=c)
 |none=>true
def prt(s:ByteArray)(c:Int):Nat->List ByteArray×Nat
 |0=>([],0)
 |i+1=>if atB s c i=true then((prt s c i).1++[s.extract (prt s c i).2 i],i+1)else prt s c i
theorem prt_le(s:ByteArray)(c:Int):∀i,(prt s c i).2<=i/\(prt s c i).1.length<=i
 |0=>⟨Nat.le_refl _,Nat.le_refl _⟩
 |i+1=>by
  have:=prt_le s c i
  rw[prt]
  split
  ·simp only[List.length_append,List.length_cons,List.length_nil];omega
  ·omega
theorem at_end(s:ByteArray)(c:Int):atB s c s.size=true:=by rw[atB,getElem?_neg s s.size (Nat.lt_irrefl _)]
theorem prt_end(s:ByteArray)(c:Int):(prt s c (s.size+1)).1=(prt s c s.size).1++[s.extract (prt s c s.size).2 s.size]:=by
 rw[prt,if_pos (at_end s c)]
def prtL(s:ByteArray)(c:Int):List ByteArray:=(prt s c (s.size+1)).1
theorem prtL_ne(s:ByteArray)(c:Int):prtL s c≠[]:=by rw[prtL,prt_end];simp
theorem djParts(s:ByteArray)(c:Int)(hs:s.size<=1000){K:KT}(hK:K (.lst ((prtL s c).map encSt)) []):ACall Tryz.prog 315 [.v (.string s),.v (.int .u8 c)] [] K:=by
 refine ofq1Parts rfl rfl ?_
 (repeat' ((conv=>whnf);first|refine zG ?_|apply zA|(apply zI;intro h)|exact zT));(all_goals conv=>whnf)
 refine Lp.intro (List ByteArray×Nat×Nat) (fun g=>⟨1,[(0,.arr 1 (g.1.map encSt))],[(0,.v (.string s)),(1,.v (.int .u8 c)),(5,.os 0 1 0 g.1.length),(6,.v (.int .i64 g.2.1)),(7,.v (.int .i64 g.2.2))]⟩)
  (fun g=>g.2.2<=s.size+1/\prt s c g.2.2=(g.1,g.2.1)) (fun g=>s.size+1-g.2.2) ([],0,0) ⟨by simp only;omega,rfl⟩ ?_ ?_
 ·(exact leA)
 rintro⟨l,a,i⟩ ⟨h1,hg⟩
 simp only at h1 hg⊢
 have hle:=prt_le s c i
 rw[hg]at hle
 obtain⟨h2,h3⟩:=hle
 simp only at h2 h3
 rcases Nat.lt_or_ge i (s.size+1)with hl|hl
 ·have hstep:prt s c (i+1)=if atB s c i=true then(l++[s.extract a i],i+1)else(l,a):=by rw[prt,hg]
  (repeat' ((conv=>whnf);first|(with_reducible first|refine in_nat zo ?_|refine ix_ba zo fun b hb=>?_|refine Sb.intro a i rfl rfl zo zo ?_)|refine zG ?_|apply zA|(apply zI;intro h)|exact zT));(all_goals conv=>whnf)
  all_goals first
   |(have hno:atB s c i=false:=by rw[atB,hb];exact decide_eq_false h
     rw[hno,if_neg zd]at hstep
     refine⟨(l,a,i+1),⟨by simp only;omega,hstep⟩,by simp only;omega,?_⟩
     rw[show(((l,a,i+1):List ByteArray×Nat×Nat).2.2:Int)=(i:Int)+1 from by simp only;omega]
     (exact leA)
     done)
   |(have hyes:atB s c i=true:=by
      first
       |(rw[atB,hb];exact decide_eq_true h)
       |(rw[show i=s.size by omega];exact at_end s c)
     rw[hyes,if_pos rfl]at hstep
     refine⟨(l++[s.extract a i],i+1,i+1),⟨by simp only;omega,hstep⟩,by simp only;omega,?_⟩
     simp only[List.map_append,List.length_append,List.map_cons,List.map_nil,List.length_cons,List.length_nil,Int.natCast_add,Int.natCast_one]
     (exact leA)
     done)
   |(exfalso;omega)
 ·(repeat' ((conv=>whnf);first|(with_reducible refine sl_full (List.length_map ..) ?_)|refine zG ?_|apply zA|(apply zI;intro h)|exact zT));(all_goals conv=>whnf)
  rw[prtL,show s.size+1=i by omega,hg]at hK
  exact hK
noncomputable def dayIx(s:ByteArray):Int:=firstIx (fun x=>sEq x s) dayL
theorem djDay(s:ByteArray){K:KT}(hK:K (.v (.int .i64 (dayIx s))) []):ACall Tryz.prog 316 [.v (.string s)] [] K:=by
 unfold dayIx at hK
 refine ofq9Day rfl rfl ?_
 (repeat' ((conv=>whnf);first|(with_reducible refine cqDays ?_)|refine zG ?_|apply zA|(apply zI;intro h)|exact zT));(all_goals conv=>whnf)
 refine Lp.intro Nat (fun i=>⟨0,[],[(0,.v (.string s)),(3,.lst (dayL.map encSt)),(4,.v (.int .i64 i))]⟩) (fun i=>i<=dayL.length/\∀(j:Nat) y,j<i->dayL[j]? =some y->sEq y s=false) (fun i=>dayL.length-i) 0 ⟨Nat.zero_le _,fun i y hi=>absurd hi (Nat.not_lt_zero _)⟩ ?_ ?_
 ·(exact leA)
 intro i ⟨hi,hinv⟩
 have h7:dayL.length=7:=rfl
 rcases Nat.lt_or_ge i dayL.length with hl|hl
 ·obtain⟨x,hx⟩:=gex hl
  (repeat' ((conv=>whnf);first|(with_reducible first|refine in_map hl ?_|refine ix_map hx ?_)|refine zG ?_|apply zA|(apply zI;intro h)|exact zT));(all_goals conv=>whnf)
  ·rw[firstIx_at (p:=fun x=>sEq x s) hx (show sEq x s=true from h) hinv]at hK
   exact hK
  ·refine⟨i+1,⟨hl,before_succ (p:=fun x:ByteArray=>sEq x s) hx h hinv⟩,by omega,?_⟩
   rw[Int.natCast_add,Int.natCast_one]
   (exact leA)
 ·(repeat' ((conv=>whnf);first|refine zG ?_|apply zA|(apply zI;intro h)|exact zT));(all_goals conv=>whnf)
  rw[firstIx_none (p:=fun x=>sEq x s) (before_all hl hinv)]at hK
  exact hK
structure DayW (s:ByteArray):Prop where
 size:s.size<=1000
 two:(prtL s 45).length<=2
 ok:∀x y,(prtL s 45)[0]? =some x->(prtL s 45)[(prtL s 45).length-1]? =some y->0<=dayIx x/\dayIx x<=dayIx y/\dayIx y<=6/\dayIx y<=dayIx x+4
theorem djSpan(s:ByteArray)(hs:DayW s){K:KT}(hK:∀a b:Int,0<=a->a<=b->b<=6->b<=a+4->K (.tup [.v (.int .i64 a),.v (.int .i64 b)]) []):ACall Tryz.prog 260 [.v (.string s)] [] K:=by
 have h2:=hs.two
 have hok:=hs.ok
 have hpos:=List.length_pos_iff.2 (prtL_ne s 45)
 refine ofq9Span rfl rfl ?_
 have hp:=fun {K} h=>@djParts s 45 hs.size K h
 generalize prtL s 45=l at*
 have hm:((l.length:Nat):Int)-1=((l.length-1:Nat):Int):=by omega
 obtain⟨x,hx⟩:=gex hpos
 obtain⟨y,hy⟩:∃y,l[l.length-1]? =some y:=⟨_,List.getElem?_eq_getElem zo⟩
 obtain⟨q0,q1,q2,q3⟩:=hok x y hx hy
 (repeat' ((conv=>whnf);first|(with_reducible refine hp ?_)|(refine In.intro 0 rfl (by rw[List.length_map];omega) ?_)|(with_reducible first|refine wr_i64 (r:=((l.length-1:Nat):Int)) (by rw[List.length_map];omega) zo zo ?_|refine in_map zo ?_|refine ix_map hx ?_|refine ix_map hy ?_|refine djDay _ ?_)|refine zG ?_|apply zA|(apply zI;intro h)|exact zT));(all_goals conv=>whnf)
 all_goals first
  |exact hK _ _ q0 q1 q2 q3
  |(exfalso;simp only[List.length_map]at*;omega)
def dayD(s:ByteArray):Int:=firstIx (fun x=>sEqD x s) dayL
theorem day_eq(s:ByteArray):dayIx s=dayD s:=by
 unfold dayIx dayD
 congr 1
 funext x
 rw[sEq_data];rfl
theorem winL_days:∀s,s∈winL->DayW s:=by
 have h:∀s,s∈winL->s.size<=1000/\(prtL s 45).length<=2/\(0<=dayD ((prtL s 45).getD 0 s)/\dayD ((prtL s 45).getD 0 s)<=dayD ((prtL s 45).getD ((prtL s 45).length-1) s)/\dayD ((prtL s 45).getD ((prtL s 45).length-1) s)<=6/\dayD ((prtL s 45).getD ((prtL s 45).length-1) s)<=dayD ((prtL s 45).getD 0 s)+4):=by decide+kernel
 intro s hs
 obtain⟨h1,h2,h3⟩:=h s hs
 refine⟨h1,h2,fun x y hx hy=>?_⟩
 rw[List.getD,hx,List.getD,hy]at h3
 rw[day_eq,day_eq]
 exact h3
theorem djTimes(s:ByteArray)(hs:s.size<=1000){K:KT}(hK:∀a b:Int,(a= -1\/(0<=a/\a<b))->b<=1440-> -1<=b->K (.tup [.v (.int .i64 a),.v (.int .i64 b)]) []):ACall Tryz.prog 261 [.v (.string s)] [] K:=by
 refine ofq9Times rfl rfl ?_
 (repeat' ((conv=>whnf);first|(with_reducible refine cqParts s _ hs fun l hl hn=>?_)|(refine In.intro 0 rfl zo ?_)|(refine In.intro 1 rfl zo ?_)|(with_reducible first|refine ix_map_any (by simp only[List.length_map]at*;omega) fun c hc=>?_|refine cqClock _ fun r r0 r1=>?_)|refine zG ?_|apply zA|(apply zI;intro h)|exact zT));(all_goals conv=>whnf)
 all_goals first
  |exact hK _ _ zo zo zo
def OutOk(out:List Rg):Prop:=∀r,r∈out->∃d:Nat,d<7/\1440*(d:Int)<=r.lo/\r.lo<=r.hi/\r.hi<=1440*(d:Int)+1439
def inD(d:Nat)(r:Rg):Bool:=decide (1440*(d:Int)<=r.lo)&&decide (r.hi<=1440*(d:Int)+1439)
theorem ind_le{p:Nat->Bool}{k:Nat}(h:∀d,p d=true->d=k):∀n,((List.range n).map fun d=>if p d=true then 1 else 0).sum<=if k<n then 1 else 0
 |0=>by simp
 |n+1=>by
  have ih:=ind_le h n
  rw[List.range_succ,List.map_append,List.sum_append]
  simp only[List.map_cons,List.map_nil,List.sum_cons,List.sum_nil]
  by_cases hp:p n=true
  ·have:=h n hp
   subst this
   rw[if_pos hp,if_pos (Nat.lt_succ_self _)]
   rw[if_neg (Nat.lt_irrefl _)]at ih
   omega
  ·rw[if_neg hp]
   split at ih
   ·rw[if_pos zo];omega
   ·split<;>omega
theorem sum_add2{α:Type}(f g:α->Nat):∀l:List α,(l.map fun d=>f d+g d).sum=(l.map f).sum+(l.map g).sum
 |[]=>rfl
 |x::l=>by simp only[List.map_cons,List.sum_cons,sum_add2 f g l];omega
theorem sum_days:∀out:List Rg,(∀r,r∈out->r.lo<=r.hi)->((List.range 7).map fun d=>(out.filter (inD d)).length).sum<=out.length
 |[],_=>Nat.le_of_eq rfl
 |r::out,h=>by
  have ih:=sum_days out fun x hx=>h x (List.mem_cons_of_mem _ hx)
  have e:((List.range 7).map fun d=>((r::out).filter (inD d)).length)=(List.range 7).map fun d=>(if inD d r=true then 1 else 0)+(out.filter (inD d)).length:=by
   refine List.map_congr_left fun d _=>?_
   rw[List.filter_cons]
   split
   ·rw[List.length_cons];omega
   ·omega
  have hr:=h r zx
  have h1:=ind_le (p:=fun d=>inD d r) (k:=(r.lo/1440).toNat) (fun d hd=>by
   simp only[inD,Bool.and_eq_true,decide_eq_true_eq]at hd
   omega) 7
  rw[e,sum_add2,List.length_cons]
  have h2:(if(r.lo/1440).toNat<7 then 1 else 0)<=1:=by split<;>omega
  omega
theorem win_of_out{out rs:List Rg}(ho:OutOk out)(hl:out.length<=16)(hc:Canon rs)(hh:∀v,has rs v=has out v):WinOk rs:=by
 refine⟨hc,fun r hr=>?_,?_⟩
 ·have h1:=has_iff.2 ⟨r,hr,hc.1 r hr,Int.le_refl _⟩
  rw[hh]at h1
  obtain⟨q,hq,q1,q2⟩:=has_iff.1 h1
  obtain⟨d,d1,d2,d3,d4⟩:=ho q hq
  omega
 ·have hd:∀d,(dayW rs d).length<=(out.filter (inD d)).length:=fun d=>by
   have e:(fun v=>has rs v&&(decide (1440*(d:Int)<=v)&&decide (v<=1440*(d:Int)+1439)))=has (out.filter (inD d)):=by
    funext v
    rw[hh,Bool.eq_iff_iff]
    simp only[Bool.and_eq_true,decide_eq_true_eq]
    constructor
    ·rintro⟨h1,h2,h3⟩
     obtain⟨q,hq,q1,q2⟩:=has_iff.1 h1
     obtain⟨e,d1,d2,d3,d4⟩:=ho q hq
     have:e=d:=by omega
     subst this
     exact has_iff.2 ⟨q,List.mem_filter.2 ⟨hq,by simp only[inD,Bool.and_eq_true,decide_eq_true_eq];omega⟩,q1,q2⟩
    ·intro h
     obtain⟨q,hq,q1,q2⟩:=has_iff.1 h
     obtain⟨hq1,hq2⟩:=List.mem_filter.1 hq
     simp only[inD,Bool.and_eq_true,decide_eq_true_eq]at hq2
     exact⟨has_iff.2 ⟨q,hq1,q1,q2⟩,by omega,by omega⟩
   unfold dayW
   rw[e]
   exact canO_len _
  have hs:=sum_days out fun r hr=>by obtain⟨d,d1,d2,d3,d4⟩:=ho r hr;exact d3
  have hm:cntW rs 7<=((List.range 7).map fun d=>(out.filter (inD d)).length).sum:=by
   unfold cntW
   generalize List.range 7=l
   induction l with
   |nil=>simp
   |cons x l ih=>simp only[List.map_cons,List.sum_cons];have:=hd x;omega
  omega
theorem win_nil:WinOk []:=win_of_out (out:=[]) (fun r h=>by cases h) zx canon_nil fun v=>rfl
structure Wds (ws:List ByteArray):Prop where
 mod:ws.length%3=2
 len:ws.length<=8
 size:∀s,s∈ws->s.size<=1000
 day:∀(j:Nat) s,ws[3*j]? =some s->DayW s
theorem djParse(ws:List ByteArray)(hw:Wds ws){K:KT}(hK:∀(rs:List Rg) (e:Int),WinOk rs->rs.length<=16->K (.tup [encRs rs,.v (.int .i64 e)]) []):ACall Tryz.prog 189 [.lst (ws.map encSt)] [] K:=by
 have hl:=hw.len
 have hmod:=hw.mod
 have hm:(ws.length:Int).tmod 3=((ws.length%3:Nat):Int):=by rw[Int.tmod_eq_emod_of_nonneg zo];omega
 refine ACall.weak (ofq9Parse rfl rfl ?_)
 (repeat' ((conv=>whnf);first|(refine In.intro 0 rfl zo ?_)|(with_reducible first|refine ix_map_any (by simp only[List.length_map]at*;omega) fun c hc=>?_|refine Ob.intro zd ?_)|refine zG ?_|apply zA|(apply zI;intro h)|exact zT));(all_goals conv=>whnf)
 all_goals first
  |exact⟨_,Weak.tup2 Weak.nils Weak.refl,hK [] _ win_nil zx⟩
  |skip
 all_goals
  refine Lp.intro (Nat×List Rg) (fun g=>⟨1,[(0,.arr 2 (g.2.map encR))],[(0,.lst (ws.map encSt)),(4,.os 0 2 0 g.2.length),(5,.v (.int .i64 (3*g.1:Nat)))]⟩)
   (fun g=>3*g.1<=ws.length+1/\g.2.length<=5*g.1/\OutOk g.2) (fun g=>ws.length+3-3*g.1) (0,[]) ⟨Nat.zero_le _,Nat.zero_le _,fun r h=>by cases h⟩ ?_ ?_
  ·(exact leA)
  rintro⟨i,out⟩ ⟨h2,h3,h4⟩
  simp only at h2 h3 h4⊢
  rcases Nat.lt_or_ge (3*i) ws.length with hil|hil
  ·have hi1:3*i+1<ws.length:=by omega
   obtain⟨s0,hs0⟩:∃s,ws[3*i]? =some s:=⟨_,List.getElem?_eq_getElem hil⟩
   obtain⟨s1,hs1⟩:∃s,ws[3*i+1]? =some s:=⟨_,List.getElem?_eq_getElem hi1⟩
   (repeat' ((conv=>whnf);first|(with_reducible first|refine in_map hil ?_|refine ix_map hs0 ?_|refine In.intro (3*i+1) zo (by rw[List.length_map];exact hi1) ?_|refine ix_map hs1 ?_|refine djSpan s0 (hw.day i s0 hs0) fun a b a0 a1 a2 a3=>?_|refine djTimes s1 (hw.size _ (List.mem_of_getElem? hs1)) fun f g f0 g1 g0=>?_|refine In.intro (3*i+2) zo (by rw[List.length_map]at*;omega) ?_|refine ix_map_any (by simp only[List.length_map]at*;omega) fun c hc=>?_)|refine zG ?_|apply zA|(apply zI;intro h)|exact zT));(all_goals conv=>whnf)
   all_goals first
    |exact⟨_,Weak.tup2 Weak.nils Weak.refl,hK [] _ win_nil zx⟩
    |skip
   all_goals
    have hf:0<=f/\f<g:=by omega
    refine Lp.intro (Int×List Rg) (fun q=>⟨1,[(0,.arr 2 (q.2.map encR))],[(0,.lst (ws.map encSt)),(4,.os 0 2 0 q.2.length),(5,.v (.int .i64 (3*i:Nat))),(7,.v (.int .i64 b)),(8,.v (.int .i64 f)),(9,.v (.int .i64 g)),(10,.v (.int .i64 q.1))]⟩)
     (fun q=>a<=q.1/\q.1<=b+1/\(q.2.length:Int)<=5*i+(q.1-a)/\OutOk q.2) (fun q=>(7-q.1).toNat) (a,out) ⟨by simp only;omega,by simp only;omega,by simp only;omega,h4⟩ ?_ ?_
    ·(exact leA)
    rintro⟨d,ou⟩ ⟨k1,k2,k3,k4⟩
    simp only at k1 k2 k3 k4⊢
    rcases Int.lt_or_le b d with hbd|hbd
    ·(repeat' ((conv=>whnf);first|refine zG ?_|apply zA|(apply zI;intro h)|exact zT));(all_goals conv=>whnf)
     refine⟨(i+1,ou),⟨by simp only;omega,by simp only;omega,k4⟩,by simp only;omega,?_⟩
     rw[show((3*((i+1,ou):Nat×List Rg).1:Nat):Int)=((3*i:Nat):Int)+3 from by simp only;omega]
     (exact leA)
    ·(repeat' ((conv=>whnf);first|(with_reducible first|refine wr_i64 rfl zo zo ?_|refine wr_u32 rfl zo zo ?_)|refine zG ?_|apply zA|(apply zI;intro h)|exact zT));(all_goals conv=>whnf)
     refine⟨(d+1,ou++[⟨1440*d+f,1440*d+g-1,by omega,by omega,by omega,by omega⟩]),⟨by simp only;omega,by simp only;omega,by simp only[List.length_append,List.length_cons,List.length_nil];omega,fun r hr=>?_⟩,by simp only;omega,?_⟩
     ·rcases List.mem_append.1 hr with hr|hr
      ·exact k4 r hr
      ·rw[List.mem_singleton.1 hr]
       exact⟨d.toNat,by omega,by simp only;omega,by simp only;omega,by simp only;omega⟩
     ·simp only[List.map_append,List.length_append,List.map_cons,List.map_nil,List.length_cons,List.length_nil]
      (exact leA)
  ·(repeat' ((conv=>whnf);first|(with_reducible first|refine Ob.intro zd ?_|refine wr_any fun r=>?_|refine sl_full (List.length_map ..) ?_)|(refine c14 out [] zo zx fun rs q1 q2 q3=>?_)|refine zG ?_|apply zA|(apply zI;intro h)|exact zT));(all_goals conv=>whnf)
   all_goals first
    |exact⟨_,Weak.tup2 Weak.nils Weak.refl,hK [] _ win_nil zx⟩
    |exact⟨_,Weak.refl,hK _ _ (win_of_out h4 zo q1 fun v=>by rw[q2,has_nil];simp) (Nat.le_trans (canon_len (rs:=out) q1 fun v=>by rw[q2,has_nil];simp) zo)⟩
theorem wds_two{c e:ByteArray}(hc:c∈winL)(he:e.size<=1000):Wds [c,e] where
 mod:=rfl
 len:=by simp
 size:=fun s hs=>by
  simp only[List.mem_cons,List.not_mem_nil,or_false]at hs
  rcases hs with rfl|rfl
  ·exact(winL_days _ hc).size
  ·exact he
 day:=fun j s hs=>by
  have:=(List.getElem?_eq_some_iff.1 hs).1
  simp only[List.length_cons,List.length_nil]at this
  obtain rfl:j=0:=by omega
  cases hs
  exact winL_days _ hc
theorem wds_snoc{ws:List ByteArray}{x y:ByteArray}(h:Wds ws)(hl:ws.length<=5)(hx:x∈winL)(hy:y.size<=1000):Wds (ws++[⟨#[44]⟩,x,y]) where
 mod:=by have:=h.mod;simp only[List.length_append,List.length_cons,List.length_nil];omega
 len:=by simp only[List.length_append,List.length_cons,List.length_nil];omega
 size:=fun s hs=>by
  rcases List.mem_append.1 hs with hs|hs
  ·exact h.size s hs
  ·simp only[List.mem_cons,List.not_mem_nil,or_false]at hs
   rcases hs with rfl|rfl|rfl
   ·decide
   ·exact(winL_days _ hx).size
   ·exact hy
 day:=fun j s hs=>by
  have hm:=h.mod
  rcases Nat.lt_or_ge (3*j) ws.length with hlt|hge
  ·rw[List.getElem?_append_left hlt]at hs
   exact h.day j s hs
  ·rw[List.getElem?_append_right hge]at hs
   have:=(List.getElem?_eq_some_iff.1 hs).1
   simp only[List.length_cons,List.length_nil]at this
   rw[show 3*j-ws.length=1 by omega]at hs
   cases hs
   exact winL_days _ hx
theorem enWin(raw:List Int)(pos:Nat)(hp:pos<=raw.length)(hr:raw.length<=9223372036854775807){K:KT}
  (hK:∀(rs:List Rg) (pos':Nat),WinOk rs->rs.length<=16->pos'<=raw.length->K (encRs rs) [tapeO raw pos']):ACall Tryz.prog 107 [.op 0 0] [tapeO raw pos] K:=by
 have b2:∀s,s∈houL->s.size<=1000:=by decide+kernel
 refine ofnWin rfl rfl ?_
 (repeat' ((conv=>whnf);first|(with_reducible first|refine nNext raw _ _ zo zp hr fun m1 p1 hm1 hp1=>?_|refine in_nat zo ?_|refine ix_strs winL 6 rfl rfl zo fun c hc=>?_|refine ix_strs houL 5 rfl rfl zo fun e he=>?_)|refine zG ?_|apply zA|(apply zI;intro h)|exact zT));(all_goals conv=>whnf)
 all_goals
  refine Lp.intro (Nat×Nat×List ByteArray) (fun g=>⟨4,[(0,tapeO raw g.1),(1,.arr 1 (winL.map encSt)),(2,.arr 1 (houL.map encSt)),(3,.arr 1 (g.2.2.map encSt))],[(0,.op 0 0),(3,.os 1 1 0 6),(4,.os 2 1 0 5),(5,.os 3 1 0 g.2.2.length),(6,.v (.int .i64 g.2.1))]⟩)
   (fun g=>g.1<=raw.length/\3*g.2.1+g.2.2.length<=8/\Wds g.2.2) (fun g=>g.2.1) (p1,m1,[c,e]) ⟨hp1,by simp only[List.length_cons,List.length_nil];omega,wds_two hc (b2 _ he)⟩ ?_ ?_
  ·(exact leA)
  rintro⟨p2,i,ws⟩ ⟨h1,h2,h3⟩
  simp only at h1 h2 h3⊢
  rcases Nat.lt_or_ge 0 i with hi0|hi0
  ·obtain⟨i',rfl⟩:∃i',i=i'+1:=⟨i-1,by omega⟩
   have hi1:((i'+1:Nat):Int)-1=(i':Int):=by omega
   (repeat' ((conv=>whnf);first|(with_reducible first|refine wr_i64 hi1 zo zo ?_|refine nNext raw _ _ zo zp hr fun m1 p1 hm1 hp1=>?_|refine in_nat zo ?_|refine ix_strs winL 6 rfl rfl zo fun x hx=>?_|refine ix_strs houL 5 rfl rfl zo fun y hy=>?_)|refine zG ?_|apply zA|(apply zI;intro h)|exact zT));(all_goals conv=>whnf)
   all_goals first
    |(refine⟨(p1,i',ws++[⟨#[44]⟩,x,y]),⟨hp1,by simp only[List.length_append,List.length_cons,List.length_nil];omega,wds_snoc h3 zo hx (b2 _ hy)⟩,by simp only;omega,?_⟩
      simp only[List.map_append,List.length_append,List.map_cons,List.map_nil,List.length_cons,List.length_nil]
      (exact leA))
  ·obtain rfl:i=0:=by omega
   (repeat' ((conv=>whnf);first|(with_reducible first|refine sl_full (List.length_map ..) ?_|refine djParse ws h3 fun rs e hrs hrl=>?_)|refine zG ?_|apply zA|(apply zI;intro h)|exact zT));(all_goals conv=>whnf)
   exact hK _ _ hrs hrl h1
theorem enPick(raw:List Int)(pos:Nat)(l:List Df)(hl:l.length<=1000)(hp:pos<=raw.length)(hr:raw.length<=9223372036854775807){K:KT}
  (hK:∀(s:ByteArray) (pos':Nat),(s=⟨#[]⟩\/∃d,d∈l/\s=d.name)->pos'<=raw.length->K (.v (.string s)) [tapeO raw pos']):ACall Tryz.prog 190 [.op 0 0,.lst (l.map encDf)] [tapeO raw pos] K:=by
 refine ofnPick rfl rfl ?_
 (repeat' ((conv=>whnf);first|(with_reducible first|refine nNext raw _ _ (by simp only[List.length_map];omega) zp hr fun m1 p1 hm1 hp1=>?_|refine in_map (by simp only[List.length_map]at*;omega) ?_|refine ix_map_any (by simp only[List.length_map]at*;omega) fun d hd=>?_)|refine zG ?_|apply zA|(apply zI;intro h)|exact zT));(all_goals conv=>whnf)
 all_goals first
  |exact hK _ _ (.inl rfl) zp
  |exact hK _ _ (.inr ⟨d,hd,rfl⟩) zp
theorem enNum(raw:List Int)(pos:Nat)(top:Int)(t0:0<=top)(t1:top<=4294967295)(hp:pos<=raw.length)(hr:raw.length<=9223372036854775807){K:KT}
  (hK:∀(a:Int) (pos':Nat),0<=a->a<=top->pos'<=raw.length->K (.v (.int .u32 a)) [tapeO raw pos']):ACall Tryz.prog 65 [.op 0 0,.v (.int .u32 top)] [tapeO raw pos] K:=by
 refine ofvNum rfl rfl ?_
 (repeat' ((conv=>whnf);first|(with_reducible first|refine nNext raw _ _ zo zp hr fun m1 p1 hm1 hp1=>?_|refine in_nat zo ?_|refine wr_u32_any fun r r0 r1=>?_)|refine zG ?_|apply zA|(apply zI;intro h)|exact zT));(all_goals conv=>whnf)
 refine ix_all IsU32 ?_ (by simp only[List.length_cons,List.length_nil];omega) ?_
 ·simp only[List.forall_mem_cons]
  (repeat' apply And.intro)<;>first|exact⟨_,rfl,by assumption,by assumption⟩|exact⟨_,rfl,by decide,by decide⟩|(intro _ h;cases h)
 ·rintro _ ⟨y,rfl,y0,y1⟩
  (repeat' ((conv=>whnf);first|refine zG ?_|apply zA|(apply zI;intro h)|exact zT));(all_goals conv=>whnf)
  all_goals exact hK _ _ zo zo zp
theorem enRange(raw:List Int)(pos:Nat)(top:Int)(t0:0<=top)(t1:top<=4294967295)(hp:pos<=raw.length)(hr:raw.length<=9223372036854775807){K:KT}
  (hK:∀(r:Rg) (pos':Nat),r.lo<=r.hi->r.hi<=top->pos'<=raw.length->K (encR r) [tapeO raw pos']):ACall Tryz.prog 106 [.op 0 0,.v (.int .u32 top)] [tapeO raw pos] K:=by
 refine ofnRange rfl rfl ?_
 (repeat' ((conv=>whnf);first|(with_reducible refine enNum raw _ top t0 t1 zp hr fun a p2 a0 a1 hp2=>?_)|refine zG ?_|apply zA|(apply zI;intro h)|exact zT));(all_goals conv=>whnf)
 all_goals exact hK ⟨_,_,by omega,by omega,by omega,by omega⟩ _ (by simp only;omega) (by simp only;omega) zp
theorem sub_okQ(n:Nat):(subL.getD n noPf).okP:=by
 have h:∀q,q∈subL->q.okP:=by decide+kernel
 rcases Nat.lt_or_ge n subL.length with hn|hn
 ·rw[List.getD,List.getElem?_eq_getElem hn];exact h _ (List.getElem_mem hn)
 ·rw[List.getD,List.getElem?_eq_none hn];decide
theorem shr_wr{a c:Int}{K:Int->Prop}(c0:0<=c)(c1:c<32)(a0:0<=a)(a1:a<=4294967295)(hk:∀r:Int,0<=r->r<=4294967295->r%pz c=0->K r):
  Wr .u32 (a.fdiv (2^min (32-c).toNat IntKind.u32.bits)*2^min (32-c).toNat IntKind.u32.bits) K:=by
 have hb:IntKind.u32.bits=32:=rfl
 have hp:=pz_pos c
 have e:(2:Int)^min (32-c).toNat IntKind.u32.bits=pz c:=by
  rw[hb,Nat.min_eq_left zo,pz,Int.natCast_pow];rfl
 rw[e,Int.fdiv_eq_ediv_of_nonneg _ (Int.le_of_lt hp)]
 have h1:0<=a/pz c:=Int.ediv_nonneg a0 (Int.le_of_lt hp)
 have h2:a/pz c*pz c<=a:=Int.ediv_mul_le a zo
 have h3:0<=a/pz c*pz c:=Int.mul_nonneg h1 (Int.le_of_lt hp)
 exact wr_u32 rfl h3 zo (hk _ h3 zo (Int.mul_emod_left _ _))
theorem enPref(raw:List Int)(pos:Nat)(hp:pos<=raw.length)(hr:raw.length<=9223372036854775807){K:KT}
  (hK:∀(q:Pf) (pos':Nat),q.okP->pos'<=raw.length->K (encP q) [tapeO raw pos']):ACall Tryz.prog 90 [.op 0 0] [tapeO raw pos] K:=by
 refine ofnPref rfl rfl ?_
 (repeat' ((conv=>whnf);first|(with_reducible first|refine nNext raw _ _ zo zp hr fun m1 p1 hm1 hp1=>?_|refine in_nat zo ?_|refine cnSub _ zo ?_|refine ix_intsB [32,31,24,25,8,1,0,16,30,23] 10 0 32 rfl rfl zd zo fun c c0 c1=>?_|refine cnAddr raw _ zp hr fun a p2 a0 a1 hp2=>?_|refine shr_wr zo zo a0 a1 fun r r0 r1 r2=>?_)|refine zG ?_|apply zA|(apply zI;intro h)|exact zT));(all_goals conv=>whnf)
 all_goals first
  |exact hK _ _ (sub_okQ _) zp
  |exact hK ⟨r,c,r0,r1⟩ _ ⟨c0,c1,r2⟩ zp
  |(refine hK ⟨a,c,a0,a1⟩ _ ⟨c0,c1,?_⟩ zp
    have hc:c=32:=by omega
    show a%pz c=0
    rw[hc]
    exact Int.emod_one a)
end Go.Proofs.YtbdikofefjljoaaGreatDoor
