/- Short lists sorted by insertion, whatever compares. Printed by mk_ob.py. -/
import Derived.Test.YtbdikofefjljoaaGreatDoorJ31
set_option linter.unusedVariables false
set_option linter.unusedSimpArgs false
set_option maxRecDepth 100000
set_option maxHeartbeats 4000000
namespace Go.Proofs.YtbdikofefjljoaaGreatDoor
open Go Go.Vm
theorem coIns(G:FuncId)(C:List AV)(c:Nat->Nat->Int)(l:List Nat)(hl:l.length<=100000)
  (hc:∀x y,x∈l->y∈l->∀{K:KT},K (.v (.int .i64 (c x y))) []->AC G [vN x,vN y,.fp C] [] K){K:KT}
  (hK:K (.tup []) [.arr 1 ((isort (fun x y=>decide (c x y<0)) l).map vN)]):
  AC 254 [.os 0 1 0 l.length,.v (.int .i64 0),.v (.int .i64 l.length),.fn (.func G) [] [.fp C]] [.arr 1 (l.map vN)] K:=by
 refine ofoIns rfl rfl ?_
 (repeat' ((conv=>whnf);first|refine zG ?_|apply zA|intro h|exact zT));all_goals conv=>whnf
 refine gL Nat (fun i=>⟨1,[(0,.arr 1 ((isort (fun x y=>decide (c x y<0)) (l.take i)++l.drop i).map vN))],[(0,.os 0 1 0 l.length),(1,.v (.int .i64 0)),(2,.v (.int .i64 l.length)),(3,.fn (.func G) [] [.fp C]),(8,.v (.int .i64 i))]⟩)
  (fun i=>1<=i/\(i<=l.length\/l.length=0)) (fun i=>l.length-i) 1 ?_ ?_ ?_
 ·omega
 ·have e:isort (fun x y=>decide (c x y<0)) (l.take 1)++l.drop 1=l:=by cases l<;>simp[isort,sortRev,insRev]
  rw[e]
  (exact leA)
 intro i ⟨hi1,hi2⟩
 rcases aD i l.length with hil|hil
 ·obtain⟨x,hx⟩:=gex hil
  have hxm:=aG hx
  have hd:l.drop i=x::l.drop (i+1):=by
   rw[aB hil]at hx
   rw[<-bE hx,<-aZ hil]
  generalize hlt:(fun x y=>decide (c x y<0))=lt at*
  have hsl:(sortRev lt (l.take i)).length=i:=by rw[sortRev_length];simp;omega
  (repeat' ((conv=>whnf);first|refine zG ?_|apply zA|intro h|exact zT));all_goals conv=>whnf
  refine gL (List Nat×List Nat) (fun g=>⟨1,[(0,.arr 1 ((g.1++x::(g.2++l.drop (i+1))).map vN))],[(0,.os 0 1 0 l.length),(1,.v (.int .i64 0)),(2,.v (.int .i64 l.length)),(3,.fn (.func G) [] [.fp C]),(8,.v (.int .i64 i)),(9,.v (.int .i64 g.1.length))]⟩)
   (fun g=>sortRev lt (l.take i)=g.2.reverse++g.1.reverse/\∀y,y∈g.2->lt x y=true) (fun g=>g.1.length) ((sortRev lt (l.take i)).reverse,[]) ?_ ?_ ?_
  ·exact⟨by simp,fun y hy=>by simp at hy⟩
  ·rw[hd,isort]
   have e9:((i:Nat):Int)=((sortRev lt (l.take i)).reverse.length:Nat):=by rw[List.length_reverse,hsl]
   simp only[eI]
   rw[<-e9]
   (exact leA)
  rintro⟨A,B⟩ ⟨hAB,hB⟩
  simp only at hAB hB⊢
  have hlen:A.length+B.length=i:=by rw[hAB]at hsl;simp at hsl;omega
  have fin:(∀a A',A.reverse=a::A'->lt x a=false)->isort lt (l.take (i+1))++l.drop (i+1)=A++x::(B++l.drop (i+1)):=by
   intro h
   rw[isort,sortRev_succ hx,hAB,insRev_at (fun y hy=>hB y (by simpa using hy)) h]
   simp
  rcases cT A with hA|⟨A',a,hA⟩
  ·subst hA
   (repeat' ((conv=>whnf);first|refine zG ?_|apply zA|intro h|exact zT));all_goals conv=>whnf
   refine⟨i+1,⟨by omega,by omega⟩,by omega,?_⟩
   rw[fin (fun a A' h=>by simp at h)]
   (exact leA)
  ·rw[cU]at hA
   subst hA
   have hma:a∈l:=by
    have:a∈sortRev lt (l.take i):=by rw[hAB];simp
    rw[sortRev,foldl_ins_mem]at this
    exact cO (this.resolve_right zx)
   have hcx:lt x a=decide (c x a<0):=by rw[<-hlt]
   have hj:(((A'++[a]).length:Nat):Int)-1=(A'.length:Nat):=by simp
   have g1:(A'++[a]++x::(B++l.drop (i+1)))[0+(A'++[a]).length]? =some x:=by simp
   have g2:(A'++[a]++x::(B++l.drop (i+1)))[0+A'.length]? =some a:=by simp
   have n1:(A'++[a]).length<l.length:=by omega
   have n2:A'.length<l.length:=by simp at n1;omega
   have n3:0<(A'++[a]).length:=by simp
   have g3:((List.map vN (A'++[a]++x::(B++l.drop (i+1)))).set (0+(A'++[a]).length) (vN a))[0+A'.length]? =some (vN a):=by
    rw[List.getElem?_set_ne zx,bT,g2];rfl
   have hset:((List.map vN (A'++[a]++x::(B++l.drop (i+1)))).set (0+(A'++[a]).length) (vN a)).set (0+A'.length) (vN x)=List.map vN (A'++x::((a::B)++l.drop (i+1))):=by
    rw[<-fG,<-fG]
    congr 1
    simp
   (repeat' ((conv=>whnf);first|(with_reducible first|refine hU n1 ?_|refine gS A'.length hj n2 ?_|refine gZ g1 ?_|refine gZ g2 ?_|refine gT g3 ?_|refine hc x a hxm hma ?_)|refine zG ?_|apply zA|intro h|exact zT));all_goals conv=>whnf
   all_goals first
    |(refine⟨i+1,⟨by omega,by omega⟩,by omega,?_⟩
      rw[fin (fun a0 A0 h0=>by simp at h0;obtain⟨rfl,_⟩:=h0;rw[hcx];exact decide_eq_false zw)]
      (exact leA)
      done)
    |(refine⟨(A',a::B),⟨by rw[hAB];simp,fun y hy=>?_⟩,by simp,?_⟩
      ·rcases aS.1 hy with rfl|hy
       ·rw[hcx];exact decide_eq_true zw
       ·exact hB y hy
      ·simp only
       rw[hj,<-hset]
       (exact leA))
 ·have hll:l.length<=i:=hil
  (repeat' ((conv=>whnf);first|refine zG ?_|apply zA|intro h|exact zT));all_goals conv=>whnf
  rw[bA hll,List.drop_eq_nil_of_le hll,bJ]
  exact hK
theorem coSort(G:FuncId)(C:List AV)(c:Nat->Nat->Int)(l:List Nat)(hl:l.length<20)
  (hc:∀x y,x∈l->y∈l->∀{K:KT},K (.v (.int .i64 (c x y))) []->AC G [vN x,vN y,.fp C] [] K){K:KT}
  (hK:K (.tup []) [.arr 1 ((isort (fun x y=>decide (c x y<0)) l).map vN)]):
  AC 99 [.os 0 1 0 l.length,.fn (.func G) [] [.fp C]] [.arr 1 (l.map vN)] K:=by
 have hs:∀{K:KT},K (.tup []) [.arr 1 ((isort (fun x y=>decide (c x y<0)) l).map vN)]->AC 183 [.os 0 1 0 l.length,.v (.int .i64 l.length),.fn (.func G) [] [.fp C]] [.arr 1 (l.map vN)] K:=by
  intro K hK
  refine ofoStab rfl rfl ?_
  (repeat' ((conv=>whnf);first|(with_reducible first|refine Lp.times 2 ?_|refine coIns G C c l zo hc ?_)|refine zG ?_|apply zA|intro h|exact zT));all_goals conv=>whnf
  exact hK
 refine ofoSort rfl rfl ?_
 (repeat' ((conv=>whnf);first|(with_reducible refine hs ?_)|refine zG ?_|apply zA|intro h|exact zT));all_goals conv=>whnf
 exact hK
theorem firstIx_cases{α:Type}(p:α->Bool)(l:List α):firstIx p l= -1\/∃(k:Nat) (x:α),firstIx p l=(k:Int)/\l[k]? =some x:=by
 unfold firstIx
 cases h:l.findIdx? p with
 |none=>exact .inl rfl
 |some k=>
  have:=(dM.1 h).1
  exact .inr ⟨k,_,rfl,aB this⟩
theorem coNaNI(x:Int){K:KT}(hK:K (.sb false) []):AC 184 [.v (.int .i64 x)] [] K:=by
 refine ofoNaNI rfl rfl ?_
 (repeat' ((conv=>whnf);first|refine zG ?_|apply zA|intro h|exact zT));all_goals conv=>whnf
 have e:(!decide (x=x))=false:=by simp
 first
  |(unfold one?;rw[e];exact hK)
  |exact fin_f hK e
theorem coCmpI(x y:Int){K:KT}(hK:K (.v (.int .i64 (cmpI x y))) []):AC 101 [.v (.int .i64 x),.v (.int .i64 y)] [] K:=by
 refine ofoCmpI rfl rfl ?_
 (repeat' ((conv=>whnf);first|(with_reducible refine coNaNI _ ?_)|refine zG ?_|apply zA|intro h|exact zT));all_goals conv=>whnf
 all_goals
  unfold cmpI at hK
  first
   |(rw[aH zw]at hK;exact hK)
   |(rw[aE zw,aH zw]at hK;exact hK)
   |(rw[aE zw,aE zw]at hK;exact hK)
noncomputable abbrev clHd(g:Hd):List AV:=[.v (.int .u32 g.src),.v (.int .u32 g.dst),.v (.int .u8 g.pro),.v (.int .u16 g.sp),.v (.int .u16 g.dp)]
theorem coCon(b:Bx)(g:Hd)(ho:g.Ok){K:KT}(hK:K (.sb (conB b g)) []):AC 140 [encX b,encHd g] [] K:=by
 have hv:∀{K:KT},K (.agg [.v (.int .u32 g.src),.v (.int .u32 g.dst),.v (.int .u32 g.pro),.v (.int .u32 g.sp),.v (.int .u32 g.dp)]) []->AC 226 [encHd g] [] K:=fun h=>cxVals g.src g.dst g.pro g.sp g.dp ⟨ho.s0,ho.d0,ho.p0,ho.a0,ho.b0,ho.s1,ho.d1,ho.p1,ho.a1,ho.b1⟩ h
 refine gO (ofoCon rfl rfl ?_)
 (repeat' ((conv=>whnf);first|(with_reducible first|refine cxBVal b ?_|refine hv ?_|refine Lp.times 6 ?_)|(refine in_c zd ?_)|(refine gT rfl ?_)|refine zG ?_|apply zA|intro h|exact zT));all_goals conv=>whnf
 all_goals first
  |exact fin_t hK ((conB_iff b g).2 (by repeat' (first|with_reducible assumption|omega|apply And.intro)))
  |(refine fin_f hK ?_;rw[bV,ne_eq,conB_iff];omega)
  |(refine fin_f hK ?_;rw[bV,ne_eq,conB_iff];simp_all)
theorem coPCon1(b:Bx)(g:Hd)(ho:g.Ok){K:KT}(hK:K (.sb (conB b g)) []):AC 139 [encX b,.fp (clHd g)] [] K:=by
 refine ofoPCon1 rfl rfl ?_
 (repeat' ((conv=>whnf);first|(with_reducible refine coCon b g ho ?_)|refine zG ?_|apply zA|intro h|exact zT));all_goals conv=>whnf
 exact hK
theorem coIxX(l:List Bx)(f:FuncId)(cs:List AV)(p:Bx->Bool)(hF:∀(x:Bx) (K:AV->List Vm.Obj->Prop),K (.sb (p x)) []->AC f [encX x,.fp cs] [] K)(hl:l.length<1000000000){K:KT}(hK:K (.v (.int .i64 (firstIx p l))) []):
  AC 224 [encXs l,.fn (.func f) [] [.fp cs]] [] K:=by
 refine ofoIxX rfl rfl ?_
 (repeat' ((conv=>whnf);first|refine zG ?_|apply zA|intro h|exact zT));all_goals conv=>whnf
 refine gL Nat (fun k=>⟨0,[],[(0,encXs l),(1,.fn (.func f) [] [.fp cs]),(7,.v (.int .i64 (l.map encX).length)),(8,.v (.int .i64 k))]⟩) (fun k=>k<=l.length/\∀(i:Nat) y,i<k->l[i]? =some y->p y=false) (fun k=>l.length-k) 0 ⟨aL _,fun i y hi=>absurd hi (aY _)⟩ ?_ ?_
 ·(exact leA)
 intro k ⟨hk,hinv⟩
 rcases aD k l.length with hkl|hkl
 ·obtain⟨r,hr⟩:=gex hkl
  (repeat' ((conv=>whnf);first|(with_reducible first|refine hJ hkl ?_|refine gZ hr ?_|refine hF r _ ?_)|refine zG ?_|apply zA|intro h|exact zT));all_goals conv=>whnf
  ·rw[firstIx_at hr h hinv]at hK;exact hK
  ·refine⟨k+1,⟨by omega,before_succ hr h hinv⟩,by omega,?_⟩
   rw[aO,aN]
   (exact leA)
 ·(repeat' ((conv=>whnf);first|refine zG ?_|apply zA|intro h|exact zT));all_goals conv=>whnf
  rw[firstIx_none (iB hkl hinv)]at hK
  exact hK
theorem coPCon(l:List Bx)(g:Hd)(ho:g.Ok)(hl:l.length<1000000000){K:KT}(hK:K (.sb (l.any fun b=>conB b g)) []):AC 68 [encXs l,encHd g] [] K:=by
 have hc:∀{K:KT},K (.v (.int .i64 (firstIx (fun b=>conB b g) l))) []->AC 224 [encXs l,.fn (.func 139) [] [.fp (clHd g)]] [] K:=fun h=>coIxX l _ _ (fun b=>conB b g) (fun x K h=>coPCon1 x g ho h) hl h
 have hd:∀{K:KT},K (.sb (l.any fun b=>conB b g)) []->AC 138 [encXs l,.fn (.func 139) [] [.fp (clHd g)]] [] K:=by
  intro K hK
  refine ofoAnyX rfl rfl ?_
  (repeat' ((conv=>whnf);first|(with_reducible refine hc ?_)|refine zG ?_|apply zA|intro h|exact zT));all_goals conv=>whnf
  rw[<-first_any]at hK
  exact hK
 refine ofoPCon rfl rfl ?_
 (repeat' ((conv=>whnf);first|(with_reducible refine hd ?_)|refine zG ?_|apply zA|intro h|exact zT));all_goals conv=>whnf
 exact hK
theorem coTAt1(e:Ed)(v:Int)(v0:0<=v)(v1:v<=4294967295){K:KT}(hK:K (.sb (!e.pl&&e.pf.has v)) []):AC 136 [encE e,.fp [.v (.int .u32 v)]] [] K:=by
 refine gO (ofoTAt1 rfl rfl ?_)
 (repeat' ((conv=>whnf);first|(with_reducible refine cpCon e.pf v v0 v1 ?_)|refine zG ?_|apply zA|intro h|exact zT));all_goals conv=>whnf
 all_goals first
  |exact fin_s hK (by simp_all)
  |exact fin_f hK (by simp_all)
  |exact fin_t hK (by simp_all)
theorem coTAt(t:Tp)(v:Int)(v0:0<=v)(v1:v<=4294967295)(hl:t.edges.length<1000000){K:KT}(hK:K (.v (.int .i64 (edgeAt t v))) []):AC 67 [encT t,.v (.int .u32 v)] [] K:=by
 have hc:∀{K:KT},K (.v (.int .i64 (edgeAt t v))) []->AC 135 [.lst (t.edges.map encE),.fn (.func 136) [] [.fp [.v (.int .u32 v)]]] [] K:=fun h=>cixEdge t.edges _ _ (fun e=> !e.pl&&e.pf.has v) (fun x K h=>coTAt1 x v v0 v1 h) hl h
 refine ofoTAt rfl rfl ?_
 (repeat' ((conv=>whnf);first|(with_reducible refine hc ?_)|refine zG ?_|apply zA|intro h|exact zT));all_goals conv=>whnf
 exact hK
theorem coCAct(l:List Rg)(m:Int)(hl:l.length<1000000){K:KT}(hK:K (.sb (actW l m)) []):AC 182 [encRs l,.v (.int .i64 m)] [] K:=by
 refine gO (ofoCAct rfl rfl ?_)
 unfold actW at hK
 by_cases hm:0<=m/\m<=4294967295
 ·rw[decide_eq_true hm.1,decide_eq_true hm.2,eF,eF]at hK
  (repeat' ((conv=>whnf);first|(with_reducible refine c21 l _ hl ?_)|refine zG ?_|apply zA|intro h|exact zT));all_goals conv=>whnf
  all_goals first
   |exact fin_s hK rfl
   |exact fin_f hK zw
   |(exfalso;omega)
 ·have e:(decide (0<=m)&&(decide (m<=4294967295)&&has l m))=false:=by
   by_cases h0:0<=m
   ·rw[decide_eq_false (show ¬m<=4294967295 by omega)];simp
   ·rw[decide_eq_false h0];simp
  (repeat' ((conv=>whnf);first|(with_reducible refine c21 l _ hl ?_)|refine zG ?_|apply zA|intro h|exact zT));all_goals conv=>whnf
  all_goals first
   |exact fin_f hK e
   |(exfalso;omega)
theorem coMin(m:Int){K:KT}(hK:K (.sb (decide (0<=m/\m<10080))) []):AC 97 [.v (.int .i64 m)] [] K:=by
 refine gO (ofoMin rfl rfl ?_)
 (repeat' ((conv=>whnf);first|refine zG ?_|apply zA|intro h|exact zT));all_goals conv=>whnf
 all_goals first
  |exact fin_t hK (decide_eq_true zo)
  |exact fin_f hK (decide_eq_false zo)
  |(refine fin_s hK ?_;rw[bD];simp only[aI];omega)
theorem coAct1(w:Wn)(x:Sm){K:KT}(hK:K (.sb (sEq w.name x.dur)) []):AC 181 [encWn w,.fp (clSm x)] [] K:=by
 refine ofoAct1 rfl rfl ?_
 (repeat' ((conv=>whnf);first|refine zG ?_|apply zA|intro h|exact zT));all_goals conv=>whnf
 exact hK
theorem win_few{i:Nt}(hb:Bnd i){n:Nat}{w:Wn}(h:i.wins[n]? =some w):w.act.length<=4000:=hb.wi w (aG h)
theorem coAct(i:Nt)(hb:Bnd i)(x:Sm)(m:Int){K:KT}(hK:K (.sb (actB i x m)) []):AC 98 [encNt i,encSm x,.v (.int .i64 m)] [] K:=by
 have hw:=hb.w
 have hc:∀{K:KT},K (.v (.int .i64 (wnIx i.wins x.dur))) []->AC 180 [.lst (i.wins.map encWn),.fn (.func 181) [] [.fp (clSm x)]] [] K:=fun h=>cixW i.wins _ _ (fun d=>sEq d.name x.dur) (fun y K h=>coAct1 y x h) zo h
 refine gO (ofoAct rfl rfl ?_)
 unfold actB at hK
 by_cases h0:sEq x.dur ⟨#[]⟩=true
 ·rw[h0,Bool.true_or]at hK
  (repeat' ((conv=>whnf);first|(with_reducible refine hc ?_)|refine zG ?_|apply zA|intro h|exact zT));all_goals conv=>whnf
  all_goals first
   |exact fin_t hK rfl
   |(exfalso;simp_all[sEq];done)
 ·have h0:sEq x.dur ⟨#[]⟩=false:=by simpa using h0
  rw[h0,fM]at hK
  rcases firstIx_cases (fun d:Wn=>sEq d.name x.dur) i.wins with h1|⟨k,w,h1,h2⟩
  ·have h1:wnIx i.wins x.dur= -1:=h1
   rw[h1]at hc hK
   (repeat' ((conv=>whnf);first|(with_reducible refine hc ?_)|refine zG ?_|apply zA|intro h|exact zT));all_goals conv=>whnf
   all_goals first
    |exact fin_f hK rfl
    |(exfalso;simp_all[sEq];done)
  ·have h1:wnIx i.wins x.dur=(k:Int):=h1
   rw[h1]at hc hK
   have hkl:=(aM.1 h2).1
   have hwl:=win_few hb h2
   simp only[fP,h2,cZ,cW]at hK
   rw[decide_eq_true (show(0:Int)<=k by omega),eF]at hK
   (repeat' ((conv=>whnf);first|(with_reducible first|refine hc ?_|refine hJ hkl ?_|refine gZ h2 ?_|refine coCAct w.act m zo ?_)|refine zG ?_|apply zA|intro h|exact zT));all_goals conv=>whnf
   all_goals first
    |exact fin_s hK rfl
    |exact fin_f hK zw
    |(exfalso;simp_all[sEq];done)
noncomputable abbrev clNt(i:Nt):List AV:=[.lst (i.grps.map encDf),.lst (i.svcs.map encDf),.lst (i.wins.map encWn),.lst (i.sts.map encSm),.lst (i.pubs.map encPb),.lst (i.hids.map encHn)]
theorem coOrd1(i:Nt)(a b:Nat)(ha:a<i.sts.length)(hb:b<i.sts.length){K:KT}(hK:K (.v (.int .i64 (cmpI (priN i b) (priN i a)))) []):AC 100 [vN a,vN b,.fp (clNt i)] [] K:=by
 obtain⟨x,hx⟩:=gex ha
 obtain⟨y,hy⟩:=gex hb
 have e1:priN i a=x.pri:=by simp[priN,hx]
 have e2:priN i b=y.pri:=by simp[priN,hy]
 rw[e1,e2]at hK
 refine ofoOrd1 rfl rfl ?_
 (repeat' ((conv=>whnf);first|(with_reducible first|refine hJ ha ?_|refine hJ hb ?_|refine gZ hx ?_|refine gZ hy ?_|refine coCmpI _ _ ?_)|refine zG ?_|apply zA|intro h|exact zT));all_goals conv=>whnf
 exact hK
theorem cmpI_lt(a b:Int):decide (cmpI a b<0)=decide (a<b):=by
 unfold cmpI
 by_cases h1:a<b
 ·simp[h1]
 ·by_cases h2:b<a<;>simp[h1,h2]
theorem ord_flt(i:Nt)(m:Int)(k:Nat):(List.range (k+1)).filter (actN i m)=(List.range k).filter (actN i m)++(if actN i m k=true then [k]else []):=by
 rw[fK,dB]
 cases h:actN i m k<;>simp[h]
theorem nt_pri{i:Nt}(h:ntB i=true):∀x,x∈i.sts->0<=x.pri/\x.pri<=1000:=fun x hx=>by
 have:=(ntB_iff.1 h).t x hx
 unfold smB at this
 simp only[aF,aI]at this
 exact this.2.2.2
noncomputable def ordV(i:Nt)(m:Int):List Nat:=if ntB i=true/\(0<=m/\m<10080)then ordP i m else []
theorem coOrd(i:Nt)(hb:Bnd i)(hs:i.sts.length<=12)(m:Int){K:KT}(hK:K (.lst ((ordV i m).map vN)) []):AC 37 [encNt i,.v (.int .i64 m)] [] K:=by
 refine gP (ofoOrd rfl rfl ?_)
 unfold ordV at hK
 by_cases hv:ntB i=true/\(0<=m/\m<10080)
 case neg=>
  rw[aE hv]at hK
  (repeat' ((conv=>whnf);first|(with_reducible first|refine ckNt i hb ?_|refine coMin m ?_)|refine zG ?_|apply zA|intro h|exact zT));all_goals conv=>whnf
  all_goals first
   |exact⟨_,gR,hK⟩
   |(exfalso;simp_all;done)
   |(exfalso;simp_all;omega)
 rw[aH hv]at hK
 (repeat' ((conv=>whnf);first|(with_reducible first|refine ckNt i hb ?_|refine coMin m ?_)|refine zG ?_|apply zA|intro h|exact zT));all_goals conv=>whnf
 all_goals first
  |(exfalso;simp_all;done)
  |(exfalso;simp_all;omega)
  |skip
 refine gL Nat (fun k=>⟨2,[(0,boxNt i),(1,.arr 1 (((List.range k).filter (actN i m)).map vN))],[(1,.v (.int .i64 m)),(2,.op 0 0),(5,.os 1 1 0 ((List.range k).filter (actN i m)).length),(17,.lst (i.sts.map encSm)),(18,.v (.int .i64 ((i.sts.map encSm).length:Nat))),(19,.v (.int .i64 k))]⟩) (fun k=>k<=i.sts.length) (fun k=>i.sts.length-k) 0 (aL _) ?_ ?_
 ·(exact leA)
 intro k hk
 have hfl:((List.range k).filter (actN i m)).length<=k:=bO (dQ ..) zx
 rcases aD k i.sts.length with hkl|hkl
 ·obtain⟨x,hx⟩:=gex hkl
  have ha:actN i m k=actB i x m:=by simp[actN,hx]
  have hf:=ord_flt i m k
  (repeat' ((conv=>whnf);first|(with_reducible first|refine hJ hkl ?_|refine gZ hx ?_|refine coAct i hb x m ?_)|refine zG ?_|apply zA|intro h|exact zT));all_goals conv=>whnf
  all_goals first
   |(refine⟨k+1,hkl,by omega,?_⟩
     rw[aH (by rw[ha];with_reducible assumption)]at hf
     rw[hf,aQ,aC,aO,aN]
     (exact leA)
     done)
   |(refine⟨k+1,hkl,by omega,?_⟩
     rw[aE (by rw[ha];simp_all),bJ]at hf
     rw[hf,aO,aN]
     (exact leA)
     done)
 ·have hke:k=i.sts.length:=by omega
  subst hke
  have hord:=ord_sort (i:=i) (m:=m) (nt_pri hv.1)
  have hlt:(fun x y=>decide (cmpI (priN i y) (priN i x)<0))=fun a b=>decide (priN i b<priN i a):=by funext a b;exact cmpI_lt _ _
  have hsort:∀{K:KT},K (.tup []) [.arr 1 ((ordP i m).map vN)]->AC 99 [.os 0 1 0 ((List.range i.sts.length).filter (actN i m)).length,.fn (.func 100) [] [.fp (clNt i)]] [.arr 1 (((List.range i.sts.length).filter (actN i m)).map vN)] K:=fun {K} h=>
   coSort _ (clNt i) (fun a b=>cmpI (priN i b) (priN i a)) _ zo (fun a b ha hb' K h=>coOrd1 i a b (dK.1 (bX.1 ha).1) (dK.1 (bX.1 hb').1) h) (by rw[hlt,hord];exact h)
  have hlen:((List.range i.sts.length).filter (actN i m)).length=(ordP i m).length:=by rw[<-hord,isort_length]
  (repeat' ((conv=>whnf);first|(with_reducible first|refine hsort ?_|refine sl_full (by rw[hlen];exact aA ..) ?_)|refine zG ?_|apply zA|intro h|exact zT));all_goals conv=>whnf
  exact⟨_,gM,hK⟩
theorem coReal(t:Tp)(hl:t.edges.length<1000)(hc:compB t=true){K:KT}(hK:K (.tup [encXs (realP t).1,.v (.int .i64 (realP t).2)]) []):AC 47 [encT t] [] K:=by
 have hpl:=pairsTo_len t.edges t.edges.length
 have hpl2:t.edges.length*t.edges.length<=1000*1000:=dR zo zo
 unfold realP at hK
 refine gP (ofoReal rfl rfl ?_)
 (repeat' ((conv=>whnf);first|(with_reducible first|refine ctComp t zo ?_|refine cyPairs t zo ?_|refine cxMake (pairsB t.edges) (by rw[pairsB];omega) ?_|refine cxInit ?_|refine cxInt _ _ (setBlen (setB_makeP _)) zd ?_)|refine zG ?_|apply zA|intro h|exact zT));all_goals conv=>whnf
 all_goals first
  |(exfalso;simp_all;done)
  |(rw[aE (by simp_all)]at hK;exact⟨_,gM,hK⟩)
  |(rw[aH (by simp_all)]at hK;exact⟨_,gQ gR gM,hK⟩)
theorem coChk(t:Tp)(ht:t.edges.length<1000)(hd:t.devs.length<1000)(i:Nt)(hb:Bnd i)(m:Int){K:KT}(hK:K (.v (.int .i64 (preV t i m))) []):AC 46 [encT t,encNt i,.v (.int .i64 m)] [] K:=by
 refine ofoChk rfl rfl ?_
 unfold preV at hK
 (repeat' ((conv=>whnf);first|(with_reducible first|refine ctComp t zo ?_|refine ckNt i hb ?_|refine coMin m ?_|refine crCheck t zo zo i hb ?_)|refine zG ?_|apply zA|intro h|exact zT));all_goals conv=>whnf
 all_goals first
  |(rw[aE (by simp_all)]at hK;exact hK)
  |(rw[aH (by simp_all),aE (by simp_all)]at hK;exact hK)
  |(rw[aH (by simp_all),aH (by simp_all)]at hK;rw[chkV,aH (by simp_all)];exact hK)
noncomputable def hitN(t:Tp)(i:Nt)(q:Nat->Int)(n:Nat):Bool:=match i.sts[n]? with
 |some x=>memK q 5 (stmP t i x).1
 |none=>false
def perN(i:Nt)(n:Nat):Bool:=match i.sts[n]? with
 |some x=>x.permit
 |none=>false
def realH(t:Tp)(g:Hd):Bool:=decide (0<=edgeAt t g.src/\0<=edgeAt t g.dst/\edgeAt t g.src≠edgeAt t g.dst)&&initS.any fun b=>conB b g
noncomputable def decH(t:Tp)(i:Nt)(m:Int)(g:Hd):Option Nat:=if realH t g=true then(ordP i m).find? (hitN t i (hdQ g))else none
noncomputable def decV(t:Tp)(i:Nt)(m:Int)(g:Hd):Bool×Int:=if preV t i m≠0 then(false,-1)else match decH t i m g with
 |some n=>(perN i n,(n:Int))
 |none=>(false,-1)
theorem pre_ok{t:Tp}{i:Nt}{m:Int}(h:preV t i m=0):(compB t=true/\ntB i=true)/\(0<=m/\m<10080)/\chkP t i=0:=by
 unfold preV at h
 have hcn:compB t=true/\ntB i=true:=Decidable.byContradiction fun h'=>by rw[aE h']at h;cases h
 rw[aH hcn]at h
 have hmm:0<=m/\m<10080:=Decidable.byContradiction fun h'=>by rw[aE h']at h;cases h
 rw[aH hmm]at h
 exact⟨hcn,hmm,h⟩
theorem hit_con{t:Tp}{i:Nt}{n:Nat}{x:Sm}(hx:i.sts[n]? =some x){g:Hd}(ho:g.Ok):((stmP t i x).1.any fun b=>conB b g)=hitN t i (hdQ g) n:=by
 rw[con_mem (stmP_set t i x) ho];simp[hitN,hx]
theorem findQ_drop{α:Type}{p:α->Bool}:∀{l:List α} {k:Nat},(∀(j:Nat) x,j<k->l[j]? =some x->p x=false)->l.find? p=(l.drop k).find? p
 |[],k,_=>by simp
 |x::l,0,_=>rfl
 |x::l,k+1,h=>by
  rw[fJ,h 0 x zo rfl,List.drop_succ_cons]
  exact findQ_drop fun j y hj hy=>h (j+1) y zo (by simpa using hy)
theorem findQ_at{α:Type}{p:α->Bool}{l:List α}{k:Nat}{x:α}(hx:l[k]? =some x)(hp:p x=true)(h:∀(j:Nat) x,j<k->l[j]? =some x->p x=false):l.find? p=some x:=by
 have hk:=(aM.1 hx).1
 rw[findQ_drop h,aZ hk]
 rw[aB hk]at hx
 rw[bE hx,fJ,hp]
theorem findQ_no{α:Type}{p:α->Bool}{l:List α}(h:∀(j:Nat) x,l[j]? =some x->p x=false):l.find? p=none:=by
 rw[List.find?_eq_none]
 intro x hx
 obtain⟨j,hj⟩:=bI.1 hx
 simp[h j x hj]
theorem coDec(t:Tp)(ht:t.edges.length<1000)(hd:t.devs.length<1000)(i:Nt)(hb:Bnd i)(hs:i.sts.length<=12)(m:Int)(g:Hd)(ho:g.Ok){K:KT}
  (hK:K (.tup [.sb (decV t i m g).1,.v (.int .i64 (decV t i m g).2)]) []):AC 21 [encT t,encNt i,.v (.int .i64 m),encHd g] [] K:=by
 have hKf:decV t i m g=(false,-1)->∃y,Weak (.tup [.v (.bool false),.v (.int .i64 (-1))]) y/\K y []:=fun he=>by
  rw[he]at hK
  exact⟨_,gQ Weak.bool gM,hK⟩
 refine gP (ofoDec rfl rfl ?_)
 by_cases hp:preV t i m=0
 case neg=>
  have hz:decV t i m g=(false,-1):=by rw[decV,aH hp]
  (repeat' ((conv=>whnf);first|(with_reducible refine coChk t ht hd i hb m ?_)|refine zG ?_|apply zA|intro h|exact zT));all_goals conv=>whnf
  all_goals first
   |exact hKf hz
   |exact absurd zw hp
 obtain⟨hcn,hmm,hch⟩:=pre_ok hp
 have hord:ordV i m=ordP i m:=by rw[ordV,aH ⟨hcn.2,hmm⟩]
 have hchk:∀{K:KT},K (.v (.int .i64 0)) []->AC 46 [encT t,encNt i,.v (.int .i64 m)] [] K:=fun h=>coChk t ht hd i hb m (by rw[hp];exact h)
 have hoc:∀{K:KT},K (.lst ((ordP i m).map vN)) []->AC 37 [encNt i,.v (.int .i64 m)] [] K:=fun h=>coOrd i hb hs m (by rw[hord];exact h)
 have hv:decV t i m g=match decH t i m g with
  |some n=>(perN i n,(n:Int))
  |none=>(false,-1):=by rw[decV,aE zo]
 (repeat' ((conv=>whnf);first|(with_reducible first|refine hchk ?_|refine coTAt t g.src ho.s0 ho.s1 zo ?_|refine coTAt t g.dst ho.d0 ho.d1 zo ?_|refine cxInit ?_|refine coPCon initS g ho zd ?_|refine hoc ?_)|refine zG ?_|apply zA|intro h|exact zT));all_goals conv=>whnf
 all_goals first
  |(refine hKf (by
     rw[hv,decH,aE (by
      rw[realH,aF,aI]
      rintro⟨⟨_,_,_⟩,_⟩
      first|omega|simp_all)])
    done)
  |skip
 have hreal:realH t g=true:=by
  rw[realH,aF,aI]
  refine⟨⟨by omega,by omega,by omega⟩,by with_reducible assumption⟩
 rw[decH,aH hreal]at hv
 refine gL Nat (fun k=>⟨3,[(0,boxT t),(1,boxNt i),(2,.box (clHd g))],[(2,.v (.int .i64 m)),(4,.op 0 0),(5,.op 1 0),(7,.op 2 0),(48,.lst ((ordP i m).map vN)),(49,.v (.int .i64 (((ordP i m).map vN).length:Nat))),(50,.v (.int .i64 k))]⟩) (fun k=>k<=(ordP i m).length/\∀(j:Nat) n,j<k->(ordP i m)[j]? =some n->hitN t i (hdQ g) n=false) (fun k=>(ordP i m).length-k) 0 ⟨aL _,fun j n h=>absurd h (aY _)⟩ ?_ ?_
 ·(exact leA)
 have hol:(ordP i m).length<=12:=bO (ordP_len (nt_pri hcn.2)) hs
 intro k ⟨hk,hin⟩
 rcases aD k (ordP i m).length with hkl|hkl
 ·obtain⟨n,hn⟩:∃n,(ordP i m)[k]? =some n:=⟨_,aB hkl⟩
  have hnl:=ordF_lt (aG hn)
  obtain⟨x,hx⟩:=gex hnl
  have hse:=chk_stm hch x (aG hx)
  have hsv:stmV t i (n:Int)=((stmP t i x).1,0):=by
   rw[stmV,aH hcn,aE zo,fP,hx]
   exact Prod.ext rfl hse
  have hst:∀{K:KT},K (.tup [encXs (stmP t i x).1,.v (.int .i64 0)]) []->AC 48 [encT t,encNt i,.v (.int .i64 n)] [] K:=fun h=>
   crStatement t zo i hb n (by rw[hsv];exact h)
  have hcon:∀{K:KT},K (.sb (hitN t i (hdQ g) n)) []->AC 68 [encXs (stmP t i x).1,encHd g] [] K:=fun h=>coPCon _ g ho (setBlen (stmP_set t i x)) (by rw[hit_con hx ho];exact h)
  have hper:perN i n=x.permit:=by simp[perN,hx]
  (repeat' ((conv=>whnf);first|(with_reducible first|refine hJ hkl ?_|refine gZ hn ?_|refine hst ?_|refine hcon ?_|refine hJ hnl ?_|refine gZ hx ?_)|refine zG ?_|apply zA|intro h|exact zT));all_goals conv=>whnf
  all_goals first
   |(have e:decV t i m g=(x.permit,(n:Int)):=by
      rw[hv,findQ_at hn zw hin]
      exact Prod.ext hper rfl
     rw[e]at hK
     exact⟨_,gM,hK⟩)
   |(refine⟨k+1,⟨hkl,iC hn zw hin⟩,by omega,?_⟩
     rw[aO,aN]
     (exact leA)
     done)
 ·(repeat' ((conv=>whnf);first|refine zG ?_|apply zA|intro h|exact zT));all_goals conv=>whnf
  rw[findQ_no (iB hkl hin)]at hv
  exact hKf hv
theorem putG_R{c:ByteArray}{s:List Bx}(hc:c.toList≠[])(hs:s≠[]):∀l:List Insp,PutR l c s (putG l c s).1 (putG l c s).2
 |[]=>PutR.ins 0 hc hs (aJ _) (fun j y h=>absurd h (aY _)) (fun y h=>by simp at h)
 |y::r=>by
  have ih:=putG_R hc hs r
  unfold putG
  split
  ·rename_i h1
   generalize putG r c s=q at*
   obtain⟨l',e⟩:=q
   simp only at ih⊢
   cases ih with
   |skip h=>exact absurd h (by rintro(h|h);exact hc h;exact hs h)
   |ins k a1 a2 a3 a4 a5=>
    exact PutR.ins (l:=y::r) (k+1) a1 a2 (by simp only[aK];omega) (fun j z hj hz=>by
     cases j with
     |zero=>cases hz;exact h1
     |succ j=>exact a4 j z zo (by simpa using hz)) (fun z hz=>a5 z (by simpa using hz))
   |uni k z a1 a2 a3 a4=>exact PutR.uni (l:=y::r) (k+1) z a1 a2 (by simpa using a3) a4
  ·rename_i h1
   split
   ·rename_i h2
    exact PutR.uni (l:=y::r) 0 y hc hs rfl h2
   ·rename_i h2
    exact PutR.ins (l:=y::r) 0 hc hs (aL _) (fun j z h=>absurd h (aY _)) (fun z hz=>by
     cases hz
     exact⟨by simpa using h1,by simpa[sEq]using h2⟩)
theorem putP_R(l:List Insp)(c:ByteArray)(s:List Bx):PutR l c s (putP l c s).1 (putP l c s).2:=by
 have he:(sEq c ⟨#[]⟩=true)↔c.toList=[]:=by
  unfold sEq
  have:(ByteArray.mk #[]).toList=[]:=by decide+kernel
  rw[this];simp
 unfold putP
 split
 ·rename_i h
  rw[he]at h
  exact PutR.skip h
 ·rename_i h
  rw[he]at h
  exact putG_R (fun e=>h (.inl e)) (fun e=>h (.inr e)) l
theorem atGo_inv{t:Tp}{i:Nt}(hc:∀x,x∈i.sts->x.cls.toList=[]\/nameOk x.cls):∀(l:List Nat) (rest:List Bx) (p:Pol),AtInv t rest p->(atGo t i l rest p).2=0->∃r,AtInv t r (atGo t i l rest p).1
 |[],rest,p,h,_=>⟨rest,h⟩
 |n::l,rest,p,h,he=>by
  rw[atGo]at he⊢
  cases hx:i.sts[n]? with
  |none=>exact⟨rest,h⟩
  |some x=>
   have hxc:=hc x (aG hx)
   have hs:=stmP_set t i x
   simp only[hx]at he⊢
   split at he
   ·rename_i h1;exact absurd he h1
   rename_i e1
   rw[aE e1]
   split at he
   ·rename_i h1;exact absurd he h1
   rename_i e2
   rw[aE e2]
   split at he
   ·rename_i hp
    rw[aH hp]
    exact atGo_inv hc l _ p (h.deny hs) he
   ·rename_i hp
    rw[aE hp]
    split at he
    ·rename_i h1;exact absurd he h1
    rename_i e3
    rw[aE e3]
    split at he
    ·rename_i h1;exact absurd he h1
    rename_i e4
    rw[aE e4]
    exact atGo_inv hc l _ _ (h.permit hs hxc (Decidable.byContradiction e1) (Decidable.byContradiction e2) (Decidable.byContradiction e3) (putP_R _ _ _) (Decidable.byContradiction e4)) he
theorem nt_cls{i:Nt}(h:ntB i=true):∀x,x∈i.sts->x.cls.toList=[]\/nameOk x.cls:=fun x hx=>by
 have:=(ntB_iff.1 h).t x hx
 unfold smB at this
 simp only[aF]at this
 have h1:=this.1.2.2.2.1
 unfold optB at h1
 rw[bS]at h1
 rcases h1 with h1|h1
 ·left
  have:=sEq_iff.1 h1
  rw[this];decide+kernel
 ·exact .inr (nameB_iff.1 h1)
theorem atP_ok{t:Tp}{i:Nt}{m:Int}(hc:compB t=true)(hn:ntB i=true)(he:(atP t i m).2=0):PolOk t (atP t i m).1:=by
 unfold atP at he⊢
 split at he
 ·rename_i h;exact absurd he h
 rename_i h
 rw[aE h]
 obtain⟨r,hr⟩:=atGo_inv (t:=t) (nt_cls hn) (ordP i m) (realP t).1 zPol (atInv_start t) he
 exact hr.pol hc
/-! the sets of the classes out of the map, in whatever order -/
/-! the sort by insertion sorts -/
section
variable {α:Type} {lt:α->α->Bool} (h1:∀a b,lt a b=true->lt b a=false) (h2:∀a b c,lt a b=false->lt b c=false->lt a c=false)
include h1 h2
end
def ErrL(e:Int):Prop:=e=0\/e=3\/e=5\/e=8
theorem ErrL.two{e:Int}(h:e=0\/e=3):ErrL e:=by rcases h with h|h<;>simp[ErrL,h]
theorem ACall.nil3{P:Program}{f:FuncId}{a b:AV}{hs:List Vm.Obj}{K:KT}(h:ACall P f [a,b,.lst []] hs K):ACall P f [a,b,.nils] hs K:=by
 obtain⟨hok,h2⟩:=h.elim
 refine ACall.intro hok fun ι E w vals r hv=>h2 ι E w vals r ⟨hv.1,fun i x y hx hy=>?_⟩
 match i with
 |0=>exact hv.2 0 x y hx hy
 |1=>exact hv.2 1 x y hx hy
 |2=>
  cases hx
  have:=hv.2 2 .nils y rfl hy
  cases this
  exact .lnil _ _
 |i+3=>simp at hx
end Go.Proofs.YtbdikofefjljoaaGreatDoor
