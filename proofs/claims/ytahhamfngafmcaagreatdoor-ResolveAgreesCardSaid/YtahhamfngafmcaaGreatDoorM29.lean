/- The program's intents: texts of windows, items, statements. -/
import Derived.Test.YtahhamfngafmcaaGreatDoorM28
set_option linter.unusedVariables false
set_option linter.unusedSimpArgs false
set_option maxRecDepth 100000
set_option maxHeartbeats 4000000
namespace Go.Proofs.YtahhamfngafmcaaGreatDoor
open Go Go.Vm
theorem ckDig(n:Int){K:KT}(hK:∀s:ByteArray,s.size<=2->K (.v (.string s)) []):ACall Tryz.prog 206 [.v (.int .i64 n)] [] K:=by
 refine ofkDig rfl rfl ?_
 (repeat' ((conv=>whnf);first|(with_reducible first|refine Ob.intro zd ?_|refine wr_any fun r=>?_)|(refine sl_full (by rfl) ?_)|refine zG ?_|apply zA|(apply zI;intro h)|exact zT));(all_goals conv=>whnf)
 exact hK _ (by rw[strOfNums_size];simp)
theorem ckTime(n:Int){K:KT}(hK:∀s:ByteArray,s.size<=5->K (.v (.string s)) []):ACall Tryz.prog 184 [.v (.int .i64 n)] [] K:=by
 have z1:(⟨#[58]⟩:ByteArray).size=1:=rfl
 refine ofkTime rfl rfl ?_
 (repeat' ((conv=>whnf);first|(with_reducible first|refine Ob.intro zd ?_|refine wr_any fun r=>?_|refine ckDig _ fun s hs=>?_|refine Ob.intro (by(try simp only[ByteArray.size_append]);omega) ?_)|refine zG ?_|apply zA|(apply zI;intro h)|exact zT));(all_goals conv=>whnf)
 exact hK _ (by simp only[ByteArray.size_append];omega)
theorem ckForm(l:List Rg)(hl:l.length<=4000){K:KT}(hK:∀ss:List ByteArray,ss.length=fmtL l->ss.length<=300000->K (.lst (ss.map encSt)) []):ACall Tryz.prog 136 [encRs l] [] K:=by
 refine ACall.weak (ofkForm rfl rfl ?_)
 (repeat' ((conv=>whnf);first|(with_reducible refine c28 l 10079 zo fun s hs=>?_)|(refine sl_full (by rfl) ?_)|refine zG ?_|apply zA|(apply zI;intro h)|exact zT));(all_goals conv=>whnf)
 all_goals first
  |exact⟨_,Weak.nils,hK [] (by rw[fmtL,if_neg (fun hh=>by have:=hs.2 hh;simp_all)];rfl) zx⟩
  |exact⟨_,Weak.refl,hK [⟨#[110,101,118,101,114]⟩] (by
    have hl0:l=[]:=List.length_eq_zero_iff.1 (by simp only[List.length_map]at*;omega)
    rw[fmtL,if_pos (hs.1 (by simp_all)),fmtN,if_pos hl0];rfl) zx⟩
  |skip
 have hv:Canon l/\∀r,r∈l->r.hi<=10079:=hs.1 (by simp_all)
 have hne:l≠[]:=fun e=>by subst e;simp_all
 rw[fmtL,if_pos hv,fmtN,if_neg hne]at hK
 refine Lp.intro (Nat×List ByteArray) (fun g=>⟨1,[(0,.arr 1 (g.2.map encSt))],[(0,encRs l),(3,.os 0 1 0 g.2.length),(16,.agg (dayL.map encSt)),(17,.v (.int .i64 g.1))]⟩)
  (fun g=>g.1<=7/\g.2.length<=40000*g.1/\g.2.length=3*cntW l g.1-1) (fun g=>7-g.1) (0,[]) ⟨Nat.zero_le _,Nat.zero_le _,rfl⟩ ?_ ?_
 ·(exact leA)
 rintro⟨d,ss⟩ ⟨hd,hss,hsn⟩
 simp only at hd hss hsn⊢
 rcases Nat.lt_or_ge d 7 with hd7|hd7
 ·have hint:∀{K:KT},(∀out,Canon out->(∀v,has out v=(has l v&&has [mkR (1440*d) (1440*d+1439)] v))->out.length<=l.length+1->K (encRs out) [])->ACall Tryz.prog 183 [encRs l,.lst [encR (mkR (1440*d) (1440*d+1439))]] [] K:=fun h=>c19 l [mkR (1440*d) (1440*d+1439)] zo zx h
  have m1:(mkR (1440*(d:Int)) (1440*d+1439)).lo=1440*d:=mkR_lo zo zo zo zo
  have m2:(mkR (1440*(d:Int)) (1440*d+1439)).hi=1440*d+1439:=mkR_hi zo zo zo zo
  have hint2:∀{K:KT},(∀out,Canon out->(∀v,has out v=(has l v&&has [mkR (1440*d) (1440*d+1439)] v))->out.length<=l.length+1->K (encRs out) [])->ACall Tryz.prog 183 [encRs l,.lst [.agg [.v (.int .u32 ((d:Int)*1440)),.v (.int .u32 ((d:Int)*1440+1440-1))]]] [] K:=fun h=>by
   have:=hint h
   simp only[encR,m1,m2]at this
   rw[show(d:Int)*1440=1440*d by omega,show 1440*(d:Int)+1440-1=1440*d+1439 by omega]
   exact this
  (repeat' ((conv=>whnf);first|refine zG ?_|apply zA|(apply zI;intro h)|exact zT));(all_goals conv=>whnf)
  refine Jn.intro ByteArray (fun c=>⟨1,[(0,.arr 1 (ss.map encSt))],[(0,encRs l),(3,.os 0 1 0 ss.length),(4,.v (.int .i64 d)),(5,.v (.string c)),(16,.agg (dayL.map encSt)),(17,.v (.int .i64 d))]⟩) (fun c=>c.size<=3) ?_ ?_
  ·obtain rfl|rfl|rfl|rfl|rfl|rfl|rfl:d=0\/d=1\/d=2\/d=3\/d=4\/d=5\/d=6:=by omega
   all_goals
    (repeat' ((conv=>whnf);first|(with_reducible refine In.intro _ rfl zd ?_)|refine zG ?_|apply zA|(apply zI;intro h)|exact zT));(all_goals conv=>whnf)
    first
     |(refine⟨⟨#[109,111,110]⟩,by decide,?_⟩
       (exact leA)
       done)
     |(refine⟨⟨#[116,117,101]⟩,by decide,?_⟩
       (exact leA)
       done)
     |(refine⟨⟨#[119,101,100]⟩,by decide,?_⟩
       (exact leA)
       done)
     |(refine⟨⟨#[116,104,117]⟩,by decide,?_⟩
       (exact leA)
       done)
     |(refine⟨⟨#[102,114,105]⟩,by decide,?_⟩
       (exact leA)
       done)
     |(refine⟨⟨#[115,97,116]⟩,by decide,?_⟩
       (exact leA)
       done)
     |(refine⟨⟨#[115,117,110]⟩,by decide,?_⟩
       (exact leA)
       done)
  intro dn hdn
  (repeat' ((conv=>whnf);first|(with_reducible first|refine wr_i64 rfl zo zo ?_|refine wr_u32 rfl zo zo ?_)|(refine sl_full (by rfl) ?_)|(with_reducible refine hint2 fun out ho hh hn=>?_)|refine zG ?_|apply zA|(apply zI;intro h)|exact zT));(all_goals conv=>whnf)
  have hday:dayW l d=out:=dayW_eq ho fun v=>by
   rw[hh v]
   rw[has_day hd7]
  have hcs:=cntW_succ l d
  rw[hday]at hcs
  refine Lp.intro (Nat×List ByteArray) (fun g=>⟨3,[(0,.arr 1 (g.2.map encSt)),(1,.box [.v (.int .u32 ((d:Int)*1440)),.v (.int .u32 ((d:Int)*1440+1440-1))])],[(0,encRs l),(3,.os 0 1 0 g.2.length),(5,.v (.string dn)),(6,.op 1 0),(16,.agg (dayL.map encSt)),(17,.v (.int .i64 d)),(33,encRs out),(34,.v (.int .i64 (out.map encR).length)),(35,.v (.int .i64 g.1))]⟩)
   (fun g=>g.1<=out.length/\g.2.length<=ss.length+3*g.1/\g.2.length=3*(cntW l d+g.1)-1) (fun g=>out.length-g.1) (0,ss) ⟨Nat.zero_le _,by simp only;omega,by simp only;omega⟩ ?_ ?_
  ·(exact leA)
  rintro⟨i,st⟩ ⟨hi,hst,hstn⟩
  simp only at hi hst hstn⊢
  rcases Nat.lt_or_ge i out.length with hil|hil
  ·obtain⟨r,hr⟩:=gex hil
   have hrm:=List.mem_of_getElem? hr
   have hle:=canon_le ho hrm
   have hb:∀v,r.lo<=v->v<=r.hi->1440*(d:Int)<=v/\v<=1440*d+1439:=fun v h1 h2=>by
    have h3:has out v=true:=has_iff.2 ⟨r,hrm,h1,h2⟩
    rw[hh,has_day hd7]at h3
    simp only[Bool.and_eq_true,decide_eq_true_eq]at h3
    exact h3.2
   have hb1:=hb r.lo (Int.le_refl _) hle
   have hb2:=hb r.hi hle (Int.le_refl _)
   (repeat' ((conv=>whnf);first|(with_reducible first|refine in_map hil ?_|refine ix_map hr ?_)|refine zG ?_|apply zA|(apply zI;intro h)|exact zT));(all_goals conv=>whnf)
   refine Jn.intro (List ByteArray) (fun g=>⟨4,[(0,.arr 1 (g.map encSt)),(1,.box [.v (.int .u32 ((d:Int)*1440)),.v (.int .u32 ((d:Int)*1440+1440-1))]),(3,.box [.v (.int .u32 r.lo),.v (.int .u32 r.hi)])],[(0,encRs l),(3,.os 0 1 0 g.length),(5,.v (.string dn)),(6,.op 1 0),(8,.op 3 0),(16,.agg (dayL.map encSt)),(17,.v (.int .i64 d)),(33,encRs out),(34,.v (.int .i64 (out.map encR).length)),(35,.v (.int .i64 i))]⟩) (fun g=>g.length<=st.length+1/\g.length=3*(cntW l d+i)) ?_ ?_
   ·(repeat' ((conv=>whnf);first|(refine sl_full (by rfl) ?_)|refine zG ?_|apply zA|(apply zI;intro h)|exact zT));(all_goals conv=>whnf)
    ·refine⟨st++[⟨#[44]⟩],⟨by simp,by simp only[List.length_append,List.length_cons,List.length_nil];omega⟩,?_⟩
     simp only[List.map_append,List.length_append,List.map_cons,List.map_nil,List.length_cons,List.length_nil]
     (exact leA)
    ·refine⟨st,⟨by omega,by omega⟩,?_⟩
     (exact leA)
   rintro su ⟨hsu,hsun⟩
   have z1:(⟨#[45]⟩:ByteArray).size=1:=rfl
   (repeat' ((conv=>whnf);first|(with_reducible first|refine wr_u32 rfl zo zo ?_|refine wr_i64 rfl zo zo ?_|refine ckTime _ fun s hs=>?_)|(refine sl_full (by rfl) ?_)|(with_reducible refine Ob.intro (by(try simp only[ByteArray.size_append]);omega) ?_)|refine zG ?_|apply zA|(apply zI;intro h)|exact zT));(all_goals conv=>whnf)
   rename_i q1 sA hsA
   refine⟨(i+1,su++[dn,sA++⟨#[45]⟩++s]),⟨by simp only;omega,by simp only[List.length_append,List.length_cons,List.length_nil];omega,by simp only[List.length_append,List.length_cons,List.length_nil];omega⟩,by simp only;omega,?_⟩
   simp only[List.map_append,List.length_append,List.map_cons,List.map_nil,List.length_cons,List.length_nil,Int.natCast_add,Int.natCast_one]
   (exact leA)
  ·(repeat' ((conv=>whnf);first|refine zG ?_|apply zA|(apply zI;intro h)|exact zT));(all_goals conv=>whnf)
   refine⟨(d+1,st),⟨by simp only;omega,by simp only;omega,by simp only;omega⟩,by simp only;omega,?_⟩
   rw[show(((d+1,st):Nat×List ByteArray).1:Int)=(d:Int)+1 from by simp only;omega]
   (exact leA)
 ·(repeat' ((conv=>whnf);first|(with_reducible refine sl_full (List.length_map ..) ?_)|refine zG ?_|apply zA|(apply zI;intro h)|exact zT));(all_goals conv=>whnf)
  exact⟨_,Weak.refl,hK ss (by rw[hsn,show d=7 by omega]) zo⟩
theorem ckPrt(p:Int)(r:Rg){K:KT}(hK:K (.sb (prB p r)) []):ACall Tryz.prog 181 [.v (.int .i64 p),.agg [.v (.int .u32 r.lo),.v (.int .u32 r.hi)]] [] K:=by
 refine ACall.bool (ofiPrt rfl rfl ?_)
 have hl0:=r.l0
 (repeat' ((conv=>whnf);first|(refine eqw_Rg ?_)|refine zG ?_|apply zA|(apply zI;intro h)|exact zT));(all_goals conv=>whnf)
 all_goals first
  |refine fin_t hK ?_
  |refine fin_f hK ?_
  |refine fin_s hK ?_
 all_goals
  unfold prB
  simp_all
 all_goals first
  |omega
  |(rw[if_neg zo,if_neg zo];intros;omega)
theorem ckItem(x:It)(v:Bool){K:KT}(hK:K (.sb (itB x (!v))) []):ACall Tryz.prog 135 [encIt x,.sb v] [] K:=by
 refine ACall.bool (ofiItem rfl rfl ?_)
 have hs:=sEq_self x.name
 (repeat' ((conv=>whnf);first|(with_reducible first|refine csName _ ?_|refine cpVal x.pf ?_|refine ckPrt x.proto x.ports ?_)|(refine eqw_It ?_)|refine zG ?_|apply zA|(apply zI;intro h)|exact zT));(all_goals conv=>whnf)
 all_goals first
  |refine fin_t hK ?_
  |refine fin_f hK ?_
  |refine fin_s hK ?_
 all_goals
  unfold itB
  simp_all[itN,itP,itS]
theorem ckOpt(s:ByteArray){K:KT}(hK:K (.sb (optB s)) []):ACall Tryz.prog 140 [.v (.string s)] [] K:=by
 refine ACall.bool (ofiEmp rfl rfl ?_)
 (repeat' ((conv=>whnf);first|(with_reducible refine csName _ ?_)|refine zG ?_|apply zA|(apply zI;intro h)|exact zT));(all_goals conv=>whnf)
 all_goals first
  |exact fin_t hK (by unfold optB sEq;simp_all)
  |exact fin_s hK (by unfold optB sEq;simp_all)
  |trace_state
theorem ckWri(l:List Rg)(hl:l.length<=4000){K:KT}(hK:∀ss:List ByteArray,K (.tup [.lst (ss.map encSt),.sb (winB l)]) []):ACall Tryz.prog 76 [encRs l] [] K:=by
 have h1:1<=fmtN l\/l≠[]:=by
  by_cases h:l=[]
  ·left;rw[fmtN,if_pos h];exact Nat.le_refl _
  ·exact .inr h
 refine ACall.weak (ofiWri rfl rfl ?_)
 (repeat' ((conv=>whnf);first|(with_reducible refine ckForm l hl fun ss hss hsl=>?_)|refine zG ?_|apply zA|(apply zI;intro h)|exact zT));(all_goals conv=>whnf)
 ·have hq2:(((ss.map encSt).length:Int)+1).tdiv 3=(((ss.length+1)/3:Nat):Int):=by rw[List.length_map,Int.tdiv_eq_ediv_of_nonneg zo];omega
  (repeat' ((conv=>whnf);first|(with_reducible first|refine wr_i64 hq2 zo zo ?_|refine wr_i64 rfl (by(try simp only[List.length_map]);omega) (by(try simp only[List.length_map]);omega) ?_|refine Ob.intro zd ?_)|refine zG ?_|apply zA|(apply zI;intro h)|exact zT));(all_goals conv=>whnf)
  refine⟨_,Weak.refl,?_⟩
  have e:decide ((((ss.length+1)/3:Nat):Int)<=16)=winB l:=by
   rw[Bool.eq_iff_iff,winB_iff,win_iff,decide_eq_true_eq]
   unfold fmtL at hss
   simp only[List.length_map]at h
   by_cases hv:Canon l/\∀r,r∈l->r.hi<=10079
   ·rw[if_pos hv]at hss
    have h3:fmtN l=1\/fmtN l=3*cntW l 7-1:=by
     unfold fmtN;split
     ·exact .inl rfl
     ·exact .inr rfl
    exact⟨fun h=>⟨hv,by omega⟩,fun h=>by omega⟩
   ·rw[if_neg hv]at hss;omega
  rw[e];exact hK _
 ·refine⟨_,Weak.tup2 Weak.refl Weak.bool,?_⟩
  have e:winB l=false:=by
   rw[Bool.eq_false_iff,ne_eq,winB_iff,win_iff]
   rintro⟨hv,_⟩
   rw[fmtL,if_pos hv]at hss
   simp only[List.length_map]at h
   have h0:fmtN l=0:=by omega
   rcases h1 with h1|h1
   ·omega
   ·have:=dayW_ne hv.1 hv.2 h1
    rw[fmtN,if_neg h1]at h0;omega
  rw[<-e];exact hK _
theorem ckSm(x:Sm){K:KT}(hK:K (.sb (smB x)) []):ACall Tryz.prog 82 [encSm x] [] K:=by
 refine ACall.bool (ofiSm rfl rfl ?_)
 (repeat' ((conv=>whnf);first|(with_reducible first|refine Lp.times 8 ?_|refine ckOpt _ ?_)|(refine in_c zd ?_)|(refine Ix.intro rfl ?_)|refine zG ?_|apply zA|(apply zI;intro h)|exact zT));(all_goals conv=>whnf)
 all_goals first
  |refine fin_t hK ?_
  |refine fin_f hK ?_
  |refine fin_s hK ?_
 all_goals
  unfold smB
  simp_all[sEq]
 all_goals omega
structure Bnd (i:Nt):Prop where
 g:i.grps.length<=999
 s:i.svcs.length<=999
 w:i.wins.length<=999
 t:i.sts.length<=999
 p:i.pubs.length<=999
 h:i.hids.length<=999
 gi:∀x,x∈i.grps->x.items.length<=999
 si:∀x,x∈i.svcs->x.items.length<=999
 wi:∀x,x∈i.wins->x.act.length<=4000
 its:itsN i.grps<=70
 sits:itsN i.svcs<=70000
theorem ckFind1(d:Df)(s:ByteArray){K:KT}(hK:K (.sb (sEq d.name s)) []):ACall Tryz.prog 180 [encDf d,.fp [.v (.string s)]] [] K:=by
 refine ofiFind1 rfl rfl ?_
 (repeat' ((conv=>whnf);first|refine zG ?_|apply zA|(apply zI;intro h)|exact zT));(all_goals conv=>whnf)
 exact hK
theorem cixD(l:List Df)(f:FuncId)(cs:List AV)(p:Df->Bool)(hF:∀(x:Df) (K:AV->List Vm.Obj->Prop),K (.sb (p x)) []->ACall Tryz.prog f [encDf x,.fp cs] [] K)(hl:l.length<1000000){K:KT}(hK:K (.v (.int .i64 (firstIx p l))) []):
  ACall Tryz.prog 179 [.lst (l.map encDf),.fn (.func f) [] [.fp cs]] [] K:=by
 refine ofwIxD rfl rfl ?_
 (repeat' ((conv=>whnf);first|refine zG ?_|apply zA|(apply zI;intro h)|exact zT));(all_goals conv=>whnf)
 refine Lp.intro Nat (fun k=>⟨0,[],[(0,.lst (l.map encDf)),(1,.fn (.func f) [] [.fp cs]),(7,.v (.int .i64 (l.map encDf).length)),(8,.v (.int .i64 k))]⟩) (fun k=>k<=l.length/\∀(i:Nat) y,i<k->l[i]? =some y->p y=false) (fun k=>l.length-k) 0 ⟨Nat.zero_le _,fun i y hi=>absurd hi (Nat.not_lt_zero _)⟩ ?_ ?_
 ·(exact leA)
 intro k ⟨hk,hinv⟩
 rcases Nat.lt_or_ge k l.length with hkl|hkl
 ·obtain⟨r,hr⟩:=gex hkl
  (repeat' ((conv=>whnf);first|(with_reducible first|refine in_map hkl ?_|refine ix_map hr ?_|refine hF r _ ?_)|refine zG ?_|apply zA|(apply zI;intro h)|exact zT));(all_goals conv=>whnf)
  ·rw[firstIx_at hr h hinv]at hK;exact hK
  ·refine⟨k+1,⟨by omega,before_succ hr h hinv⟩,by omega,?_⟩
   rw[Int.natCast_add,Int.natCast_one]
   (exact leA)
 ·(repeat' ((conv=>whnf);first|refine zG ?_|apply zA|(apply zI;intro h)|exact zT));(all_goals conv=>whnf)
  rw[firstIx_none (before_all hkl hinv)]at hK
  exact hK
theorem ckFind(l:List Df)(s:ByteArray)(hl:l.length<1000000){K:KT}(hK:K (.v (.int .i64 (dfIx l s))) []):ACall Tryz.prog 134 [.lst (l.map encDf),.v (.string s)] [] K:=by
 have hc:∀{K:KT},K (.v (.int .i64 (dfIx l s))) []->ACall Tryz.prog 179 [.lst (l.map encDf),.fn (.func 180) [] [.fp [.v (.string s)]]] [] K:=fun h=>cixD l _ _ (fun d=>sEq d.name s) (fun x K h=>ckFind1 x s h) hl h
 refine ofiFind rfl rfl ?_
 (repeat' ((conv=>whnf);first|(with_reducible refine hc ?_)|refine zG ?_|apply zA|(apply zI;intro h)|exact zT));(all_goals conv=>whnf)
 exact hK
theorem ckWnd1(d:Wn)(s:ByteArray){K:KT}(hK:K (.sb (sEq d.name s)) []):ACall Tryz.prog 138 [encWn d,.fp [.v (.string s)]] [] K:=by
 refine ofiWnd1 rfl rfl ?_
 (repeat' ((conv=>whnf);first|refine zG ?_|apply zA|(apply zI;intro h)|exact zT));(all_goals conv=>whnf)
 exact hK
theorem cixW(l:List Wn)(f:FuncId)(cs:List AV)(p:Wn->Bool)(hF:∀(x:Wn) (K:AV->List Vm.Obj->Prop),K (.sb (p x)) []->ACall Tryz.prog f [encWn x,.fp cs] [] K)(hl:l.length<1000000){K:KT}(hK:K (.v (.int .i64 (firstIx p l))) []):
  ACall Tryz.prog 137 [.lst (l.map encWn),.fn (.func f) [] [.fp cs]] [] K:=by
 refine ofiIxW rfl rfl ?_
 (repeat' ((conv=>whnf);first|refine zG ?_|apply zA|(apply zI;intro h)|exact zT));(all_goals conv=>whnf)
 refine Lp.intro Nat (fun k=>⟨0,[],[(0,.lst (l.map encWn)),(1,.fn (.func f) [] [.fp cs]),(7,.v (.int .i64 (l.map encWn).length)),(8,.v (.int .i64 k))]⟩) (fun k=>k<=l.length/\∀(i:Nat) y,i<k->l[i]? =some y->p y=false) (fun k=>l.length-k) 0 ⟨Nat.zero_le _,fun i y hi=>absurd hi (Nat.not_lt_zero _)⟩ ?_ ?_
 ·(exact leA)
 intro k ⟨hk,hinv⟩
 rcases Nat.lt_or_ge k l.length with hkl|hkl
 ·obtain⟨r,hr⟩:=gex hkl
  (repeat' ((conv=>whnf);first|(with_reducible first|refine in_map hkl ?_|refine ix_map hr ?_|refine hF r _ ?_)|refine zG ?_|apply zA|(apply zI;intro h)|exact zT));(all_goals conv=>whnf)
  ·rw[firstIx_at hr h hinv]at hK;exact hK
  ·refine⟨k+1,⟨by omega,before_succ hr h hinv⟩,by omega,?_⟩
   rw[Int.natCast_add,Int.natCast_one]
   (exact leA)
 ·(repeat' ((conv=>whnf);first|refine zG ?_|apply zA|(apply zI;intro h)|exact zT));(all_goals conv=>whnf)
  rw[firstIx_none (before_all hkl hinv)]at hK
  exact hK
theorem ckWnd(l:List Wn)(s:ByteArray)(hl:l.length<1000000){K:KT}(hK:K (.v (.int .i64 (wnIx l s))) []):ACall Tryz.prog 78 [.lst (l.map encWn),.v (.string s)] [] K:=by
 have hc:∀{K:KT},K (.v (.int .i64 (wnIx l s))) []->ACall Tryz.prog 137 [.lst (l.map encWn),.fn (.func 138) [] [.fp [.v (.string s)]]] [] K:=fun h=>cixW l _ _ (fun d=>sEq d.name s) (fun x K h=>ckWnd1 x s h) hl h
 refine ofiWnd rfl rfl ?_
 (repeat' ((conv=>whnf);first|(with_reducible refine hc ?_)|refine zG ?_|apply zA|(apply zI;intro h)|exact zT));(all_goals conv=>whnf)
 exact hK
theorem ckDefs(l:List Df)(v:Bool)(hl:l.length<=999)(hi:∀x,x∈l->x.items.length<=999){K:KT}(hK:K (.sb (dfsB l (!v))) []):ACall Tryz.prog 75 [.lst (l.map encDf),.sb v] [] K:=by
 refine ACall.bool (ofiDefs rfl rfl ?_)
 (repeat' ((conv=>whnf);first|refine zG ?_|apply zA|(apply zI;intro h)|exact zT));(all_goals conv=>whnf)
 refine Lp.intro Nat (fun i=>⟨0,[],[(0,.lst (l.map encDf)),(1,.sb v),(9,.lst (l.map encDf)),(10,.v (.int .i64 (l.map encDf).length)),(11,.v (.int .i64 i))]⟩) (fun i=>i<=l.length/\∀(j:Nat) d,j<i->l[j]? =some d->DfOk l (!v) j d) (fun i=>l.length-i) 0 ⟨Nat.zero_le _,fun i y hi=>absurd hi (Nat.not_lt_zero _)⟩ ?_ ?_
 ·(exact leA)
 intro i ⟨hil0,hinv⟩
 rcases Nat.lt_or_ge i l.length with hil|hil
 ·obtain⟨x,hx⟩:=gex hil
  have hxi:=hi x (List.mem_of_getElem? hx)
  have hno:(DfOk l (!v) i x->False)->dfsB l (!v)=false:=fun h=>dfsB_false fun hn=>h (hn.all i x hx)
  (repeat' ((conv=>whnf);first|(with_reducible first|refine in_map hil ?_|refine ix_map hx ?_)|refine zG ?_|apply zA|(apply zI;intro h)|exact zT));(all_goals conv=>whnf)
  refine Jn.intro Unit (fun _=>⟨1,[(0,.box [.v (.string x.name),.lst (x.items.map encIt)])],[(0,.lst (l.map encDf)),(1,.sb v),(5,.v (.int .i64 i)),(6,.op 0 0),(9,.lst (l.map encDf)),(10,.v (.int .i64 (l.map encDf).length)),(11,.v (.int .i64 i))]⟩) (fun _=>nameB x.name=true/\1<=x.items.length/\x.items.length<=16/\dfIx l x.name=i) ?_ ?_
  ·(repeat' ((conv=>whnf);first|(with_reducible first|refine csName _ ?_|refine ckFind l _ zo ?_)|refine zG ?_|apply zA|(apply zI;intro h)|exact zT));(all_goals conv=>whnf)
   all_goals first
    |(refine⟨(),⟨by with_reducible assumption,by simp only[List.length_map]at*;omega,by simp only[List.length_map]at*;omega,by with_reducible assumption⟩,?_⟩
      (exact leA)
      done)
    |(refine fin_f hK (hno fun hn=>?_)
      have n1:=hn.name;have n2:=hn.first;have n3:=hn.lo;have n4:=hn.hi
      (try simp only[List.length_map]at*)
      first|omega|simp_all)
  rintro⟨⟩ ⟨h1,h2,h3,h4⟩
  (repeat' ((conv=>whnf);first|refine zG ?_|apply zA|(apply zI;intro h)|exact zT));(all_goals conv=>whnf)
  refine Lp.intro Nat (fun k=>⟨1,[],[(0,.lst (l.map encDf)),(1,.sb v),(9,.lst (l.map encDf)),(10,.v (.int .i64 (l.map encDf).length)),(11,.v (.int .i64 i)),(41,.lst (x.items.map encIt)),(42,.v (.int .i64 (x.items.map encIt).length)),(43,.v (.int .i64 k))]⟩) (fun k=>k<=x.items.length/\∀(j:Nat) y,j<k->x.items[j]? =some y->itB y (!v)=true) (fun k=>x.items.length-k) 0 ⟨Nat.zero_le _,fun i y hi=>absurd hi (Nat.not_lt_zero _)⟩ ?_ ?_
  ·(exact leA)
  intro k ⟨hk0,hkv⟩
  rcases Nat.lt_or_ge k x.items.length with hkl|hkl
  ·obtain⟨y,hy⟩:=gex hkl
   (repeat' ((conv=>whnf);first|(with_reducible first|refine in_map hkl ?_|refine ix_map hy ?_|refine ckItem y v ?_)|refine zG ?_|apply zA|(apply zI;intro h)|exact zT));(all_goals conv=>whnf)
   ·refine⟨k+1,⟨hkl,all_succ hy h hkv⟩,by omega,?_⟩
    rw[Int.natCast_add,Int.natCast_one]
    (exact leA)
   ·refine fin_f hK (hno fun hn=>?_)
    rw[hn.all y (List.mem_of_getElem? hy)]at h;cases h
  ·(repeat' ((conv=>whnf);first|refine zG ?_|apply zA|(apply zI;intro h)|exact zT));(all_goals conv=>whnf)
   have hall:=before_all hkl hkv
   refine⟨i+1,⟨hil,all_succ hx ⟨h1,h4,h2,h3,fun y hy=>?_⟩ hinv⟩,by omega,?_⟩
   ·obtain⟨j,hj⟩:=List.mem_iff_getElem?.1 hy
    exact hall j y hj
   ·rw[Int.natCast_add,Int.natCast_one]
    (exact leA)
 ·(repeat' ((conv=>whnf);first|refine zG ?_|apply zA|(apply zI;intro h)|exact zT));(all_goals conv=>whnf)
  refine fin_s hK ?_
  have hall:=before_all hil hinv
  rw[Bool.eq_iff_iff,dfsB_iff,decide_eq_true_eq,List.length_map]
  exact⟨fun h=>by have:=h.len;omega,fun h=>⟨by omega,hall⟩⟩
theorem ckDefsV(l:List Df)(v:Bool)(hl:l.length<=999)(hi:∀x,x∈l->x.items.length<=999){K:KT}(hK:K (.sb (dfsB l (!v))) []):ACall Tryz.prog 75 [.lst (l.map encDf),.v (.bool v)] [] K:=
 ACall.args (ys:=[.lst (l.map encDf),.sb v]) ⟨Weak.refl,Weak.bool,trivial⟩ (ckDefs l v hl hi hK)
theorem ckPort(n:Int){K:KT}(hK:K (.sb (ptB n)) []):ACall Tryz.prog 79 [.v (.int .i64 n)] [] K:=by
 refine ACall.bool (ofiVal1 rfl rfl ?_)
 (repeat' ((conv=>whnf);first|refine zG ?_|apply zA|(apply zI;intro h)|exact zT));(all_goals conv=>whnf)
 ·exact fin_s hK (by unfold ptB;simp_all)
 ·exact fin_f hK (by unfold ptB;rw[decide_eq_false zo];rfl)
theorem ckNoSm(x:Sm){K:KT}(hK:K (.sb (!smB x)) []):ACall Tryz.prog 81 [encSm x] [] K:=by
 refine ofiVal2 rfl rfl ?_
 (repeat' ((conv=>whnf);first|(with_reducible refine ckSm x ?_)|refine zG ?_|apply zA|(apply zI;intro h)|exact zT));(all_goals conv=>whnf)
 exact hK
theorem ckIxS(l:List Sm)(hl:l.length<1000000){K:KT}(hK:K (.v (.int .i64 (firstIx (fun x=> !smB x) l))) []):
  ACall Tryz.prog 139 [.lst (l.map encSm),.fn (.func 81) [] []] [] K:=by
 refine ofiIxS rfl rfl ?_
 (repeat' ((conv=>whnf);first|refine zG ?_|apply zA|(apply zI;intro h)|exact zT));(all_goals conv=>whnf)
 refine Lp.intro Nat (fun k=>⟨0,[],[(0,.lst (l.map encSm)),(1,.fn (.func 81) [] []),(7,.v (.int .i64 (l.map encSm).length)),(8,.v (.int .i64 k))]⟩) (fun k=>k<=l.length/\∀(i:Nat) y,i<k->l[i]? =some y->(!smB y)=false) (fun k=>l.length-k) 0 ⟨Nat.zero_le _,fun i y hi=>absurd hi (Nat.not_lt_zero _)⟩ ?_ ?_
 ·(exact leA)
 intro k ⟨hk,hinv⟩
 rcases Nat.lt_or_ge k l.length with hkl|hkl
 ·obtain⟨r,hr⟩:=gex hkl
  (repeat' ((conv=>whnf);first|(with_reducible first|refine in_map hkl ?_|refine ix_map hr ?_|refine ckNoSm r ?_)|refine zG ?_|apply zA|(apply zI;intro h)|exact zT));(all_goals conv=>whnf)
  all_goals first
   |(rw[firstIx_at (p:=fun x=> !smB x) hr (by simp only[h];rfl) hinv]at hK
     exact hK)
   |(refine⟨k+1,⟨by omega,before_succ (p:=fun x=> !smB x) hr (by simp only[h];rfl) hinv⟩,by omega,?_⟩
     rw[Int.natCast_add,Int.natCast_one]
     (exact leA))
 ·(repeat' ((conv=>whnf);first|refine zG ?_|apply zA|(apply zI;intro h)|exact zT));(all_goals conv=>whnf)
  rw[firstIx_none (p:=fun x=> !smB x) (before_all hkl hinv)]at hK
  exact hK
theorem first_any{α:Type}(p:α->Bool)(l:List α):decide (0<=firstIx p l)=l.any p:=by
 rw[Bool.eq_iff_iff,decide_eq_true_eq,List.any_eq_true]
 unfold firstIx
 cases hf:l.findIdx? p with
 |none=>
  rw[List.findIdx?_eq_none_iff]at hf
  constructor
  ·intro h;simp at h
  ·rintro⟨x,hx,hp⟩
   rw[hf x hx]at hp;cases hp
 |some n=>
  rw[List.findIdx?_eq_some_iff_getElem]at hf
  obtain⟨h1,h2,_⟩:=hf
  exact⟨fun _=>⟨_,List.getElem_mem h1,h2⟩,fun _=>by simp only;omega⟩
theorem ckAnS(l:List Sm)(hl:l.length<1000000){K:KT}(hK:K (.sb (l.any fun x=> !smB x)) []):
  ACall Tryz.prog 80 [.lst (l.map encSm),.fn (.func 81) [] []] [] K:=by
 refine ofiAnS rfl rfl ?_
 (repeat' ((conv=>whnf);first|(with_reducible refine ckIxS l hl ?_)|refine zG ?_|apply zA|(apply zI;intro h)|exact zT));(all_goals conv=>whnf)
 rw[<-first_any]at hK
 exact hK
theorem ckNt(i:Nt)(hb:Bnd i){K:KT}(hK:K (.sb (ntB i)) []):ACall Tryz.prog 45 [encNt i] [] K:=by
 have bg:=hb.g;have bs:=hb.s;have bw:=hb.w;have bt:=hb.t;have bp:=hb.p;have bh:=hb.h
 refine ACall.bool (ofiVal rfl rfl ?_)
 have hno:(NtOk i->False)->ntB i=false:=ntB_false
 (repeat' ((conv=>whnf);first|refine zG ?_|apply zA|(apply zI;intro h)|exact zT));(all_goals conv=>whnf)
 refine Jn.intro Unit (fun _=>⟨1,[(0,boxNt i)],[(1,.op 0 0)]⟩) (fun _=>DfsOk i.grps true/\DfsOk i.svcs false/\i.wins.length<=32/\i.sts.length<=64/\i.pubs.length<=16/\i.hids.length<=8) ?_ ?_
 ·have hG:∀{K:KT},K (.sb (dfsB i.grps true)) []->ACall Tryz.prog 75 [.lst (i.grps.map encDf),.v (.bool false)] [] K:=fun h=>ckDefsV i.grps false bg hb.gi h
  have hS:∀{K:KT},K (.sb (dfsB i.svcs false)) []->ACall Tryz.prog 75 [.lst (i.svcs.map encDf),.v (.bool true)] [] K:=fun h=>ckDefsV i.svcs true bs hb.si h
  (repeat' ((conv=>whnf);first|(with_reducible first|refine hG ?_|refine hS ?_)|refine zG ?_|apply zA|(apply zI;intro h)|exact zT));(all_goals conv=>whnf)
  all_goals first
   |(refine⟨(),⟨dfsB_iff.1 zw,dfsB_iff.1 zw,by simp only[List.length_map]at*;omega,by simp only[List.length_map]at*;omega,by simp only[List.length_map]at*;omega,by simp only[List.length_map]at*;omega⟩,?_⟩
     (exact leA)
     done)
   |(refine fin_f hK (hno fun hn=>?_)
     have n1:=hn.wl;have n2:=hn.tl;have n3:=hn.pl;have n4:=hn.hl
     (try simp only[List.length_map]at*)
     first
      |omega
      |(rw[dfsB_true hn.g]at h;cases h;done)
      |(rw[dfsB_true hn.s]at h;cases h;done))
 rintro⟨⟩ ⟨hg,hs,h1,h2,h3,h4⟩
 (repeat' ((conv=>whnf);first|refine zG ?_|apply zA|(apply zI;intro h)|exact zT));(all_goals conv=>whnf)
 refine Lp.intro Nat (fun n=>⟨1,[(0,boxNt i)],[(1,.op 0 0),(47,.lst (i.wins.map encWn)),(48,.v (.int .i64 (i.wins.map encWn).length)),(49,.v (.int .i64 n))]⟩) (fun n=>n<=i.wins.length/\∀(j:Nat) y,j<n->i.wins[j]? =some y->WnOk i.wins j y) (fun n=>i.wins.length-n) 0 ⟨Nat.zero_le _,fun i y hi=>absurd hi (Nat.not_lt_zero _)⟩ ?_ ?_
 ·(exact leA)
 intro n ⟨hn,hwin0⟩
 rcases Nat.lt_or_ge n i.wins.length with hnl|hnl
 ·obtain⟨x,hx⟩:=gex hnl
  have hxa:=hb.wi x (List.mem_of_getElem? hx)
  (repeat' ((conv=>whnf);first|(with_reducible first|refine in_map hnl ?_|refine ix_map hx ?_|refine ckWri _ hxa fun ss=>?_|refine csName _ ?_|refine ckWnd _ _ zo ?_)|refine zG ?_|apply zA|(apply zI;intro h)|exact zT));(all_goals conv=>whnf)
  all_goals first
   |(refine⟨n+1,⟨hnl,all_succ hx ⟨by with_reducible assumption,by with_reducible assumption,winB_iff.1 zw⟩ hwin0⟩,by omega,?_⟩
     rw[Int.natCast_add,Int.natCast_one]
     (exact leA)
     done)
   |(refine fin_f hK (hno fun hn=>?_)
     have n1:=hn.w n x hx
     have n2:=winB_iff.2 n1.act;have n3:=n1.name;have n4:=n1.first
     first
      |exact h n4
      |(rw[n2]at h;cases h;done)
      |(rw[n3]at h;cases h;done))
 have hwin:=before_all hnl hwin0
 (repeat' ((conv=>whnf);first|refine zG ?_|apply zA|(apply zI;intro h)|exact zT));(all_goals conv=>whnf)
 refine Lp.intro Nat (fun n=>⟨1,[(0,boxNt i)],[(1,.op 0 0),(79,.lst (i.pubs.map encPb)),(80,.v (.int .i64 (i.pubs.map encPb).length)),(81,.v (.int .i64 n))]⟩) (fun n=>n<=i.pubs.length/\∀(j:Nat) y,j<n->i.pubs[j]? =some y->pbB y=true) (fun n=>i.pubs.length-n) 0 ⟨Nat.zero_le _,fun i y hi=>absurd hi (Nat.not_lt_zero _)⟩ ?_ ?_
 ·(exact leA)
 intro n ⟨hn,hpub0⟩
 rcases Nat.lt_or_ge n i.pubs.length with hnl|hnl
 ·obtain⟨x,hx⟩:=gex hnl
  (repeat' ((conv=>whnf);first|(with_reducible first|refine in_map hnl ?_|refine ix_map hx ?_|refine ckPort _ ?_|refine csName _ ?_)|refine zG ?_|apply zA|(apply zI;intro h)|exact zT));(all_goals conv=>whnf)
  all_goals first
   |(refine⟨n+1,⟨hnl,all_succ hx (by unfold pbB;simp_all) hpub0⟩,by omega,?_⟩
     rw[Int.natCast_add,Int.natCast_one]
     (exact leA)
     done)
   |(refine fin_f hK (hno fun hn=>?_)
     have n1:=hn.p x (List.mem_of_getElem? hx)
     unfold pbB at n1
     simp_all)
 have hpub:=before_all hnl hpub0
 (repeat' ((conv=>whnf);first|refine zG ?_|apply zA|(apply zI;intro h)|exact zT));(all_goals conv=>whnf)
 refine Lp.intro Nat (fun n=>⟨1,[(0,boxNt i)],[(1,.op 0 0),(115,.lst (i.hids.map encHn)),(116,.v (.int .i64 (i.hids.map encHn).length)),(117,.v (.int .i64 n))]⟩) (fun n=>n<=i.hids.length/\∀(j:Nat) y,j<n->i.hids[j]? =some y->hnB y=true) (fun n=>i.hids.length-n) 0 ⟨Nat.zero_le _,fun i y hi=>absurd hi (Nat.not_lt_zero _)⟩ ?_ ?_
 ·(exact leA)
 intro n ⟨hn,hhid0⟩
 rcases Nat.lt_or_ge n i.hids.length with hnl|hnl
 ·obtain⟨x,hx⟩:=gex hnl
  (repeat' ((conv=>whnf);first|(with_reducible first|refine in_map hnl ?_|refine ix_map hx ?_|refine csName _ ?_)|refine zG ?_|apply zA|(apply zI;intro h)|exact zT));(all_goals conv=>whnf)
  all_goals first
   |(refine⟨n+1,⟨hnl,all_succ hx (by unfold hnB;simp_all) hhid0⟩,by omega,?_⟩
     rw[Int.natCast_add,Int.natCast_one]
     (exact leA)
     done)
   |(refine fin_f hK (hno fun hn=>?_)
     have n1:=hn.h x (List.mem_of_getElem? hx)
     unfold hnB at n1
     simp_all
     try omega)
 have hhid:=before_all hnl hhid0
 (repeat' ((conv=>whnf);first|(with_reducible refine ckAnS i.sts zo ?_)|refine zG ?_|apply zA|(apply zI;intro h)|exact zT));(all_goals conv=>whnf)
 refine fin_s hK ?_
 have mem:∀{α:Type} {l:List α} {P:α->Prop},(∀(j:Nat) y,l[j]? =some y->P y)->∀x,x∈l->P x:=fun h x hx=>by
  obtain⟨j,hj⟩:=List.mem_iff_getElem?.1 hx
  exact h j x hj
 rw[Bool.eq_iff_iff,ntB_iff,Bool.not_eq_true',List.any_eq_false]
 constructor
 ·intro h x hx
  rw[h.t x hx];decide
 ·intro h
  exact⟨hg,hs,h1,h2,h3,h4,hwin,fun x hx=>by simpa using h x hx,mem hpub,mem hhid⟩
theorem djSm(x:Sm){K:KT}(hK:K (.sb (smB x)) []):ACall Tryz.prog 163 [encSm x] [] K:=by
 refine ACall.bool (ofj16Sm rfl rfl ?_)
 (repeat' ((conv=>whnf);first|(with_reducible refine djOpt _ ?_)|refine zG ?_|apply zA|(apply zI;intro h)|exact zT));(all_goals conv=>whnf)
 all_goals first
  |refine fin_t hK ?_
  |refine fin_f hK ?_
  |refine fin_s hK ?_
 all_goals
  unfold smB
  simp_all[sEq]
 all_goals omega
theorem djDefs(l:List Df)(g:Bool)(hl:l.length<=999)(hi:∀x,x∈l->x.items.length<=999){K:KT}(hK:K (.sb (dfsB l g)) []):ACall Tryz.prog 160 [.lst (l.map encDf),.sb g] [] K:=by
 refine ACall.bool (ofj16Defs rfl rfl ?_)
 have hno:(DfsOk l g->False)->dfsB l g=false:=dfsB_false
 (repeat' ((conv=>whnf);first|refine zG ?_|apply zA|(apply zI;intro h)|exact zT));(all_goals conv=>whnf)
 ·exact fin_f hK (hno fun hn=>by have:=hn.len;simp only[List.length_map]at*;omega)
 refine Lp.intro Nat (fun i=>⟨0,[],[(0,.lst (l.map encDf)),(1,.sb g),(5,.v (.int .i64 i))]⟩) (fun i=>i<=l.length/\∀(j:Nat) d,j<i->l[j]? =some d->DfOk l g j d) (fun i=>l.length-i) 0 ⟨Nat.zero_le _,fun i y hi=>absurd hi (Nat.not_lt_zero _)⟩ ?_ ?_
 ·(exact leA)
 intro i ⟨hil0,hinv⟩
 rcases Nat.lt_or_ge i l.length with hil|hil
 ·obtain⟨x,hx⟩:=gex hil
  have hxi:=hi x (List.mem_of_getElem? hx)
  have hno:(DfOk l g i x->False)->dfsB l g=false:=fun h=>dfsB_false fun hn=>h (hn.all i x hx)
  (repeat' ((conv=>whnf);first|(with_reducible first|refine in_map hil ?_|refine ix_map hx ?_|refine crName _ ?_|refine djFind l _ zo ?_)|refine zG ?_|apply zA|(apply zI;intro h)|exact zT));(all_goals conv=>whnf)
  all_goals first
   |(refine fin_f hK (hno fun hn=>?_)
     have n1:=hn.name;have n2:=hn.first;have n3:=hn.lo;have n4:=hn.hi
     (try simp only[List.length_map]at*)
     first
      |omega
      |simp_all)
   |skip
  have h1:nameB x.name=true:=by with_reducible assumption
  have h2:dfIx l x.name=i:=by omega
  have h3:1<=x.items.length:=by simp only[List.length_map]at*;omega
  have h4:x.items.length<=16:=by simp only[List.length_map]at*;omega
  refine Lp.intro Nat (fun k=>⟨0,[],[(0,.lst (l.map encDf)),(1,.sb g),(5,.v (.int .i64 i)),(6,.v (.int .i64 k))]⟩) (fun k=>k<=x.items.length/\∀(j:Nat) y,j<k->x.items[j]? =some y->itB y g=true) (fun k=>x.items.length-k) 0 ⟨Nat.zero_le _,fun i y hi=>absurd hi (Nat.not_lt_zero _)⟩ ?_ ?_
  ·(exact leA)
  intro k ⟨hk0,hkv⟩
  rcases Nat.lt_or_ge k x.items.length with hkl|hkl
  ·obtain⟨y,hy⟩:=gex hkl
   (repeat' ((conv=>whnf);first|(with_reducible first|refine in_map hil ?_|refine ix_map hx ?_|refine in_map hkl ?_|refine ix_map hy ?_|refine djItem y _ ?_)|refine zG ?_|apply zA|(apply zI;intro h)|exact zT));(all_goals conv=>whnf)
   all_goals first
    |(refine⟨k+1,⟨hkl,all_succ hy h hkv⟩,by omega,?_⟩
      rw[Int.natCast_add,Int.natCast_one]
      (exact leA)
      done)
    |(refine fin_f hK (hno fun hn=>?_)
      rw[hn.all y (List.mem_of_getElem? hy)]at h;cases h)
  ·(repeat' ((conv=>whnf);first|(with_reducible first|refine in_map hil ?_|refine ix_map hx ?_)|refine zG ?_|apply zA|(apply zI;intro h)|exact zT));(all_goals conv=>whnf)
   have hall:=before_all hkl hkv
   refine⟨i+1,⟨hil,all_succ hx ⟨h1,h2,h3,h4,fun y hy=>?_⟩ hinv⟩,by omega,?_⟩
   ·obtain⟨j,hj⟩:=List.mem_iff_getElem?.1 hy
    exact hall j y hj
   ·rw[Int.natCast_add,Int.natCast_one]
    (exact leA)
 ·(repeat' ((conv=>whnf);first|refine zG ?_|apply zA|(apply zI;intro h)|exact zT));(all_goals conv=>whnf)
  refine fin_t hK (dfsB_true ⟨?_,before_all hil hinv⟩)
  simp only[List.length_map]at*
  omega
theorem djDefsV(l:List Df)(g:Bool)(hl:l.length<=999)(hi:∀x,x∈l->x.items.length<=999){K:KT}(hK:K (.sb (dfsB l g)) []):ACall Tryz.prog 160 [.lst (l.map encDf),.v (.bool g)] [] K:=
 ACall.args (ys:=[.lst (l.map encDf),.sb g]) ⟨Weak.refl,Weak.bool,trivial⟩ (djDefs l g hl hi hK)
theorem djNt(i:Nt)(hb:Bnd i){K:KT}(hK:K (.sb (ntB i)) []):ACall Tryz.prog 108 [encNt i] [] K:=by
 have bg:=hb.g;have bs:=hb.s;have bw:=hb.w;have bt:=hb.t;have bp:=hb.p;have bh:=hb.h
 refine ACall.bool (ofj16Val rfl rfl ?_)
 have hno:(NtOk i->False)->ntB i=false:=ntB_false
 have mem:∀{α:Type} {l:List α} {P:α->Prop},(∀(j:Nat) y,l[j]? =some y->P y)->∀x,x∈l->P x:=fun h x hx=>by
  obtain⟨j,hj⟩:=List.mem_iff_getElem?.1 hx
  exact h j x hj
 have hG:∀{K:KT},K (.sb (dfsB i.grps true)) []->ACall Tryz.prog 160 [.lst (i.grps.map encDf),.v (.bool true)] [] K:=fun h=>djDefsV i.grps true bg hb.gi h
 have hS:∀{K:KT},K (.sb (dfsB i.svcs false)) []->ACall Tryz.prog 160 [.lst (i.svcs.map encDf),.v (.bool false)] [] K:=fun h=>djDefsV i.svcs false bs hb.si h
 (repeat' ((conv=>whnf);first|(with_reducible first|refine hG ?_|refine hS ?_)|refine zG ?_|apply zA|(apply zI;intro h)|exact zT));(all_goals conv=>whnf)
 all_goals first
  |(refine fin_f hK (hno fun hn=>?_)
    have n1:=hn.wl;have n2:=hn.tl;have n3:=hn.pl;have n4:=hn.hl
    (try simp only[List.length_map]at*)
    first
     |omega
     |(rw[dfsB_true hn.g]at h;cases h;done)
     |(rw[dfsB_true hn.s]at h;cases h;done))
  |skip
 have hg:DfsOk i.grps true:=dfsB_iff.1 zw
 have hs:DfsOk i.svcs false:=dfsB_iff.1 zw
 have h1:i.wins.length<=32:=by simp only[List.length_map]at*;omega
 have h2:i.sts.length<=64:=by simp only[List.length_map]at*;omega
 have h3:i.pubs.length<=16:=by simp only[List.length_map]at*;omega
 have h4:i.hids.length<=8:=by simp only[List.length_map]at*;omega
 refine Lp.intro Nat (fun n=>⟨1,[(0,boxNt i)],[(1,.op 0 0),(3,.v (.int .i64 n))]⟩) (fun n=>n<=i.wins.length/\∀(j:Nat) y,j<n->i.wins[j]? =some y->WnOk i.wins j y) (fun n=>i.wins.length-n) 0 ⟨Nat.zero_le _,fun i y hi=>absurd hi (Nat.not_lt_zero _)⟩ ?_ ?_
 ·(exact leA)
 intro n ⟨hn,hwin0⟩
 rcases Nat.lt_or_ge n i.wins.length with hnl|hnl
 ·obtain⟨x,hx⟩:=gex hnl
  have hxa:=hb.wi x (List.mem_of_getElem? hx)
  (repeat' ((conv=>whnf);first|(with_reducible first|refine in_map hnl ?_|refine ix_map hx ?_|refine djWri _ hxa ?_|refine crName _ ?_|refine djFindW _ _ zo ?_)|refine zG ?_|apply zA|(apply zI;intro h)|exact zT));(all_goals conv=>whnf)
  all_goals first
   |(refine⟨n+1,⟨hnl,all_succ hx ⟨by with_reducible assumption,by omega,winB_iff.1 zw⟩ hwin0⟩,by omega,?_⟩
     rw[Int.natCast_add,Int.natCast_one]
     (exact leA)
     done)
   |(refine fin_f hK (hno fun hn=>?_)
     have n1:=hn.w n x hx
     have n2:=winB_iff.2 n1.act;have n3:=n1.name;have n4:=n1.first
     first
      |exact h n4
      |omega
      |(rw[n2]at h;cases h;done)
      |(rw[n3]at h;cases h;done))
 have hwin:=before_all hnl hwin0
 (repeat' ((conv=>whnf);first|refine zG ?_|apply zA|(apply zI;intro h)|exact zT));(all_goals conv=>whnf)
 refine Lp.intro Nat (fun n=>⟨1,[(0,boxNt i)],[(1,.op 0 0),(4,.v (.int .i64 n))]⟩) (fun n=>n<=i.sts.length/\∀(j:Nat) y,j<n->i.sts[j]? =some y->smB y=true) (fun n=>i.sts.length-n) 0 ⟨Nat.zero_le _,fun i y hi=>absurd hi (Nat.not_lt_zero _)⟩ ?_ ?_
 ·(exact leA)
 intro n ⟨hn,hst0⟩
 rcases Nat.lt_or_ge n i.sts.length with hnl|hnl
 ·obtain⟨x,hx⟩:=gex hnl
  (repeat' ((conv=>whnf);first|(with_reducible first|refine in_map hnl ?_|refine ix_map hx ?_|refine djSm x ?_)|refine zG ?_|apply zA|(apply zI;intro h)|exact zT));(all_goals conv=>whnf)
  all_goals first
   |(refine⟨n+1,⟨hnl,all_succ hx h hst0⟩,by omega,?_⟩
     rw[Int.natCast_add,Int.natCast_one]
     (exact leA)
     done)
   |(refine fin_f hK (hno fun hn=>?_)
     rw[hn.t x (List.mem_of_getElem? hx)]at h;cases h)
 have hst:=before_all hnl hst0
 (repeat' ((conv=>whnf);first|refine zG ?_|apply zA|(apply zI;intro h)|exact zT));(all_goals conv=>whnf)
 refine Lp.intro Nat (fun n=>⟨1,[(0,boxNt i)],[(1,.op 0 0),(5,.v (.int .i64 n))]⟩) (fun n=>n<=i.pubs.length/\∀(j:Nat) y,j<n->i.pubs[j]? =some y->pbB y=true) (fun n=>i.pubs.length-n) 0 ⟨Nat.zero_le _,fun i y hi=>absurd hi (Nat.not_lt_zero _)⟩ ?_ ?_
 ·(exact leA)
 intro n ⟨hn,hpub0⟩
 rcases Nat.lt_or_ge n i.pubs.length with hnl|hnl
 ·obtain⟨x,hx⟩:=gex hnl
  (repeat' ((conv=>whnf);first|(with_reducible first|refine in_map hnl ?_|refine ix_map hx ?_|refine djPort _ ?_|refine crName _ ?_)|refine zG ?_|apply zA|(apply zI;intro h)|exact zT));(all_goals conv=>whnf)
  all_goals first
   |(refine⟨n+1,⟨hnl,all_succ hx (by unfold pbB;simp_all) hpub0⟩,by omega,?_⟩
     rw[Int.natCast_add,Int.natCast_one]
     (exact leA)
     done)
   |(refine fin_f hK (hno fun hn=>?_)
     have n1:=hn.p x (List.mem_of_getElem? hx)
     clear hwin hst hpub0
     unfold pbB at n1
     simp_all)
 have hpub:=before_all hnl hpub0
 (repeat' ((conv=>whnf);first|refine zG ?_|apply zA|(apply zI;intro h)|exact zT));(all_goals conv=>whnf)
 refine Lp.intro Nat (fun n=>⟨1,[(0,boxNt i)],[(1,.op 0 0),(7,.v (.int .i64 n))]⟩) (fun n=>n<=i.hids.length/\∀(j:Nat) y,j<n->i.hids[j]? =some y->hnB y=true) (fun n=>i.hids.length-n) 0 ⟨Nat.zero_le _,fun i y hi=>absurd hi (Nat.not_lt_zero _)⟩ ?_ ?_
 ·(exact leA)
 intro n ⟨hn,hhid0⟩
 rcases Nat.lt_or_ge n i.hids.length with hnl|hnl
 ·obtain⟨x,hx⟩:=gex hnl
  (repeat' ((conv=>whnf);first|(with_reducible first|refine in_map hnl ?_|refine ix_map hx ?_|refine crName _ ?_|refine djPorts _ _ _ ?_)|refine zG ?_|apply zA|(apply zI;intro h)|exact zT));(all_goals conv=>whnf)
  all_goals first
   |(refine⟨n+1,⟨hnl,all_succ hx (by unfold hnB;simp_all) hhid0⟩,by omega,?_⟩
     rw[Int.natCast_add,Int.natCast_one]
     (exact leA)
     done)
   |(refine fin_f hK (hno fun hn=>?_)
     have n1:=hn.h x (List.mem_of_getElem? hx)
     simp only[hnB,Bool.and_eq_true]at n1
     first
      |exact h (of_decide_eq_true n1.2.2)
      |(rw[n1.2.1]at h;cases h;done)
      |(rw[n1.1]at h;cases h;done))
 have hhid:=before_all hnl hhid0
 (repeat' ((conv=>whnf);first|refine zG ?_|apply zA|(apply zI;intro h)|exact zT));(all_goals conv=>whnf)
 exact fin_t hK (ntB_true ⟨hg,hs,h1,h2,h3,h4,hwin,mem hst,mem hpub,mem hhid⟩)
theorem enPick(raw:List Int)(pos:Nat)(l:List Df)(hl:l.length<=1000)(hp:pos<=raw.length)(hr:raw.length<=9223372036854775807){K:KT}
  (hK:∀(s:ByteArray) (pos':Nat),(s=⟨#[]⟩\/∃d,d∈l/\s=d.name)->pos'<=raw.length->K (.v (.string s)) [tapeO raw pos']):ACall Tryz.prog 69 [.op 0 0,.lst (l.map encDf)] [tapeO raw pos] K:=by
 refine ofnPick rfl rfl ?_
 (repeat' ((conv=>whnf);first|(with_reducible first|refine nNext raw _ _ (by simp only[List.length_map];omega) zp hr fun m1 p1 hm1 hp1=>?_|refine in_map (by simp only[List.length_map]at*;omega) ?_|refine ix_map_any (by simp only[List.length_map]at*;omega) fun d hd=>?_)|refine zG ?_|apply zA|(apply zI;intro h)|exact zT));(all_goals conv=>whnf)
 all_goals first
  |exact hK _ _ (.inl rfl) zp
  |exact hK _ _ (.inr ⟨d,hd,rfl⟩) zp
  |trace_state
theorem enNum(raw:List Int)(pos:Nat)(top:Int)(t0:0<=top)(t1:top<=4294967295)(hp:pos<=raw.length)(hr:raw.length<=9223372036854775807){K:KT}
  (hK:∀(a:Int) (pos':Nat),0<=a->a<=top->pos'<=raw.length->K (.v (.int .u32 a)) [tapeO raw pos']):ACall Tryz.prog 42 [.op 0 0,.v (.int .u32 top)] [tapeO raw pos] K:=by
 refine ofvNum rfl rfl ?_
 (repeat' ((conv=>whnf);first|(with_reducible first|refine nNext raw _ _ zo zp hr fun m1 p1 hm1 hp1=>?_|refine in_nat zo ?_|refine wr_u32_any fun r r0 r1=>?_)|refine zG ?_|apply zA|(apply zI;intro h)|exact zT));(all_goals conv=>whnf)
 refine ix_all IsU32 ?_ (by simp only[List.length_cons,List.length_nil];omega) ?_
 ·simp only[List.forall_mem_cons]
  (repeat' apply And.intro)<;>first|exact⟨_,rfl,by assumption,by assumption⟩|exact⟨_,rfl,by decide,by decide⟩|(intro _ h;cases h)
 ·rintro _ ⟨y,rfl,y0,y1⟩
  (repeat' ((conv=>whnf);first|refine zG ?_|apply zA|(apply zI;intro h)|exact zT));(all_goals conv=>whnf)
  all_goals exact hK _ _ zo zo zp
theorem enRange(raw:List Int)(pos:Nat)(top:Int)(t0:0<=top)(t1:top<=4294967295)(hp:pos<=raw.length)(hr:raw.length<=9223372036854775807){K:KT}
  (hK:∀(r:Rg) (pos':Nat),r.lo<=r.hi->r.hi<=top->pos'<=raw.length->K (encR r) [tapeO raw pos']):ACall Tryz.prog 23 [.op 0 0,.v (.int .u32 top)] [tapeO raw pos] K:=by
 refine ofnRange rfl rfl ?_
 (repeat' ((conv=>whnf);first|(with_reducible refine enNum raw _ top t0 t1 zp hr fun a p2 a0 a1 hp2=>?_)|refine zG ?_|apply zA|(apply zI;intro h)|exact zT));(all_goals conv=>whnf)
 all_goals exact hK ⟨_,_,by omega,by omega,by omega,by omega⟩ _ (by simp only;omega) (by simp only;omega) zp
theorem sub_okQ(n:Nat):(subL.getD n noPf).okP:=by
 have h:∀q,q∈subL->q.okP:=by decide+kernel
 rcases Nat.lt_or_ge n subL.length with hn|hn
 ·rw[List.getD,List.getElem?_eq_getElem hn];exact h _ (List.getElem_mem hn)
 ·rw[List.getD,List.getElem?_eq_none hn];decide
theorem shr_wr{a c:Int}{K:Int->Prop}(c0:0<=c)(c1:c<32)(a0:0<=a)(a1:a<=4294967295)(hk:∀r:Int,0<=r->r<=4294967295->r%pz c=0->K r):
  Wr .u32 (a.fdiv (2^min (32-c).toNat IntKind.u32.bits)*2^min (32-c).toNat IntKind.u32.bits) K:=by
 have hb:IntKind.u32.bits=32:=rfl
 have hp:=pz_pos c
 have e:(2:Int)^min (32-c).toNat IntKind.u32.bits=pz c:=by
  rw[hb,Nat.min_eq_left zo,pz,Int.natCast_pow];rfl
 rw[e,Int.fdiv_eq_ediv_of_nonneg _ (Int.le_of_lt hp)]
 have h1:0<=a/pz c:=Int.ediv_nonneg a0 (Int.le_of_lt hp)
 have h2:a/pz c*pz c<=a:=Int.ediv_mul_le a zo
 have h3:0<=a/pz c*pz c:=Int.mul_nonneg h1 (Int.le_of_lt hp)
 exact wr_u32 rfl h3 zo (hk _ h3 zo (Int.mul_emod_left _ _))
theorem enPref(raw:List Int)(pos:Nat)(hp:pos<=raw.length)(hr:raw.length<=9223372036854775807){K:KT}
  (hK:∀(q:Pf) (pos':Nat),q.okP->pos'<=raw.length->K (encP q) [tapeO raw pos']):ACall Tryz.prog 21 [.op 0 0] [tapeO raw pos] K:=by
 refine ofnPref rfl rfl ?_
 (repeat' ((conv=>whnf);first|(with_reducible first|refine nNext raw _ _ zo zp hr fun m1 p1 hm1 hp1=>?_|refine in_nat zo ?_|refine cnSub _ zo ?_|refine ix_intsB [32,31,24,25,8,1,0,16,30,23] 10 0 32 rfl rfl zd zo fun c c0 c1=>?_|refine cnAddr raw _ zp hr fun a p2 a0 a1 hp2=>?_|refine shr_wr zo zo a0 a1 fun r r0 r1 r2=>?_)|refine zG ?_|apply zA|(apply zI;intro h)|exact zT));(all_goals conv=>whnf)
 all_goals first
  |exact hK _ _ (sub_okQ _) zp
  |exact hK ⟨r,c,r0,r1⟩ _ ⟨c0,c1,r2⟩ zp
  |(refine hK ⟨a,c,a0,a1⟩ _ ⟨c0,c1,?_⟩ zp
    have hc:c=32:=by omega
    show a%pz c=0
    rw[hc]
    exact Int.emod_one a)
  |trace_state
theorem opt_nil:optB ⟨#[]⟩=true:=by unfold optB;rw[sEq_data];rfl
theorem opt_nm{s:ByteArray}(h:nameB s=true):optB s=true:=by unfold optB;rw[h,Bool.or_true]
theorem nil_self:sEq ⟨#[]⟩ ⟨#[]⟩=true:=sEq_self _
theorem enPickO(raw:List Int)(pos:Nat)(l:List Df)(hn:∀d,d∈l->nameB d.name=true)(hl:l.length<=1000)(hp:pos<=raw.length)(hr:raw.length<=9223372036854775807){K:KT}
  (hK:∀(s:ByteArray) (pos':Nat),optB s=true->pos'<=raw.length->K (.v (.string s)) [tapeO raw pos']):ACall Tryz.prog 69 [.op 0 0,.lst (l.map encDf)] [tapeO raw pos] K:=
 enPick raw pos l hl hp hr fun s p h hp=>hK s p (by
  rcases h with rfl|⟨d,hd,rfl⟩
  ·exact opt_nil
  ·exact opt_nm (hn d hd)) hp
theorem sm_1{p e:Bool}{f t s a b:ByteArray}(h1:optB f=true)(h2:optB t=true)(h3:optB s=true)(h4:e=true/\optB a=true/\optB b=true\/(a=⟨#[]⟩/\b=⟨#[]⟩)):smB ⟨p,f,t,s,e,a,b,⟨#[]⟩,⟨#[]⟩,0⟩=true:=by
 have hz:=opt_nil
 have hy:=nil_self
 rcases h4 with⟨rfl,h5,h6⟩|⟨rfl,rfl⟩<;>simp_all[smB]
theorem sm_cls{x:Sm}{c:ByteArray}(h:smB x=true)(hp:x.permit=true)(hc:optB c=true):smB ⟨x.permit,x.frm,x.to,x.svc,x.exc,x.exF,x.exT,c,x.dur,x.pri⟩=true:=by
 simp only[smB,Bool.and_eq_true,Bool.or_eq_true]at h⊢
 simp_all
theorem sm_dur{x:Sm}{c:ByteArray}(h:smB x=true)(hc:optB c=true):smB ⟨x.permit,x.frm,x.to,x.svc,x.exc,x.exF,x.exT,x.cls,c,x.pri⟩=true:=by
 simp only[smB,Bool.and_eq_true,Bool.or_eq_true]at h⊢
 simp_all
theorem sm_pri{x:Sm}{c:Int}(h:smB x=true)(h0:0<=c)(h1:c<=1000):smB ⟨x.permit,x.frm,x.to,x.svc,x.exc,x.exF,x.exT,x.cls,x.dur,c⟩=true:=by
 simp only[smB,Bool.and_eq_true,Bool.or_eq_true,decide_eq_true_eq]at h⊢
 simp_all
theorem sm_exB{raw:List Int}{L:Sm×Nat->Prop}(a:Bool)(b c d:ByteArray)(e:Bool)(f g:ByteArray)(q:Nat)(hL:L (⟨a,b,c,d,e,f,g,⟨#[]⟩,⟨#[]⟩,0⟩,q))(hR:q<=raw.length)(hB:smB ⟨a,b,c,d,e,f,g,⟨#[]⟩,⟨#[]⟩,0⟩=true):∃g:Sm×Nat,(g.2<=raw.length/\smB g.1=true)/\L g:=⟨_,⟨hR,hB⟩,hL⟩
theorem enStm(raw:List Int)(pos:Nat)(t:Tp)(htd:t.devs.length<=100)(gs ss:List Df)(ws:List Wn)(sts:List Sm)(hg:gs.length<=1000)(hs:ss.length<=1000)(hw:ws.length<=1000)(hp:pos<=raw.length)(hr:raw.length<=9223372036854775807){K:KT}
  (hcl:∀d,d∈t.devs->optB d.cls=true)(hgn:∀d,d∈gs->nameB d.name=true)(hsn:∀d,d∈ss->nameB d.name=true)(hwn:∀d,d∈ws->nameB d.name=true)
  (hK:∀(s:Sm) (pos':Nat),smB s=true->pos'<=raw.length->K (encSm s) [tapeO raw pos',.arr 10 (sts.map encSm)]):
  ACall Tryz.prog 40 [.op 0 0,encT t,.agg [.lst (gs.map encDf),.lst (ss.map encDf),.lst (ws.map encWn),.os 1 10 0 sts.length,.nils,.nils]] [tapeO raw pos,.arr 10 (sts.map encSm)] K:=by
 refine ofnStm rfl rfl ?_
 (repeat' ((conv=>whnf);first|(with_reducible first|refine nNext raw _ _ zo zp hr fun m1 p1 hm1 hp1=>?_|refine enPickO raw _ gs hgn hg zp hr fun s p2 hso hp2=>?_|refine enPickO raw _ ss hsn hs zp hr fun s p2 hso hp2=>?_)|refine zG ?_|apply zA|(apply zI;intro h)|exact zT));(all_goals conv=>whnf)
 all_goals
  refine Jn.intro (Sm×Nat) (fun g=>⟨6,[(0,tapeO raw g.2),(1,.arr 10 (sts.map encSm)),(2,boxT t),(3,.box [.lst (gs.map encDf),.lst (ss.map encDf),.lst (ws.map encWn),.os 1 10 0 sts.length,.nils,.nils]),(4,smBox sm0),(5,smBox g.1)],[(0,.op 0 0),(4,.op 2 0),(5,.op 3 0),(6,.op 4 0),(7,.op 5 0)]⟩) (fun g=>g.2<=raw.length/\smB g.1=true) ?_ ?_
  ·(repeat' ((conv=>whnf);first|(with_reducible first|refine nNext raw _ _ zo zp hr fun m1 p1 hm1 hp1=>?_|refine enPickO raw _ gs hgn hg zp hr fun s p2 hso hp2=>?_|refine enPickO raw _ ss hsn hs zp hr fun s p2 hso hp2=>?_)|refine zG ?_|apply zA|(apply zI;intro h)|exact zT));(all_goals conv=>whnf)
   all_goals
    apply sm_exB
    ·(exact leA)
    ·with_reducible assumption
    ·exact sm_1 zw zw zw (by first|exact .inr ⟨rfl,rfl⟩|exact .inl ⟨rfl,by with_reducible assumption,by with_reducible assumption⟩)
  rintro⟨x,q⟩ ⟨hq,hx⟩
  simp only at hq hx⊢
  (repeat' ((conv=>whnf);first|refine zG ?_|apply zA|(apply zI;intro h)|exact zT));(all_goals conv=>whnf)
  refine Jn.intro (Sm×Nat) (fun g=>⟨6,[(0,tapeO raw g.2),(1,.arr 10 (sts.map encSm)),(2,boxT t),(3,.box [.lst (gs.map encDf),.lst (ss.map encDf),.lst (ws.map encWn),.os 1 10 0 sts.length,.nils,.nils]),(4,smBox sm0),(5,smBox g.1)],[(0,.op 0 0),(4,.op 2 0),(5,.op 3 0),(6,.op 4 0),(7,.op 5 0)]⟩) (fun g=>g.2<=raw.length/\smB g.1=true) ?_ ?_
  ·(repeat' ((conv=>whnf);first|(with_reducible first|refine nNext raw _ _ (by(try simp only[List.length_map]);omega) zw hr fun m1 p1 hm1 hp1=>?_|refine in_map (by simp only[List.length_map]at*;omega) ?_|refine ix_map_any (by simp only[List.length_map]at*;omega) fun r hrm=>?_)|refine zG ?_|apply zA|(apply zI;intro h)|exact zT));(all_goals conv=>whnf)
   all_goals first
    |(refine⟨(⟨x.permit,x.frm,x.to,x.svc,x.exc,x.exF,x.exT,r.cls,x.dur,x.pri⟩,p1),⟨zw,sm_cls hx zw (hcl r zw)⟩,?_⟩
      (exact leA)
      done)
    |(refine⟨(x,p1),⟨zw,hx⟩,?_⟩
      (exact leA)
      done)
    |(refine⟨(x,q),⟨zw,hx⟩,?_⟩
      (exact leA)
      done)
  clear hq hx q x
  rintro⟨x,q⟩ ⟨hq,hx⟩
  simp only at hq hx⊢
  (repeat' ((conv=>whnf);first|refine zG ?_|apply zA|(apply zI;intro h)|exact zT));(all_goals conv=>whnf)
  refine Jn.intro (Sm×Nat) (fun g=>⟨6,[(0,tapeO raw g.2),(1,.arr 10 (sts.map encSm)),(2,boxT t),(3,.box [.lst (gs.map encDf),.lst (ss.map encDf),.lst (ws.map encWn),.os 1 10 0 sts.length,.nils,.nils]),(4,smBox sm0),(5,smBox g.1)],[(0,.op 0 0),(4,.op 2 0),(5,.op 3 0),(6,.op 4 0),(7,.op 5 0)]⟩) (fun g=>g.2<=raw.length/\smB g.1=true) ?_ ?_
  ·(repeat' ((conv=>whnf);first|(with_reducible first|refine nNext raw _ _ (by(try simp only[List.length_map]);omega) zw hr fun m1 p1 hm1 hp1=>?_|refine in_map (by simp only[List.length_map]at*;omega) ?_|refine ix_map_any (by simp only[List.length_map]at*;omega) fun r hrm=>?_)|refine zG ?_|apply zA|(apply zI;intro h)|exact zT));(all_goals conv=>whnf)
   all_goals first
    |(refine⟨(⟨x.permit,x.frm,x.to,x.svc,x.exc,x.exF,x.exT,x.cls,r.name,x.pri⟩,p1),⟨zw,sm_dur hx (opt_nm (hwn r zw))⟩,?_⟩
      (exact leA)
      done)
    |(refine⟨(x,p1),⟨zw,hx⟩,?_⟩
      (exact leA)
      done)
    |(refine⟨(x,q),⟨zw,hx⟩,?_⟩
      (exact leA)
      done)
  clear hq hx q x
  rintro⟨x,q⟩ ⟨hq,hx⟩
  simp only at hq hx⊢
  (repeat' ((conv=>whnf);first|(with_reducible first|refine nNext raw _ _ zo zw hr fun m1 p1 hm1 hp1=>?_|refine in_nat zo ?_|refine ix_ints [0,0,1,5,1000] 5 rfl rfl zo fun c hc=>?_)|refine zG ?_|apply zA|(apply zI;intro h)|exact zT));(all_goals conv=>whnf)
  have hc2:0<=c/\c<=1000:=(show ∀c:Int,c∈[0,0,1,5,1000]->0<=c/\c<=1000 by decide) c hc
  exact hK ⟨x.permit,x.frm,x.to,x.svc,x.exc,x.exF,x.exT,x.cls,x.dur,c⟩ _ (sm_pri hx hc2.1 hc2.2) zw
end Go.Proofs.YtahhamfngafmcaaGreatDoor
