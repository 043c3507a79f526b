/- The reference's intents: Valid, exactly. -/
import Derived.Test.YtahhamfngafmcaaGreatDoorProg
import Derived.Test.YtahhamfngafmcaaGreatDoorM24
set_option linter.unusedVariables false
set_option linter.unusedSimpArgs false
set_option maxRecDepth 100000
set_option maxHeartbeats 4000000
namespace Go.Proofs.YtahhamfngafmcaaGreatDoor
open Go Go.Vm
theorem has_day{d:Nat}(hd:d<7)(v:Int):has [mkR (1440*(d:Int)) (1440*d+1439)] v=(decide (1440*(d:Int)<=v)&&decide (v<=1440*(d:Int)+1439)):=by
 have m1:(mkR (1440*(d:Int)) (1440*d+1439)).lo=1440*d:=mkR_lo zo zo zo zo
 have m2:(mkR (1440*(d:Int)) (1440*d+1439)).hi=1440*d+1439:=mkR_hi zo zo zo zo
 have e:has [mkR (1440*(d:Int)) (1440*d+1439)] v=(decide ((mkR (1440*(d:Int)) (1440*d+1439)).lo<=v)&&decide (v<=(mkR (1440*(d:Int)) (1440*d+1439)).hi)):=by simp[has]
 rw[e,m1,m2]
theorem inter_exists(l:List Rg){d:Nat}(hd:d<7):∃c,Canon c/\∀v,has c v=(has l v&&(decide (1440*(d:Int)<=v)&&decide (v<=1440*(d:Int)+1439))):=by
 obtain⟨x,hx,ex⟩:=sub_ex l [mkR (1440*(d:Int)) (1440*d+1439)]
 obtain⟨y,hy,ey⟩:=sub_ex l x
 refine⟨y,hy,fun v=>?_⟩
 rw[ey,ex,has_day hd]
 cases has l v<;>cases (decide (1440*(d:Int)<=v)&&decide (v<=1440*(d:Int)+1439))<;>rfl
theorem dayW_ne{l:List Rg}(hc:Canon l)(ht:∀r,r∈l->r.hi<=10079)(hn:l≠[]):1<=cntW l 7:=by
 obtain⟨r,hr⟩:=List.exists_mem_of_ne_nil _ hn
 have h1:=hc.1 r hr
 have h2:=ht r hr
 have h0:=r.l0
 have hd:(r.lo/1440).toNat<7:=by omega
 have hx:dayW l (r.lo/1440).toNat≠[]:=by
  intro e
  have:=(canO_spec (inter_exists l hd)).2 r.lo
  rw[show canO (fun v=>has l v&&(decide (1440*(((r.lo/1440).toNat:Nat):Int)<=v)&&decide (v<=1440*(((r.lo/1440).toNat:Nat):Int)+1439)))=dayW l (r.lo/1440).toNat from rfl,e,has_nil,has_iff.2 ⟨r,hr,Int.le_refl _,h1⟩,decide_eq_true zo,decide_eq_true zo]at this
  cases this
 have hl:=List.length_pos_iff.2 hx
 have:=le_sum_nat (f:=fun d=>(dayW l d).length) (List.mem_range.2 hd)
 unfold cntW
 omega
noncomputable def fmtN(l:List Rg):Nat:=if l=[]then 1 else 3*cntW l 7-1
open Classical in
noncomputable def fmtL(l:List Rg):Nat:=if Canon l/\∀r,r∈l->r.hi<=10079 then fmtN l else 0
theorem dqForm(l:List Rg)(hl:l.length<=4000){K:KT}(hK:∀ss:List ByteArray,ss.length=fmtL l->K (.lst (ss.map encSt)) []):ACall Tryz.prog 197 [encRs l] [] K:=by
 refine ACall.weak (ofq9Form rfl rfl ?_)
 (repeat' ((conv=>whnf);first|(with_reducible refine cqWin l zo fun s hs=>?_)|(refine sl_full (by rfl) ?_)|refine zG ?_|apply zA|(apply zI;intro h)|exact zT));(all_goals conv=>whnf)
 all_goals first
  |exact⟨_,Weak.nils,hK [] (by rw[fmtL,if_neg (fun hh=>by have:=hs.2 hh;simp_all)];rfl)⟩
  |exact⟨_,Weak.refl,hK [⟨#[110,101,118,101,114]⟩] (by
    have hl0:l=[]:=List.length_eq_zero_iff.1 (by simp only[List.length_map]at*;omega)
    rw[fmtL,if_pos (hs.1 (by simp_all)),fmtN,if_pos hl0];rfl)⟩
  |skip
 have hv:Canon l/\∀r,r∈l->r.hi<=10079:=hs.1 (by simp_all)
 have hne:l≠[]:=fun e=>by subst e;simp_all
 rw[fmtL,if_pos hv,fmtN,if_neg hne]at hK
 refine Lp.intro (Nat×List ByteArray) (fun g=>⟨1,[(0,.arr 1 (g.2.map encSt))],[(0,encRs l),(3,.os 0 1 0 g.2.length),(4,.v (.int .i64 g.1))]⟩)
  (fun g=>g.1<=7/\g.2.length<=40000*g.1/\g.2.length=3*cntW l g.1-1) (fun g=>7-g.1) (0,[]) ⟨Nat.zero_le _,Nat.zero_le _,rfl⟩ ?_ ?_
 ·(exact leA)
 rintro⟨d,ss⟩ ⟨hd,hss,hsn⟩
 simp only at hd hss hsn⊢
 rcases Nat.lt_or_ge d 7 with hd7|hd7
 ·have hint:∀{K:KT},(∀out,Canon out->(∀v,has out v=(has l v&&has [mkR (1440*d) (1440*d+1439)] v))->out.length<=2*(l.length+1)+1->K (encRs out) [])->ACall Tryz.prog 214 [encRs l,.lst [encR (mkR (1440*d) (1440*d+1439))]] [] K:=fun h=>c26 l [mkR (1440*d) (1440*d+1439)] zo zx h
  have m1:(mkR (1440*(d:Int)) (1440*d+1439)).lo=1440*d:=mkR_lo zo zo zo zo
  have m2:(mkR (1440*(d:Int)) (1440*d+1439)).hi=1440*d+1439:=mkR_hi zo zo zo zo
  have hint2:∀{K:KT},(∀out,Canon out->(∀v,has out v=(has l v&&has [mkR (1440*d) (1440*d+1439)] v))->out.length<=2*(l.length+1)+1->K (encRs out) [])->ACall Tryz.prog 214 [encRs l,.lst [.agg [.v (.int .u32 (1440*d)),.v (.int .u32 (1440*d+1439))]]] [] K:=fun h=>by
   have:=hint h
   simp only[encR,m1,m2]at this
   exact this
  (repeat' ((conv=>whnf);first|(with_reducible first|refine wr_i64 rfl zo zo ?_|refine wr_u32 rfl zo zo ?_)|(refine sl_full (by rfl) ?_)|(with_reducible refine hint2 fun out ho hh hn=>?_)|refine zG ?_|apply zA|(apply zI;intro h)|exact zT));(all_goals conv=>whnf)
  have hday:dayW l d=out:=dayW_eq ho fun v=>by
   rw[hh v]
   rw[has_day hd7]
  have hcs:=cntW_succ l d
  rw[hday]at hcs
  refine Lp.intro (Nat×List ByteArray) (fun g=>⟨1,[(0,.arr 1 (g.2.map encSt))],[(0,encRs l),(3,.os 0 1 0 g.2.length),(4,.v (.int .i64 d)),(5,.v (.int .u32 (1440*d))),(6,encRs out),(7,.v (.int .i64 g.1))]⟩)
   (fun g=>g.1<=out.length/\g.2.length<=ss.length+3*g.1/\g.2.length=3*(cntW l d+g.1)-1) (fun g=>out.length-g.1) (0,ss) ⟨Nat.zero_le _,by simp only;omega,by simp only;omega⟩ ?_ ?_
  ·(exact leA)
  rintro⟨i,st⟩ ⟨hi,hst,hstn⟩
  simp only at hi hst hstn⊢
  rcases Nat.lt_or_ge i out.length with hil|hil
  ·obtain⟨r,hr⟩:=gex hil
   have hrm:=List.mem_of_getElem? hr
   have hle:=canon_le ho hrm
   have hb:∀v,r.lo<=v->v<=r.hi->1440*(d:Int)<=v/\v<=1440*d+1439:=fun v h1 h2=>by
    have h3:has out v=true:=has_iff.2 ⟨r,hrm,h1,h2⟩
    rw[hh]at h3
    simp only[Bool.and_eq_true]at h3
    obtain⟨q,hq,q1,q2⟩:=has_iff.1 h3.2
    simp only[List.mem_singleton]at hq
    subst hq
    rw[m1]at q1;rw[m2]at q2
    exact⟨q1,q2⟩
   have hb1:=hb r.lo (Int.le_refl _) hle
   have hb2:=hb r.hi hle (Int.le_refl _)
   have hT:∀(v:Int),0<=v->v<=2000->∀{K:KT},(∀s:ByteArray,s.size<=10000->K (.v (.string s)) [])->ACall Tryz.prog 215 [.v (.int .i64 v)] [] K:=fun v v0 v1 K h=>by
    obtain⟨n,rfl⟩:=Int.eq_ofNat_of_zero_le v0
    exact cqText n zo fun s hs=>h s zo
   (repeat' ((conv=>whnf);first|refine zG ?_|apply zA|(apply zI;intro h)|exact zT));(all_goals conv=>whnf)
   refine Jn.intro (List ByteArray) (fun g=>⟨1,[(0,.arr 1 (g.map encSt))],[(0,encRs l),(3,.os 0 1 0 g.length),(4,.v (.int .i64 d)),(5,.v (.int .u32 (1440*d))),(6,encRs out),(7,.v (.int .i64 i))]⟩) (fun g=>g.length<=st.length+1/\g.length=3*(cntW l d+i)) ?_ ?_
   ·(repeat' ((conv=>whnf);first|refine zG ?_|apply zA|(apply zI;intro h)|exact zT));(all_goals conv=>whnf)
    ·refine⟨st++[⟨#[44]⟩],⟨by simp,by simp only[List.length_append,List.length_cons,List.length_nil];omega⟩,?_⟩
     simp only[List.map_append,List.length_append,List.map_cons,List.map_nil,List.length_cons,List.length_nil]
     (exact leA)
    ·refine⟨st,⟨by omega,by omega⟩,?_⟩
     (exact leA)
   rintro su ⟨hsu,hsun⟩
   have z1:(⟨#[45]⟩:ByteArray).size=1:=rfl
   have hd0:d<dayL.length:=hd7
   (repeat' ((conv=>whnf);first|(with_reducible first|refine cqDays ?_|refine in_map hd0 ?_|refine ix_map_any hd0 fun c hc=>?_|refine in_map hil ?_|refine ix_map hr ?_|refine wr_u32 rfl zo zo ?_|refine wr_i64 rfl zo zo ?_|refine hT _ zo zo fun s hs=>?_|refine Ob.intro (by(try simp only[ByteArray.size_append]);omega) ?_)|refine zG ?_|apply zA|(apply zI;intro h)|exact zT));(all_goals conv=>whnf)
   rename_i q1 q2 q3 sA hsA
   refine⟨(i+1,su++[c,sA++⟨#[45]⟩++s]),⟨by simp only;omega,by simp only[List.length_append,List.length_cons,List.length_nil];omega,by simp only[List.length_append,List.length_cons,List.length_nil];omega⟩,by simp only;omega,?_⟩
   simp only[List.map_append,List.length_append,List.map_cons,List.map_nil,List.length_cons,List.length_nil,Int.natCast_add,Int.natCast_one]
   (exact leA)
  ·(repeat' ((conv=>whnf);first|refine zG ?_|apply zA|(apply zI;intro h)|exact zT));(all_goals conv=>whnf)
   refine⟨(d+1,st),⟨by simp only;omega,by simp only;omega,by simp only;omega⟩,by simp only;omega,?_⟩
   rw[show(((d+1,st):Nat×List ByteArray).1:Int)=(d:Int)+1 from by simp only;omega]
   (exact leA)
 ·(repeat' ((conv=>whnf);first|(with_reducible refine sl_full (List.length_map ..) ?_)|refine zG ?_|apply zA|(apply zI;intro h)|exact zT));(all_goals conv=>whnf)
  exact⟨_,Weak.refl,hK ss (by rw[hsn,show d=7 by omega])⟩
theorem win_iff{l:List Rg}:WinOk l↔(Canon l/\∀r,r∈l->r.hi<=10079)/\fmtN l<=47:=by
 constructor
 ·intro h
  refine⟨⟨h.can,h.top⟩,?_⟩
  have:=h.few
  unfold fmtN;split<;>omega
 ·rintro⟨⟨h1,h2⟩,h3⟩
  refine⟨h1,h2,?_⟩
  unfold fmtN at h3
  by_cases hl:l=[]
  ·subst hl
   have e:∀d,dayW [] d=[]:=fun d=>dayW_eq canon_nil fun v=>by rw[has_nil];rfl
   unfold cntW
   simp only[e,List.length_nil]
   decide
  ·rw[if_neg hl]at h3;omega
theorem djWri(l:List Rg)(hl:l.length<=4000){K:KT}(hK:K (.sb (winB l)) []):ACall Tryz.prog 162 [encRs l] [] K:=by
 refine ACall.bool (ofj16Wri rfl rfl ?_)
 (repeat' ((conv=>whnf);first|(with_reducible first|refine cqWin l zo fun s hs=>?_|refine dqForm l hl fun ss hss=>?_)|refine zG ?_|apply zA|(apply zI;intro h)|exact zT));(all_goals conv=>whnf)
 ·refine fin_s hK ?_
  rw[fmtL,if_pos (hs.1 h)]at hss
  rw[Bool.eq_iff_iff,winB_iff,win_iff,decide_eq_true_eq,List.length_map]
  have:=hs.1 h
  constructor
  ·rintro⟨_,h2⟩;omega
  ·intro h2;exact⟨this,by omega⟩
 ·refine fin_f hK ?_
  rw[Bool.eq_false_iff,ne_eq,winB_iff,win_iff]
  rintro⟨h1,_⟩
  rw[hs.2 h1]at h;cases h
theorem djOpt(s:ByteArray){K:KT}(hK:K (.sb (optB s)) []):ACall Tryz.prog 198 [.v (.string s)] [] K:=by
 refine ACall.bool (ofj16Opt rfl rfl ?_)
 (repeat' ((conv=>whnf);first|(with_reducible refine crName _ ?_)|refine zG ?_|apply zA|(apply zI;intro h)|exact zT));(all_goals conv=>whnf)
 ·exact fin_t hK (by unfold optB sEq;simp_all)
 ·exact fin_s hK (by unfold optB sEq;simp_all)
theorem djPort(n:Int){K:KT}(hK:K (.sb (ptB n)) []):ACall Tryz.prog 164 [.v (.int .i64 n)] [] K:=by
 refine ACall.bool (ofj16Port rfl rfl ?_)
 (repeat' ((conv=>whnf);first|refine zG ?_|apply zA|(apply zI;intro h)|exact zT));(all_goals conv=>whnf)
 ·exact fin_s hK (by unfold ptB;simp_all)
 ·exact fin_f hK (by unfold ptB;rw[decide_eq_false zo];rfl)
theorem djPorts(lo hi n:Int){K:KT}(hK:K (.sb (decide (n<=lo/\lo<=hi/\hi<=65535))) []):ACall Tryz.prog 165 [.agg [.v (.int .u32 lo),.v (.int .u32 hi)],.v (.int .u32 n)] [] K:=by
 refine ACall.bool (ofj16Ports rfl rfl ?_)
 (repeat' ((conv=>whnf);first|refine zG ?_|apply zA|(apply zI;intro h)|exact zT));(all_goals conv=>whnf)
 all_goals first
  |exact fin_s hK (by rw[Bool.eq_iff_iff];simp_all)
  |exact fin_f hK (decide_eq_false zo)
  |trace_state
theorem djFind(l:List Df)(s:ByteArray)(hl:l.length<=1000){K:KT}(hK:K (.v (.int .i64 (dfIx l s))) []):ACall Tryz.prog 166 [.lst (l.map encDf),.v (.string s)] [] K:=by
 unfold dfIx at hK
 refine ofj16Find rfl rfl ?_
 (repeat' ((conv=>whnf);first|refine zG ?_|apply zA|(apply zI;intro h)|exact zT));(all_goals conv=>whnf)
 refine Lp.intro Nat (fun i=>⟨0,[],[(0,.lst (l.map encDf)),(1,.v (.string s)),(5,.v (.int .i64 i))]⟩) (fun i=>i<=l.length/\∀(j:Nat) y,j<i->l[j]? =some y->sEq y.name s=false) (fun i=>l.length-i) 0 ⟨Nat.zero_le _,fun i y hi=>absurd hi (Nat.not_lt_zero _)⟩ ?_ ?_
 ·(exact leA)
 intro i ⟨hi,hinv⟩
 rcases Nat.lt_or_ge i l.length with hil|hil
 ·obtain⟨x,hx⟩:=gex hil
  (repeat' ((conv=>whnf);first|(with_reducible first|refine in_map hil ?_|refine ix_map hx ?_)|refine zG ?_|apply zA|(apply zI;intro h)|exact zT));(all_goals conv=>whnf)
  ·rw[firstIx_at (p:=fun d=>sEq d.name s) hx (show sEq x.name s=true from h) hinv]at hK
   exact hK
  ·refine⟨i+1,⟨hil,before_succ (p:=fun d:Df=>sEq d.name s) hx h hinv⟩,by omega,?_⟩
   rw[Int.natCast_add,Int.natCast_one]
   (exact leA)
 ·(repeat' ((conv=>whnf);first|refine zG ?_|apply zA|(apply zI;intro h)|exact zT));(all_goals conv=>whnf)
  rw[firstIx_none (p:=fun d=>sEq d.name s) (before_all hil hinv)]at hK
  exact hK
theorem djFindW(l:List Wn)(s:ByteArray)(hl:l.length<=1000){K:KT}(hK:K (.v (.int .i64 (wnIx l s))) []):ACall Tryz.prog 120 [.lst (l.map encWn),.v (.string s)] [] K:=by
 unfold wnIx at hK
 refine ofj16FindW rfl rfl ?_
 (repeat' ((conv=>whnf);first|refine zG ?_|apply zA|(apply zI;intro h)|exact zT));(all_goals conv=>whnf)
 refine Lp.intro Nat (fun i=>⟨0,[],[(0,.lst (l.map encWn)),(1,.v (.string s)),(5,.v (.int .i64 i))]⟩) (fun i=>i<=l.length/\∀(j:Nat) y,j<i->l[j]? =some y->sEq y.name s=false) (fun i=>l.length-i) 0 ⟨Nat.zero_le _,fun i y hi=>absurd hi (Nat.not_lt_zero _)⟩ ?_ ?_
 ·(exact leA)
 intro i ⟨hi,hinv⟩
 rcases Nat.lt_or_ge i l.length with hil|hil
 ·obtain⟨x,hx⟩:=gex hil
  (repeat' ((conv=>whnf);first|(with_reducible first|refine in_map hil ?_|refine ix_map hx ?_)|refine zG ?_|apply zA|(apply zI;intro h)|exact zT));(all_goals conv=>whnf)
  ·rw[firstIx_at (p:=fun d=>sEq d.name s) hx (show sEq x.name s=true from h) hinv]at hK
   exact hK
  ·refine⟨i+1,⟨hil,before_succ (p:=fun d:Wn=>sEq d.name s) hx h hinv⟩,by omega,?_⟩
   rw[Int.natCast_add,Int.natCast_one]
   (exact leA)
 ·(repeat' ((conv=>whnf);first|refine zG ?_|apply zA|(apply zI;intro h)|exact zT));(all_goals conv=>whnf)
  rw[firstIx_none (p:=fun d=>sEq d.name s) (before_all hil hinv)]at hK
  exact hK
theorem eqw_It{k k' pa pb qa qb pr pr' lo hi lo' hi':Int}{n n':ByteArray}{K:Bool->Prop}(hk:K (decide (k=k')&&(sEq n n'&&decide (pa=qa/\pb=qb/\pr=pr'/\lo=lo'/\hi=hi')))):EqV Tryz.prog 56 [.v (.int .i64 k),.v (.string n),.v (.int .u32 pa),.v (.int .i64 pb),.v (.int .i64 pr),.v (.int .u32 lo),.v (.int .u32 hi)]
  [.v (.int .i64 k'),.v (.string n'),.v (.int .u32 qa),.v (.int .i64 qb),.v (.int .i64 pr'),.v (.int .u32 lo'),.v (.int .u32 hi')] K:=by
 refine eqv_of (b:=(k==k'&&(n.toList==n'.toList&&((pa==qa&&(pb==qb&&true))&&(pr==pr'&&((lo==lo'&&(hi==hi'&&true))&&true)))))) rfl rfl zk zk ?_
 have e:(k==k'&&(n.toList==n'.toList&&((pa==qa&&(pb==qb&&true))&&(pr==pr'&&((lo==lo'&&(hi==hi'&&true))&&true)))))=(decide (k=k')&&(sEq n n'&&decide (pa=qa/\pb=qb/\pr=pr'/\lo=lo'/\hi=hi'))):=by
  unfold sEq
  rw[Bool.eq_iff_iff]
  simp only[Bool.and_eq_true,beq_iff_eq,decide_eq_true_eq,and_true,and_assoc]
 rw[e];exact hk
theorem eqw_Rg{lo hi lo' hi':Int}{K:Bool->Prop}(hk:K (decide (lo=lo'/\hi=hi'))):EqV Tryz.prog 54 [.v (.int .u32 lo),.v (.int .u32 hi)] [.v (.int .u32 lo'),.v (.int .u32 hi')] K:=by
 refine eqv_of (b:=(lo==lo'&&(hi==hi'&&true))) rfl rfl zk zk ?_
 have e:(lo==lo'&&(hi==hi'&&true))=decide (lo=lo'/\hi=hi'):=by
  rw[Bool.eq_iff_iff]
  simp only[Bool.and_eq_true,beq_iff_eq,decide_eq_true_eq,and_true]
 rw[e];exact hk
theorem sEq_self(s:ByteArray):sEq s s=true:=by unfold sEq;simp
theorem djItem(x:It)(g:Bool){K:KT}(hK:K (.sb (itB x g)) []):ACall Tryz.prog 195 [encIt x,.sb g] [] K:=by
 refine ACall.bool (ofj16Item rfl rfl ?_)
 have hs:=sEq_self x.name
 (repeat' ((conv=>whnf);first|(with_reducible first|refine crName _ ?_|refine crVal x.pf ?_|refine djPorts _ _ _ ?_)|(refine eqw_It ?_)|(refine eqw_Rg ?_)|refine zG ?_|apply zA|(apply zI;intro h)|exact zT));(all_goals conv=>whnf)
 all_goals first
  |refine fin_t hK ?_
  |refine fin_f hK ?_
  |refine fin_s hK ?_
 all_goals
  unfold itB
  have hl0:=x.ports.l0
  simp_all[itN,itP,itS,prB]
 all_goals first
  |omega
  |(rw[if_neg zo,if_neg zo];intros;omega)
theorem sEq_eq{a b:ByteArray}(h:sEq a b=true):a=b:=by
 rw[sEq_data]at h
 have h:=of_decide_eq_true (by simpa using h:decide (a.data.toList=b.data.toList)=true)
 exact ByteArray.ext (Array.ext' h)
def findD(l:List Df)(s:ByteArray):Option Nat:=l.findIdx? fun d=>sEq d.name s
theorem findD_some{l:List Df}{s:ByteArray}{n:Nat}(h:findD l s=some n):∃d,l[n]? =some d/\d.name=s/\n<l.length:=by
 unfold findD at h
 rw[List.findIdx?_eq_some_iff_getElem]at h
 obtain⟨h1,h2,_⟩:=h
 exact⟨_,List.getElem?_eq_getElem h1,sEq_eq h2,h1⟩
theorem firstIx_find(l:List Df)(s:ByteArray):firstIx (fun d=>sEq d.name s) l=match findD l s with
  |some n=>(n:Int)
  |none=> -1:=rfl
section
variable {S:Type} (v:It->S->Int×S)
def folI(rec:ByteArray->List Nat->S->Int×List Nat×S):List It->List Nat->S->Int×List Nat×S
 |[],d,s=>(0,d,s)
 |x::r,d,s=>
  let q:=if x.kind=3 then rec x.name d s else((v x s).1,d,(v x s).2)
  if q.1=0 then folI rec r q.2.1 q.2.2 else q
def fol(l:List Df):Nat->List Nat->ByteArray->List Nat->S->Int×List Nat×S
 |0,_,_,d,s=>(8,d,s)
 |k+1,p,nm,d,s=>match findD l nm with
  |none=>(5,d,s)
  |some n=>if n∈p then(8,d,s)else if n∈d then(0,d,s)else
   let q:=folI v (fol l k (p++[n])) (((l[n]?).map (·.items)).getD []) d s
   if q.1=0 then(0,q.2.1++[n],q.2.2)else q
theorem folI_nil(rec:ByteArray->List Nat->S->Int×List Nat×S)(d:List Nat)(s:S):folI v rec [] d s=(0,d,s):=rfl
theorem folI_cons(rec:ByteArray->List Nat->S->Int×List Nat×S)(x:It)(r:List It)(d:List Nat)(s:S):folI v rec (x::r) d s=
  if(if x.kind=3 then rec x.name d s else((v x s).1,d,(v x s).2)).1=0 then folI v rec r (if x.kind=3 then rec x.name d s else((v x s).1,d,(v x s).2)).2.1 (if x.kind=3 then rec x.name d s else((v x s).1,d,(v x s).2)).2.2
  else(if x.kind=3 then rec x.name d s else((v x s).1,d,(v x s).2)):=rfl
end
open Classical in
noncomputable def nameM(l:List Df)(p:List Nat):Value->Option AV:=fun k=>if ∃n d,n∈p/\l[n]? =some d/\k=.string d.name then some (.sb true)else none
def Firsts(l:List Df)(p:List Nat):Prop:=∀n,n∈p->∀d,l[n]? =some d->findD l d.name=some n
theorem Firsts.nil{l:List Df}:Firsts l []:=fun n h=>by cases h
theorem Firsts.snoc{l:List Df}{p:List Nat}{s:ByteArray}{n:Nat}(h:Firsts l p)(hn:findD l s=some n):Firsts l (p++[n]):=fun m hm d hd=>by
 rcases List.mem_append.1 hm with hm|hm
 ·exact h m hm d hd
 ·rw[List.mem_singleton.1 hm]at hd⊢
  obtain⟨d',h1,h2,_⟩:=findD_some hn
  rw[hd]at h1;cases h1
  rw[h2];exact hn
theorem nameM_in{l:List Df}{p:List Nat}{s:ByteArray}{n:Nat}(hn:findD l s=some n)(h:n∈p):nameM l p (.string s)=some (.sb true):=by
 obtain⟨d,h1,h2,_⟩:=findD_some hn
 rw[nameM,if_pos ⟨n,d,h,h1,by rw[h2]⟩]
theorem nameM_out{l:List Df}{p:List Nat}{s:ByteArray}{n:Nat}(hf:Firsts l p)(hn:findD l s=some n)(h:n∉p):nameM l p (.string s)=none:=by
 rw[nameM,if_neg]
 rintro⟨m,d,h1,h2,h3⟩
 have e:s=d.name:=by simpa using h3
 have:=hf m h1 d h2
 rw[<-e,hn]at this
 cases this
 exact h h1
theorem nameM_nil(l:List Df):(fun _=>none)=nameM l []:=by
 funext k
 rw[nameM,if_neg]
 rintro⟨n,d,h,_⟩;cases h
theorem updM_name{l:List Df}{p:List Nat}{s:ByteArray}{n:Nat}(hn:findD l s=some n):nameM l (p++[n])=updM (nameM l p) (.string s) (.sb true):=by
 obtain⟨d,h1,h2,_⟩:=findD_some hn
 funext k
 unfold updM
 split
 ·rename_i e
  rw[e,nameM_in hn zx]
 ·rename_i e
  unfold nameM
  have:(∃m d,m∈p++[n]/\l[m]? =some d/\k=.string d.name)↔∃m d,m∈p/\l[m]? =some d/\k=.string d.name:=by
   constructor
   ·rintro⟨m,d',g1,g2,g3⟩
    rcases List.mem_append.1 g1 with g1|g1
    ·exact⟨m,d',g1,g2,g3⟩
    ·rw[List.mem_singleton.1 g1,h1]at g2;cases g2
     exact absurd (g3.trans (by rw[h2])) e
   ·rintro⟨m,d',g1,g2,g3⟩
    exact⟨m,d',List.mem_append_left _ g1,g2,g3⟩
  by_cases hx:∃m d,m∈p/\l[m]? =some d/\k=.string d.name
  ·rw[if_pos hx,if_pos (this.2 hx)]
  ·rw[if_neg hx,if_neg (fun h=>hx (this.1 h))]
theorem delM_name{l:List Df}{p:List Nat}{s:ByteArray}{n:Nat}(hf:Firsts l p)(hn:findD l s=some n)(h:n∉p):nameM l p=delM (nameM l (p++[n])) (.string s):=by
 funext k
 unfold delM
 split
 ·rename_i e
  rw[e,nameM_out hf hn h]
 ·rename_i e
  rw[updM_name hn,updM,if_neg e]
structure Fine (l:List Df) (p d:List Nat):Prop where
 pn:p.Nodup
 dn:d.Nodup
 pf:Firsts l p
 df:Firsts l d
 pl:∀n,n∈p->n<l.length
 dl:∀n,n∈d->n<l.length
 dj:∀n,n∈p->n∉d
theorem Fine.push{l:List Df}{p d:List Nat}{s:ByteArray}{n:Nat}(h:Fine l p d)(hn:findD l s=some n)(hp:n∉p)(hd:n∉d):Fine l (p++[n]) d:=
 ⟨List.nodup_append.2 ⟨h.pn,by simp,fun a ha b hb e=>by rw[List.mem_singleton.1 hb]at e;exact hp (e▸ha)⟩,h.dn,h.pf.snoc hn,h.df,fun m hm=>by
  rcases List.mem_append.1 hm with hm|hm
  ·exact h.pl m hm
  ·rw[List.mem_singleton.1 hm];exact(findD_some hn).choose_spec.2.2,h.dl,fun m hm=>by
  rcases List.mem_append.1 hm with hm|hm
  ·exact h.dj m hm
  ·rw[List.mem_singleton.1 hm];exact hd⟩
theorem Fine.pop{l:List Df}{p d:List Nat}{s:ByteArray}{n:Nat}(h:Fine l (p++[n]) d)(hn:findD l s=some n):Fine l p (d++[n]):=by
 have hnd:n∉d:=h.dj n zx
 have hp:=List.nodup_append.1 h.pn
 exact⟨hp.1,List.nodup_append.2 ⟨h.dn,by simp,fun a ha b hb e=>by rw[List.mem_singleton.1 hb]at e;exact hnd (e▸ha)⟩,fun m hm=>h.pf m (List.mem_append_left _ hm),h.df.snoc hn,
  fun m hm=>h.pl m (List.mem_append_left _ hm),fun m hm=>by
   rcases List.mem_append.1 hm with hm|hm
   ·exact h.dl m hm
   ·rw[List.mem_singleton.1 hm];exact h.pl n zx,fun m hm hmd=>by
   rcases List.mem_append.1 hmd with hmd|hmd
   ·exact h.dj m (List.mem_append_left _ hm) hmd
   ·exact hp.2.2 m hm n zx (List.mem_singleton.1 hmd)⟩
theorem nodupLe{l:List Nat}{m:Nat}(h:l.Nodup)(hb:∀x,x∈l->x<m):l.length<=m:=by
 have:=nodup_sub (l:=l.map fun n:Nat=>(n:Int)) (m:=(List.range m).map fun n:Nat=>(n:Int)) (by
  unfold List.Nodup at*
  rw[List.pairwise_map]
  exact h.imp fun hab e=>hab zo) (fun x hx=>by
  obtain⟨n,hn,rfl⟩:=List.mem_map.1 hx
  exact List.mem_map.2 ⟨n,List.mem_range.2 (hb n hn),rfl⟩)
 simpa using this
theorem Fine.small{l:List Df}{p d:List Nat}(h:Fine l p d):d.length+p.length<=l.length:=by
 have h1:(d++p).Nodup:=List.nodup_append.2 ⟨h.dn,h.pn,fun a ha b hb e=>h.dj b hb (e▸ha)⟩
 have h2:∀n,n∈d++p->n<l.length:=fun n hn=>by
  rcases List.mem_append.1 hn with hn|hn
  ·exact h.dl n hn
  ·exact h.pl n hn
 have h3:=nodupLe h1 h2
 rw[List.length_append]at h3
 exact h3
section
variable {S:Type} (v:It->S->Int×S) (sz:S->Nat) (hv:∀x s,(v x s).1=0->sz (v x s).2<=sz s+1000)
structure Fed (l:List Df) (p d:List Nat) (s:S) (d':List Nat) (s':S) (c:Nat):Prop where
 fine:Fine l p d'
 le:d.length<=d'.length
 size:sz s'+1000000*d.length<=sz s+1000000*d'.length+c
include hv
theorem folI_fed{l:List Df}{p:List Nat}{rec:ByteArray->List Nat->S->Int×List Nat×S}(hrec:∀nm d s,Fine l p d->(rec nm d s).1=0->Fed sz l p d s (rec nm d s).2.1 (rec nm d s).2.2 0):
  ∀(its:List It) (d:List Nat) (s:S),Fine l p d->(folI v rec its d s).1=0->Fed sz l p d s (folI v rec its d s).2.1 (folI v rec its d s).2.2 (1000*its.length)
 |[],d,s,hf,_=>⟨hf,Nat.le_refl _,by simp[folI]⟩
 |x::r,d,s,hf,h=>by
  rw[folI_cons]at h⊢
  have hq:(if x.kind=3 then rec x.name d s else((v x s).1,d,(v x s).2)).1=0->Fed sz l p d s (if x.kind=3 then rec x.name d s else((v x s).1,d,(v x s).2)).2.1 (if x.kind=3 then rec x.name d s else((v x s).1,d,(v x s).2)).2.2 1000:=by
   by_cases hk:x.kind=3
   ·rw[if_pos hk]
    intro h0
    have:=hrec x.name d s hf h0
    exact⟨this.fine,this.le,by have:=this.size;omega⟩
   ·rw[if_neg hk]
    intro h0
    exact⟨hf,Nat.le_refl _,by have:=hv x s h0;simp only;omega⟩
  generalize (if x.kind=3 then rec x.name d s else((v x s).1,d,(v x s).2))=q at*
  by_cases h0:q.1=0
  ·rw[if_pos h0]at h⊢
   have hq:=hq h0
   have h2:=folI_fed hrec r q.2.1 q.2.2 hq.fine h
   exact⟨h2.fine,Nat.le_trans hq.le h2.le,by have:=hq.size;have:=h2.size;rw[List.length_cons];omega⟩
  ·rw[if_neg h0]at h;exact absurd h h0
theorem fol_fed(l:List Df)(hit:∀d,d∈l->d.items.length<=999):∀(k:Nat) (p:List Nat) (nm:ByteArray) (d:List Nat) (s:S),Fine l p d->(fol v l k p nm d s).1=0->
  Fed sz l p d s (fol v l k p nm d s).2.1 (fol v l k p nm d s).2.2 0
 |0,p,nm,d,s,hf,h=>by simp[fol]at h
 |k+1,p,nm,d,s,hf,h=>by
  unfold fol at h⊢
  cases hn:findD l nm with
  |none=>simp[hn]at h
  |some n=>
   simp only[hn]at h⊢
   split at h
   ·simp at h
   rename_i hp
   rw[if_neg hp]
   split at h
   ·rename_i hd
    rw[if_pos hd]
    exact⟨hf,Nat.le_refl _,by simp⟩
   rename_i hd
   rw[if_neg hd]
   obtain⟨df,hdf,_⟩:=findD_some hn
   simp only[hdf,Option.map_some,Option.getD_some]at h⊢
   have hpush:=hf.push hn hp hd
   split at h
   ·rename_i h0
    rw[if_pos h0]
    have h1:=folI_fed v sz hv (fun nm d s hf h=>fol_fed l hit k (p++[n]) nm d s hf h) df.items d s hpush h0
    have hlen:=hit df (List.mem_of_getElem? hdf)
    exact⟨h1.fine.pop hn,by rw[List.length_append];have:=h1.le;omega,by have:=h1.size;simp only[List.length_append,List.length_singleton];omega⟩
   ·rename_i h0;exact absurd h h0
end
theorem fineNil(l:List Df):Fine l [] []:=⟨List.Pairwise.nil,List.Pairwise.nil,Firsts.nil,Firsts.nil,fun n h=>(by cases h),fun n h=>(by cases h),fun n h=>(by cases h)⟩
inductive Lead {U:Type} (l:List Df) (vis:It->U->Prop):ByteArray->U->Prop
 |here {nm:ByteArray} {n:Nat} {d:Df} {x:It} {u:U} (h1:findD l nm=some n) (h2:l[n]? =some d) (h3:x∈d.items) (h4:x.kind≠3) (h5:vis x u):Lead l vis nm u
 |there {nm:ByteArray} {n:Nat} {d:Df} {x:It} {u:U} (h1:findD l nm=some n) (h2:l[n]? =some d) (h3:x∈d.items) (h4:x.kind=3) (h5:Lead l vis x.name u):Lead l vis nm u
inductive Good (l:List Df) (ok:It->Bool):ByteArray->Prop
 |mk {nm:ByteArray} {n:Nat} {d:Df} (h1:findD l nm=some n) (h2:l[n]? =some d) (h3:∀x,x∈d.items->x.kind≠3->ok x=true) (h4:∀x,x∈d.items->x.kind=3->Good l ok x.name):Good l ok nm
inductive Need (l:List Df):Nat->Nat->Prop
 |one {n m:Nat} {d:Df} {x:It} (h1:l[n]? =some d) (h2:x∈d.items) (h3:x.kind=3) (h4:findD l x.name=some m):Need l n m
 |more {n m k:Nat} (h1:Need l n m) (h2:Need l m k):Need l n k
theorem Need.first{l:List Df}{n k:Nat}(h:Need l n k):∃d x m,l[n]? =some d/\x∈d.items/\x.kind=3/\findD l x.name=some m/\(m=k\/Need l m k):=by
 induction h with
 |one h1 h2 h3 h4=>exact⟨_,_,_,h1,h2,h3,h4,.inl rfl⟩
 |more h1 h2 ih1 ih2=>
  obtain⟨d,x,m,g1,g2,g3,g4,g5⟩:=ih1
  refine⟨d,x,m,g1,g2,g3,g4,.inr ?_⟩
  rcases g5 with rfl|g5
  ·exact h2
  ·exact .more g5 h2
section
variable {S U:Type} (v:It->S->Int×S) (mem:S->U->Prop) (vis:It->U->Prop) (ok:It->Bool)
structure Vis:Prop where
 add:∀x s,(v x s).1=0->∀u,mem (v x s).2 u↔(mem s u\/vis x u)
 ok:∀x s,(v x s).1=0↔ok x=true
structure Closed (l:List Df) (d:List Nat) (s:S):Prop where
 it:∀n,n∈d->∀df,l[n]? =some df->∀x,x∈df.items->x.kind≠3->∀u,vis x u->mem s u
 nm:∀n,n∈d->∀df,l[n]? =some df->∀x,x∈df.items->x.kind=3->∃m,m∈d/\findD l x.name=some m
 good:∀n,n∈d->∀nm,findD l nm=some n->Good l ok nm
structure Fol (l:List Df) (p:List Nat) (d:List Nat) (s:S) (d':List Nat) (s':S) (new:U->Prop):Prop where
 fine:Fine l p d'
 closed:Closed mem vis ok l d' s'
 sub:∀n,n∈d->n∈d'
 up:∀u,mem s u->mem s' u
 dn:∀u,mem s' u->mem s u\/new u
theorem lead_done{l:List Df}{d:List Nat}{s:S}(h:Closed mem vis ok l d s){nm:ByteArray}{u:U}(hl:Lead l vis nm u):∀m,m∈d->findD l nm=some m->mem s u:=by
 induction hl with
 |here h1 h2 h3 h4 h5=>
  intro m hm hf
  rw[h1]at hf;cases hf
  exact h.it _ hm _ h2 _ h3 h4 _ h5
 |there h1 h2 h3 h4 h5 ih=>
  intro m hm hf
  rw[h1]at hf;cases hf
  obtain⟨m',h6,h7⟩:=h.nm _ hm _ h2 _ h3 h4
  exact ih m' h6 h7
variable (hv:Vis v mem vis ok)
include hv
theorem folI_fol{l:List Df}{p:List Nat}{rec:ByteArray->List Nat->S->Int×List Nat×S}
  (hrec:∀nm d s,Fine l p d->Closed mem vis ok l d s->(rec nm d s).1=0->Fol mem vis ok l p d s (rec nm d s).2.1 (rec nm d s).2.2 (Lead l vis nm)/\∃m,m∈(rec nm d s).2.1/\findD l nm=some m):
  ∀(its:List It) (d:List Nat) (s:S),Fine l p d->Closed mem vis ok l d s->(folI v rec its d s).1=0->
  Fol mem vis ok l p d s (folI v rec its d s).2.1 (folI v rec its d s).2.2 (fun u=>∃x,x∈its/\((x.kind≠3/\vis x u)\/(x.kind=3/\Lead l vis x.name u)))/\
  (∀x,x∈its->x.kind≠3->ok x=true/\∀u,vis x u->mem (folI v rec its d s).2.2 u)/\∀x,x∈its->x.kind=3->∃m,m∈(folI v rec its d s).2.1/\findD l x.name=some m
 |[],d,s,hf,hc,_=>⟨⟨hf,hc,fun _ h=>h,fun _ h=>h,fun _ h=>.inl h⟩,fun x h=>(by cases h),fun x h=>(by cases h)⟩
 |x::r,d,s,hf,hc,h=>by
  rw[folI_cons]at h⊢
  have hq:(if x.kind=3 then rec x.name d s else((v x s).1,d,(v x s).2)).1=0->
    Fol mem vis ok l p d s (if x.kind=3 then rec x.name d s else((v x s).1,d,(v x s).2)).2.1 (if x.kind=3 then rec x.name d s else((v x s).1,d,(v x s).2)).2.2 (fun u=>(x.kind≠3/\vis x u)\/(x.kind=3/\Lead l vis x.name u))/\
    (x.kind≠3->ok x=true/\∀u,vis x u->mem (if x.kind=3 then rec x.name d s else((v x s).1,d,(v x s).2)).2.2 u)/\(x.kind=3->∃m,m∈(if x.kind=3 then rec x.name d s else((v x s).1,d,(v x s).2)).2.1/\findD l x.name=some m):=by
   by_cases hk:x.kind=3
   ·rw[if_pos hk]
    intro h0
    obtain⟨g,gm⟩:=hrec x.name d s hf hc h0
    exact⟨⟨g.fine,g.closed,g.sub,g.up,fun u hu=>(g.dn u hu).imp id fun hl=>.inr ⟨hk,hl⟩⟩,fun hn=>absurd hk hn,fun _=>gm⟩
   ·rw[if_neg hk]
    intro h0
    have ha:=hv.add x s h0
    exact⟨⟨hf,⟨fun n hn df hdf y hy hy3 u hu=>(ha u).2 (.inl (hc.it n hn df hdf y hy hy3 u hu)),hc.nm,hc.good⟩,fun _ h=>h,fun u hu=>(ha u).2 (.inl hu),fun u hu=>((ha u).1 hu).imp id fun hx=>.inl ⟨hk,hx⟩⟩,
     fun _=>⟨(hv.ok x s).1 h0,fun u hu=>(ha u).2 (.inr hu)⟩,fun h3=>absurd h3 hk⟩
  generalize (if x.kind=3 then rec x.name d s else((v x s).1,d,(v x s).2))=q at*
  by_cases h0:q.1=0
  ·rw[if_pos h0]at h⊢
   obtain⟨g,g1,g2⟩:=hq h0
   obtain⟨f,f1,f2⟩:=folI_fol hrec r q.2.1 q.2.2 g.fine g.closed h
   refine⟨⟨f.fine,f.closed,fun n hn=>f.sub n (g.sub n hn),fun u hu=>f.up u (g.up u hu),fun u hu=>?_⟩,fun y hy hy3=>?_,fun y hy hy3=>?_⟩
   ·rcases f.dn u hu with h1|⟨y,hy,h1⟩
    ·rcases g.dn u h1 with h1|h1
     ·exact .inl h1
     ·exact .inr ⟨x,by simp,h1⟩
    ·exact .inr ⟨y,List.mem_cons_of_mem _ hy,h1⟩
   ·rcases List.mem_cons.1 hy with rfl|hy
    ·exact⟨(g1 hy3).1,fun u hu=>f.up u ((g1 hy3).2 u hu)⟩
    ·exact f1 y hy hy3
   ·rcases List.mem_cons.1 hy with rfl|hy
    ·obtain⟨m,hm,hfm⟩:=g2 hy3
     exact⟨m,f.sub m hm,hfm⟩
    ·exact f2 y hy hy3
  ·rw[if_neg h0]at h;exact absurd h h0
theorem fol_fol(l:List Df):∀(k:Nat) (p:List Nat) (nm:ByteArray) (d:List Nat) (s:S),Fine l p d->Closed mem vis ok l d s->(fol v l k p nm d s).1=0->
  Fol mem vis ok l p d s (fol v l k p nm d s).2.1 (fol v l k p nm d s).2.2 (Lead l vis nm)/\∃m,m∈(fol v l k p nm d s).2.1/\findD l nm=some m
 |0,p,nm,d,s,hf,hc,h=>by simp[fol]at h
 |k+1,p,nm,d,s,hf,hc,h=>by
  unfold fol at h⊢
  cases hn:findD l nm with
  |none=>simp[hn]at h
  |some n=>
   simp only[hn]at h⊢
   split at h
   ·simp at h
   rename_i hp
   rw[if_neg hp]
   split at h
   ·rename_i hd
    rw[if_pos hd]
    exact⟨⟨hf,hc,fun _ h=>h,fun _ h=>h,fun _ h=>.inl h⟩,n,hd,rfl⟩
   rename_i hd
   rw[if_neg hd]
   obtain⟨df,hdf,hname,_⟩:=findD_some hn
   simp only[hdf,Option.map_some,Option.getD_some]at h⊢
   have hpush:=hf.push hn hp hd
   split at h
   ·rename_i h0
    rw[if_pos h0]
    obtain⟨g,g1,g2⟩:=folI_fol v mem vis ok hv (fun nm d s hf hc h=>fol_fol l k (p++[n]) nm d s hf hc h) df.items d s hpush hc h0
    simp only
    have hgood:Good l ok nm:=.mk hn hdf (fun x hx h3=>(g1 x hx h3).1) fun x hx h3=>by
     obtain⟨m,hm,hfm⟩:=g2 x hx h3
     exact g.closed.good m hm x.name hfm
    refine⟨⟨g.fine.pop hn,⟨fun m hm e he x hx h3 u hu=>?_,fun m hm e he x hx h3=>?_,fun m hm nm2 hf2=>?_⟩,fun m hm=>List.mem_append_left _ (g.sub m hm),g.up,fun u hu=>?_⟩,n,by simp,rfl⟩
    ·rcases List.mem_append.1 hm with hm|hm
     ·exact g.closed.it m hm e he x hx h3 u hu
     ·rw[List.mem_singleton.1 hm,hdf]at he;cases he
      exact(g1 x hx h3).2 u hu
    ·rcases List.mem_append.1 hm with hm|hm
     ·obtain⟨m2,h1,h2⟩:=g.closed.nm m hm e he x hx h3
      exact⟨m2,List.mem_append_left _ h1,h2⟩
     ·rw[List.mem_singleton.1 hm,hdf]at he;cases he
      obtain⟨m2,h1,h2⟩:=g2 x hx h3
      exact⟨m2,List.mem_append_left _ h1,h2⟩
    ·rcases List.mem_append.1 hm with hm|hm
     ·exact g.closed.good m hm nm2 hf2
     ·rw[List.mem_singleton.1 hm]at hf2
      obtain⟨df2,hdf2,hname2,_⟩:=findD_some hf2
      rw[hdf]at hdf2;cases hdf2
      rw[<-hname2,hname];exact hgood
    ·rcases g.dn u hu with h1|⟨x,hx,⟨h3,h4⟩|⟨h3,h4⟩⟩
     ·exact .inl h1
     ·exact .inr (.here hn hdf hx h3 h4)
     ·exact .inr (.there hn hdf hx h3 h4)
   ·rename_i h0;exact absurd h h0
theorem fol_lead(l:List Df)(nm:ByteArray)(s:S)(hs:∀u,¬mem s u)(h:(fol v l (l.length+1) [] nm [] s).1=0):
  Good l ok nm/\∀u,mem (fol v l (l.length+1) [] nm [] s).2.2 u↔Lead l vis nm u:=by
 obtain⟨g,m,hm,hf⟩:=fol_fol v mem vis ok hv l (l.length+1) [] nm [] s (fineNil l) ⟨fun n h=>(by cases h),fun n h=>(by cases h),fun n h=>(by cases h)⟩ h
 refine⟨g.closed.good m hm nm hf,fun u=>⟨fun hu=>?_,fun hl=>lead_done mem vis ok g.closed hl m hm hf⟩⟩
 rcases g.dn u hu with h1|h1
 ·exact absurd h1 (hs u)
 ·exact h1
end
noncomputable def gwZone1:Ctx:={N:=8}
noncomputable def bwZone1:Code:=bdy Tryz.f146
abbrev ofwZone1:=@ofC Tryz.prog gwZone1 146 Tryz.f146 bwZone1 Tryz.func146 zk zk zk zk
noncomputable def gwZone:Ctx:={N:=8}
noncomputable def bwZone:Code:=bdy Tryz.f88
abbrev ofwZone:=@ofC Tryz.prog gwZone 88 Tryz.f88 bwZone Tryz.func88 zk zk zk zk
noncomputable def gwIdx:Ctx:={N:=25,hints:=at1 2 ([.virt 5 1]) (fun _=>[])}
noncomputable def bwIdx:Code:=bdy Tryz.f145
abbrev ofwIdx:=@ofC Tryz.prog gwIdx 145 Tryz.f145 bwIdx Tryz.func145 zk zk zk zk
noncomputable def gwIxD:Ctx:={N:=19}
noncomputable def bwIxD:Code:=bdy Tryz.f179
abbrev ofwIxD:=@ofC Tryz.prog gwIxD 179 Tryz.f179 bwIxD Tryz.func179 zk zk zk zk
noncomputable def gwFol1:Ctx:={N:=8}
noncomputable def bwFol1:Code:=bdy Tryz.f189
abbrev ofwFol1:=@ofC Tryz.prog gwFol1 189 Tryz.f189 bwFol1 Tryz.func189 zk zk zk zk
noncomputable def gwG1:Ctx:={N:=14,np:=2,out:=true}
noncomputable def bwG1:Code:=bdy Tryz.f83
abbrev ofwG1:=@ofC Tryz.prog gwG1 83 Tryz.f83 bwG1 Tryz.func83 zk zk zk zk
noncomputable def gwG2:Ctx:={N:=37,np:=4,own:=at1 83 (true) (fun _=>false),plan:=at1 10 (some (ln [1,3,5,7,9,11,13,14])) (fun _=>none),hints:=at1 0 ([.renewI 2 0]) (fun _=>[]),out:=true}
noncomputable def bwG2:Code:=bdy Tryz.f87
abbrev ofwG2:=@ofC Tryz.prog gwG2 87 Tryz.f87 bwG2 Tryz.func87 zk zk zk zk
noncomputable def gwFol:Ctx:={N:=77,np:=7,own:=at1 144 (true) (at1 87 (true) (fun _=>false)),plan:=at1 4 (some (ln [1,3,5,7,9,10,13])) (at1 6 (some (ln [1,3,5,7,9,10,13])) (at1 8 (some (ln [1,3,5,7,9,10])) (at1 9 (some (ln [1,3,5,7,9,10])) (at1 16 (some (ln [1,3,5,7,9,10,13])) (at1 20 (some (ln [1,3,5,7,9,10])) (fun _=>none)))))),hints:=at1 0 ([.renewI 5 0]) (fun _=>[]),out:=true,lend:=at1 179 (true) (fun _=>false)}
noncomputable def bwFol:Code:=bdy Tryz.f144
abbrev ofwFol:=@ofC Tryz.prog gwFol 144 Tryz.f144 bwFol Tryz.func144 zk zk zk zk
noncomputable def gwStart:Ctx:={N:=15,np:=4,own:=at1 144 (true) (fun _=>false),out:=true}
noncomputable def bwStart:Code:=bdy Tryz.f86
abbrev ofwStart:=@ofC Tryz.prog gwStart 86 Tryz.f86 bwStart Tryz.func86 zk zk zk zk
noncomputable def gwGrp:Ctx:={N:=40,own:=at1 86 (true) (at1 83 (true) (fun _=>false)),hints:=at1 2 ([.virtB 8 0 2]) (fun _=>[])}
noncomputable def bwGrp:Code:=bdy Tryz.f46
abbrev ofwGrp:=@ofC Tryz.prog gwGrp 46 Tryz.f46 bwGrp Tryz.func46 zk zk zk zk
noncomputable def gwGroup:Ctx:={N:=22}
noncomputable def bwGroup:Code:=bdy Tryz.f13
abbrev ofwGroup:=@ofC Tryz.prog gwGroup 13 Tryz.f13 bwGroup Tryz.func13 zk zk zk zk
noncomputable def gwS1:Ctx:={N:=8,np:=2,out:=true}
noncomputable def bwS1:Code:=bdy Tryz.f93
abbrev ofwS1:=@ofC Tryz.prog gwS1 93 Tryz.f93 bwS1 Tryz.func93 zk zk zk zk
noncomputable def gwFos:Ctx:={N:=77,np:=5,own:=at1 144 (true) (at1 93 (true) (fun _=>false)),plan:=at1 4 (some (ln [1,3,5,7,9,10,13])) (at1 6 (some (ln [1,3,5,7,9,10,13])) (at1 8 (some (ln [1,3,5,7,9,10])) (at1 9 (some (ln [1,3,5,7,9,10])) (at1 16 (some (ln [1,3,5,7,9,10,13])) (at1 20 (some (ln [1,3,5,7,9,10])) (fun _=>none)))))),hints:=at1 0 ([.renewI 3 0]) (fun _=>[]),out:=true,lend:=at1 179 (true) (fun _=>false)}
noncomputable def bwFos:Code:=bdy Tryz.f144
abbrev ofwFos:=@ofC Tryz.prog gwFos 144 Tryz.f144 bwFos Tryz.func144 zk zk zk zk
noncomputable def gwStS:Ctx:={N:=15,np:=2,own:=at1 144 (true) (fun _=>false),out:=true}
noncomputable def bwStS:Code:=bdy Tryz.f86
abbrev ofwStS:=@ofC Tryz.prog gwStS 86 Tryz.f86 bwStS Tryz.func86 zk zk zk zk
noncomputable def gwSvc:Ctx:={N:=64,own:=at1 86 (true) (fun _=>false),plan:=at1 14 (some (.one 1 true (.alt 0 (ln [4,6,9,11,13,15,17]) (.alt 2 (ln [0,6,9,11,13,15,17]) (.stop))))) (fun _=>none),hints:=at1 4 ([.virtB 6 0 7]) (at1 8 ([.freezeB 6,.asL 8]) (fun _=>[]))}
noncomputable def bwSvc:Code:=bdy Tryz.f50
abbrev ofwSvc:=@ofC Tryz.prog gwSvc 50 Tryz.f50 bwSvc Tryz.func50 zk zk zk zk
theorem cwFol1(d:Df)(s:ByteArray){K:KT}(hK:K (.sb (sEq d.name s)) []):ACall Tryz.prog 189 [encDf d,.fp [.v (.string s)]] [] K:=by
 refine ofwFol1 rfl rfl ?_
 (repeat' ((conv=>whnf);first|refine zG ?_|apply zA|(apply zI;intro h)|exact zT));(all_goals conv=>whnf)
 exact hK
theorem cwIxD(l:List Df)(s:ByteArray)(hl:l.length<1000000){K:KT}(hK:K (.v (.int .i64 (firstIx (fun d=>sEq d.name s) l))) []):
  ACall Tryz.prog 179 [.lst (l.map encDf),.fn (.func 189) [] [.fp [.v (.string s)]]] [] K:=by
 refine ofwIxD rfl rfl ?_
 (repeat' ((conv=>whnf);first|refine zG ?_|apply zA|(apply zI;intro h)|exact zT));(all_goals conv=>whnf)
 refine Lp.intro Nat (fun k=>⟨0,[],[(0,.lst (l.map encDf)),(1,.fn (.func 189) [] [.fp [.v (.string s)]]),(7,.v (.int .i64 (l.map encDf).length)),(8,.v (.int .i64 k))]⟩) (fun k=>k<=l.length/\∀(i:Nat) y,i<k->l[i]? =some y->sEq y.name s=false) (fun k=>l.length-k) 0 ⟨Nat.zero_le _,fun i y hi=>absurd hi (Nat.not_lt_zero _)⟩ ?_ ?_
 ·(exact leA)
 intro k ⟨hk,hinv⟩
 rcases Nat.lt_or_ge k l.length with hkl|hkl
 ·obtain⟨r,hr⟩:=gex hkl
  (repeat' ((conv=>whnf);first|(with_reducible first|refine in_map hkl ?_|refine ix_map hr ?_|refine cwFol1 r s ?_)|refine zG ?_|apply zA|(apply zI;intro h)|exact zT));(all_goals conv=>whnf)
  ·rw[firstIx_at hr h hinv]at hK;exact hK
  ·refine⟨k+1,⟨by omega,before_succ hr h hinv⟩,by omega,?_⟩
   rw[Int.natCast_add,Int.natCast_one]
   (exact leA)
 ·(repeat' ((conv=>whnf);first|refine zG ?_|apply zA|(apply zI;intro h)|exact zT));(all_goals conv=>whnf)
  rw[firstIx_none (before_all hkl hinv)]at hK
  exact hK
def ixs(p:Ed->Bool)(l:List Ed)(k:Nat):List Nat:=(List.range k).filter fun i=>match l[i]? with
 |some e=>p e
 |none=>false
theorem ixs_succ(p:Ed->Bool){l:List Ed}{k:Nat}{e:Ed}(h:l[k]? =some e):ixs p l (k+1)=ixs p l k++if p e=true then [k]else []:=by
 rw[ixs,List.range_succ,List.filter_append,<-ixs]
 congr 1
 rw[List.filter_cons,List.filter_nil]
 simp only[h]
theorem ixs_len(p:Ed->Bool)(l:List Ed)(k:Nat):(ixs p l k).length<=k:=by
 have:=List.length_filter_le (fun i=>match l[i]? with
  |some e=>p e
  |none=>false) (List.range k)
 rw[List.length_range]at this
 exact this
theorem ixs_lt{p:Ed->Bool}{l:List Ed}{k n:Nat}(h:n∈ixs p l k):n<k/\∃e,l[n]? =some e/\p e=true:=by
 rw[ixs,List.mem_filter,List.mem_range]at h
 refine⟨h.1,?_⟩
 cases he:l[n]? with
 |none=>simp[he]at h
 |some e=>exact⟨e,rfl,by simpa[he]using h.2⟩
theorem cwZone1(e:Ed)(s:ByteArray){K:KT}(hK:K (.sb (sEq e.zone s)) []):ACall Tryz.prog 146 [encE e,.fp [.v (.string s)]] [] K:=by
 refine ofwZone1 rfl rfl ?_
 (repeat' ((conv=>whnf);first|refine zG ?_|apply zA|(apply zI;intro h)|exact zT));(all_goals conv=>whnf)
 exact hK
theorem cwIdx(t:Tp)(s:ByteArray)(hl:t.edges.length<1000){K:KT}(hK:K (.lst ((ixs (fun e=>sEq e.zone s) t.edges t.edges.length).map vN)) []):
  ACall Tryz.prog 145 [encT t,.fn (.func 146) [] [.fp [.v (.string s)]]] [] K:=by
 refine ofwIdx rfl rfl ?_
 (repeat' ((conv=>whnf);first|refine zG ?_|apply zA|(apply zI;intro h)|exact zT));(all_goals conv=>whnf)
 refine Lp.intro (Nat×List Nat) (fun g=>⟨2,[(1,.arr 1 (g.2.map vN))],[(1,.fn (.func 146) [] [.fp [.v (.string s)]]),(5,.os 1 1 0 g.2.length),(9,.lst (t.edges.map encE)),(10,.v (.int .i64 (t.edges.map encE).length)),(11,.v (.int .i64 g.1))]⟩)
  (fun g=>g.1<=t.edges.length/\g.2=ixs (fun e=>sEq e.zone s) t.edges g.1) (fun g=>t.edges.length-g.1) (0,[]) ⟨Nat.zero_le _,rfl⟩ ?_ ?_
 ·(exact leA)
 rintro⟨k,out⟩ ⟨hk,ho⟩
 simp only at hk ho⊢
 have hol:out.length<=k:=by rw[ho];exact ixs_len _ _ _
 rcases Nat.lt_or_ge k t.edges.length with hkl|hkl
 ·obtain⟨e,he⟩:=gex hkl
  have hs:=ixs_succ (fun e=>sEq e.zone s) he
  rw[<-ho]at hs
  (repeat' ((conv=>whnf);first|(with_reducible first|refine in_map hkl ?_|refine ix_map he ?_|refine cwZone1 e s ?_)|refine zG ?_|apply zA|(apply zI;intro h)|exact zT));(all_goals conv=>whnf)
  ·refine⟨(k+1,out++[k]),⟨hkl,by rw[hs,if_pos h]⟩,by simp only;omega,?_⟩
   simp only[List.map_append,List.length_append,List.map_cons,List.map_nil,List.length_cons,List.length_nil,Int.natCast_add,Int.natCast_one]
   (exact leA)
  ·refine⟨(k+1,out),⟨hkl,by rw[hs,if_neg (by simp[h]),List.append_nil]⟩,by simp only;omega,?_⟩
   simp only[Int.natCast_add,Int.natCast_one]
   (exact leA)
 ·obtain rfl:k=t.edges.length:=by omega
  rw[<-ho]at hK
  (repeat' ((conv=>whnf);first|(with_reducible refine sl_full (List.length_map ..) ?_)|refine zG ?_|apply zA|(apply zI;intro h)|exact zT));(all_goals conv=>whnf)
  exact hK
theorem cwZone(t:Tp)(s:ByteArray)(hl:t.edges.length<1000){K:KT}(hK:K (.lst ((ixs (fun e=>sEq e.zone s) t.edges t.edges.length).map vN)) []):ACall Tryz.prog 88 [encT t,.v (.string s)] [] K:=by
 refine ofwZone rfl rfl ?_
 (repeat' ((conv=>whnf);first|(with_reducible refine cwIdx t s hl ?_)|refine zG ?_|apply zA|(apply zI;intro h)|exact zT));(all_goals conv=>whnf)
 exact hK
abbrev outO(i n:Nat):Vm.Obj:=.box [.os i 2 0 n]
noncomputable abbrev arrO(rs:List Rg):Vm.Obj:=.arr 2 (rs.map encR)
theorem cwAdd(p:Pf)(rs:List Rg)(hl:rs.length<1000000000000){K:KT}(hK:K (.tup []) [outO 2 (rs++[p.rg]).length,.box [],arrO (rs++[p.rg])]):
  ACall Tryz.prog 83 [encP p,.op 0 0] [outO 1 rs.length,arrO rs] K:=by
 refine ofwG1 rfl rfl ?_
 (repeat' ((conv=>whnf);first|(with_reducible refine cpOf p ?_)|refine zG ?_|apply zA|(apply zI;intro h)|exact zT));(all_goals conv=>whnf)
 simp only[outO,arrO,List.length_append,List.map_append]at hK
 exact hK
def rgAt(t:Tp)(i:Nat):Rg:=match t.edges[i]? with
 |some e=>e.pf.rg
 |none=>⟨0,0,by decide,by decide,by decide,by decide⟩
def visG(t:Tp)(x:It)(rs:List Rg):Int×List Rg:=
 if x.kind=2 then(0,rs++[x.pf.rg])else if ixs (fun e=>sEq e.zone x.name) t.edges t.edges.length=[]then(5,rs)else(0,rs++(ixs (fun e=>sEq e.zone x.name) t.edges t.edges.length).map (rgAt t))
noncomputable abbrev adO(i:Nat):Vm.Obj:=.box [.fn (.func 83) [] [.op i 0]]
theorem cwVis(t:Tp)(x:It)(rs:List Rg)(hl:t.edges.length<1000)(hr:rs.length<100000000000){K:KT}(hK:K (.v (.int .i64 (visG t x rs).1)) [adO 2,boxT t,outO 4 (visG t x rs).2.length,.box [],arrO (visG t x rs).2]):
  ACall Tryz.prog 87 [encIt x,.op 0 0,.op 1 0] [adO 2,boxT t,outO 3 rs.length,arrO rs] K:=by
 refine ofwG2 rfl rfl ?_
 (repeat' ((conv=>whnf);first|(with_reducible first|refine cwAdd x.pf rs zo ?_|refine cwZone t x.name hl ?_)|refine zG ?_|apply zA|(apply zI;intro h)|exact zT));(all_goals conv=>whnf)
 ·rw[visG,if_pos h]at hK
  exact hK
 ·have h0:ixs (fun e=>sEq e.zone x.name) t.edges t.edges.length=[]:=List.length_eq_zero_iff.1 (by rw[List.length_map]at h;omega)
  rw[visG,if_neg zp,if_pos h0]at hK
  exact hK
 have hne:ixs (fun e=>sEq e.zone x.name) t.edges t.edges.length≠[]:=fun e=>h (by rw[e];rfl)
 rw[visG,if_neg zp,if_neg hne]at hK
 have hlt:=fun n hn=>@ixs_lt (fun e=>sEq e.zone x.name) t.edges t.edges.length n hn
 have hll:=ixs_len (fun e=>sEq e.zone x.name) t.edges t.edges.length
 generalize ixs (fun e=>sEq e.zone x.name) t.edges t.edges.length=L at*
 refine Lp.intro (Nat×List Rg) (fun g=>⟨5,[(0,adO 2),(1,boxT t),(2,outO 4 g.2.length),(4,arrO g.2)],[(1,.op 0 0),(2,.op 1 0),(22,.lst (L.map vN)),(23,.v (.int .i64 (L.map vN).length)),(24,.v (.int .i64 g.1))]⟩)
  (fun g=>g.1<=L.length/\g.2=rs++(L.take g.1).map (rgAt t)) (fun g=>L.length-g.1) (0,rs) ⟨Nat.zero_le _,by simp⟩ ?_ ?_
 ·(exact leA)
 rintro⟨k,out⟩ ⟨hk,ho⟩
 simp only at hk ho⊢
 have hol:out.length=rs.length+k:=by rw[ho,List.length_append,List.length_map,List.length_take];omega
 rcases Nat.lt_or_ge k L.length with hkl|hkl
 ·obtain⟨n,hn⟩:=gex hkl
  obtain⟨hnl,e,he,_⟩:=hlt n (List.mem_of_getElem? hn)
  have hrg:rgAt t n=e.pf.rg:=by rw[rgAt,he]
  (repeat' ((conv=>whnf);first|(with_reducible first|refine in_map hkl ?_|refine ix_map hn ?_|refine in_map hnl ?_|refine ix_map he ?_|refine cwAdd e.pf out zo ?_)|refine zG ?_|apply zA|(apply zI;intro h)|exact zT));(all_goals conv=>whnf)
  refine⟨(k+1,out++[e.pf.rg]),⟨hkl,?_⟩,by simp only;omega,?_⟩
  ·simp only
   rw[ho,List.take_add_one,hn,List.map_append,List.append_assoc]
   simp[hrg]
  ·simp only[Int.natCast_add,Int.natCast_one]
   (exact leA)
 ·have hke:k=L.length:=by omega
  rw[hke,List.take_length]at ho
  rw[<-ho]at hK
  (repeat' ((conv=>whnf);first|refine zG ?_|apply zA|(apply zI;intro h)|exact zT));(all_goals conv=>whnf)
  exact hK
noncomputable abbrev foO(l:List Df):Vm.Obj:=.box [.lst (l.map encDf),.mp 1,.mp 2,.fn (.func 87) [] [.op 3 0,.op 4 0]]
theorem visG_sz{t:Tp}(ht:t.edges.length<1000)(x:It)(rs:List Rg)(h:(visG t x rs).1=0):(visG t x rs).2.length<=rs.length+1000:=by
 unfold visG at h⊢
 have hll:=ixs_len (fun e=>sEq e.zone x.name) t.edges t.edges.length
 split
 ·rw[List.length_append];simp
 ·split
  ·simp
  ·rw[List.length_append,List.length_map];omega
theorem cwFol(t:Tp)(ht:t.edges.length<1000)(l:List Df)(hl:l.length<=999)(hit:∀d,d∈l->d.items.length<=999):∀(k:Nat) (p:List Nat) (nm:ByteArray) (d:List Nat) (rs:List Rg),Fine l p d->p.length+k=l.length+1->rs.length<=1000000*(d.length+p.length)->∀{K:KT},
  K (.v (.int .i64 (fol (visG t) l k p nm d rs).1)) [foO l,.map (nameM l p),.map (nameM l (fol (visG t) l k p nm d rs).2.1),adO 5,boxT t,outO 7 (fol (visG t) l k p nm d rs).2.2.length,.box [],arrO (fol (visG t) l k p nm d rs).2.2]->
  ACall Tryz.prog 144 [.op 0 0,.v (.string nm)] [foO l,.map (nameM l p),.map (nameM l d),adO 5,boxT t,outO 6 rs.length,arrO rs] K
 |0,p,nm,d,rs,hf,hk,hrs,K,hK=>by
  have:=hf.small
  omega
 |k+1,p,nm,d,rs,hf,hk,hrs,K,hK=>by
  refine ofwFol rfl rfl ?_
  have hsm:=hf.small
  cases hn:findD l nm with
  |none=>
   have hix:∀{K:KT},K (.v (.int .i64 (-1))) []->ACall Tryz.prog 179 [.lst (l.map encDf),.fn (.func 189) [] [.fp [.v (.string nm)]]] [] K:=fun {K} h=>
    cwIxD l nm zo (by rw[firstIx_find,hn];exact h)
   simp only[fol,hn]at hK
   (repeat' ((conv=>whnf);first|(with_reducible refine hix ?_)|refine zG ?_|apply zA|(apply zI;intro h)|exact zT));(all_goals conv=>whnf)
   exact hK
  |some n=>
   obtain⟨df,hdf,hname,hnl⟩:=findD_some hn
   have hix:∀{K:KT},K (.v (.int .i64 n)) []->ACall Tryz.prog 179 [.lst (l.map encDf),.fn (.func 189) [] [.fp [.v (.string nm)]]] [] K:=fun {K} h=>
    cwIxD l nm zo (by rw[firstIx_find,hn];exact h)
   by_cases hp:n∈p
   ·simp only[fol,hn,if_pos hp]at hK
    (repeat' ((conv=>whnf);first|(with_reducible first|refine hix ?_|refine mg_some (nameM_in hn hp) ?_)|refine zG ?_|apply zA|(apply zI;intro h)|exact zT));(all_goals conv=>whnf)
    exact hK
   by_cases hd:n∈d
   ·simp only[fol,hn,if_neg hp,if_pos hd]at hK
    (repeat' ((conv=>whnf);first|(with_reducible first|refine hix ?_|refine mg_none (nameM_out hf.pf hn hp) ?_|refine mg_some (nameM_in hn hd) ?_)|refine zG ?_|apply zA|(apply zI;intro h)|exact zT));(all_goals conv=>whnf)
    exact hK
   simp only[fol,hn,if_neg hp,if_neg hd,hdf,Option.map_some,Option.getD_some]at hK
   (repeat' ((conv=>whnf);first|(with_reducible first|refine hix ?_|refine mg_none (nameM_out hf.pf hn hp) ?_|refine mg_none (nameM_out hf.df hn hd) ?_|refine Mu.intro (updM_name hn) ?_|refine in_map hnl ?_|refine ix_map hdf ?_)|refine zG ?_|apply zA|(apply zI;intro h)|exact zT));(all_goals conv=>whnf)
   have hpush:=hf.push hn hp hd
   have hfed:=fun(q:Nat) nm d s h h0=>fol_fed (visG t) List.length (visG_sz ht) l hit q (p++[n]) nm d s h h0
   have hlen:=hit df (List.mem_of_getElem? hdf)
   refine Lp.intro (Nat×List Nat×List Rg) (fun g=>⟨9,[(0,foO l),(1,.map (nameM l (p++[n]))),(2,.map (nameM l g.2.1)),(3,adO 5),(4,boxT t),(5,outO 7 g.2.2.length),(7,arrO g.2.2),(8,.box [.v (.string nm)])],[(0,.op 0 0),(3,.op 8 0),(49,.lst (df.items.map encIt)),(50,.v (.int .i64 (df.items.map encIt).length)),(51,.v (.int .i64 g.1)),(DS,.dfr 1 nm)]⟩)
    (fun g=>g.1<=df.items.length/\Fine l (p++[n]) g.2.1/\folI (visG t) (fol (visG t) l k (p++[n])) df.items d rs=folI (visG t) (fol (visG t) l k (p++[n])) (df.items.drop g.1) g.2.1 g.2.2/\d.length<=g.2.1.length/\g.2.2.length+1000000*d.length<=rs.length+1000000*g.2.1.length+1000*g.1)
    (fun g=>df.items.length-g.1) (0,d,rs) ⟨Nat.zero_le _,hpush,by rw[List.drop_zero],Nat.le_refl _,by simp only;omega⟩ ?_ ?_
   ·(exact leA)
   rintro⟨i,d1,rs1⟩ ⟨hi,hf1,heq,hd1,hsz⟩
   simp only at hi hf1 heq hd1 hsz⊢
   rcases Nat.lt_or_ge i df.items.length with hil|hil
   ·obtain⟨x,hx⟩:=gex hil
    have hdr:df.items.drop i=x::df.items.drop (i+1):=by
     rw[List.drop_eq_getElem_cons hil]
     congr 1
     rw[List.getElem?_eq_getElem hil]at hx;cases hx;rfl
    rw[hdr,folI_cons]at heq
    have hsm1:=hf1.small
    rw[List.length_append,List.length_singleton]at hsm1
    by_cases hk3:x.kind=3
    ·simp only[if_pos hk3]at heq
     have hc:=fun {K} h=>@cwFol t ht l hl hit k (p++[n]) x.name d1 rs1 hf1 (by rw[List.length_append];simp only[List.length_singleton];omega) (by rw[List.length_append];simp only[List.length_singleton];omega) K h
     have hfq:=hfed k x.name d1 rs1 hf1
     generalize fol (visG t) l k (p++[n]) x.name d1 rs1=q at*
     obtain⟨qe,qd,qs⟩:=q
     simp only at heq hc hfq
     (repeat' ((conv=>whnf);first|(with_reducible first|refine in_map hil ?_|refine ix_map hx ?_|refine hc ?_|refine Mu.intro (delM_name hf.pf hn hp) ?_)|refine zG ?_|apply zA|(apply zI;intro h)|exact zT));(all_goals conv=>whnf)
     all_goals first
      |(have hne:¬qe=0:=by first|assumption|(intro e;simp_all;done)
        rw[heq,if_neg hne]at hK
        simp only[if_neg hne]at hK
        exact hK)
      |(have h0:qe=0:=by first|assumption|(simp_all;done)
        have hfq:=hfq h0
        refine⟨(i+1,qd,qs),⟨hil,hfq.fine,by rw[heq,if_pos h0],by have:=hfq.le;simp only;omega,by have:=hfq.size;simp only;omega⟩,by simp only;omega,?_⟩
        simp only[Int.natCast_add,Int.natCast_one]
        (exact leA)
        done)
      |trace_state
    ·simp only[if_neg hk3]at heq
     have hc:=fun {K} h=>@cwVis t x rs1 ht zo K h
     have hvz:=visG_sz ht x rs1
     generalize visG t x rs1=q at*
     obtain⟨qe,qs⟩:=q
     simp only at heq hc hvz
     (repeat' ((conv=>whnf);first|(with_reducible first|refine in_map hil ?_|refine ix_map hx ?_|refine hc ?_|refine Mu.intro (delM_name hf.pf hn hp) ?_)|refine zG ?_|apply zA|(apply zI;intro h)|exact zT));(all_goals conv=>whnf)
     all_goals first
      |(have hne:¬qe=0:=by first|assumption|(intro e;simp_all;done)
        rw[heq,if_neg hne]at hK
        simp only[if_neg hne]at hK
        exact hK)
      |(have h0:qe=0:=by first|assumption|(simp_all;done)
        have hvz:=hvz h0
        refine⟨(i+1,d1,qs),⟨hil,hf1,by rw[heq,if_pos h0],by skip;simp only;omega,by skip;simp only;omega⟩,by simp only;omega,?_⟩
        simp only[Int.natCast_add,Int.natCast_one]
        (exact leA)
        done)
      |trace_state
   ·have hie:i=df.items.length:=by omega
    rw[hie,List.drop_length,folI_nil]at heq
    rw[heq]at hK
    simp only[if_true]at hK
    (repeat' ((conv=>whnf);first|(with_reducible first|refine Mu.intro (updM_name hn) ?_|refine Mu.intro (delM_name hf.pf hn hp) ?_)|refine zG ?_|apply zA|(apply zI;intro h)|exact zT));(all_goals conv=>whnf)
    exact hK
noncomputable def g47:Ctx:={N:=10}
noncomputable def b47:Code:=bdy Tryz.f186
abbrev of47:=@ofC Tryz.prog g47 186 Tryz.f186 b47 Tryz.func186 zk zk zk zk
noncomputable def g48:Ctx:={N:=20}
noncomputable def b48:Code:=bdy Tryz.f187
abbrev of48:=@ofC Tryz.prog g48 187 Tryz.f187 b48 Tryz.func187 zk zk zk zk
noncomputable def g54:Ctx:={N:=6}
noncomputable def b54:Code:=bdy Tryz.f209
abbrev of54:=@ofC Tryz.prog g54 209 Tryz.f209 b54 Tryz.func209 zk zk zk zk
theorem c54(x:Int){K:KT}(hK:K (.sb false) []):ACall Tryz.prog 209 [.v (.int .u32 x)] [] K:=by
 refine of54 rfl rfl ?_
 iterate 4 (all_goals((conv=>whnf);first|refine zG ?_|apply zA|(apply zI;intro h)|exact zT|skip))
 have e:(!decide (x=x))=false:=by simp
 unfold one?
 rw[e]
 exact hK
noncomputable def g39:Ctx:={N:=72,own:=at1 185 (true) (fun _=>false),plan:=at1 13 (some (ln [1,3,5,7,9,11,13,15,17,19,21,23,25,27,29,31])) (at1 14 (some (ln [1,3,5,7,9,11,13,15,17,19,21,23,25,27,28])) (fun _=>none)),hints:=at1 2 ([.virt 3 2,.virt 4 2]) (fun _=>[])}
noncomputable def b39:Code:=bdy Tryz.f142
abbrev of39:=@ofC Tryz.prog g39 142 Tryz.f142 b39 Tryz.func142 zk zk zk zk
end Go.Proofs.YtahhamfngafmcaaGreatDoor
