/- Lemmas. -/
import Derived.Test.YtnomkooikbhgmaaGreatDoorProg
import Derived.Test.YtnomkooikbhgmaaGreatDoorM24
set_option linter.unusedVariables false
set_option linter.unusedSimpArgs false
set_option maxRecDepth 100000
set_option maxHeartbeats 4000000
noncomputable section
namespace Go.Proofs.YtnomkooikbhgmaaGreatDoor
open Go Go.Vm
theorem has_day{d:Nat}(hd:d<7)(v:Int):has [mkR (1440*(d:Int)) (1440*d+1439)] v=(decide (1440*(d:Int)<=v)&&decide (v<=1440*(d:Int)+1439)):=by
 have m1:(mkR (1440*(d:Int)) (1440*d+1439)).lo=1440*d:=mkR_lo zo zo zo zo;have m2:(mkR (1440*(d:Int)) (1440*d+1439)).hi=1440*d+1439:=mkR_hi zo zo zo zo;have e:has [mkR (1440*(d:Int)) (1440*d+1439)] v=(decide ((mkR (1440*(d:Int)) (1440*d+1439)).lo<=v)&&decide (v<=(mkR (1440*(d:Int)) (1440*d+1439)).hi)):=by simp[has]
 rw[e,m1,m2]
theorem inter_exists(l:List Rg){d:Nat}(hd:d<7):∃c,Canon c/\∀v,has c v=(has l v&&(decide (1440*(d:Int)<=v)&&decide (v<=1440*(d:Int)+1439))):=by
 obtain⟨x,hx,ex⟩:=sub_ex l [mkR (1440*(d:Int)) (1440*d+1439)];obtain⟨y,hy,ey⟩:=sub_ex l x;refine⟨y,hy,fun v=>?_⟩;rw[ey,ex,has_day hd];cases has l v<;>cases (decide (1440*(d:Int)<=v)&&decide (v<=1440*(d:Int)+1439))<;>rfl
theorem dayW_ne{l:List Rg}(hc:Canon l)(ht:∀r,r∈l->r.hi<=10079)(hn:l≠[]):1<=cntW l 7:=by
 obtain⟨r,hr⟩:=List.exists_mem_of_ne_nil _ hn;have h1:=hc.1 r hr;have h2:=ht r hr;have h0:=r.l0;have hd:(r.lo/1440).toNat<7:=by omega
 have hx:dayW l (r.lo/1440).toNat≠[]:=by
  intro e;have:=(canO_spec (inter_exists l hd)).2 r.lo;rw[show canO (fun v=>has l v&&(decide (1440*(((r.lo/1440).toNat:Nat):Int)<=v)&&decide (v<=1440*(((r.lo/1440).toNat:Nat):Int)+1439)))=dayW l (r.lo/1440).toNat from rfl,e,has_nil,has_iff.2 ⟨r,hr,cI _,h1⟩,decide_eq_true zo,decide_eq_true zo]at this;cases this
 have hl:=dA.2 hx;have:=le_sum_nat (f:=fun d=>(dayW l d).length) (dN.2 hd);unfold cntW;omega
def fmtN(l:List Rg):Nat:=if l=[]then 1 else 3*cntW l 7-1
open Classical in
def fmtL(l:List Rg):Nat:=if Canon l/\∀r,r∈l->r.hi<=10079 then fmtN l else 0
theorem dqForm(l:List Rg)(hl:l.length<=4000){K:KT}(hK:∀ss:List ByteArray,ss.length=fmtL l->K (.lst (ss.map encSt)) []):AC 173 [encRs l] [] K:=by
 refine gP (ofq9Form rfl rfl ?_);(repeat' ((conv=>whnf);first|(with_reducible refine cqWin l zo fun s hs=>?_)|(refine sl_full (by rfl) ?_)|refine zG ?_|apply zA|intro h|exact zT));all_goals conv=>whnf
 all_goals first
  |exact⟨_,gR,hK [] (by rw[fmtL,aD (fun hh=>by have:=hs.2 hh;simp_all)];rfl)⟩
  |exact⟨_,gM,hK [⟨#[110,101,118,101,114]⟩] (by
    have hl0:l=[]:=bY.1 (by simp only[aA]at*;omega);rw[fmtL,aG (hs.1 (by simp_all)),fmtN,aG hl0];rfl)⟩
  |skip
 have hv:Canon l/\∀r,r∈l->r.hi<=10079:=hs.1 (by simp_all);have hne:l≠[]:=fun e=>by subst e;simp_all
 rw[fmtL,aG hv,fmtN,aD hne]at hK;refine gL (Nat×List ByteArray) (fun g=>⟨1,[(0,.arr 1 (g.2.map encSt))],[(0,encRs l),(3,.os 0 1 0 g.2.length),(4,.v (.int .i64 g.1))]⟩)
  (fun g=>g.1<=7/\g.2.length<=40000*g.1/\g.2.length=3*cntW l g.1-1) (fun g=>7-g.1) (0,[]) ⟨aK _,aK _,rfl⟩ ?_ ?_
 ·exact leA
 rintro⟨d,ss⟩ ⟨hd,hss,hsn⟩
 simp only at hd hss hsn⊢;rcases aF d 7 with hd7|hd7
 ·have hint:∀{K:KT},(∀out,Canon out->(∀v,has out v=(has l v&&has [mkR (1440*d) (1440*d+1439)] v))->out.length<=2*(l.length+1)+1->K (encRs out) [])->AC 241 [encRs l,.lst [encR (mkR (1440*d) (1440*d+1439))]] [] K:=fun h=>c26 l [mkR (1440*d) (1440*d+1439)] zo zx h;have m1:(mkR (1440*(d:Int)) (1440*d+1439)).lo=1440*d:=mkR_lo zo zo zo zo;have m2:(mkR (1440*(d:Int)) (1440*d+1439)).hi=1440*d+1439:=mkR_hi zo zo zo zo;have hint2:∀{K:KT},(∀out,Canon out->(∀v,has out v=(has l v&&has [mkR (1440*d) (1440*d+1439)] v))->out.length<=2*(l.length+1)+1->K (encRs out) [])->AC 241 [encRs l,.lst [.agg [.v (.int .u32 (1440*d)),.v (.int .u32 (1440*d+1439))]]] [] K:=fun h=>by
   have:=hint h;simp only[encR,m1,m2]at this;exact this
  (repeat' ((conv=>whnf);first|(with_reducible first|refine wr_i64 rfl zo zo ?_|refine wr_u32 rfl zo zo ?_)|(refine sl_full (by rfl) ?_)|(with_reducible refine hint2 fun out ho hh hn=>?_)|refine zG ?_|apply zA|intro h|exact zT));all_goals conv=>whnf
  have hday:dayW l d=out:=dayW_eq ho fun v=>by
   rw[hh v];rw[has_day hd7]
  have hcs:=cntW_succ l d;rw[hday]at hcs;refine gL (Nat×List ByteArray) (fun g=>⟨1,[(0,.arr 1 (g.2.map encSt))],[(0,encRs l),(3,.os 0 1 0 g.2.length),(4,.v (.int .i64 d)),(5,.v (.int .u32 (1440*d))),(6,encRs out),(7,.v (.int .i64 g.1))]⟩)
   (fun g=>g.1<=out.length/\g.2.length<=ss.length+3*g.1/\g.2.length=3*(cntW l d+g.1)-1) (fun g=>out.length-g.1) (0,ss) ⟨aK _,by simp only;omega,by simp only;omega⟩ ?_ ?_
  ·exact leA
  rintro⟨i,st⟩ ⟨hi,hst,hstn⟩
  simp only at hi hst hstn⊢;rcases aF i out.length with hil|hil
  ·obtain⟨r,hr⟩:=gex hil;have hrm:=aI hr;have hle:=canon_le ho hrm;have hb:∀v,r.lo<=v->v<=r.hi->1440*(d:Int)<=v/\v<=1440*d+1439:=fun v h1 h2=>by
    have h3:has out v=true:=has_iff.2 ⟨r,hrm,h1,h2⟩;rw[hh]at h3;simp only[aJ]at h3;obtain⟨q,hq,q1,q2⟩:=has_iff.1 h3.2;simp only[aV]at hq;subst hq;rw[m1]at q1;rw[m2]at q2;exact⟨q1,q2⟩
   have hb1:=hb r.lo (cI _) hle;have hb2:=hb r.hi hle (cI _);have hT:∀(v:Int),0<=v->v<=2000->∀{K:KT},(∀s:ByteArray,s.size<=10000->K (.v (.string s)) [])->AC 243 [.v (.int .i64 v)] [] K:=fun v v0 v1 K h=>by
    obtain⟨n,rfl⟩:=dU v0;exact cqText n zo fun s hs=>h s zo
   (repeat' ((conv=>whnf);first|refine zG ?_|apply zA|intro h|exact zT));all_goals conv=>whnf
   refine gV (List ByteArray) (fun g=>⟨1,[(0,.arr 1 (g.map encSt))],[(0,encRs l),(3,.os 0 1 0 g.length),(4,.v (.int .i64 d)),(5,.v (.int .u32 (1440*d))),(6,encRs out),(7,.v (.int .i64 i))]⟩) (fun g=>g.length<=st.length+1/\g.length=3*(cntW l d+i)) ?_ ?_
   ·(repeat' ((conv=>whnf);first|refine zG ?_|apply zA|intro h|exact zT));all_goals conv=>whnf
    ·refine⟨st++[⟨#[44]⟩],⟨by simp,by simp only[aC,aB,aH];omega⟩,?_⟩;simp only[aQ,aC,aR,bL,aB,aH];exact leA
    ·refine⟨st,⟨by omega,by omega⟩,?_⟩;exact leA
   rintro su ⟨hsu,hsun⟩
   have z1:(⟨#[45]⟩:ByteArray).size=1:=rfl;have hd0:d<dayL.length:=hd7;(repeat' ((conv=>whnf);first|(with_reducible first|refine cqDays ?_|refine hU hd0 ?_|refine iA hd0 fun c hc=>?_|refine hU hil ?_|refine hJ hr ?_|refine wr_u32 rfl zo zo ?_|refine wr_i64 rfl zo zo ?_|refine hT _ zo zo fun s hs=>?_|refine Ob.intro (by(try simp only[ByteArray.size_append]);omega) ?_)|refine zG ?_|apply zA|intro h|exact zT));all_goals conv=>whnf
   rename_i q1 q2 q3 sA hsA;refine⟨(i+1,su++[c,sA++⟨#[45]⟩++s]),⟨by simp only;omega,by simp only[aC,aB,aH];omega,by simp only[aC,aB,aH];omega⟩,by simp only;omega,?_⟩;simp only[aQ,aC,aR,bL,aB,aH,aO,aN];exact leA
  ·(repeat' ((conv=>whnf);first|refine zG ?_|apply zA|intro h|exact zT));all_goals conv=>whnf
   refine⟨(d+1,st),⟨by simp only;omega,by simp only;omega,by simp only;omega⟩,by simp only;omega,?_⟩;rw[show(((d+1,st):Nat×List ByteArray).1:Int)=(d:Int)+1 from by simp only;omega];exact leA
 ·(repeat' ((conv=>whnf);first|(with_reducible refine sl_full (aA ..) ?_)|refine zG ?_|apply zA|intro h|exact zT));all_goals conv=>whnf
  exact⟨_,gM,hK ss (by rw[hsn,show d=7 by omega])⟩
theorem win_iff{l:List Rg}:WinOk l↔(Canon l/\∀r,r∈l->r.hi<=10079)/\fmtN l<=47:=by
 constructor
 ·intro h;refine⟨⟨h.can,h.top⟩,?_⟩;have:=h.few;unfold fmtN;split<;>omega
 ·rintro⟨⟨h1,h2⟩,h3⟩
  refine⟨h1,h2,?_⟩;unfold fmtN at h3;by_cases hl:l=[]
  ·subst hl;have e:∀d,dayW [] d=[]:=fun d=>dayW_eq canon_nil fun v=>by rw[has_nil];rfl
   unfold cntW;simp only[e,aH];decide
  ·rw[aD hl]at h3;omega
theorem djWri(l:List Rg)(hl:l.length<=4000){K:KT}(hK:K (.sb (winB l)) []):AC 89 [encRs l] [] K:=by
 refine gO (ofj16Wri rfl rfl ?_);(repeat' ((conv=>whnf);first|(with_reducible first|refine cqWin l zo fun s hs=>?_|refine dqForm l hl fun ss hss=>?_)|refine zG ?_|apply zA|intro h|exact zT));all_goals conv=>whnf
 ·refine fin_s hK ?_;rw[fmtL,aG (hs.1 h)]at hss;rw[bJ,winB_iff,win_iff,aL,aA];have:=hs.1 h;constructor
  ·rintro⟨_,h2⟩;omega
  ·intro h2;exact⟨this,by omega⟩
 ·refine fin_f hK ?_;rw[bV,ne_eq,winB_iff,win_iff]
  rintro⟨h1,_⟩
  rw[hs.2 h1]at h;cases h
theorem djOpt(s:ByteArray){K:KT}(hK:K (.sb (optB s)) []):AC 174 [.v (.string s)] [] K:=by
 refine gO (ofj16Opt rfl rfl ?_);(repeat' ((conv=>whnf);first|(with_reducible refine crName _ ?_)|refine zG ?_|apply zA|intro h|exact zT));all_goals conv=>whnf
 ·exact fin_t hK (by unfold optB sEq;simp_all)
 ·exact fin_s hK (by unfold optB sEq;simp_all)
theorem djPort(n:Int){K:KT}(hK:K (.sb (ptB n)) []):AC 91 [.v (.int .i64 n)] [] K:=by
 refine gO (ofj16Port rfl rfl ?_);(repeat' ((conv=>whnf);first|refine zG ?_|apply zA|intro h|exact zT));all_goals conv=>whnf
 ·exact fin_s hK (by unfold ptB;simp_all)
 ·exact fin_f hK (by unfold ptB;rw[decide_eq_false zo];rfl)
theorem djPorts(lo hi n:Int){K:KT}(hK:K (.sb (decide (n<=lo/\lo<=hi/\hi<=65535))) []):AC 92 [.agg [.v (.int .u32 lo),.v (.int .u32 hi)],.v (.int .u32 n)] [] K:=by
 refine gO (ofj16Ports rfl rfl ?_);(repeat' ((conv=>whnf);first|refine zG ?_|apply zA|intro h|exact zT));all_goals conv=>whnf
 all_goals first
  |exact fin_s hK (by rw[bJ];simp_all)
  |exact fin_f hK (decide_eq_false zo)
theorem djFind(l:List Df)(s:ByteArray)(hl:l.length<=1000){K:KT}(hK:K (.v (.int .i64 (dfIx l s))) []):AC 170 [.lst (l.map encDf),.v (.string s)] [] K:=by
 unfold dfIx at hK;refine ofj16Find rfl rfl ?_;(repeat' ((conv=>whnf);first|refine zG ?_|apply zA|intro h|exact zT));all_goals conv=>whnf
 refine gL Nat (fun i=>⟨0,[],[(0,.lst (l.map encDf)),(1,.v (.string s)),(5,.v (.int .i64 i))]⟩) (fun i=>i<=l.length/\∀(j:Nat) y,j<i->l[j]? =some y->sEq y.name s=false) (fun i=>l.length-i) 0 ⟨aK _,fun i y hi=>absurd hi (bC _)⟩ ?_ ?_
 ·exact leA
 intro i ⟨hi,hinv⟩;rcases aF i l.length with hil|hil
 ·obtain⟨x,hx⟩:=gex hil;(repeat' ((conv=>whnf);first|(with_reducible first|refine hU hil ?_|refine hJ hx ?_)|refine zG ?_|apply zA|intro h|exact zT));all_goals conv=>whnf
  ·rw[firstIx_at (p:=fun d=>sEq d.name s) hx (show sEq x.name s=true from h) hinv]at hK;exact hK
  ·refine⟨i+1,⟨hil,before_succ (p:=fun d:Df=>sEq d.name s) hx h hinv⟩,by omega,?_⟩;rw[aO,aN];exact leA
 ·(repeat' ((conv=>whnf);first|refine zG ?_|apply zA|intro h|exact zT));all_goals conv=>whnf
  rw[firstIx_none (p:=fun d=>sEq d.name s) (iB hil hinv)]at hK;exact hK
theorem djFindW(l:List Wn)(s:ByteArray)(hl:l.length<=1000){K:KT}(hK:K (.v (.int .i64 (wnIx l s))) []):AC 88 [.lst (l.map encWn),.v (.string s)] [] K:=by
 unfold wnIx at hK;refine ofj16FindW rfl rfl ?_;(repeat' ((conv=>whnf);first|refine zG ?_|apply zA|intro h|exact zT));all_goals conv=>whnf
 refine gL Nat (fun i=>⟨0,[],[(0,.lst (l.map encWn)),(1,.v (.string s)),(5,.v (.int .i64 i))]⟩) (fun i=>i<=l.length/\∀(j:Nat) y,j<i->l[j]? =some y->sEq y.name s=false) (fun i=>l.length-i) 0 ⟨aK _,fun i y hi=>absurd hi (bC _)⟩ ?_ ?_
 ·exact leA
 intro i ⟨hi,hinv⟩;rcases aF i l.length with hil|hil
 ·obtain⟨x,hx⟩:=gex hil;(repeat' ((conv=>whnf);first|(with_reducible first|refine hU hil ?_|refine hJ hx ?_)|refine zG ?_|apply zA|intro h|exact zT));all_goals conv=>whnf
  ·rw[firstIx_at (p:=fun d=>sEq d.name s) hx (show sEq x.name s=true from h) hinv]at hK;exact hK
  ·refine⟨i+1,⟨hil,before_succ (p:=fun d:Wn=>sEq d.name s) hx h hinv⟩,by omega,?_⟩;rw[aO,aN];exact leA
 ·(repeat' ((conv=>whnf);first|refine zG ?_|apply zA|intro h|exact zT));all_goals conv=>whnf
  rw[firstIx_none (p:=fun d=>sEq d.name s) (iB hil hinv)]at hK;exact hK
theorem eqw_It{k k' pa pb qa qb pr pr' lo hi lo' hi':Int}{n n':ByteArray}{K:Bool->Prop}(hk:K (decide (k=k')&&(sEq n n'&&decide (pa=qa/\pb=qb/\pr=pr'/\lo=lo'/\hi=hi')))):EqV Tryz.prog 98 [.v (.int .i64 k),.v (.string n),.v (.int .u32 pa),.v (.int .i64 pb),.v (.int .i64 pr),.v (.int .u32 lo),.v (.int .u32 hi)]
  [.v (.int .i64 k'),.v (.string n'),.v (.int .u32 qa),.v (.int .i64 qb),.v (.int .i64 pr'),.v (.int .u32 lo'),.v (.int .u32 hi')] K:=by
 refine eqv_of (b:=(k==k'&&(n.toList==n'.toList&&((pa==qa&&(pb==qb&&true))&&(pr==pr'&&((lo==lo'&&(hi==hi'&&true))&&true)))))) rfl rfl zk zk ?_;have e:(k==k'&&(n.toList==n'.toList&&((pa==qa&&(pb==qb&&true))&&(pr==pr'&&((lo==lo'&&(hi==hi'&&true))&&true)))))=(decide (k=k')&&(sEq n n'&&decide (pa=qa/\pb=qb/\pr=pr'/\lo=lo'/\hi=hi'))):=by
  unfold sEq;rw[bJ];simp only[aJ,beq_iff_eq,aL,and_true,and_assoc]
 rw[e];exact hk
theorem eqw_Rg{lo hi lo' hi':Int}{K:Bool->Prop}(hk:K (decide (lo=lo'/\hi=hi'))):EqV Tryz.prog 96 [.v (.int .u32 lo),.v (.int .u32 hi)] [.v (.int .u32 lo'),.v (.int .u32 hi')] K:=by
 refine eqv_of (b:=(lo==lo'&&(hi==hi'&&true))) rfl rfl zk zk ?_;have e:(lo==lo'&&(hi==hi'&&true))=decide (lo=lo'/\hi=hi'):=by
  rw[bJ];simp only[aJ,beq_iff_eq,aL,and_true]
 rw[e];exact hk
theorem sEq_self(s:ByteArray):sEq s s=true:=by unfold sEq;simp
theorem djItem(x:It)(g:Bool){K:KT}(hK:K (.sb (itB x g)) []):AC 171 [encIt x,.sb g] [] K:=by
 refine gO (ofj16Item rfl rfl ?_);have hs:=sEq_self x.name;(repeat' ((conv=>whnf);first|(with_reducible first|refine crName _ ?_|refine crVal x.pf ?_|refine djPorts _ _ _ ?_)|(refine eqw_It ?_)|(refine eqw_Rg ?_)|refine zG ?_|apply zA|intro h|exact zT));all_goals conv=>whnf
 all_goals first
  |refine fin_t hK ?_
  |refine fin_f hK ?_
  |refine fin_s hK ?_
 all_goals
  unfold itB;have hl0:=x.ports.l0;simp_all[itN,itP,itS,prB]
 all_goals first
  |omega
  |(rw[aD zo,aD zo];intros;omega)
def g21:Ctx:={N:=8}
abbrev of21:=ofD g21 Tryz.func202
def g41:Ctx:={N:=9}
abbrev of41:=ofD g41 Tryz.func263
def g42:Ctx:={N:=14}
abbrev of42:=ofD g42 Tryz.func264
def g50:Ctx:={N:=19}
abbrev of50:=ofD g50 Tryz.func299
def g47:Ctx:={N:=10}
abbrev of47:=ofD g47 Tryz.func267
def g48:Ctx:={N:=20}
abbrev of48:=ofD g48 Tryz.func268
def g54:Ctx:={N:=6}
abbrev of54:=ofD g54 Tryz.func302
theorem c42(lo hi v:Int){K:KT}(hK:K (.sb (decide (lo<=v)&&decide (v<=hi))) []):
  AC 264 [.agg [.v (.int .u32 lo),.v (.int .u32 hi)],.fp [.v (.int .u32 v)]] [] K:=by
 refine gO (of42 rfl rfl ?_)
 iterate 12 (all_goals((conv=>whnf);first|refine zG ?_|apply zA|intro h|exact zT|skip))
 ·refine .inr ⟨_,rfl,?_⟩;have h:lo<=v:=by assumption
  rw[decide_eq_true h,eG]at hK;exact hK
 ·refine .inl ⟨_,rfl,?_⟩;have h:¬lo<=v:=by assumption
  rw[decide_eq_false h,Bool.false_and]at hK;exact hK
theorem c50(l:List Rg)(v:Int)(hl:l.length<1000000){K:KT}(hK:∀z:Int,(0<=z↔has l v=true)->K (.v (.int .i64 z)) []):
  AC 299 [encRs l,.fn (.func 264) [] [.fp [.v (.int .u32 v)]]] [] K:=by
 refine of50 rfl rfl ?_;(conv=>whnf)
 refine gL Nat (fun k=>⟨0,[],[(0,encRs l),(1,.fn (.func 264) [] [.fp [.v (.int .u32 v)]]),(7,.v (.int .i64 (l.map encR).length)),(8,.v (.int .i64 k))]⟩) (fun k=>k<=l.length/\has (l.take k) v=false) (fun k=>l.length-k) 0 ?_ ?_ ?_
 ·exact⟨aK _,rfl⟩
 ·exact⟨[],rfl,⟨rfl,rfl,rfl,rfl,trivial⟩,trivial⟩
 ·intro k ⟨hk,hinv⟩;rcases aF k l.length with hkl|hkl
  ·obtain⟨r,hr⟩:=gex hkl
   iterate 6 (all_goals((conv=>whnf);first|(with_reducible first|refine hU hkl ?_|refine hJ hr ?_)|refine zG ?_|apply zA|intro h|exact zT|skip))
   refine c42 r.lo r.hi v ?_;have hs:=has_succ (v:=v) hr;rw[hinv,fV]at hs;generalize hb:(decide (r.lo<=v)&&decide (v<=r.hi))=b at hs⊢;(conv=>whnf)
   refine br_b (fun h=>?_) (fun h=>?_)
   ·(conv=>whnf)
    refine hK k (iff_of_true zo ?_);subst h;simp only[aJ,aL]at hb;exact has_mem hr hb.1 hb.2
   ·iterate 6 (all_goals((conv=>whnf);first|refine zG ?_|apply zA|intro h|exact zT|skip))
    exact⟨k+1,⟨by omega,by rw[hs,h]⟩,by omega,⟨[],rfl,⟨rfl,rfl,rfl,rfl,trivial⟩,trivial⟩⟩
  ·iterate 6 (all_goals((conv=>whnf);first|refine zG ?_|apply zA|intro h|exact zT|skip))
   refine hK (-1) (iff_of_false zo ?_);rw[aY hkl]at hinv;rw[hinv];simp
theorem c41(l:List Rg)(v:Int)(hl:l.length<1000000){K:KT}(hK:K (.sb (has l v)) []):
  AC 263 [encRs l,.fn (.func 264) [] [.fp [.v (.int .u32 v)]]] [] K:=by
 refine gO (of41 rfl rfl ?_);(conv=>whnf)
 refine c50 l v hl fun z hz=>?_;(conv=>whnf)
 refine .inr ⟨_,rfl,?_⟩;have e:decide (0<=z)=has l v:=by rw[bJ,aL];exact hz
 rw[e];exact hK
theorem c21(l:List Rg)(v:Int)(hl:l.length<1000000){K:KT}(hK:K (.sb (has l v)) []):
  AC 202 [encRs l,.v (.int .u32 v)] [] K:=by
 refine of21 rfl rfl ?_;(conv=>whnf)
 refine c41 l v hl ?_;(conv=>whnf)
 exact hK
theorem c54(x:Int){K:KT}(hK:K (.sb false) []):AC 302 [.v (.int .u32 x)] [] K:=by
 refine of54 rfl rfl ?_
 iterate 4 (all_goals((conv=>whnf);first|refine zG ?_|apply zA|intro h|exact zT|skip))
 have e:(!decide (x=x))=false:=by simp
 unfold one?;rw[e];exact hK
def g39:Ctx:={N:=72,own:=oz [266],plan:=p1 13 (lo 16) (p1 14 (lp 14 [28]) pn),hints:=h1 2 [.virt 3 2,.virt 4 2] hn}
abbrev of39:=ofD g39 Tryz.func206
def Sorts:Prop:=∀(d:List Rg) (n:Nat),n=d.length->d.length<1000000->∀K:AV->List Vm.Obj->Prop,(∀d':List Rg,d'.Perm d->d'.Pairwise (fun r s=>r.lo<=s.lo)->K (.tup []) [.arr 2 (d'.map encR)])->
 AC 266 [.os 0 2 0 n,.fn (.func 267) [] []] [.arr 2 (d.map encR)] K
def mergeS(out:List Rg)(r:Rg):List Rg:=
 match out.getLast? with
 |some p=>if r.lo<=p.hi+1 then out.dropLast++[mkR p.lo (max p.hi r.hi)]else out++[r]
 |none=>[r]
theorem mergeS_length(out:List Rg)(r:Rg):(mergeS out r).length<=out.length+1:=by
 unfold mergeS;split
 ·split<;>simp
 ·simp
theorem mergeS_inv{out:List Rg}{r:Rg}(hc:Canon out)(hlo:∀p,p∈out->p.lo<=r.lo)(hr:r.lo<=r.hi):Canon (mergeS out r)/\(∀v,has (mergeS out r) v=(has out v||has [r] v))/\∀p,p∈mergeS out r->p.lo<=r.lo:=by
 have b1:=r.l0;have b2:=r.l1;have b3:=r.h0;have b4:=r.h1;unfold mergeS;rcases cQ out with hnil|⟨ini,p,hcat⟩
 ·subst hnil;refine⟨?_,fun v=>by simp[has],fun p hp=>by simp at hp;subst hp;exact cI _⟩;have:=canon_append_one canon_nil hr (fun s hs=>by simp at hs);simpa using this
 ·rw[cR]at hcat;subst hcat;simp only[cU,cE,dO,dG];have p1:=p.l0;have p2:=p.l1;have p3:=p.h0;have p4:=p.h1;have hpw:=dK.1 hc.2;have hp1:=hc.1 p zx;have hp2:=hlo p zx;have hx:0<=max p.hi r.hi/\max p.hi r.hi<=4294967295:=by omega
  split
  ·rename_i he;have ci:Canon ini:=⟨fun t ht=>hc.1 t (by simp[ht]),hpw.1⟩
   refine⟨canon_append_one ci (by rw[mkR_lo p1 p2 hx.1 hx.2,mkR_hi p1 p2 hx.1 hx.2];omega) (fun s hs=>by rw[mkR_lo p1 p2 hx.1 hx.2];exact hpw.2.2 s hs p zx),fun v=>?_,fun q hq=>?_⟩
   ·rw[has_append,has_append,has_one,has_one,has_one,mkR_lo p1 p2 hx.1 hx.2,mkR_hi p1 p2 hx.1 hx.2,Bool.or_assoc]
    congr 1
    rw[bJ];simp only[bS,aJ,aL];omega
   ·rcases aX.1 hq with hq|hq
    ·exact hlo q (by simp[hq])
    ·simp at hq;subst hq;rw[mkR_lo p1 p2 hx.1 hx.2];exact hp2
  ·rename_i he;refine⟨canon_append_one hc hr (fun s hs=>?_),fun v=>has_append _ _ v,fun q hq=>?_⟩
   ·rcases aX.1 hs with hs|hs
    ·have:=hpw.2.2 s hs p zx;omega
    ·simp at hs;subst hs;omega
   ·rcases aX.1 hq with hq|hq
    ·exact hlo q hq
    ·simp at hq;subst hq;exact cI _
theorem fold_merge:∀(d out:List Rg),Canon out->(∀p,p∈out->∀r,r∈d->p.lo<=r.lo)->d.Pairwise (fun r s=>r.lo<=s.lo)->(∀r,r∈d->r.lo<=r.hi)->
  Canon (d.foldl mergeS out)/\(∀v,has (d.foldl mergeS out) v=(has out v||has d v))/\(d.foldl mergeS out).length<=out.length+d.length
 |[],out,hc,_,_,_=>⟨hc,fun v=>by simp[has],by simp⟩
 |r::d,out,hc,hlo,hp,hok=>by
  have⟨hp1,hp2⟩:=bT.1 hp;obtain⟨h1,h2,h3⟩:=mergeS_inv hc (fun p hpm=>hlo p hpm r zx) (hok r zx);obtain⟨g1,g2,g3⟩:=fold_merge d (mergeS out r) h1 (fun p hpm s hs=>Int.le_trans (h3 p hpm) (hp1 s hs)) hp2 (fun s hs=>hok s (by simp[hs]));refine⟨g1,fun v=>?_,?_⟩
  ·rw[dW,g2,h2,Bool.or_assoc,<-has_append];rfl
  ·have:=mergeS_length out r;simp only[dW,aB];omega
def okR(r:Rg):Bool:=decide (r.lo<=r.hi)
theorem c39(hs:Sorts)(l:List Rg)(hl:l.length<100000){K:KT}(hK:∀c,Canon c->(∀v,has c v=has l v)->c.length<=l.length->K (encRs c) []):AC 206 [encRs l] [] K:=by
 refine of39 rfl rfl ?_;(conv=>whnf)
 refine gL Nat (fun k=>⟨2,[(0,.arr 2 (((l.take k).filter okR).map encR)),(1,.arr 2 [])],[(3,.os 0 2 0 ((l.take k).filter okR).length),(4,.os 1 2 0 0),(10,encRs l),(11,.v (.int .i64 (l.map encR).length)),(12,.v (.int .i64 k))]⟩) (fun k=>k<=l.length) (fun k=>l.length-k) 0 ?_ ?_ ?_
 ·exact aK _
 ·exact⟨[(0,0),(1,1)],rfl,⟨rfl,rfl,rfl,rfl,rfl,trivial⟩,⟨rfl,rfl,trivial⟩⟩
 ·intro k hk;rcases aF k l.length with hkl|hkl
  ·obtain⟨r,hr⟩:=gex hkl;have b1:=r.l0;have b2:=r.l1;have b3:=r.h0;have b4:=r.h1;have e:(l.take (k+1)).filter okR=(l.take k).filter okR++(if r.lo<=r.hi then [r]else []):=by
    rw[bI,hr,eC,dF];simp only[okR,eY,List.filter_nil,aL]
   have hlen:((l.take k).filter okR).length<=l.length:=aZ (dL _ _) (by rw[bA];omega)
   iterate 30 (all_goals((conv=>whnf);first|(with_reducible first|refine hU hkl ?_|refine hJ hr ?_)|refine zG ?_|apply zA|intro h|exact zT|skip))
   ·refine⟨k+1,by omega,by omega,?_⟩;rw[e,aG zp,aQ,aC];exact⟨[(0,4),(1,1)],rfl,⟨rfl,rfl,rfl,rfl,rfl,trivial⟩,⟨rfl,rfl,trivial⟩⟩
   ·refine⟨k+1,by omega,by omega,?_⟩;rw[e,aD zp,bF];exact⟨[(0,0),(1,1)],rfl,⟨rfl,rfl,rfl,rfl,rfl,trivial⟩,⟨rfl,rfl,trivial⟩⟩
  ·rw[aY hkl];have hlen:(l.filter okR).length<=l.length:=dL _ _
   iterate 6 (all_goals((conv=>whnf);first|(with_reducible refine hU hkl ?_)|refine zG ?_|apply zA|intro h|exact zT|skip))
   refine hs (l.filter okR) _ rfl zo _ fun d hperm hsort=>?_;have hn:(l.filter okR).length=d.length:=hperm.length_eq.symm;rw[hn];(conv=>whnf)
   refine gL Nat (fun k=>⟨2,[(0,.arr 2 (d.map encR)),(1,.arr 2 (((d.take k).foldl mergeS []).map encR))],[(4,.os 1 2 0 ((d.take k).foldl mergeS []).length),(28,.os 0 2 0 d.length),(29,.v (.int .i64 d.length)),(30,.v (.int .i64 k))]⟩) (fun k=>k<=d.length/\((d.take k).foldl mergeS []).length<=k) (fun k=>d.length-k) 0 ?_ ?_ ?_
   ·exact⟨aK _,by simp⟩
   ·exact⟨[(0,0),(1,1)],rfl,⟨rfl,rfl,rfl,rfl,trivial⟩,⟨rfl,rfl,trivial⟩⟩
   ·intro k ⟨hk,hle⟩;rcases aF k d.length with hkl|hkl
    ·obtain⟨r,hr⟩:=gex hkl;have hr0:d[0+k]? =some r:=by rw[bK];exact hr
     have b1:=r.l0;have b2:=r.l1;have b3:=r.h0;have b4:=r.h1;have hs2:=foldl_succ (f:=mergeS) (b:=[]) hr;generalize hout:(d.take k).foldl mergeS []=out at hs2 hle⊢;have hj:(k:Int)<(d.length:Int):=by omega
     rcases cQ out with hnil|⟨ini,p,hcat⟩
     ·subst hnil
      iterate 30 (all_goals((conv=>whnf);first|(with_reducible first|refine gT k rfl zo ?_|refine hJ hr ?_|refine hJ hr0 ?_)|refine zG ?_|apply zA|intro h|exact zT|skip))
      refine⟨k+1,⟨by omega,by rw[hs2];simp[mergeS]⟩,by omega,?_⟩;rw[hs2,show mergeS [] r=[r]from rfl];exact⟨[(0,0),(1,4)],rfl,⟨rfl,rfl,rfl,rfl,trivial⟩,⟨rfl,rfl,trivial⟩⟩
     ·rw[cR]at hcat;subst hcat;have p1:=p.l0;have p2:=p.l1;have p3:=p.h0;have p4:=p.h1;have hp:(ini++[p])[ini.length]? =some p:=by simp
      have hp0:(ini++[p])[0+ini.length]? =some p:=by simp
      have hi:((((ini++[p]).length:Nat):Int)-1=ini.length)/\ini.length<(ini++[p]).length:=by simp
      iterate 40 (all_goals((conv=>whnf);first|(with_reducible first|refine gT k rfl zo ?_|refine hJ hr ?_|refine hJ hr0 ?_|refine gT ini.length hi.1 hi.2 ?_|refine hJ hp ?_|refine hJ hp0 ?_)|refine zG ?_|apply zA|intro h|exact zT|skip))
      ·have e:mergeS (ini++[p]) r=ini++[mkR p.lo (max p.hi r.hi)]:=by
        simp only[mergeS,cU,cE,dO,dG];rw[aG zp]
       refine⟨k+1,⟨by omega,by rw[hs2];have:=mergeS_length (ini++[p]) r;omega⟩,by omega,?_⟩;rw[hs2,e,aQ,aR,bL,enc_mkR zo zo zo zo];have e2:(ini.map encR++[.agg [.v (.int .u32 p.lo),.v (.int .u32 (max p.hi r.hi))]])=((ini++[p]).map encR).set (0+ini.length) (.agg [.v (.int .u32 p.lo),.v (.int .u32 (max p.hi r.hi))]):=by
        rw[aQ,eB _ _ zx];simp
       rw[e2,show(ini++[mkR p.lo (max p.hi r.hi)]).length=(ini++[p]).length by simp];exact⟨[(0,0),(1,1)],rfl,⟨rfl,rfl,rfl,rfl,trivial⟩,⟨rfl,rfl,trivial⟩⟩
      ·have e:mergeS (ini++[p]) r=ini++[p]++[r]:=by
        simp only[mergeS,cU,cE,dO,dG];rw[aD zp]
       refine⟨k+1,⟨by omega,by rw[hs2];have:=mergeS_length (ini++[p]) r;omega⟩,by omega,?_⟩;rw[hs2,e,aQ (l₁:=ini++[p]),show(ini++[p]++[r]).length=(ini++[p]).length+1 from by simp];exact⟨[(0,0),(1,4)],rfl,⟨rfl,rfl,rfl,rfl,trivial⟩,⟨rfl,rfl,trivial⟩⟩
    ·rw[aY hkl]at hle⊢
     iterate 8 (all_goals((conv=>whnf);first|refine zG ?_|apply zA|intro h|exact zT|skip))
     have hok:∀r,r∈d->r.lo<=r.hi:=fun r hr=>by
      have:=(cJ.1 (hperm.subset hr)).2;simpa[okR]using this
     obtain⟨g1,g2,g3⟩:=fold_merge d [] canon_nil (fun p hp=>by simp at hp) hsort hok;refine hK _ g1 (fun v=>?_) (by simp only[aH]at g3;omega);rw[g2,has_nil,fV,bJ,has_iff,has_iff];constructor
     ·rintro⟨r,hr,h1,h2⟩
      exact⟨r,(cJ.1 (hperm.subset hr)).1,h1,h2⟩
     ·rintro⟨r,hr,h1,h2⟩
      refine⟨r,hperm.symm.subset (cJ.2 ⟨hr,?_⟩),h1,h2⟩;simp only[okR,aL];omega
def g49:Ctx:={N:=27,hints:=h1 6 [.virt 0 2] hn,res:=true}
abbrev of49:=ofD g49 Tryz.func269
def g40:Ctx:={N:=36,own:=oz [269]}
abbrev of40:=ofD g40 Tryz.func207
def cmpI(x y:Int):Int:=if x<y then-1 else if y<x then 1 else 0
theorem c48(x y:Int){K:KT}(hK:K (.v (.int .i64 (cmpI x y))) []):AC 268 [.v (.int .u32 x),.v (.int .u32 y)] [] K:=by
 refine of48 rfl rfl ?_
 iterate 20 (all_goals((conv=>whnf);first|(with_reducible refine c54 _ ?_)|refine zG ?_|apply zA|intro h|exact zT|skip))
 all_goals
  unfold cmpI at hK
 ·rw[aG zp]at hK;exact hK
 ·rw[aD zp,aG zp]at hK;exact hK
 ·rw[aD zp,aD zp]at hK;exact hK
theorem c47(r s:Rg){K:KT}(hK:K (.v (.int .i64 (cmpI r.lo s.lo))) []):AC 267 [.agg [.v (.int .u32 r.lo),.v (.int .u32 r.hi)],.agg [.v (.int .u32 s.lo),.v (.int .u32 s.hi)]] [] K:=by
 refine of47 rfl rfl ?_
 iterate 6 (all_goals((conv=>whnf);first|(with_reducible refine c48 _ _ ?_)|refine zG ?_|apply zA|intro h|exact zT|skip))
 exact hK
theorem grow_ob{n m:Nat}{c:AV}(hn:n<2000000)(hm:m<10000)(hc:c.cells.all AV.one=true):((List.replicate n c).length+96)*m<=140737488355328/\∀x,x∈List.replicate n c->x.cells.all AV.one=true:=by
 refine⟨?_,fun x hx=>by rw[eK hx];exact hc⟩;rw[List.length_replicate];have h1:(n+96)*m<=2000096*10000:=dV zo zo;omega
theorem c49(n:Nat)(hn:n<2000000){K:KT}(hK:∀xs,K (.os 0 2 0 0) [.arr 2 xs]):AC 269 [.nils,.v (.int .i64 n)] [] K:=by
 refine of49 rfl rfl ?_
 iterate 20 (all_goals((conv=>whnf);first|(with_reducible first|refine gY 0 0 rfl rfl zo zo ?_|refine gT n zo zo ?_|refine Ob.intro (grow_ob hn zd (by with_unfolding_all rfl)) ?_)|refine zG ?_|apply zA|intro h|exact zT|skip))
 ·exact hK _
 ·exact hK _
theorem c40(L:List (List Rg))(hL:L.length<1000)(hl:∀l,l∈L->l.length<1000){K:KT}(hK:K (encRs L.flatten) []):AC 207 [.lst (L.map encRs)] [] K:=by
 have sum_le:∀M:List (List Rg),(∀l,l∈M->l.length<1000)->M.flatten.length<=1000*M.length:=by
  intro M
  induction M with
  |nil=>intro _;simp
  |cons m M ih=>
   intro h;have h1:=h m zx;have h2:=ih fun l hl=>h l (by simp[hl]);simp only[eI,aC,aB];omega
 have next:∀{k:Nat} {l:List Rg},L[k]? =some l->(L.take (k+1)).flatten=(L.take k).flatten++l:=by
  intro k l h;rw[bI,h,eC,List.flatten_append];simp
 have bound:∀k,k<=L.length->(L.take k).flatten.length<=1000000:=by
  intro k hk;have:=sum_le (L.take k) fun l h=>hl l (cA h);rw[bA]at this;omega
 refine of40 rfl rfl ?_;(conv=>whnf)
 refine gL Nat (fun k=>⟨0,[],[(0,.lst (L.map encRs)),(3,.v (.int .i64 ((L.take k).flatten.length:Int))),(9,.lst (L.map encRs)),(10,.v (.int .i64 (L.map encRs).length)),(11,.v (.int .i64 k))]⟩) (fun k=>k<=L.length) (fun k=>L.length-k) 0 ?_ ?_ ?_
 ·exact aK _
 ·exact⟨[],rfl,⟨rfl,rfl,rfl,rfl,rfl,trivial⟩,trivial⟩
 ·intro k hk;rcases aF k L.length with hkl|hkl
  ·obtain⟨l,hx⟩:=gex hkl;have hb:=bound k hk;have hll:=hl l (aI hx);have hn:=next hx
   have hlen:((L.take (k+1)).flatten.length:Int)=((L.take k).flatten.length:Int)+((l.map encR).length:Int):=by rw[hn,aC,aA];omega
   have hml:(l.map encR).length<1000:=by rw[aA];exact hll
   generalize (L.take k).flatten.length=n at hb hlen
   iterate 30 (all_goals((conv=>whnf);first|(with_reducible first|refine hU hkl ?_|refine hJ hx ?_)|refine zG ?_|apply zA|intro h|exact zT|skip))
   refine⟨k+1,by omega,by omega,?_⟩;rw[hlen];exact⟨[],rfl,⟨rfl,rfl,rfl,rfl,rfl,trivial⟩,trivial⟩
  ·have e:L.take k=L:=aY hkl;have hb:=bound k hk;rw[e]at hb⊢;(conv=>whnf)
   refine br_neg (by rw[aA];omega) ?_;(conv=>whnf)
   refine c49 L.flatten.length zo fun xs=>?_;(conv=>whnf)
   refine gL Nat (fun k=>⟨1,[(0,.arr 2 (if k=0 then xs else(L.take k).flatten.map encR))],[(6,.os 0 2 0 (L.take k).flatten.length),(25,.lst (L.map encRs)),(26,.v (.int .i64 (L.map encRs).length)),(27,.v (.int .i64 k))]⟩) (fun k=>k<=L.length) (fun k=>L.length-k) 0 ?_ ?_ ?_
   ·exact aK _
   ·exact⟨[(0,0)],rfl,⟨rfl,rfl,rfl,rfl,trivial⟩,⟨rfl,trivial⟩⟩
   ·intro k hk;have tk:((if k=0 then xs else(L.take k).flatten.map encR).drop 0).take (L.take k).flatten.length=(L.take k).flatten.map encR:=by
     by_cases h0:k=0
     ·subst h0;simp
     ·rw[aD h0,bZ];exact aY (by rw[aA];exact aM _)
    have tl:0+(L.take k).flatten.length<=(if k=0 then xs else(L.take k).flatten.map encR).length:=by
     by_cases h0:k=0
     ·subst h0;simp
     ·rw[aD h0,aA,bK];exact aM _
    rcases aF k L.length with hkl|hkl
    ·obtain⟨l,hx⟩:=gex hkl;have hb:=bound k hk;have hll:=hl l (aI hx);have hn:=next hx
     have hlen:(L.take (k+1)).flatten.length=(L.take k).flatten.length+(l.map encR).length:=by rw[hn,aC,aA]
     have hml:(l.map encR).length<1000:=by rw[aA];exact hll
     iterate 30 (all_goals((conv=>whnf);first|(with_reducible first|refine hU hkl ?_|refine hJ hx ?_|refine Sl.intro tl tk ?_)|refine zG ?_|apply zA|intro h|exact zT|skip))
     refine⟨k+1,by omega,by omega,?_⟩;rw[aD (Nat.succ_ne_zero k),hlen,hn,aQ];exact⟨[(0,1)],rfl,⟨rfl,rfl,rfl,rfl,trivial⟩,⟨rfl,trivial⟩⟩
    ·have hkL:k=L.length:=by omega
     iterate 10 (all_goals((conv=>whnf);first|(with_reducible refine Sl.intro tl tk ?_)|refine zG ?_|apply zA|intro h|exact zT|skip))
     rw[hkL,dD];exact hK
def g19:Ctx:={N:=71,plan:=p1 5 (lo 24) (p1 8 (lo 11) pn),hints:=h1 3 [.virt 5 2] hn}
abbrev of19:=ofD g19 Tryz.func261
def g18:Ctx:={N:=10}
abbrev of18:=ofD g18 Tryz.func135
def gwZone1:Ctx:={N:=8}
abbrev ofwZone1:=ofD gwZone1 Tryz.func288
def gwZone:Ctx:={N:=8}
abbrev ofwZone:=ofD gwZone Tryz.func221
def gwIdx:Ctx:={N:=25,hints:=h1 2 [.virt 5 1] hn}
abbrev ofwIdx:=ofD gwIdx Tryz.func287
def gwIxD:Ctx:={N:=19}
abbrev ofwIxD:=ofD gwIxD Tryz.func257
def gwFol1:Ctx:={N:=8}
abbrev ofwFol1:=ofD gwFol1 Tryz.func307
def gwG1:Ctx:={N:=14,np:=2,out:=true}
abbrev ofwG1:=ofD gwG1 Tryz.func217
def gwG2:Ctx:={N:=37,np:=4,own:=oz [217],plan:=p1 10 (lp 7 [14]) pn,hints:=h1 0 [.renewI 2 0] hn,out:=true}
abbrev ofwG2:=ofD gwG2 Tryz.func220
def Ad:Sched:=lp 5 [10,13]
def gwFol:Ctx:={N:=77,np:=7,own:=oz [286,220],plan:=p1 4 Ad (p1 6 Ad (p1 8 Ab (p1 9 Ab (p1 16 Ad (p1 20 Ab pn))))),hints:=h1 0 [.renewI 5 0] hn,out:=true,lend:=oz [257]}
abbrev ofwFol:=ofD gwFol Tryz.func286
def gwStart:Ctx:={N:=15,np:=4,own:=oz [286],out:=true}
abbrev ofwStart:=ofD gwStart Tryz.func219
def gwGrp:Ctx:={N:=40,own:=oz [219,217],hints:=h1 2 [.virtB 8 0 2] hn}
abbrev ofwGrp:=ofD gwGrp Tryz.func145
def gwS1:Ctx:={N:=8,np:=2,out:=true}
abbrev ofwS1:=ofD gwS1 Tryz.func222
def gwFos:Ctx:={N:=77,np:=5,own:=oz [286,222],plan:=p1 4 Ad (p1 6 Ad (p1 8 Ab (p1 9 Ab (p1 16 Ad (p1 20 Ab pn))))),hints:=h1 0 [.renewI 3 0] hn,out:=true,lend:=oz [257]}
abbrev ofwFos:=ofD gwFos Tryz.func286
def gwStS:Ctx:={N:=15,np:=2,own:=oz [286],out:=true}
abbrev ofwStS:=ofD gwStS Tryz.func219
def gwSvc:Ctx:={N:=64,own:=oz [219],plan:=p1 14 Bn pn,hints:=h1 4 [.virtB 6 0 7] (h1 8 [.freezeB 6,.asL 8] hn)}
abbrev ofwSvc:=ofD gwSvc Tryz.func146
def goPAt:Ctx:={N:=100,own:=oz [5,6,11,10]}
abbrev ofoPAt:=ofD goPAt Tryz.func3
def goMin:Ctx:={N:=9}
abbrev ofoMin:=ofD goMin Tryz.func59
def goAct1:Ctx:={N:=9}
abbrev ofoAct1:=ofD goAct1 Tryz.func130
def goAct:Ctx:={N:=27,lend:=oz [129]}
abbrev ofoAct:=ofD goAct Tryz.func60
def goOrd1:Ctx:={N:=19,plan:=p1 1 Af pn}
abbrev ofoOrd1:=ofD goOrd1 Tryz.func62
def goIns:Ctx:={N:=53,np:=1,plan:=p1 4 (lp 14 [28,31,33]) (p1 6 Ag pn)}
abbrev ofoIns:=ofD goIns Tryz.func203
def goStab:Ctx:={N:=63,np:=1,own:=oz [203]}
abbrev ofoStab:=ofD goStab Tryz.func132
def goSort:Ctx:={N:=9,np:=1,own:=oz [132]}
abbrev ofoSort:=ofD goSort Tryz.func61
def goOrd:Ctx:={N:=37,own:=oz [61],hints:=h1 4 [.virt 5 1] (h1 10 [.freeze 2] hn)}
abbrev ofoOrd:=ofD goOrd Tryz.func19
def goCmpS:Ctx:={N:=20}
abbrev ofoCmpS:=ofD goCmpS Tryz.func33
def goNaNS:Ctx:={N:=6}
abbrev ofoNaNS:=ofD goNaNS Tryz.func83
def goAt1:Ctx:={N:=10}
abbrev ofoAt1:=ofD goAt1 Tryz.func32
def goInsI:Ctx:={N:=53,np:=1,plan:=p1 4 (lp 14 [28,31,33]) (p1 6 Ag pn)}
abbrev ofoInsI:=ofD goInsI Tryz.func157
def goPdq:Ctx:={N:=148,np:=1,own:=oz [157],plan:=p1 17 (lp 13 [26,29,31,33]) pn}
abbrev ofoPdq:=ofD goPdq Tryz.func81
def goSortI:Ctx:={N:=14,np:=1,own:=oz [81]}
abbrev ofoSortI:=ofD goSortI Tryz.func31
def goReal:Ctx:={N:=23}
abbrev ofoReal:=ofD goReal Tryz.func28
def goChk:Ctx:={N:=23}
abbrev ofoChk:=ofD goChk Tryz.func27
def Ap:Sched:=ln [24,28,31,33,35,36,39]
def goTry:Ctx:={N:=80,np:=2,plan:=p1 10 (lz [1,3,5,9,13,15,17,19,21,23,27] (.alt 3 (.alt 5 Ap (.alt 12 (ln [11,28,31,33,35,36,39]) Aa)) (.alt 5 (.alt 3 Ap (.alt 12 (ln [7,28,31,33,35,36,39]) Aa)) (.alt 12 (ln [7,11,28,31,33,35,36,39]) Aa)))) pn}
abbrev ofoTry:=ofD goTry Tryz.func30
def goAt:Ctx:={N:=97,own:=oz [30,31],hints:=h1 19 [.virtB 17 1 2] hn}
abbrev ofoAt:=ofD goAt Tryz.func7
def goDec:Ctx:={N:=76,plan:=p1 3 Au (p1 4 (lp 12 [27,24,28,31,33]) pn)}
abbrev ofoDec:=ofD goDec Tryz.func16
def goCon:Ctx:={N:=31}
abbrev ofoCon:=ofD goCon Tryz.func116
def goPCon1:Ctx:={N:=7}
abbrev ofoPCon1:=ofD goPCon1 Tryz.func115
def goIxX:Ctx:={N:=19}
abbrev ofoIxX:=ofD goIxX Tryz.func192
def goAnyX:Ctx:={N:=9}
abbrev ofoAnyX:=ofD goAnyX Tryz.func114
def goPCon:Ctx:={N:=8,lend:=oz [114]}
abbrev ofoPCon:=ofD goPCon Tryz.func54
def goTAt1:Ctx:={N:=13}
abbrev ofoTAt1:=ofD goTAt1 Tryz.func112
def goTAt:Ctx:={N:=9,lend:=oz [111]}
abbrev ofoTAt:=ofD goTAt Tryz.func53
def goCAct:Ctx:={N:=17}
abbrev ofoCAct:=ofD goCAct Tryz.func131
def goSame:Ctx:={N:=57,plan:=p1 6 (lp 26 [52,55,57]) pn}
abbrev ofoSame:=ofD goSame Tryz.func9
def goNet:Ctx:={N:=20,np:=1,own:=oz [24,25,26],plan:=p1 2 (lz [3,5,7,11] (.wch 0 (ln [8,12,14,16,19]))) pn}
abbrev ofoNet:=ofD goNet Tryz.func6
def goLNet:Ctx:={N:=9}
abbrev ofoLNet:=ofD goLNet Tryz.func23
def goSan:Ctx:={N:=67,plan:=p1 2 (lz [3] (.alt 0 (.alt 2 (ln [7,9,11,12,14,17]) (.alt 6 (ln [4,7,9,11,14,17]) Aa)) (.alt 6 (ln [0,4,7,9,11,14,17]) Aa))) (p1 6 (ln [3,5,0,6,9,11,13,15,17]) (p1 7 (lp 6 [12,15,17,19,21,23,25,26,29,31,33,35,37,39,41,43,45,47,51,48,52,55,57,59,60,63,65,67,69]) pn)),hints:=h1 2 [.flatB 1 1,.freezeB 1] hn}
abbrev ofoSan:=ofD goSan Tryz.func14
def goNaNI:Ctx:={N:=6}
abbrev ofoNaNI:=ofD goNaNI Tryz.func133
def goCmpI:Ctx:={N:=20}
abbrev ofoCmpI:=ofD goCmpI Tryz.func63
def grAnD:Ctx:={N:=9}
abbrev ofrAnD:=ofD grAnD Tryz.func223
def grNam1:Ctx:={N:=9}
abbrev ofrNam1:=ofD grNam1 Tryz.func224
def grAnW:Ctx:={N:=9}
abbrev ofrAnW:=ofD grAnW Tryz.func225
def grNam2:Ctx:={N:=9}
abbrev ofrNam2:=ofD grNam2 Tryz.func226
def grBtw:Ctx:={N:=39,plan:=p1 9 (lz [1,5] (.alt 1 (ln [6,9,10]) (.alt 3 (ln [3,9,10]) Aa))) pn,hints:=h1 2 [.virt 6 10] hn}
abbrev ofrBtw:=ofD grBtw Tryz.func155
def grStm:Ctx:={N:=111,cut:=oz [18]}
abbrev ofrStm:=ofD grStm Tryz.func78
def grNames:Ctx:={N:=33,lend:=oz [223,225]}
abbrev ofrNames:=ofD grNames Tryz.func147
def grStmt:Ctx:={N:=37,plan:=p1 5 (lp 7 [14,17,19,21,23]) pn}
abbrev ofrStmt:=ofD grStmt Tryz.func29
def grCheck:Ctx:={N:=131}
abbrev ofrCheck:=ofD grCheck Tryz.func74
theorem sEq_eq{a b:ByteArray}(h:sEq a b=true):a=b:=by
 rw[sEq_data]at h;have h:=of_decide_eq_true (by simpa using h:decide (a.data.toList=b.data.toList)=true);exact ByteArray.ext (Array.ext' h)
def findD(l:List Df)(s:ByteArray):Option Nat:=l.findIdx? fun d=>sEq d.name s
theorem findD_some{l:List Df}{s:ByteArray}{n:Nat}(h:findD l s=some n):∃d,l[n]? =some d/\d.name=s/\n<l.length:=by
 unfold findD at h;rw[dQ]at h;obtain⟨h1,h2,_⟩:=h;exact⟨_,aE h1,sEq_eq h2,h1⟩
theorem firstIx_find(l:List Df)(s:ByteArray):firstIx (fun d=>sEq d.name s) l=match findD l s with
  |some n=>(n:Int)
  |none=> -1:=rfl
section
variable {S:Type} (v:It->S->Int×S)
def folI(rec:ByteArray->List Nat->S->Int×List Nat×S):List It->List Nat->S->Int×List Nat×S
 |[],d,s=>(0,d,s)
 |x::r,d,s=>
  let q:=if x.kind=3 then rec x.name d s else((v x s).1,d,(v x s).2)
  if q.1=0 then folI rec r q.2.1 q.2.2 else q
def fol(l:List Df):Nat->List Nat->ByteArray->List Nat->S->Int×List Nat×S
 |0,_,_,d,s=>(8,d,s)
 |k+1,p,nm,d,s=>match findD l nm with
  |none=>(5,d,s)
  |some n=>if n∈p then(8,d,s)else if n∈d then(0,d,s)else
   let q:=folI v (fol l k (p++[n])) (((l[n]?).map (·.items)).getD []) d s
   if q.1=0 then(0,q.2.1++[n],q.2.2)else q
theorem folI_nil(rec:ByteArray->List Nat->S->Int×List Nat×S)(d:List Nat)(s:S):folI v rec [] d s=(0,d,s):=rfl
theorem folI_cons(rec:ByteArray->List Nat->S->Int×List Nat×S)(x:It)(r:List It)(d:List Nat)(s:S):folI v rec (x::r) d s=
  if(if x.kind=3 then rec x.name d s else((v x s).1,d,(v x s).2)).1=0 then folI v rec r (if x.kind=3 then rec x.name d s else((v x s).1,d,(v x s).2)).2.1 (if x.kind=3 then rec x.name d s else((v x s).1,d,(v x s).2)).2.2
  else(if x.kind=3 then rec x.name d s else((v x s).1,d,(v x s).2)):=rfl
end
open Classical in
def nameM(l:List Df)(p:List Nat):Value->Option AV:=fun k=>if ∃n d,n∈p/\l[n]? =some d/\k=.string d.name then some (.sb true)else none
def Firsts(l:List Df)(p:List Nat):Prop:=∀n,n∈p->∀d,l[n]? =some d->findD l d.name=some n
theorem Firsts.nil{l:List Df}:Firsts l []:=fun n h=>by cases h
theorem Firsts.snoc{l:List Df}{p:List Nat}{s:ByteArray}{n:Nat}(h:Firsts l p)(hn:findD l s=some n):Firsts l (p++[n]):=fun m hm d hd=>by
 rcases aX.1 hm with hm|hm
 ·exact h m hm d hd
 ·rw[aV.1 hm]at hd⊢;obtain⟨d',h1,h2,_⟩:=findD_some hn;rw[hd]at h1;cases h1;rw[h2];exact hn
theorem nameM_in{l:List Df}{p:List Nat}{s:ByteArray}{n:Nat}(hn:findD l s=some n)(h:n∈p):nameM l p (.string s)=some (.sb true):=by
 obtain⟨d,h1,h2,_⟩:=findD_some hn;rw[nameM,aG ⟨n,d,h,h1,by rw[h2]⟩]
theorem nameM_out{l:List Df}{p:List Nat}{s:ByteArray}{n:Nat}(hf:Firsts l p)(hn:findD l s=some n)(h:n∉p):nameM l p (.string s)=none:=by
 rw[nameM,aD]
 rintro⟨m,d,h1,h2,h3⟩
 have e:s=d.name:=by simpa using h3
 have:=hf m h1 d h2;rw[<-e,hn]at this;cases this;exact h h1
theorem nameM_nil(l:List Df):(fun _=>none)=nameM l []:=by
 funext k
 rw[nameM,aD]
 rintro⟨n,d,h,_⟩;cases h
theorem updM_name{l:List Df}{p:List Nat}{s:ByteArray}{n:Nat}(hn:findD l s=some n):nameM l (p++[n])=updM (nameM l p) (.string s) (.sb true):=by
 obtain⟨d,h1,h2,_⟩:=findD_some hn
 funext k
 unfold updM;split
 ·rename_i e;rw[e,nameM_in hn zx]
 ·rename_i e;unfold nameM;have:(∃m d,m∈p++[n]/\l[m]? =some d/\k=.string d.name)↔∃m d,m∈p/\l[m]? =some d/\k=.string d.name:=by
   constructor
   ·rintro⟨m,d',g1,g2,g3⟩
    rcases aX.1 g1 with g1|g1
    ·exact⟨m,d',g1,g2,g3⟩
    ·rw[aV.1 g1,h1]at g2;cases g2;exact absurd (g3.trans (by rw[h2])) e
   ·rintro⟨m,d',g1,g2,g3⟩
    exact⟨m,d',cK _ g1,g2,g3⟩
  by_cases hx:∃m d,m∈p/\l[m]? =some d/\k=.string d.name
  ·rw[aG hx,aG (this.2 hx)]
  ·rw[aD hx,aD (fun h=>hx (this.1 h))]
theorem delM_name{l:List Df}{p:List Nat}{s:ByteArray}{n:Nat}(hf:Firsts l p)(hn:findD l s=some n)(h:n∉p):nameM l p=delM (nameM l (p++[n])) (.string s):=by
 funext k
 unfold delM;split
 ·rename_i e;rw[e,nameM_out hf hn h]
 ·rename_i e;rw[updM_name hn,updM,aD e]
structure Fine (l:List Df) (p d:List Nat):Prop where
 pn:p.Nodup
 dn:d.Nodup
 pf:Firsts l p
 df:Firsts l d
 pl:∀n,n∈p->n<l.length
 dl:∀n,n∈d->n<l.length
 dj:∀n,n∈p->n∉d
theorem Fine.push{l:List Df}{p d:List Nat}{s:ByteArray}{n:Nat}(h:Fine l p d)(hn:findD l s=some n)(hp:n∉p)(hd:n∉d):Fine l (p++[n]) d:=
 ⟨eH.2 ⟨h.pn,by simp,fun a ha b hb e=>by rw[aV.1 hb]at e;exact hp (e▸ha)⟩,h.dn,h.pf.snoc hn,h.df,fun m hm=>by
  rcases aX.1 hm with hm|hm
  ·exact h.pl m hm
  ·rw[aV.1 hm];exact(findD_some hn).choose_spec.2.2,h.dl,fun m hm=>by
  rcases aX.1 hm with hm|hm
  ·exact h.dj m hm
  ·rw[aV.1 hm];exact hd⟩
theorem Fine.pop{l:List Df}{p d:List Nat}{s:ByteArray}{n:Nat}(h:Fine l (p++[n]) d)(hn:findD l s=some n):Fine l p (d++[n]):=by
 have hnd:n∉d:=h.dj n zx;have hp:=eH.1 h.pn;exact⟨hp.1,eH.2 ⟨h.dn,by simp,fun a ha b hb e=>by rw[aV.1 hb]at e;exact hnd (e▸ha)⟩,fun m hm=>h.pf m (cK _ hm),h.df.snoc hn,
  fun m hm=>h.pl m (cK _ hm),fun m hm=>by
   rcases aX.1 hm with hm|hm
   ·exact h.dl m hm
   ·rw[aV.1 hm];exact h.pl n zx,fun m hm hmd=>by
   rcases aX.1 hmd with hmd|hmd
   ·exact h.dj m (cK _ hm) hmd
   ·exact hp.2.2 m hm n zx (aV.1 hmd)⟩
theorem nodupLe{l:List Nat}{m:Nat}(h:l.Nodup)(hb:∀x,x∈l->x<m):l.length<=m:=by
 have:=nodup_sub (l:=l.map fun n:Nat=>(n:Int)) (m:=(List.range m).map fun n:Nat=>(n:Int)) (by
  unfold List.Nodup at*;rw[fN];exact h.imp fun hab e=>hab zo) (fun x hx=>by
  obtain⟨n,hn,rfl⟩:=cD.1 hx;exact cD.2 ⟨n,dN.2 (hb n hn),rfl⟩)
 simpa using this
theorem Fine.small{l:List Df}{p d:List Nat}(h:Fine l p d):d.length+p.length<=l.length:=by
 have h1:(d++p).Nodup:=eH.2 ⟨h.dn,h.pn,fun a ha b hb e=>h.dj b hb (e▸ha)⟩;have h2:∀n,n∈d++p->n<l.length:=fun n hn=>by
  rcases aX.1 hn with hn|hn
  ·exact h.dl n hn
  ·exact h.pl n hn
 have h3:=nodupLe h1 h2;rw[aC]at h3;exact h3
section
variable {S:Type} (v:It->S->Int×S) (sz:S->Nat) (hv:∀x s,(v x s).1=0->sz (v x s).2<=sz s+1000)
structure Fed (l:List Df) (p d:List Nat) (s:S) (d':List Nat) (s':S) (c:Nat):Prop where
 fine:Fine l p d'
 le:d.length<=d'.length
 size:sz s'+1000000*d.length<=sz s+1000000*d'.length+c
include hv
theorem folI_fed{l:List Df}{p:List Nat}{rec:ByteArray->List Nat->S->Int×List Nat×S}(hrec:∀nm d s,Fine l p d->(rec nm d s).1=0->Fed sz l p d s (rec nm d s).2.1 (rec nm d s).2.2 0):
  ∀(its:List It) (d:List Nat) (s:S),Fine l p d->(folI v rec its d s).1=0->Fed sz l p d s (folI v rec its d s).2.1 (folI v rec its d s).2.2 (1000*its.length)
 |[],d,s,hf,_=>⟨hf,aM _,by simp[folI]⟩
 |x::r,d,s,hf,h=>by
  rw[folI_cons]at h⊢;have hq:(if x.kind=3 then rec x.name d s else((v x s).1,d,(v x s).2)).1=0->Fed sz l p d s (if x.kind=3 then rec x.name d s else((v x s).1,d,(v x s).2)).2.1 (if x.kind=3 then rec x.name d s else((v x s).1,d,(v x s).2)).2.2 1000:=by
   by_cases hk:x.kind=3
   ·rw[aG hk];intro h0;have:=hrec x.name d s hf h0;exact⟨this.fine,this.le,by have:=this.size;omega⟩
   ·rw[aD hk];intro h0;exact⟨hf,aM _,by have:=hv x s h0;simp only;omega⟩
  generalize (if x.kind=3 then rec x.name d s else((v x s).1,d,(v x s).2))=q at*;by_cases h0:q.1=0
  ·rw[aG h0]at h⊢;have hq:=hq h0;have h2:=folI_fed hrec r q.2.1 q.2.2 hq.fine h;exact⟨h2.fine,aZ hq.le h2.le,by have:=hq.size;have:=h2.size;rw[aB];omega⟩
  ·rw[aD h0]at h;exact absurd h h0
theorem fol_fed(l:List Df)(hit:∀d,d∈l->d.items.length<=999):∀(k:Nat) (p:List Nat) (nm:ByteArray) (d:List Nat) (s:S),Fine l p d->(fol v l k p nm d s).1=0->
  Fed sz l p d s (fol v l k p nm d s).2.1 (fol v l k p nm d s).2.2 0
 |0,p,nm,d,s,hf,h=>by simp[fol]at h
 |k+1,p,nm,d,s,hf,h=>by
  unfold fol at h⊢;cases hn:findD l nm with
  |none=>simp[hn]at h
  |some n=>
   simp only[hn]at h⊢;split at h
   ·simp at h
   rename_i hp;rw[aD hp];split at h
   ·rename_i hd;rw[aG hd];exact⟨hf,aM _,by simp⟩
   rename_i hd;rw[aD hd];obtain⟨df,hdf,_⟩:=findD_some hn;simp only[hdf,cS,cG]at h⊢;have hpush:=hf.push hn hp hd;split at h
   ·rename_i h0;rw[aG h0];have h1:=folI_fed v sz hv (fun nm d s hf h=>fol_fed l hit k (p++[n]) nm d s hf h) df.items d s hpush h0;have hlen:=hit df (aI hdf);exact⟨h1.fine.pop hn,by rw[aC];have:=h1.le;omega,by have:=h1.size;simp only[aC,cP];omega⟩
   ·rename_i h0;exact absurd h h0
end
end Go.Proofs.YtnomkooikbhgmaaGreatDoor
