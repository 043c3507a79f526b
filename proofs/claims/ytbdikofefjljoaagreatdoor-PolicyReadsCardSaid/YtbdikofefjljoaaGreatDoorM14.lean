/- The reference's intents: Valid, exactly. -/
import Derived.Test.YtbdikofefjljoaaGreatDoorProg
import Derived.Test.YtbdikofefjljoaaGreatDoorM13
set_option linter.unusedVariables false
set_option linter.unusedSimpArgs false
set_option maxRecDepth 100000
set_option maxHeartbeats 4000000
namespace Go.Proofs.YtbdikofefjljoaaGreatDoor
open Go Go.Vm
theorem has_day{d:Nat}(hd:d<7)(v:Int):has [mkR (1440*(d:Int)) (1440*d+1439)] v=(decide (1440*(d:Int)<=v)&&decide (v<=1440*(d:Int)+1439)):=by
 have m1:(mkR (1440*(d:Int)) (1440*d+1439)).lo=1440*d:=mkR_lo zo zo zo zo
 have m2:(mkR (1440*(d:Int)) (1440*d+1439)).hi=1440*d+1439:=mkR_hi zo zo zo zo
 have e:has [mkR (1440*(d:Int)) (1440*d+1439)] v=(decide ((mkR (1440*(d:Int)) (1440*d+1439)).lo<=v)&&decide (v<=(mkR (1440*(d:Int)) (1440*d+1439)).hi)):=by simp[has]
 rw[e,m1,m2]
theorem inter_exists(l:List Rg){d:Nat}(hd:d<7):∃c,Canon c/\∀v,has c v=(has l v&&(decide (1440*(d:Int)<=v)&&decide (v<=1440*(d:Int)+1439))):=by
 obtain⟨x,hx,ex⟩:=sub_ex l [mkR (1440*(d:Int)) (1440*d+1439)]
 obtain⟨y,hy,ey⟩:=sub_ex l x
 refine⟨y,hy,fun v=>?_⟩
 rw[ey,ex,has_day hd]
 cases has l v<;>cases (decide (1440*(d:Int)<=v)&&decide (v<=1440*(d:Int)+1439))<;>rfl
theorem dayW_ne{l:List Rg}(hc:Canon l)(ht:∀r,r∈l->r.hi<=10079)(hn:l≠[]):1<=cntW l 7:=by
 obtain⟨r,hr⟩:=List.exists_mem_of_ne_nil _ hn
 have h1:=hc.1 r hr
 have h2:=ht r hr
 have h0:=r.l0
 have hd:(r.lo/1440).toNat<7:=by omega
 have hx:dayW l (r.lo/1440).toNat≠[]:=by
  intro e
  have:=(canO_spec (inter_exists l hd)).2 r.lo
  rw[show canO (fun v=>has l v&&(decide (1440*(((r.lo/1440).toNat:Nat):Int)<=v)&&decide (v<=1440*(((r.lo/1440).toNat:Nat):Int)+1439)))=dayW l (r.lo/1440).toNat from rfl,e,has_nil,has_iff.2 ⟨r,hr,cF _,h1⟩,decide_eq_true zo,decide_eq_true zo]at this
  cases this
 have hl:=dH.2 hx
 have:=le_sum_nat (f:=fun d=>(dayW l d).length) (dJ.2 hd)
 unfold cntW
 omega
noncomputable def fmtN(l:List Rg):Nat:=if l=[]then 1 else 3*cntW l 7-1
open Classical in
noncomputable def fmtL(l:List Rg):Nat:=if Canon l/\∀r,r∈l->r.hi<=10079 then fmtN l else 0
theorem win_iff{l:List Rg}:WinOk l↔(Canon l/\∀r,r∈l->r.hi<=10079)/\fmtN l<=47:=by
 constructor
 ·intro h
  refine⟨⟨h.can,h.top⟩,?_⟩
  have:=h.few
  unfold fmtN;split<;>omega
 ·rintro⟨⟨h1,h2⟩,h3⟩
  refine⟨h1,h2,?_⟩
  unfold fmtN at h3
  by_cases hl:l=[]
  ·subst hl
   have e:∀d,dayW [] d=[]:=fun d=>dayW_eq canon_nil fun v=>by rw[has_nil];rfl
   unfold cntW
   simp only[e,aO]
   decide
  ·rw[aE hl]at h3;omega
theorem eqw_It{k k' pa pb qa qb pr pr' lo hi lo' hi':Int}{n n':ByteArray}{K:Bool->Prop}(hk:K (decide (k=k')&&(sEq n n'&&decide (pa=qa/\pb=qb/\pr=pr'/\lo=lo'/\hi=hi')))):EqV Tryz.prog 113 [.v (.int .i64 k),.v (.string n),.v (.int .u32 pa),.v (.int .i64 pb),.v (.int .i64 pr),.v (.int .u32 lo),.v (.int .u32 hi)]
  [.v (.int .i64 k'),.v (.string n'),.v (.int .u32 qa),.v (.int .i64 qb),.v (.int .i64 pr'),.v (.int .u32 lo'),.v (.int .u32 hi')] K:=by
 refine eqv_of (b:=(k==k'&&(n.toList==n'.toList&&((pa==qa&&(pb==qb&&true))&&(pr==pr'&&((lo==lo'&&(hi==hi'&&true))&&true)))))) rfl rfl zk zk ?_
 have e:(k==k'&&(n.toList==n'.toList&&((pa==qa&&(pb==qb&&true))&&(pr==pr'&&((lo==lo'&&(hi==hi'&&true))&&true)))))=(decide (k=k')&&(sEq n n'&&decide (pa=qa/\pb=qb/\pr=pr'/\lo=lo'/\hi=hi'))):=by
  unfold sEq
  rw[bG]
  simp only[aI,beq_iff_eq,aK,and_true,and_assoc]
 rw[e];exact hk
theorem eqw_Rg{lo hi lo' hi':Int}{K:Bool->Prop}(hk:K (decide (lo=lo'/\hi=hi'))):EqV Tryz.prog 111 [.v (.int .u32 lo),.v (.int .u32 hi)] [.v (.int .u32 lo'),.v (.int .u32 hi')] K:=by
 refine eqv_of (b:=(lo==lo'&&(hi==hi'&&true))) rfl rfl zk zk ?_
 have e:(lo==lo'&&(hi==hi'&&true))=decide (lo=lo'/\hi=hi'):=by
  rw[bG]
  simp only[aI,beq_iff_eq,aK,and_true]
 rw[e];exact hk
theorem sEq_self(s:ByteArray):sEq s s=true:=by unfold sEq;simp
noncomputable def g21:Ctx:={N:=8}
noncomputable def b21:Code:=bdy Tryz.f253
abbrev of21:=@ofC Tryz.prog g21 253 Tryz.f253 b21 Tryz.func253 zk zk zk zk
noncomputable def g41:Ctx:={N:=9}
noncomputable def b41:Code:=bdy Tryz.f299
abbrev of41:=@ofC Tryz.prog g41 299 Tryz.f299 b41 Tryz.func299 zk zk zk zk
noncomputable def g42:Ctx:={N:=14}
noncomputable def b42:Code:=bdy Tryz.f300
abbrev of42:=@ofC Tryz.prog g42 300 Tryz.f300 b42 Tryz.func300 zk zk zk zk
noncomputable def g50:Ctx:={N:=19}
noncomputable def b50:Code:=bdy Tryz.f327
abbrev of50:=@ofC Tryz.prog g50 327 Tryz.f327 b50 Tryz.func327 zk zk zk zk
noncomputable def g47:Ctx:={N:=10}
noncomputable def b47:Code:=bdy Tryz.f303
abbrev of47:=@ofC Tryz.prog g47 303 Tryz.f303 b47 Tryz.func303 zk zk zk zk
noncomputable def g48:Ctx:={N:=20}
noncomputable def b48:Code:=bdy Tryz.f304
abbrev of48:=@ofC Tryz.prog g48 304 Tryz.f304 b48 Tryz.func304 zk zk zk zk
noncomputable def g54:Ctx:={N:=6}
noncomputable def b54:Code:=bdy Tryz.f330
abbrev of54:=@ofC Tryz.prog g54 330 Tryz.f330 b54 Tryz.func330 zk zk zk zk
theorem c42(lo hi v:Int){K:KT}(hK:K (.sb (decide (lo<=v)&&decide (v<=hi))) []):
  ACall Tryz.prog 300 [.agg [.v (.int .u32 lo),.v (.int .u32 hi)],.fp [.v (.int .u32 v)]] [] K:=by
 refine ACall.bool (of42 rfl rfl ?_)
 iterate 12 (all_goals((conv=>whnf);first|refine zG ?_|apply zA|(apply zI;intro h)|exact zT|skip))
 ·refine .inr ⟨_,rfl,?_⟩
  have h:lo<=v:=by assumption
  rw[decide_eq_true h,fC]at hK
  exact hK
 ·refine .inl ⟨_,rfl,?_⟩
  have h:¬lo<=v:=by assumption
  rw[decide_eq_false h,Bool.false_and]at hK
  exact hK
theorem c50(l:List Rg)(v:Int)(hl:l.length<1000000){K:KT}(hK:∀z:Int,(0<=z↔has l v=true)->K (.v (.int .i64 z)) []):
  ACall Tryz.prog 327 [encRs l,.fn (.func 300) [] [.fp [.v (.int .u32 v)]]] [] K:=by
 refine of50 rfl rfl ?_
 (conv=>whnf)
 refine Lp.intro Nat (fun k=>⟨0,[],[(0,encRs l),(1,.fn (.func 300) [] [.fp [.v (.int .u32 v)]]),(7,.v (.int .i64 (l.map encR).length)),(8,.v (.int .i64 k))]⟩) (fun k=>k<=l.length/\has (l.take k) v=false) (fun k=>l.length-k) 0 ?_ ?_ ?_
 ·exact⟨aH _,rfl⟩
 ·exact⟨[],rfl,⟨rfl,rfl,rfl,rfl,trivial⟩,trivial⟩
 ·intro k ⟨hk,hinv⟩
  rcases aB k l.length with hkl|hkl
  ·obtain⟨r,hr⟩:=gex hkl
   iterate 6 (all_goals((conv=>whnf);first|(with_reducible first|refine in_map hkl ?_|refine ix_map hr ?_)|refine zG ?_|apply zA|(apply zI;intro h)|exact zT|skip))
   refine c42 r.lo r.hi v ?_
   have hs:=has_succ (v:=v) hr
   rw[hinv,fR]at hs
   generalize hb:(decide (r.lo<=v)&&decide (v<=r.hi))=b at hs⊢
   (conv=>whnf)
   refine br_b (fun h=>?_) (fun h=>?_)
   ·(conv=>whnf)
    refine hK k (iff_of_true zo ?_)
    subst h
    simp only[aI,aK]at hb
    exact has_mem hr hb.1 hb.2
   ·iterate 6 (all_goals((conv=>whnf);first|refine zG ?_|apply zA|(apply zI;intro h)|exact zT|skip))
    exact⟨k+1,⟨by omega,by rw[hs,h]⟩,by omega,⟨[],rfl,⟨rfl,rfl,rfl,rfl,trivial⟩,trivial⟩⟩
  ·iterate 6 (all_goals((conv=>whnf);first|refine zG ?_|apply zA|(apply zI;intro h)|exact zT|skip))
   refine hK (-1) (iff_of_false zo ?_)
   rw[aX hkl]at hinv
   rw[hinv];simp
theorem c41(l:List Rg)(v:Int)(hl:l.length<1000000){K:KT}(hK:K (.sb (has l v)) []):
  ACall Tryz.prog 299 [encRs l,.fn (.func 300) [] [.fp [.v (.int .u32 v)]]] [] K:=by
 refine ACall.bool (of41 rfl rfl ?_)
 (conv=>whnf)
 refine c50 l v hl fun z hz=>?_
 (conv=>whnf)
 refine .inr ⟨_,rfl,?_⟩
 have e:decide (0<=z)=has l v:=by rw[bG,aK];exact hz
 rw[e];exact hK
theorem c21(l:List Rg)(v:Int)(hl:l.length<1000000){K:KT}(hK:K (.sb (has l v)) []):
  ACall Tryz.prog 253 [encRs l,.v (.int .u32 v)] [] K:=by
 refine of21 rfl rfl ?_
 (conv=>whnf)
 refine c41 l v hl ?_
 (conv=>whnf)
 exact hK
theorem c54(x:Int){K:KT}(hK:K (.sb false) []):ACall Tryz.prog 330 [.v (.int .u32 x)] [] K:=by
 refine of54 rfl rfl ?_
 iterate 4 (all_goals((conv=>whnf);first|refine zG ?_|apply zA|(apply zI;intro h)|exact zT|skip))
 have e:(!decide (x=x))=false:=by simp
 unfold one?
 rw[e]
 exact hK
noncomputable def g39:Ctx:={N:=72,own:=at1 302 (true) (fun _=>false),plan:=at1 13 (some (ln [1,3,5,7,9,11,13,15,17,19,21,23,25,27,29,31])) (at1 14 (some (ln [1,3,5,7,9,11,13,15,17,19,21,23,25,27,28])) (fun _=>none)),hints:=at1 2 ([.virt 3 2,.virt 4 2]) (fun _=>[])}
noncomputable def b39:Code:=bdy Tryz.f257
abbrev of39:=@ofC Tryz.prog g39 257 Tryz.f257 b39 Tryz.func257 zk zk zk zk
def Sorts:Prop:=∀(d:List Rg) (n:Nat),n=d.length->d.length<1000000->∀K:AV->List Vm.Obj->Prop,(∀d':List Rg,d'.Perm d->d'.Pairwise (fun r s=>r.lo<=s.lo)->K (.tup []) [.arr 2 (d'.map encR)])->
 ACall Tryz.prog 302 [.os 0 2 0 n,.fn (.func 303) [] []] [.arr 2 (d.map encR)] K
def mergeS(out:List Rg)(r:Rg):List Rg:=
 match out.getLast? with
 |some p=>if r.lo<=p.hi+1 then out.dropLast++[mkR p.lo (max p.hi r.hi)]else out++[r]
 |none=>[r]
theorem mergeS_length(out:List Rg)(r:Rg):(mergeS out r).length<=out.length+1:=by
 unfold mergeS
 split
 ·split<;>simp
 ·simp
theorem mergeS_inv{out:List Rg}{r:Rg}(hc:Canon out)(hlo:∀p,p∈out->p.lo<=r.lo)(hr:r.lo<=r.hi):Canon (mergeS out r)/\(∀v,has (mergeS out r) v=(has out v||has [r] v))/\∀p,p∈mergeS out r->p.lo<=r.lo:=by
 have b1:=r.l0;have b2:=r.l1;have b3:=r.h0;have b4:=r.h1
 unfold mergeS
 rcases cK out with hnil|⟨ini,p,hcat⟩
 ·subst hnil
  refine⟨?_,fun v=>by simp[has],fun p hp=>by simp at hp;subst hp;exact cF _⟩
  have:=canon_append_one canon_nil hr (fun s hs=>by simp at hs)
  simpa using this
 ·rw[cL]at hcat
  subst hcat
  simp only[cN,cB,dK,cX]
  have p1:=p.l0;have p2:=p.l1;have p3:=p.h0;have p4:=p.h1
  have hpw:=dE.1 hc.2
  have hp1:=hc.1 p zx
  have hp2:=hlo p zx
  have hx:0<=max p.hi r.hi/\max p.hi r.hi<=4294967295:=by omega
  split
  ·rename_i he
   have ci:Canon ini:=⟨fun t ht=>hc.1 t (by simp[ht]),hpw.1⟩
   refine⟨canon_append_one ci (by rw[mkR_lo p1 p2 hx.1 hx.2,mkR_hi p1 p2 hx.1 hx.2];omega) (fun s hs=>by rw[mkR_lo p1 p2 hx.1 hx.2];exact hpw.2.2 s hs p zx),fun v=>?_,fun q hq=>?_⟩
   ·rw[has_append,has_append,has_one,has_one,has_one,mkR_lo p1 p2 hx.1 hx.2,mkR_hi p1 p2 hx.1 hx.2,Bool.or_assoc]
    congr 1
    rw[bG]
    simp only[bV,aI,aK]
    omega
   ·rcases aS.1 hq with hq|hq
    ·exact hlo q (by simp[hq])
    ·simp at hq;subst hq;rw[mkR_lo p1 p2 hx.1 hx.2];exact hp2
  ·rename_i he
   refine⟨canon_append_one hc hr (fun s hs=>?_),fun v=>has_append _ _ v,fun q hq=>?_⟩
   ·rcases aS.1 hs with hs|hs
    ·have:=hpw.2.2 s hs p zx;omega
    ·simp at hs;subst hs;omega
   ·rcases aS.1 hq with hq|hq
    ·exact hlo q hq
    ·simp at hq;subst hq;exact cF _
theorem fold_merge:∀(d out:List Rg),Canon out->(∀p,p∈out->∀r,r∈d->p.lo<=r.lo)->d.Pairwise (fun r s=>r.lo<=s.lo)->(∀r,r∈d->r.lo<=r.hi)->
  Canon (d.foldl mergeS out)/\(∀v,has (d.foldl mergeS out) v=(has out v||has d v))/\(d.foldl mergeS out).length<=out.length+d.length
 |[],out,hc,_,_,_=>⟨hc,fun v=>by simp[has],by simp⟩
 |r::d,out,hc,hlo,hp,hok=>by
  have⟨hp1,hp2⟩:=bQ.1 hp
  obtain⟨h1,h2,h3⟩:=mergeS_inv hc (fun p hpm=>hlo p hpm r zx) (hok r zx)
  obtain⟨g1,g2,g3⟩:=fold_merge d (mergeS out r) h1 (fun p hpm s hs=>Int.le_trans (h3 p hpm) (hp1 s hs)) hp2 (fun s hs=>hok s (by simp[hs]))
  refine⟨g1,fun v=>?_,?_⟩
  ·rw[dW,g2,h2,Bool.or_assoc,<-has_append];rfl
  ·have:=mergeS_length out r
   simp only[dW,aJ];omega
def okR(r:Rg):Bool:=decide (r.lo<=r.hi)
theorem c39(hs:Sorts)(l:List Rg)(hl:l.length<100000){K:KT}(hK:∀c,Canon c->(∀v,has c v=has l v)->c.length<=l.length->K (encRs c) []):ACall Tryz.prog 257 [encRs l] [] K:=by
 refine of39 rfl rfl ?_
 (conv=>whnf)
 refine Lp.intro Nat (fun k=>⟨2,[(0,.arr 2 (((l.take k).filter okR).map encR)),(1,.arr 2 [])],[(3,.os 0 2 0 ((l.take k).filter okR).length),(4,.os 1 2 0 0),(10,encRs l),(11,.v (.int .i64 (l.map encR).length)),(12,.v (.int .i64 k))]⟩) (fun k=>k<=l.length) (fun k=>l.length-k) 0 ?_ ?_ ?_
 ·exact aH _
 ·exact⟨[(0,0),(1,1)],rfl,⟨rfl,rfl,rfl,rfl,rfl,trivial⟩,⟨rfl,rfl,trivial⟩⟩
 ·intro k hk
  rcases aB k l.length with hkl|hkl
  ·obtain⟨r,hr⟩:=gex hkl
   have b1:=r.l0;have b2:=r.l1;have b3:=r.h0;have b4:=r.h1
   have e:(l.take (k+1)).filter okR=(l.take k).filter okR++(if r.lo<=r.hi then [r]else []):=by
    rw[bJ,hr,eB,dB]
    simp only[okR,fE,List.filter_nil,aK]
   have hlen:((l.take k).filter okR).length<=l.length:=bR (dL _ _) (by rw[bI];omega)
   iterate 30 (all_goals((conv=>whnf);first|(with_reducible first|refine in_map hkl ?_|refine ix_map hr ?_)|refine zG ?_|apply zA|(apply zI;intro h)|exact zT|skip))
   ·refine⟨k+1,by omega,by omega,?_⟩
    rw[e,aG zp,aQ,aC]
    exact⟨[(0,4),(1,1)],rfl,⟨rfl,rfl,rfl,rfl,rfl,trivial⟩,⟨rfl,rfl,trivial⟩⟩
   ·refine⟨k+1,by omega,by omega,?_⟩
    rw[e,aE zp,bD]
    exact⟨[(0,0),(1,1)],rfl,⟨rfl,rfl,rfl,rfl,rfl,trivial⟩,⟨rfl,rfl,trivial⟩⟩
  ·rw[aX hkl]
   have hlen:(l.filter okR).length<=l.length:=dL _ _
   iterate 6 (all_goals((conv=>whnf);first|(with_reducible refine in_map hkl ?_)|refine zG ?_|apply zA|(apply zI;intro h)|exact zT|skip))
   refine hs (l.filter okR) _ rfl zo _ fun d hperm hsort=>?_
   have hn:(l.filter okR).length=d.length:=hperm.length_eq.symm
   rw[hn]
   (conv=>whnf)
   refine Lp.intro Nat (fun k=>⟨2,[(0,.arr 2 (d.map encR)),(1,.arr 2 (((d.take k).foldl mergeS []).map encR))],[(4,.os 1 2 0 ((d.take k).foldl mergeS []).length),(28,.os 0 2 0 d.length),(29,.v (.int .i64 d.length)),(30,.v (.int .i64 k))]⟩) (fun k=>k<=d.length/\((d.take k).foldl mergeS []).length<=k) (fun k=>d.length-k) 0 ?_ ?_ ?_
   ·exact⟨aH _,by simp⟩
   ·exact⟨[(0,0),(1,1)],rfl,⟨rfl,rfl,rfl,rfl,trivial⟩,⟨rfl,rfl,trivial⟩⟩
   ·intro k ⟨hk,hle⟩
    rcases aB k d.length with hkl|hkl
    ·obtain⟨r,hr⟩:=gex hkl
     have hr0:d[0+k]? =some r:=by rw[bL];exact hr
     have b1:=r.l0;have b2:=r.l1;have b3:=r.h0;have b4:=r.h1
     have hs2:=foldl_succ (f:=mergeS) (b:=[]) hr
     generalize hout:(d.take k).foldl mergeS []=out at hs2 hle⊢
     have hj:(k:Int)<(d.length:Int):=by omega
     rcases cK out with hnil|⟨ini,p,hcat⟩
     ·subst hnil
      iterate 30 (all_goals((conv=>whnf);first|(with_reducible first|refine In.intro k rfl zo ?_|refine ix_map hr ?_|refine ix_map hr0 ?_)|refine zG ?_|apply zA|(apply zI;intro h)|exact zT|skip))
      refine⟨k+1,⟨by omega,by rw[hs2];simp[mergeS]⟩,by omega,?_⟩
      rw[hs2,show mergeS [] r=[r]from rfl]
      exact⟨[(0,0),(1,4)],rfl,⟨rfl,rfl,rfl,rfl,trivial⟩,⟨rfl,rfl,trivial⟩⟩
     ·rw[cL]at hcat
      subst hcat
      have p1:=p.l0;have p2:=p.l1;have p3:=p.h0;have p4:=p.h1
      have hp:(ini++[p])[ini.length]? =some p:=by simp
      have hp0:(ini++[p])[0+ini.length]? =some p:=by simp
      have hi:((((ini++[p]).length:Nat):Int)-1=ini.length)/\ini.length<(ini++[p]).length:=by simp
      iterate 40 (all_goals((conv=>whnf);first|(with_reducible first|refine In.intro k rfl zo ?_|refine ix_map hr ?_|refine ix_map hr0 ?_|refine In.intro ini.length hi.1 hi.2 ?_|refine ix_map hp ?_|refine ix_map hp0 ?_)|refine zG ?_|apply zA|(apply zI;intro h)|exact zT|skip))
      ·have e:mergeS (ini++[p]) r=ini++[mkR p.lo (max p.hi r.hi)]:=by
        simp only[mergeS,cN,cB,dK,cX]
        rw[aG zp]
       refine⟨k+1,⟨by omega,by rw[hs2];have:=mergeS_length (ini++[p]) r;omega⟩,by omega,?_⟩
       rw[hs2,e,aQ,aU,bF,enc_mkR zo zo zo zo]
       have e2:(ini.map encR++[.agg [.v (.int .u32 p.lo),.v (.int .u32 (max p.hi r.hi))]])=((ini++[p]).map encR).set (0+ini.length) (.agg [.v (.int .u32 p.lo),.v (.int .u32 (max p.hi r.hi))]):=by
        rw[aQ,eA _ _ zx]
        simp
       rw[e2,show(ini++[mkR p.lo (max p.hi r.hi)]).length=(ini++[p]).length by simp]
       exact⟨[(0,0),(1,1)],rfl,⟨rfl,rfl,rfl,rfl,trivial⟩,⟨rfl,rfl,trivial⟩⟩
      ·have e:mergeS (ini++[p]) r=ini++[p]++[r]:=by
        simp only[mergeS,cN,cB,dK,cX]
        rw[aE zp]
       refine⟨k+1,⟨by omega,by rw[hs2];have:=mergeS_length (ini++[p]) r;omega⟩,by omega,?_⟩
       rw[hs2,e,aQ (l₁:=ini++[p]),show(ini++[p]++[r]).length=(ini++[p]).length+1 from by simp]
       exact⟨[(0,0),(1,4)],rfl,⟨rfl,rfl,rfl,rfl,trivial⟩,⟨rfl,rfl,trivial⟩⟩
    ·rw[aX hkl]at hle⊢
     iterate 8 (all_goals((conv=>whnf);first|refine zG ?_|apply zA|(apply zI;intro h)|exact zT|skip))
     have hok:∀r,r∈d->r.lo<=r.hi:=fun r hr=>by
      have:=(cE.1 (hperm.subset hr)).2
      simpa[okR]using this
     obtain⟨g1,g2,g3⟩:=fold_merge d [] canon_nil (fun p hp=>by simp at hp) hsort hok
     refine hK _ g1 (fun v=>?_) (by simp only[aO]at g3;omega)
     rw[g2,has_nil,fR,bG,has_iff,has_iff]
     constructor
     ·rintro⟨r,hr,h1,h2⟩
      exact⟨r,(cE.1 (hperm.subset hr)).1,h1,h2⟩
     ·rintro⟨r,hr,h1,h2⟩
      refine⟨r,hperm.symm.subset (cE.2 ⟨hr,?_⟩),h1,h2⟩
      simp only[okR,aK];omega
noncomputable def g49:Ctx:={N:=27,hints:=at1 6 ([.virt 0 2]) (fun _=>[]),res:=true}
noncomputable def b49:Code:=bdy Tryz.f305
abbrev of49:=@ofC Tryz.prog g49 305 Tryz.f305 b49 Tryz.func305 zk zk zk zk
noncomputable def g40:Ctx:={N:=36,own:=at1 305 (true) (fun _=>false)}
noncomputable def b40:Code:=bdy Tryz.f258
abbrev of40:=@ofC Tryz.prog g40 258 Tryz.f258 b40 Tryz.func258 zk zk zk zk
def cmpI(x y:Int):Int:=if x<y then-1 else if y<x then 1 else 0
theorem c48(x y:Int){K:KT}(hK:K (.v (.int .i64 (cmpI x y))) []):ACall Tryz.prog 304 [.v (.int .u32 x),.v (.int .u32 y)] [] K:=by
 refine of48 rfl rfl ?_
 iterate 20 (all_goals((conv=>whnf);first|(with_reducible refine c54 _ ?_)|refine zG ?_|apply zA|(apply zI;intro h)|exact zT|skip))
 all_goals
  unfold cmpI at hK
 ·rw[aG zp]at hK;exact hK
 ·rw[aE zp,aG zp]at hK;exact hK
 ·rw[aE zp,aE zp]at hK;exact hK
theorem c47(r s:Rg){K:KT}(hK:K (.v (.int .i64 (cmpI r.lo s.lo))) []):ACall Tryz.prog 303 [.agg [.v (.int .u32 r.lo),.v (.int .u32 r.hi)],.agg [.v (.int .u32 s.lo),.v (.int .u32 s.hi)]] [] K:=by
 refine of47 rfl rfl ?_
 iterate 6 (all_goals((conv=>whnf);first|(with_reducible refine c48 _ _ ?_)|refine zG ?_|apply zA|(apply zI;intro h)|exact zT|skip))
 exact hK
theorem grow_ob{n m:Nat}{c:AV}(hn:n<2000000)(hm:m<10000)(hc:c.cells.all AV.one=true):((List.replicate n c).length+96)*m<=140737488355328/\∀x,x∈List.replicate n c->x.cells.all AV.one=true:=by
 refine⟨?_,fun x hx=>by rw[eM hx];exact hc⟩
 rw[List.length_replicate]
 have h1:(n+96)*m<=2000096*10000:=dQ zo zo
 omega
theorem c49(n:Nat)(hn:n<2000000){K:KT}(hK:∀xs,K (.os 0 2 0 0) [.arr 2 xs]):ACall Tryz.prog 305 [.nils,.v (.int .i64 n)] [] K:=by
 refine of49 rfl rfl ?_
 iterate 20 (all_goals((conv=>whnf);first|(with_reducible first|refine Sb.intro 0 0 rfl rfl zo zo ?_|refine In.intro n zo zo ?_|refine Ob.intro (grow_ob hn zd (by with_unfolding_all rfl)) ?_)|refine zG ?_|apply zA|(apply zI;intro h)|exact zT|skip))
 ·exact hK _
 ·exact hK _
theorem c40(L:List (List Rg))(hL:L.length<1000)(hl:∀l,l∈L->l.length<1000){K:KT}(hK:K (encRs L.flatten) []):ACall Tryz.prog 258 [.lst (L.map encRs)] [] K:=by
 have sum_le:∀M:List (List Rg),(∀l,l∈M->l.length<1000)->M.flatten.length<=1000*M.length:=by
  intro M
  induction M with
  |nil=>intro _;simp
  |cons m M ih=>
   intro h
   have h1:=h m zx
   have h2:=ih fun l hl=>h l (by simp[hl])
   simp only[eI,aC,aJ]
   omega
 have next:∀{k:Nat} {l:List Rg},L[k]? =some l->(L.take (k+1)).flatten=(L.take k).flatten++l:=by
  intro k l h
  rw[bJ,h,eB,List.flatten_append]
  simp
 have bound:∀k,k<=L.length->(L.take k).flatten.length<=1000000:=by
  intro k hk
  have:=sum_le (L.take k) fun l h=>hl l (cG h)
  rw[bI]at this
  omega
 refine of40 rfl rfl ?_
 (conv=>whnf)
 refine Lp.intro Nat (fun k=>⟨0,[],[(0,.lst (L.map encRs)),(3,.v (.int .i64 ((L.take k).flatten.length:Int))),(9,.lst (L.map encRs)),(10,.v (.int .i64 (L.map encRs).length)),(11,.v (.int .i64 k))]⟩) (fun k=>k<=L.length) (fun k=>L.length-k) 0 ?_ ?_ ?_
 ·exact aH _
 ·exact⟨[],rfl,⟨rfl,rfl,rfl,rfl,rfl,trivial⟩,trivial⟩
 ·intro k hk
  rcases aB k L.length with hkl|hkl
  ·obtain⟨l,hx⟩:=gex hkl
   have hb:=bound k hk
   have hll:=hl l (aF hx)
   have hn:=next hx
   have hlen:((L.take (k+1)).flatten.length:Int)=((L.take k).flatten.length:Int)+((l.map encR).length:Int):=by rw[hn,aC,aA];omega
   have hml:(l.map encR).length<1000:=by rw[aA];exact hll
   generalize (L.take k).flatten.length=n at hb hlen
   iterate 30 (all_goals((conv=>whnf);first|(with_reducible first|refine in_map hkl ?_|refine ix_map hx ?_)|refine zG ?_|apply zA|(apply zI;intro h)|exact zT|skip))
   refine⟨k+1,by omega,by omega,?_⟩
   rw[hlen]
   exact⟨[],rfl,⟨rfl,rfl,rfl,rfl,rfl,trivial⟩,trivial⟩
  ·have e:L.take k=L:=aX hkl
   have hb:=bound k hk
   rw[e]at hb⊢
   (conv=>whnf)
   refine br_neg (by rw[aA];omega) ?_
   (conv=>whnf)
   refine c49 L.flatten.length zo fun xs=>?_
   (conv=>whnf)
   refine Lp.intro Nat (fun k=>⟨1,[(0,.arr 2 (if k=0 then xs else(L.take k).flatten.map encR))],[(6,.os 0 2 0 (L.take k).flatten.length),(25,.lst (L.map encRs)),(26,.v (.int .i64 (L.map encRs).length)),(27,.v (.int .i64 k))]⟩) (fun k=>k<=L.length) (fun k=>L.length-k) 0 ?_ ?_ ?_
   ·exact aH _
   ·exact⟨[(0,0)],rfl,⟨rfl,rfl,rfl,rfl,trivial⟩,⟨rfl,trivial⟩⟩
   ·intro k hk
    have tk:((if k=0 then xs else(L.take k).flatten.map encR).drop 0).take (L.take k).flatten.length=(L.take k).flatten.map encR:=by
     by_cases h0:k=0
     ·subst h0;simp
     ·rw[aE h0,cD]
      exact aX (by rw[aA];exact aM _)
    have tl:0+(L.take k).flatten.length<=(if k=0 then xs else(L.take k).flatten.map encR).length:=by
     by_cases h0:k=0
     ·subst h0;simp
     ·rw[aE h0,aA,bL];exact aM _
    rcases aB k L.length with hkl|hkl
    ·obtain⟨l,hx⟩:=gex hkl
     have hb:=bound k hk
     have hll:=hl l (aF hx)
     have hn:=next hx
     have hlen:(L.take (k+1)).flatten.length=(L.take k).flatten.length+(l.map encR).length:=by rw[hn,aC,aA]
     have hml:(l.map encR).length<1000:=by rw[aA];exact hll
     iterate 30 (all_goals((conv=>whnf);first|(with_reducible first|refine in_map hkl ?_|refine ix_map hx ?_|refine Sl.intro tl tk ?_)|refine zG ?_|apply zA|(apply zI;intro h)|exact zT|skip))
     refine⟨k+1,by omega,by omega,?_⟩
     rw[aE (Nat.succ_ne_zero k),hlen,hn,aQ]
     exact⟨[(0,1)],rfl,⟨rfl,rfl,rfl,rfl,trivial⟩,⟨rfl,trivial⟩⟩
    ·have hkL:k=L.length:=by omega
     iterate 10 (all_goals((conv=>whnf);first|(with_reducible refine Sl.intro tl tk ?_)|refine zG ?_|apply zA|(apply zI;intro h)|exact zT|skip))
     rw[hkL,cU]
     exact hK
noncomputable def g19:Ctx:={N:=71,plan:=at1 5 (some (ln [1,3,5,7,9,11,13,15,17,19,21,23,25,27,29,31,33,35,37,39,41,43,45,47])) (at1 8 (some (ln [1,3,5,7,9,11,13,15,17,19,21])) (fun _=>none)),hints:=at1 3 ([.virt 5 2]) (fun _=>[])}
noncomputable def b19:Code:=bdy Tryz.f297
abbrev of19:=@ofC Tryz.prog g19 297 Tryz.f297 b19 Tryz.func297 zk zk zk zk
noncomputable def g18:Ctx:={N:=10}
noncomputable def b18:Code:=bdy Tryz.f186
abbrev of18:=@ofC Tryz.prog g18 186 Tryz.f186 b18 Tryz.func186 zk zk zk zk
noncomputable def gwZone1:Ctx:={N:=8}
noncomputable def bwZone1:Code:=bdy Tryz.f320
abbrev ofwZone1:=@ofC Tryz.prog gwZone1 320 Tryz.f320 bwZone1 Tryz.func320 zk zk zk zk
noncomputable def gwZone:Ctx:={N:=8}
noncomputable def bwZone:Code:=bdy Tryz.f265
abbrev ofwZone:=@ofC Tryz.prog gwZone 265 Tryz.f265 bwZone Tryz.func265 zk zk zk zk
noncomputable def gwIdx:Ctx:={N:=25,hints:=at1 2 ([.virt 5 1]) (fun _=>[])}
noncomputable def bwIdx:Code:=bdy Tryz.f319
abbrev ofwIdx:=@ofC Tryz.prog gwIdx 319 Tryz.f319 bwIdx Tryz.func319 zk zk zk zk
noncomputable def gwIxD:Ctx:={N:=19}
noncomputable def bwIxD:Code:=bdy Tryz.f293
abbrev ofwIxD:=@ofC Tryz.prog gwIxD 293 Tryz.f293 bwIxD Tryz.func293 zk zk zk zk
noncomputable def gwFol1:Ctx:={N:=8}
noncomputable def bwFol1:Code:=bdy Tryz.f335
abbrev ofwFol1:=@ofC Tryz.prog gwFol1 335 Tryz.f335 bwFol1 Tryz.func335 zk zk zk zk
noncomputable def gwG1:Ctx:={N:=14,np:=2,out:=true}
noncomputable def bwG1:Code:=bdy Tryz.f262
abbrev ofwG1:=@ofC Tryz.prog gwG1 262 Tryz.f262 bwG1 Tryz.func262 zk zk zk zk
noncomputable def gwG2:Ctx:={N:=37,np:=4,own:=at1 262 (true) (fun _=>false),plan:=at1 10 (some (ln [1,3,5,7,9,11,13,14])) (fun _=>none),hints:=at1 0 ([.renewI 2 0]) (fun _=>[]),out:=true}
noncomputable def bwG2:Code:=bdy Tryz.f264
abbrev ofwG2:=@ofC Tryz.prog gwG2 264 Tryz.f264 bwG2 Tryz.func264 zk zk zk zk
noncomputable def gwFol:Ctx:={N:=77,np:=7,own:=at1 318 (true) (at1 264 (true) (fun _=>false)),plan:=at1 4 (some (ln [1,3,5,7,9,10,13])) (at1 6 (some (ln [1,3,5,7,9,10,13])) (at1 8 (some (ln [1,3,5,7,9,10])) (at1 9 (some (ln [1,3,5,7,9,10])) (at1 16 (some (ln [1,3,5,7,9,10,13])) (at1 20 (some (ln [1,3,5,7,9,10])) (fun _=>none)))))),hints:=at1 0 ([.renewI 5 0]) (fun _=>[]),out:=true,lend:=at1 293 (true) (fun _=>false)}
noncomputable def bwFol:Code:=bdy Tryz.f318
abbrev ofwFol:=@ofC Tryz.prog gwFol 318 Tryz.f318 bwFol Tryz.func318 zk zk zk zk
noncomputable def gwStart:Ctx:={N:=15,np:=4,own:=at1 318 (true) (fun _=>false),out:=true}
noncomputable def bwStart:Code:=bdy Tryz.f263
abbrev ofwStart:=@ofC Tryz.prog gwStart 263 Tryz.f263 bwStart Tryz.func263 zk zk zk zk
noncomputable def gwGrp:Ctx:={N:=40,own:=at1 263 (true) (at1 262 (true) (fun _=>false)),hints:=at1 2 ([.virtB 8 0 2]) (fun _=>[])}
noncomputable def bwGrp:Code:=bdy Tryz.f193
abbrev ofwGrp:=@ofC Tryz.prog gwGrp 193 Tryz.f193 bwGrp Tryz.func193 zk zk zk zk
noncomputable def gwS1:Ctx:={N:=8,np:=2,out:=true}
noncomputable def bwS1:Code:=bdy Tryz.f266
abbrev ofwS1:=@ofC Tryz.prog gwS1 266 Tryz.f266 bwS1 Tryz.func266 zk zk zk zk
noncomputable def gwFos:Ctx:={N:=77,np:=5,own:=at1 318 (true) (at1 266 (true) (fun _=>false)),plan:=at1 4 (some (ln [1,3,5,7,9,10,13])) (at1 6 (some (ln [1,3,5,7,9,10,13])) (at1 8 (some (ln [1,3,5,7,9,10])) (at1 9 (some (ln [1,3,5,7,9,10])) (at1 16 (some (ln [1,3,5,7,9,10,13])) (at1 20 (some (ln [1,3,5,7,9,10])) (fun _=>none)))))),hints:=at1 0 ([.renewI 3 0]) (fun _=>[]),out:=true,lend:=at1 293 (true) (fun _=>false)}
noncomputable def bwFos:Code:=bdy Tryz.f318
abbrev ofwFos:=@ofC Tryz.prog gwFos 318 Tryz.f318 bwFos Tryz.func318 zk zk zk zk
noncomputable def gwStS:Ctx:={N:=15,np:=2,own:=at1 318 (true) (fun _=>false),out:=true}
noncomputable def bwStS:Code:=bdy Tryz.f263
abbrev ofwStS:=@ofC Tryz.prog gwStS 263 Tryz.f263 bwStS Tryz.func263 zk zk zk zk
noncomputable def gwSvc:Ctx:={N:=64,own:=at1 263 (true) (fun _=>false),plan:=at1 14 (some (.one 1 true (.alt 0 (ln [4,6,9,11,13,15,17]) (.alt 2 (ln [0,6,9,11,13,15,17]) (.stop))))) (fun _=>none),hints:=at1 4 ([.virtB 6 0 7]) (at1 8 ([.freezeB 6,.asL 8]) (fun _=>[]))}
noncomputable def bwSvc:Code:=bdy Tryz.f194
abbrev ofwSvc:=@ofC Tryz.prog gwSvc 194 Tryz.f194 bwSvc Tryz.func194 zk zk zk zk
def nmLB(b:UInt8):Bool:=Nat.ble 97 b.toNat&&Nat.ble b.toNat 122
def nmCB(b:UInt8):Bool:=nmLB b||(Nat.ble 48 b.toNat&&Nat.ble b.toNat 57)||Nat.beq b.toNat 45||Nat.beq b.toNat 95
def nmChk(l:List UInt8):Bool:=match l with
 |[]=>false
 |a::r=>nmLB a&&(r.all nmCB&&(Nat.ble r.length 23&& !(l==[97,110,121])))
theorem nmLB_spec{b:UInt8}(h:nmLB b=true):nmL (b.toNat:Int):=by
 simp only[nmLB,aI]at h
 have h1:=bW h.1;have h2:=bW h.2
 unfold nmL;omega
theorem nmCB_spec{b:UInt8}(h:nmCB b=true):nmC (b.toNat:Int):=by
 simp only[nmCB,bV,aI]at h
 unfold nmC
 rcases h with((h|⟨h1,h2⟩)|h)|h
 ·have:=nmLB_spec h;unfold nmL at this;omega
 ·have h1:=bW h1;have h2:=bW h2;omega
 ·have:=aV h;omega
 ·have:=aV h;omega
theorem nameOk_lit(l:List UInt8)(h:nmChk l=true):nameOk ⟨⟨l⟩⟩:=by
 cases l with
 |nil=>cases h
 |cons a r=>
  simp only[nmChk,aI,bX,eH]at h
  obtain⟨h1,h2,h3,h4⟩:=h
  have h3:=bW h3
  have hget:∀(i:Nat) b,(⟨⟨a::r⟩⟩:ByteArray)[i]? =some b->(a::r)[i]? =some b:=by
   intro i b hb
   by_cases h:i<(⟨⟨a::r⟩⟩:ByteArray).size
   ·rw[getElem?_pos _ i h]at hb
    have h':i<(a::r).length:=h
    rw[aD h']
    exact hb
   ·rw[getElem?_neg _ i h]at hb;cases hb
  refine⟨?_,?_,?_,fun b hb=>?_,fun i b hb=>?_⟩
  ·rw[ByteArray.toList_eq,ByteArray.toList_eq];rfl
  ·show(((a::r).length:Nat):Int)<=24
   simp;omega
  ·rw[ByteArray.toList_eq,ByteArray.toList_eq]
   exact h4
  ·have:=hget 0 b hb
   simp at this;subst this
   exact nmLB_spec h1
  ·have:=hget i b hb
   cases i with
   |zero=>simp at this;subst this;exact nmCB_spec (by simp[nmCB,h1])
   |succ i=>exact nmCB_spec (h2 b (aF (by simpa using this)))
structure GPe (n i:Nat) (e:Ed):Prop where
 name:e.name=enL.getD i default
 d0:0<=e.dev
 d1:e.dev<n
 zone:e.zone∈zoL
 pf:(e.pl=false/\e.pf=subL.getD i noPf)\/(e.pl=true/\e.pf.addr=0/\e.pf.bits∈[24,23,25,22,26,32,30])
structure GPla (t:Tp):Prop where
 d1:1<=t.devs.length
 d6:t.devs.length<=6
 dv:∀(i:Nat) d,t.devs[i]? =some d->GDv i d
 l9:t.links.length<=8
 lk:∀l,l∈t.links->GLk t.devs.length l
 e5:t.edges.length<=5
 ed:∀(i:Nat) e,t.edges[i]? =some e->GPe t.devs.length i e
 pools:t.pools=[pool1]\/t.pools=[pool2]\/t.pools=[pool1,pool2]
 tol:t.tol∈[0,1,0,1,2]
theorem cnPla(raw:List Int)(pos:Nat)(n0:Nat)(hn0:n0<=6)(hp:pos<=raw.length)(hr:raw.length<=9223372036854775807){K:KT}
  (hK:∀(t:Tp) (pos':Nat),GPla t->t.devs.length<=max n0 1->pos'<=raw.length->K (encT t) [tapeO raw pos']):
  ACall Tryz.prog 30 [.op 0 0,.v (.int .i64 n0)] [tapeO raw pos] K:=by
 refine ofnPla rfl rfl ?_
 (repeat' ((conv=>whnf);first|(with_reducible refine cnTop raw pos n0 hn0 hp hr fun t p1 ht hd hp1=>?_)|refine zG ?_|apply zA|(apply zI;intro h)|exact zT));(all_goals conv=>whnf)
 have hpl:t.pools.length<=2:=by rcases ht.pools with h|h|h|h<;>rw[h]<;>decide
 have he5:=ht.e5
 refine Jn.intro (List Pf) (fun g=>⟨7,hpX raw p1 t.devs t.links t.edges g t.tol,[(0,.op 0 0),(4,.op 1 0),(5,.op 2 0)]⟩)
  (fun g=>g=[pool1]\/g=[pool2]\/g=[pool1,pool2]) ?_ ?_
 ·(repeat' ((conv=>whnf);first|refine zG ?_|apply zA|(apply zI;intro h)|exact zT));(all_goals conv=>whnf)
  ·have h0:t.pools=[]:=dN zo
   refine⟨[pool1],.inl rfl,?_⟩
   rw[h0]
   (exact leA)
  ·refine⟨t.pools,?_,?_⟩
   ·rcases ht.pools with h1|h1|h1|h1
    ·rw[h1]at h;exact absurd rfl h
    ·exact .inl h1
    ·exact .inr (.inl h1)
    ·exact .inr (.inr h1)
   ·(exact leA)
 rintro pools hpools
 (repeat' ((conv=>whnf);first|refine zG ?_|apply zA|(apply zI;intro h)|exact zT));(all_goals conv=>whnf)
 refine Lp.intro (Nat×Nat×List Ed) (fun g=>⟨7,hpX raw g.1 t.devs t.links g.2.2 pools t.tol,[(0,.op 0 0),(4,.op 1 0),(5,.op 2 0),(6,.v (.int .i64 g.2.1))]⟩)
  (fun g=>g.1<=raw.length/\g.2.1<=g.2.2.length/\g.2.2.length=t.edges.length/\∀(i:Nat) e,g.2.2[i]? =some e->GPe t.devs.length i e) (fun g=>t.edges.length-g.2.1) (p1,0,t.edges) ?_ ?_ ?_
 ·exact⟨hp1,aH _,rfl,fun i e hi=>by
   obtain⟨g1,g2,g3,g4,g5,g6⟩:=ht.ed i e hi
   exact⟨g1,g2,g3,g4,.inl ⟨g6,g5⟩⟩⟩
 ·(exact leA)
 rintro⟨p2,i,es⟩ ⟨hp2,i1,i2,i3⟩
 simp only at hp2 i1 i2 i3⊢
 rcases aB i es.length with hlt|hge
 ·obtain⟨ed,he⟩:=gex hlt
  have he0:es[0+i]? =some ed:=by rw[bL];exact he
  have hset:0+i<(es.map encE).length:=by rw[aA];omega
  have hilt:i<es.length:=hlt
  (repeat' ((conv=>whnf);first|refine zG ?_|apply zA|(apply zI;intro h)|exact zT));(all_goals conv=>whnf)
  refine Jn.intro (Nat×List Ed) (fun g=>⟨7,hpX raw g.1 t.devs t.links g.2 pools t.tol,[(0,.op 0 0),(4,.op 1 0),(5,.op 2 0),(6,.v (.int .i64 i))]⟩)
   (fun g=>g.1<=raw.length/\g.2.length=t.edges.length/\∀(i:Nat) e,g.2[i]? =some e->GPe t.devs.length i e) ?_ ?_
  ·(repeat' ((conv=>whnf);first|(with_reducible first|refine nNext raw _ _ zo zp hr fun m1 p1 hm1 hp1=>?_|refine in_nat hilt ?_|refine in_nat zo ?_|refine ix_map he0 ?_|refine ix_set hset ?_|refine ix_ints [24,23,25,22,26,32,30] 7 rfl rfl zo fun b hb=>?_)|refine zG ?_|apply zA|(apply zI;intro h)|exact zT));(all_goals conv=>whnf)
   all_goals first
    |(refine⟨(p1,es),⟨hp1,i2,i3⟩,?_⟩
      (exact leA)
      done)
    |(have harr:((es.map encE).set (0+i) (.agg [.v (.string ed.name),.v (.int .i64 ed.dev),.v (.string ed.zone),.v (.int .u32 ed.pf.addr),.v (.int .i64 ed.pf.bits),.sb true])).set (0+i)
       (.agg [.v (.string ed.name),.v (.int .i64 ed.dev),.v (.string ed.zone),.v (.int .u32 0),.v (.int .i64 b),.sb true])=(es.set i {ed with pf:=⟨0,b,by decide,by decide⟩,pl:=true}).map encE:=by
       rw[eQ,List.set_set,bL]
      refine⟨(p1,es.set i {ed with pf:=⟨0,b,by decide,by decide⟩,pl:=true}),⟨hp1,by simp only[dR];exact i2,fun j e hj=>?_⟩,?_⟩
      ·simp only at hj
       rw[List.getElem?_set]at hj
       split at hj
       ·rename_i hji
        subst hji
        cases hj
        obtain⟨g1,g2,g3,g4,_⟩:=i3 _ ed he
        exact⟨g1,g2,g3,g4,.inr ⟨rfl,rfl,hb⟩⟩
       ·exact i3 j e hj
      ·simp only[hpX,dR]
       rw[<-harr]
       (exact leA))
  ·rintro⟨p3,es'⟩ ⟨hp3,j1,j2⟩
   simp only at hp3 j1 j2⊢
   (repeat' ((conv=>whnf);first|refine zG ?_|apply zA|(apply zI;intro h)|exact zT));(all_goals conv=>whnf)
   refine⟨(p3,i+1,es'),⟨hp3,by simp only;omega,j1,j2⟩,by simp only;omega,?_⟩
   (exact leA)
 ·(repeat' ((conv=>whnf);first|refine zG ?_|apply zA|(apply zI;intro h)|exact zT));(all_goals conv=>whnf)
  exact hK ⟨t.devs,t.links,es,pools,t.tol⟩ p2 ⟨ht.d1,ht.d6,ht.dv,ht.l9,ht.lk,by simp only;omega,i3,hpools,ht.tol⟩ hd hp2
theorem sEq_data(a b:ByteArray):sEq a b=(a.data.toList==b.data.toList):=by rw[sEq,ByteArray.toList_eq,ByteArray.toList_eq]
theorem nameOk_data{s:ByteArray}(h:nmChk s.data.toList=true):nameOk s:=by
 obtain⟨⟨l⟩⟩:=s
 exact nameOk_lit l h
theorem sEq_refl(a:ByteArray):sEq a a=true:=by rw[sEq_data];simp
theorem sEq_eq{a b:ByteArray}(h:sEq a b=true):a=b:=by
 rw[sEq_data]at h
 have h:=of_decide_eq_true (by simpa using h:decide (a.data.toList=b.data.toList)=true)
 exact ByteArray.ext (Array.ext' h)
def findD(l:List Df)(s:ByteArray):Option Nat:=l.findIdx? fun d=>sEq d.name s
theorem findD_some{l:List Df}{s:ByteArray}{n:Nat}(h:findD l s=some n):∃d,l[n]? =some d/\d.name=s/\n<l.length:=by
 unfold findD at h
 rw[dP]at h
 obtain⟨h1,h2,_⟩:=h
 exact⟨_,aD h1,sEq_eq h2,h1⟩
theorem firstIx_find(l:List Df)(s:ByteArray):firstIx (fun d=>sEq d.name s) l=match findD l s with
  |some n=>(n:Int)
  |none=> -1:=rfl
section
variable {S:Type} (v:It->S->Int×S)
def folI(rec:ByteArray->List Nat->S->Int×List Nat×S):List It->List Nat->S->Int×List Nat×S
 |[],d,s=>(0,d,s)
 |x::r,d,s=>
  let q:=if x.kind=3 then rec x.name d s else((v x s).1,d,(v x s).2)
  if q.1=0 then folI rec r q.2.1 q.2.2 else q
def fol(l:List Df):Nat->List Nat->ByteArray->List Nat->S->Int×List Nat×S
 |0,_,_,d,s=>(8,d,s)
 |k+1,p,nm,d,s=>match findD l nm with
  |none=>(5,d,s)
  |some n=>if n∈p then(8,d,s)else if n∈d then(0,d,s)else
   let q:=folI v (fol l k (p++[n])) (((l[n]?).map (·.items)).getD []) d s
   if q.1=0 then(0,q.2.1++[n],q.2.2)else q
theorem folI_nil(rec:ByteArray->List Nat->S->Int×List Nat×S)(d:List Nat)(s:S):folI v rec [] d s=(0,d,s):=rfl
theorem folI_cons(rec:ByteArray->List Nat->S->Int×List Nat×S)(x:It)(r:List It)(d:List Nat)(s:S):folI v rec (x::r) d s=
  if(if x.kind=3 then rec x.name d s else((v x s).1,d,(v x s).2)).1=0 then folI v rec r (if x.kind=3 then rec x.name d s else((v x s).1,d,(v x s).2)).2.1 (if x.kind=3 then rec x.name d s else((v x s).1,d,(v x s).2)).2.2
  else(if x.kind=3 then rec x.name d s else((v x s).1,d,(v x s).2)):=rfl
end
open Classical in
noncomputable def nameM(l:List Df)(p:List Nat):Value->Option AV:=fun k=>if ∃n d,n∈p/\l[n]? =some d/\k=.string d.name then some (.sb true)else none
def Firsts(l:List Df)(p:List Nat):Prop:=∀n,n∈p->∀d,l[n]? =some d->findD l d.name=some n
theorem Firsts.nil{l:List Df}:Firsts l []:=fun n h=>by cases h
theorem Firsts.snoc{l:List Df}{p:List Nat}{s:ByteArray}{n:Nat}(h:Firsts l p)(hn:findD l s=some n):Firsts l (p++[n]):=fun m hm d hd=>by
 rcases aS.1 hm with hm|hm
 ·exact h m hm d hd
 ·rw[aR.1 hm]at hd⊢
  obtain⟨d',h1,h2,_⟩:=findD_some hn
  rw[hd]at h1;cases h1
  rw[h2];exact hn
theorem nameM_in{l:List Df}{p:List Nat}{s:ByteArray}{n:Nat}(hn:findD l s=some n)(h:n∈p):nameM l p (.string s)=some (.sb true):=by
 obtain⟨d,h1,h2,_⟩:=findD_some hn
 rw[nameM,aG ⟨n,d,h,h1,by rw[h2]⟩]
theorem nameM_out{l:List Df}{p:List Nat}{s:ByteArray}{n:Nat}(hf:Firsts l p)(hn:findD l s=some n)(h:n∉p):nameM l p (.string s)=none:=by
 rw[nameM,aE]
 rintro⟨m,d,h1,h2,h3⟩
 have e:s=d.name:=by simpa using h3
 have:=hf m h1 d h2
 rw[<-e,hn]at this
 cases this
 exact h h1
theorem nameM_nil(l:List Df):(fun _=>none)=nameM l []:=by
 funext k
 rw[nameM,aE]
 rintro⟨n,d,h,_⟩;cases h
theorem updM_name{l:List Df}{p:List Nat}{s:ByteArray}{n:Nat}(hn:findD l s=some n):nameM l (p++[n])=updM (nameM l p) (.string s) (.sb true):=by
 obtain⟨d,h1,h2,_⟩:=findD_some hn
 funext k
 unfold updM
 split
 ·rename_i e
  rw[e,nameM_in hn zx]
 ·rename_i e
  unfold nameM
  have:(∃m d,m∈p++[n]/\l[m]? =some d/\k=.string d.name)↔∃m d,m∈p/\l[m]? =some d/\k=.string d.name:=by
   constructor
   ·rintro⟨m,d',g1,g2,g3⟩
    rcases aS.1 g1 with g1|g1
    ·exact⟨m,d',g1,g2,g3⟩
    ·rw[aR.1 g1,h1]at g2;cases g2
     exact absurd (g3.trans (by rw[h2])) e
   ·rintro⟨m,d',g1,g2,g3⟩
    exact⟨m,d',dO _ g1,g2,g3⟩
  by_cases hx:∃m d,m∈p/\l[m]? =some d/\k=.string d.name
  ·rw[aG hx,aG (this.2 hx)]
  ·rw[aE hx,aE (fun h=>hx (this.1 h))]
theorem delM_name{l:List Df}{p:List Nat}{s:ByteArray}{n:Nat}(hf:Firsts l p)(hn:findD l s=some n)(h:n∉p):nameM l p=delM (nameM l (p++[n])) (.string s):=by
 funext k
 unfold delM
 split
 ·rename_i e
  rw[e,nameM_out hf hn h]
 ·rename_i e
  rw[updM_name hn,updM,aE e]
structure Fine (l:List Df) (p d:List Nat):Prop where
 pn:p.Nodup
 dn:d.Nodup
 pf:Firsts l p
 df:Firsts l d
 pl:∀n,n∈p->n<l.length
 dl:∀n,n∈d->n<l.length
 dj:∀n,n∈p->n∉d
theorem Fine.push{l:List Df}{p d:List Nat}{s:ByteArray}{n:Nat}(h:Fine l p d)(hn:findD l s=some n)(hp:n∉p)(hd:n∉d):Fine l (p++[n]) d:=
 ⟨dZ.2 ⟨h.pn,by simp,fun a ha b hb e=>by rw[aR.1 hb]at e;exact hp (e▸ha)⟩,h.dn,h.pf.snoc hn,h.df,fun m hm=>by
  rcases aS.1 hm with hm|hm
  ·exact h.pl m hm
  ·rw[aR.1 hm];exact(findD_some hn).choose_spec.2.2,h.dl,fun m hm=>by
  rcases aS.1 hm with hm|hm
  ·exact h.dj m hm
  ·rw[aR.1 hm];exact hd⟩
theorem Fine.pop{l:List Df}{p d:List Nat}{s:ByteArray}{n:Nat}(h:Fine l (p++[n]) d)(hn:findD l s=some n):Fine l p (d++[n]):=by
 have hnd:n∉d:=h.dj n zx
 have hp:=dZ.1 h.pn
 exact⟨hp.1,dZ.2 ⟨h.dn,by simp,fun a ha b hb e=>by rw[aR.1 hb]at e;exact hnd (e▸ha)⟩,fun m hm=>h.pf m (dO _ hm),h.df.snoc hn,
  fun m hm=>h.pl m (dO _ hm),fun m hm=>by
   rcases aS.1 hm with hm|hm
   ·exact h.dl m hm
   ·rw[aR.1 hm];exact h.pl n zx,fun m hm hmd=>by
   rcases aS.1 hmd with hmd|hmd
   ·exact h.dj m (dO _ hm) hmd
   ·exact hp.2.2 m hm n zx (aR.1 hmd)⟩
theorem nodupLe{l:List Nat}{m:Nat}(h:l.Nodup)(hb:∀x,x∈l->x<m):l.length<=m:=by
 have:=nodup_sub (l:=l.map fun n:Nat=>(n:Int)) (m:=(List.range m).map fun n:Nat=>(n:Int)) (by
  unfold List.Nodup at*
  rw[fA]
  exact h.imp fun hab e=>hab zo) (fun x hx=>by
  obtain⟨n,hn,rfl⟩:=bU.1 hx
  exact bU.2 ⟨n,dJ.2 (hb n hn),rfl⟩)
 simpa using this
theorem Fine.small{l:List Df}{p d:List Nat}(h:Fine l p d):d.length+p.length<=l.length:=by
 have h1:(d++p).Nodup:=dZ.2 ⟨h.dn,h.pn,fun a ha b hb e=>h.dj b hb (e▸ha)⟩
 have h2:∀n,n∈d++p->n<l.length:=fun n hn=>by
  rcases aS.1 hn with hn|hn
  ·exact h.dl n hn
  ·exact h.pl n hn
 have h3:=nodupLe h1 h2
 rw[aC]at h3
 exact h3
section
variable {S:Type} (v:It->S->Int×S) (sz:S->Nat) (hv:∀x s,(v x s).1=0->sz (v x s).2<=sz s+1000)
structure Fed (l:List Df) (p d:List Nat) (s:S) (d':List Nat) (s':S) (c:Nat):Prop where
 fine:Fine l p d'
 le:d.length<=d'.length
 size:sz s'+1000000*d.length<=sz s+1000000*d'.length+c
include hv
theorem folI_fed{l:List Df}{p:List Nat}{rec:ByteArray->List Nat->S->Int×List Nat×S}(hrec:∀nm d s,Fine l p d->(rec nm d s).1=0->Fed sz l p d s (rec nm d s).2.1 (rec nm d s).2.2 0):
  ∀(its:List It) (d:List Nat) (s:S),Fine l p d->(folI v rec its d s).1=0->Fed sz l p d s (folI v rec its d s).2.1 (folI v rec its d s).2.2 (1000*its.length)
 |[],d,s,hf,_=>⟨hf,aM _,by simp[folI]⟩
 |x::r,d,s,hf,h=>by
  rw[folI_cons]at h⊢
  have hq:(if x.kind=3 then rec x.name d s else((v x s).1,d,(v x s).2)).1=0->Fed sz l p d s (if x.kind=3 then rec x.name d s else((v x s).1,d,(v x s).2)).2.1 (if x.kind=3 then rec x.name d s else((v x s).1,d,(v x s).2)).2.2 1000:=by
   by_cases hk:x.kind=3
   ·rw[aG hk]
    intro h0
    have:=hrec x.name d s hf h0
    exact⟨this.fine,this.le,by have:=this.size;omega⟩
   ·rw[aE hk]
    intro h0
    exact⟨hf,aM _,by have:=hv x s h0;simp only;omega⟩
  generalize (if x.kind=3 then rec x.name d s else((v x s).1,d,(v x s).2))=q at*
  by_cases h0:q.1=0
  ·rw[aG h0]at h⊢
   have hq:=hq h0
   have h2:=folI_fed hrec r q.2.1 q.2.2 hq.fine h
   exact⟨h2.fine,bR hq.le h2.le,by have:=hq.size;have:=h2.size;rw[aJ];omega⟩
  ·rw[aE h0]at h;exact absurd h h0
theorem fol_fed(l:List Df)(hit:∀d,d∈l->d.items.length<=999):∀(k:Nat) (p:List Nat) (nm:ByteArray) (d:List Nat) (s:S),Fine l p d->(fol v l k p nm d s).1=0->
  Fed sz l p d s (fol v l k p nm d s).2.1 (fol v l k p nm d s).2.2 0
 |0,p,nm,d,s,hf,h=>by simp[fol]at h
 |k+1,p,nm,d,s,hf,h=>by
  unfold fol at h⊢
  cases hn:findD l nm with
  |none=>simp[hn]at h
  |some n=>
   simp only[hn]at h⊢
   split at h
   ·simp at h
   rename_i hp
   rw[aE hp]
   split at h
   ·rename_i hd
    rw[aG hd]
    exact⟨hf,aM _,by simp⟩
   rename_i hd
   rw[aE hd]
   obtain⟨df,hdf,_⟩:=findD_some hn
   simp only[hdf,dC,cT]at h⊢
   have hpush:=hf.push hn hp hd
   split at h
   ·rename_i h0
    rw[aG h0]
    have h1:=folI_fed v sz hv (fun nm d s hf h=>fol_fed l hit k (p++[n]) nm d s hf h) df.items d s hpush h0
    have hlen:=hit df (aF hdf)
    exact⟨h1.fine.pop hn,by rw[aC];have:=h1.le;omega,by have:=h1.size;simp only[aC,dG];omega⟩
   ·rename_i h0;exact absurd h h0
end
def IsLen(x n:Nat):Prop:=x<2^n/\(n=0\/2^(n-1)<=x)
instance (x n:Nat):Decidable (IsLen x n):=by unfold IsLen;infer_instance
theorem isLen_shift{x n s:Nat}(h:IsLen (x/2^s) n)(hx:2^s<=x):IsLen x (n+s):=by
 obtain⟨h1,h2⟩:=h
 have hp:=fK s
 have hn:n≠0:=by
  rintro rfl
  have:=(fX hp).1 h1
  omega
 refine⟨by rw[Nat.pow_add];exact(fX hp).1 h1,.inr ?_⟩
 rw[show n+s-1=(n-1)+s by omega,Nat.pow_add]
 exact(Nat.le_div_iff_mul_le hp).1 (h2.resolve_left hn)
theorem wr_u8{e:Int}{K:Int->Prop}(j:Nat)(h:e=j)(hj:j<256)(hk:K j):Wr .u8 e K:=by
 subst h
 refine Wr.intro ?_ hk
 simp only[IntKind.wrap,IntKind.signed,IntKind.bits];simp;omega
def chkTab(s:ByteArray):Bool:=Nat.beq s.data.size 256&&(List.range 256).all fun j=>match s.data[j]? with
 |some b=>decide (IsLen j b.toNat)
 |none=>false
theorem tab_in{s:ByteArray}{j:Nat}{K:UInt8->Prop}(hc:chkTab s=true)(hj:j<256)(hk:∀b:UInt8,IsLen j b.toNat->b.toNat<256->K b):In (j:Int) s.size fun j'=>∃b,s[j']? =some b/\K b:=by
 simp only[chkTab,aI,bX,dJ]at hc
 obtain⟨h1,h2⟩:=hc
 have h1:s.size=256:=aV h1
 have hlt:j<s.size:=by omega
 refine In.intro j rfl hlt ⟨s[j],by simp[hlt],hk _ ?_ (UInt8.toNat_lt _)⟩
 have:=h2 j hj
 have e:s.data[j]? =some s[j]:=by rw[bC (show j<s.data.size from hlt)];rfl
 rw[e]at this
 simpa using this
structure Pl where
 a:Int
 b:Int
 eg:Bool
 allow:List Bx
structure PlIn (t:Tp) (x:Pl):Prop where
 a0:0<=x.a
 a1:x.a<t.edges.length
 b0:0<=x.b
 b1:x.b<t.edges.length
 len:x.allow.length<=4096
theorem PlIn.eg{t:Tp}{x:Pl}(h:PlIn t x)(b:Bool):PlIn t {x with eg:=b}:=⟨h.a0,h.a1,h.b0,h.b1,h.len⟩
theorem pairP_len(t:Tp)(p:Pol)(a b:Int):(pairP t p a b).1.length<=4096:=by
 unfold pairP
 split
 ·exact aH _
 ·split
  ·exact aH _
  ·split
   ·exact aH _
   ·split
    ·exact combP_len _ _ _
    ·exact aH _
/-! with no room -/
theorem mem_pairsB{es:List Ed}{w:Bx}(h:w∈pairsB es):∃(i j:Nat) (a b:Ed),i≠j/\es[i]? =some a/\es[j]? =some b/\w=whoB a.pf b.pf:=by
 rw[pairsB,pairsTo,dT]at h
 obtain⟨⟨a,i⟩,ha,h⟩:=h
 rw[pairsAt,bU]at h
 obtain⟨⟨b,j⟩,hb,rfl⟩:=h
 obtain⟨hb,hij⟩:=cE.1 hb
 rw[cU]at ha hb
 have ha':=fG.1 ha
 have hb':=fG.1 hb
 exact⟨i,j,a,b,by simpa using hij,ha',hb',rfl⟩
end Go.Proofs.YtbdikofefjljoaaGreatDoor
