/- slices.SortFunc with canonical's closure: the library's contract at this program. -/
import Derived.Shelf.SlSortCmp.WholeK
import Derived.Shelf.SlSortCmp.NoneTotal
import Derived.Test.YtbdikofefjljoaaGreatDoorM19
set_option linter.unusedVariables false
set_option linter.unusedSimpArgs false
set_option maxRecDepth 100000
set_option maxHeartbeats 4000000
namespace Go.Proofs.YtbdikofefjljoaaGreatDoor
open Go Go.Vm Go.Sort Go.Shelf Go.Proofs
instance:Inhabited Rg:=⟨⟨0,0,by decide,by decide,by decide,by decide⟩⟩
def encV(r:Rg):List Value:=[.int .u32 r.lo,.int .u32 r.hi]
def cmpR(r s:Rg):Int:=cmpI r.lo s.lo
theorem ltR(r s:Rg):ltOf cmpR r s=decide (r.lo<s.lo):=by
 unfold ltOf cmpR cmpI
 by_cases h1:r.lo<s.lo
 ·simp[h1]
 ·by_cases h2:s.lo<r.lo<;>simp[h1,h2]
theorem swoR:SWO (ltOf cmpR) where
 irrefl x:=by rw[ltR];simp
 trans x y z h1 h2:=by rw[ltR]at*;simp at*;omega
 ntrans x y z h1 h2:=by rw[ltR]at*;simp at*;omega
theorem sorts:Sorts:=by
 intro d n hn hd K hK
 have eg:∀args w,(callFunc 303 args).run Tryz.prog w=.ok (.enter 303 args) w:=enters_of Tryz.func303 zk rfl
 refine sort_of (k:=2) (enc:=encV) (encA:=encR) (cf:=cmpR) zk (fun _=>rfl) (fun _=>rfl) (fun blk off cap d w hH hb hs hgl=>?_) (fun p cap fv w=>?_) hn zo (fun d' hp hs=>hK d' hp (hs.imp fun h=>?_))
 ·exact AnyQ.slices_SortFunc Tryz.sortR 2 Tryz.isAgg111 Tryz.sizeOf111 encV (fun _=>rfl) (fun x v hv=>by simp[encV]at hv;rcases hv with rfl|rfl<;>rfl) cmpR swoR 303 #[] blk off cap d w eg
   (cmpLays_of hgl fun x y=>c47 x y ⟨rfl,rfl⟩) hH hb hs
 ·exact AnyF.slices_SortFunc_none Tryz.sortR p cap fv w
 ·rw[ltR]at h;simp at h;omega
open Go Go.Vm
theorem k39(l:List Rg)(hl:l.length<100000){K:KT}(hK:∀c,Canon c->(∀v,has c v=has l v)->c.length<=l.length->K (encRs c) []):ACall Tryz.prog 257 [encRs l] [] K:=c39 sorts l hl hK
theorem c18(a b:List Rg)(ha:a.length<900)(hb:b.length<900){K:KT}(hK:∀c,Canon c->(∀v,has c v=(has a v||has b v))->c.length<=a.length+b.length->K (encRs c) []):ACall Tryz.prog 186 [encRs a,encRs b] [] K:=by
 refine of18 rfl rfl ?_
 iterate 4 (all_goals((conv=>whnf);first|refine zG ?_|apply zA|(apply zI;intro h)|exact zT|skip))
 refine c40 [a,b] zx (fun l hl=>by
  simp only[aW,dI,or_false]at hl
  rcases hl with rfl|rfl<;>omega) ?_
 (conv=>whnf)
 refine k39 [a,b].flatten (by simp;omega) fun c h1 h2 h3=>?_
 (conv=>whnf)
 refine hK c h1 (fun v=>?_) (by simpa using h3)
 rw[h2]
 simp[has]
structure IInv (A B:List Rg) (i j:Nat) (out:List Rg):Prop where
 canon:Canon out
 sep:∀s,s∈out->∀v,has (A.drop i) v=true->has (B.drop j) v=true->s.hi+1<v
 mem:∀v,(has A v&&has B v)=(has out v||(has (A.drop i) v&&has (B.drop j) v))
 len:out.length<=i+j
theorem has_cons(r:Rg)(l:List Rg)(v:Int):has (r::l) v=((decide (r.lo<=v)&&decide (v<=r.hi))||has l v):=by simp[has]
theorem drop_of{l:List Rg}{i:Nat}{r:Rg}(h:l[i]? =some r):l.drop i=r::l.drop (i+1):=by
 obtain⟨h1,h2⟩:=aP.1 h
 rw[bE h1,h2]
theorem canon_rest{l:List Rg}(h:Canon l){i:Nat}{r:Rg}(hr:l[i]? =some r){v:Int}(hv:has (l.drop (i+1)) v=true):r.hi+1<v:=by
 obtain⟨s,hs,h1,h2⟩:=has_iff.1 hv
 obtain⟨j,hj⟩:=List.getElem?_of_mem hs
 rw[cC]at hj
 have:=cO.1 h.2 i (i+1+j) (aP.1 hr).1 (aP.1 hj).1 zo
 rw[(aP.1 hr).2,(aP.1 hj).2]at this
 omega
theorem canon_rest_f{l:List Rg}(h:Canon l){i:Nat}{r:Rg}(hr:l[i]? =some r){v:Int}(hv:v<=r.hi+1):has (l.drop (i+1)) v=false:=by
 cases hb:has (l.drop (i+1)) v with
 |false=>rfl
 |true=>have:=canon_rest h hr hb;omega
def cross(out:List Rg)(r s:Rg):List Rg:=if max r.lo s.lo<=min r.hi s.hi then out++[mkR (max r.lo s.lo) (min r.hi s.hi)]else out
theorem cross_has(out:List Rg)(r s:Rg)(v:Int):has (cross out r s) v=(has out v||((decide (r.lo<=v)&&decide (v<=r.hi))&&(decide (s.lo<=v)&&decide (v<=s.hi)))):=by
 have b1:=r.l0;have b2:=r.l1;have b3:=r.h0;have b4:=r.h1
 have d1:=s.l0;have d2:=s.l1;have d3:=s.h0;have d4:=s.h1
 unfold cross
 split
 ·rw[has_append,has_one,mkR_lo zo zo zo zo,mkR_hi zo zo zo zo]
  congr 1
  rw[bG]
  simp only[aI,aK]
  omega
 ·rename_i h
  have:((decide (r.lo<=v)&&decide (v<=r.hi))&&(decide (s.lo<=v)&&decide (v<=s.hi)))=false:=by
   cases hb:((decide (r.lo<=v)&&decide (v<=r.hi))&&(decide (s.lo<=v)&&decide (v<=s.hi)))with
   |false=>rfl
   |true=>simp only[aI,aK]at hb;omega
  rw[this,Bool.or_false]
theorem cross_canon{A B:List Rg}{i j:Nat}{out:List Rg}{r s:Rg}(h:IInv A B i j out)(hr:A[i]? =some r)(hs:B[j]? =some s):Canon (cross out r s)/\(cross out r s).length<=i+j+1:=by
 have b1:=r.l0;have b2:=r.l1;have b3:=r.h0;have b4:=r.h1
 have d1:=s.l0;have d2:=s.l1;have d3:=s.h0;have d4:=s.h1
 have hl:=h.len
 unfold cross
 split
 ·rename_i hle
  have e1:=mkR_lo (show 0<=max r.lo s.lo by omega) zo (show 0<=min r.hi s.hi by omega) zo
  have e2:=mkR_hi (show 0<=max r.lo s.lo by omega) zo (show 0<=min r.hi s.hi by omega) zo
  refine⟨canon_append_one h.canon (by rw[e1,e2];exact hle) (fun t ht=>?_),by simp;omega⟩
  rw[e1]
  refine h.sep t ht _ ?_ ?_
  ·rw[drop_of hr,has_cons,bV,aI,aK,aK];left;omega
  ·rw[drop_of hs,has_cons,bV,aI,aK,aK];left;omega
 ·exact⟨h.canon,by omega⟩
theorem cross_ends{out:List Rg}{r s t:Rg}(ht:t∈cross out r s):t∈out\/(t.hi<=r.hi/\t.hi<=s.hi):=by
 have b1:=r.l0;have b2:=r.l1;have b3:=r.h0;have b4:=r.h1
 have d1:=s.l0;have d2:=s.l1;have d3:=s.h0;have d4:=s.h1
 unfold cross at ht
 split at ht
 ·rcases aS.1 ht with ht|ht
  ·exact .inl ht
  ·simp at ht;subst ht
   right
   rw[mkR_hi zo zo zo zo]
   omega
 ·exact .inl ht
theorem iinv_left{A B:List Rg}{i j:Nat}{out:List Rg}{r s:Rg}(hA:Canon A)(hB:Canon B)(h:IInv A B i j out)(hr:A[i]? =some r)(hs:B[j]? =some s)(hlt:r.hi<s.hi):IInv A B (i+1) j (cross out r s):=by
 obtain⟨c1,c2⟩:=cross_canon h hr hs
 refine⟨c1,fun t ht v h1 h2=>?_,fun v=>?_,by omega⟩
 ·rcases cross_ends ht with ht|ht
  ·exact h.sep t ht v (by rw[drop_of hr,has_cons,h1,Bool.or_true]) h2
  ·have:=canon_rest hA hr h1;omega
 ·rw[h.mem,cross_has,drop_of hr,has_cons,drop_of hs,has_cons]
  rcases eO (r.hi) v with h1|h1
  ·rw[show decide (v<=r.hi)=false from decide_eq_false zo];simp
  ·rw[canon_rest_f hA hr zo,canon_rest_f hB hs zo]
   cases has out v<;>cases (decide (r.lo<=v)&&decide (v<=r.hi))<;>cases (decide (s.lo<=v)&&decide (v<=s.hi))<;>rfl
theorem iinv_right{A B:List Rg}{i j:Nat}{out:List Rg}{r s:Rg}(hA:Canon A)(hB:Canon B)(h:IInv A B i j out)(hr:A[i]? =some r)(hs:B[j]? =some s)(hge:s.hi<=r.hi):IInv A B i (j+1) (cross out r s):=by
 obtain⟨c1,c2⟩:=cross_canon h hr hs
 refine⟨c1,fun t ht v h1 h2=>?_,fun v=>?_,by omega⟩
 ·rcases cross_ends ht with ht|ht
  ·exact h.sep t ht v h1 (by rw[drop_of hs,has_cons,h2,Bool.or_true])
  ·have:=canon_rest hB hs h2;omega
 ·rw[h.mem,cross_has,drop_of hr,has_cons,drop_of hs,has_cons]
  rcases eO (s.hi) v with h1|h1
  ·rw[show decide (v<=s.hi)=false from decide_eq_false zo];simp
  ·rw[canon_rest_f hA hr zo,canon_rest_f hB hs zo]
   cases has out v<;>cases (decide (r.lo<=v)&&decide (v<=r.hi))<;>cases (decide (s.lo<=v)&&decide (v<=s.hi))<;>rfl
theorem c19(a b:List Rg)(ha:a.length<10000)(hb:b.length<10000){K:KT}
  (hK:∀out,Canon out->(∀v,has out v=(has a v&&has b v))->out.length<=a.length+b.length->K (encRs out) []):ACall Tryz.prog 297 [encRs a,encRs b] [] K:=by
 refine of19 rfl rfl ?_
 (conv=>whnf)
 refine k39 a zo fun A g1 g2 g3=>?_
 (conv=>whnf)
 refine k39 b zo fun B f1 f2 f3=>?_
 (conv=>whnf)
 refine Lp.intro (Nat×Nat×List Rg) (fun g=>⟨1,[(0,.arr 2 (g.2.2.map encR))],[(0,encRs A),(1,encRs B),(5,.os 0 2 0 g.2.2.length),(6,.v (.int .i64 g.1)),(7,.v (.int .i64 g.2.1))]⟩)
  (fun g=>g.1<=A.length/\g.2.1<=B.length/\IInv A B g.1 g.2.1 g.2.2) (fun g=>(A.length-g.1)+(B.length-g.2.1)) (0,0,[]) ?_ ?_ ?_
 ·exact⟨aH _,aH _,canon_nil,fun s hs=>by simp at hs,fun v=>by simp[has_nil],aM _⟩
 ·exact⟨[(0,0)],rfl,⟨rfl,rfl,rfl,rfl,rfl,trivial⟩,⟨rfl,trivial⟩⟩
 ·rintro⟨i,j,out⟩ ⟨hi,hj,hinv⟩
  simp only at hi hj hinv⊢
  have hlen:=hinv.len
  have fin:(∀v,(has (A.drop i) v&&has (B.drop j) v)=false)->K (encRs out) []:=fun he=>
   hK out hinv.canon (fun v=>by rw[<-g2,<-f2,hinv.mem,he,Bool.or_false]) zo
  rcases aB i A.length with hil|hil
  ·rcases aB j B.length with hjl|hjl
   ·obtain⟨r,hr⟩:=gex hil
    obtain⟨s,hs⟩:=gex hjl
    have b1:=r.l0;have b2:=r.l1;have b3:=r.h0;have b4:=r.h1
    have d1:=s.l0;have d2:=s.l1;have d3:=s.h0;have d4:=s.h1
    have e0:max r.lo s.lo<=min r.hi s.hi->cross out r s=out++[mkR (max r.lo s.lo) (min r.hi s.hi)]:=fun h=>by unfold cross;rw[aG h]
    have e1:¬max r.lo s.lo<=min r.hi s.hi->cross out r s=out:=fun h=>by unfold cross;rw[aE h]
    have e2:=enc_mkR (show 0<=max r.lo s.lo by omega) zo (show 0<=min r.hi s.hi by omega) zo
    iterate 90 (all_goals((conv=>whnf);first|(with_reducible first|refine in_map hil ?_|refine in_map hjl ?_|refine ix_map hr ?_|refine ix_map hs ?_)|refine zG ?_|apply zA|(apply zI;intro h)|exact zT|skip))
    ·have h:=iinv_left g1 f1 hinv hr hs zp
     rw[e0 zp]at h
     refine⟨(i+1,j,out++[mkR (max r.lo s.lo) (min r.hi s.hi)]),⟨by simp only;omega,hj,h⟩,by simp only;omega,?_⟩
     simp only[aQ,aU,bF,aC,aJ,aO]
     rw[e2]
     exact⟨[(0,2)],rfl,⟨rfl,rfl,rfl,rfl,rfl,trivial⟩,⟨rfl,trivial⟩⟩
    ·have h:=iinv_right g1 f1 hinv hr hs zo
     rw[e0 zp]at h
     refine⟨(i,j+1,out++[mkR (max r.lo s.lo) (min r.hi s.hi)]),⟨hi,by simp only;omega,h⟩,by simp only;omega,?_⟩
     simp only[aQ,aU,bF,aC,aJ,aO]
     rw[e2]
     exact⟨[(0,2)],rfl,⟨rfl,rfl,rfl,rfl,rfl,trivial⟩,⟨rfl,trivial⟩⟩
    ·have h:=iinv_left g1 f1 hinv hr hs zp
     rw[e1 zp]at h
     exact⟨(i+1,j,out),⟨by simp only;omega,hj,h⟩,by simp only;omega,⟨[(0,0)],rfl,⟨rfl,rfl,rfl,rfl,rfl,trivial⟩,⟨rfl,trivial⟩⟩⟩
    ·have h:=iinv_right g1 f1 hinv hr hs zo
     rw[e1 zp]at h
     exact⟨(i,j+1,out),⟨hi,by simp only;omega,h⟩,by simp only;omega,⟨[(0,0)],rfl,⟨rfl,rfl,rfl,rfl,rfl,trivial⟩,⟨rfl,trivial⟩⟩⟩
   ·iterate 10 (all_goals((conv=>whnf);first|(with_reducible first|refine in_map hil ?_|refine in_map hjl ?_)|refine zG ?_|apply zA|(apply zI;intro h)|exact zT|skip))
    exact fin fun v=>by rw[cH hjl,has_nil,Bool.and_false]
  ·iterate 10 (all_goals((conv=>whnf);first|(with_reducible refine in_map hil ?_)|refine zG ?_|apply zA|(apply zI;intro h)|exact zT|skip))
   exact fin fun v=>by rw[cH hil,has_nil,Bool.false_and]
theorem ckDig(n:Int){K:KT}(hK:∀s:ByteArray,s.size<=2->K (.v (.string s)) []):ACall Tryz.prog 326 [.v (.int .i64 n)] [] K:=by
 refine ofkDig rfl rfl ?_
 (repeat' ((conv=>whnf);first|(with_reducible first|refine Ob.intro zd ?_|refine wr_any fun r=>?_)|(refine sl_full (by rfl) ?_)|refine zG ?_|apply zA|(apply zI;intro h)|exact zT));(all_goals conv=>whnf)
 exact hK _ (by rw[strOfNums_size];simp)
theorem ckTime(n:Int){K:KT}(hK:∀s:ByteArray,s.size<=5->K (.v (.string s)) []):ACall Tryz.prog 298 [.v (.int .i64 n)] [] K:=by
 have z1:(⟨#[58]⟩:ByteArray).size=1:=rfl
 refine ofkTime rfl rfl ?_
 (repeat' ((conv=>whnf);first|(with_reducible first|refine Ob.intro zd ?_|refine wr_any fun r=>?_|refine ckDig _ fun s hs=>?_|refine Ob.intro (by(try simp only[ByteArray.size_append]);omega) ?_)|refine zG ?_|apply zA|(apply zI;intro h)|exact zT));(all_goals conv=>whnf)
 exact hK _ (by simp only[ByteArray.size_append];omega)
theorem ckForm(l:List Rg)(hl:l.length<=4000){K:KT}(hK:∀ss:List ByteArray,ss.length=fmtL l->ss.length<=300000->K (.lst (ss.map encSt)) []):ACall Tryz.prog 249 [encRs l] [] K:=by
 refine ACall.weak (ofkForm rfl rfl ?_)
 (repeat' ((conv=>whnf);first|(with_reducible refine c28 l 10079 zo fun s hs=>?_)|(refine sl_full (by rfl) ?_)|refine zG ?_|apply zA|(apply zI;intro h)|exact zT));(all_goals conv=>whnf)
 all_goals first
  |exact⟨_,Weak.nils,hK [] (by rw[fmtL,aE (fun hh=>by have:=hs.2 hh;simp_all)];rfl) zx⟩
  |exact⟨_,Weak.refl,hK [⟨#[110,101,118,101,114]⟩] (by
    have hl0:l=[]:=bS.1 (by simp only[aA]at*;omega)
    rw[fmtL,aG (hs.1 (by simp_all)),fmtN,aG hl0];rfl) zx⟩
  |skip
 have hv:Canon l/\∀r,r∈l->r.hi<=10079:=hs.1 (by simp_all)
 have hne:l≠[]:=fun e=>by subst e;simp_all
 rw[fmtL,aG hv,fmtN,aE hne]at hK
 refine Lp.intro (Nat×List ByteArray) (fun g=>⟨1,[(0,.arr 1 (g.2.map encSt))],[(0,encRs l),(3,.os 0 1 0 g.2.length),(16,.agg (dayL.map encSt)),(17,.v (.int .i64 g.1))]⟩)
  (fun g=>g.1<=7/\g.2.length<=40000*g.1/\g.2.length=3*cntW l g.1-1) (fun g=>7-g.1) (0,[]) ⟨aH _,aH _,rfl⟩ ?_ ?_
 ·(exact leA)
 rintro⟨d,ss⟩ ⟨hd,hss,hsn⟩
 simp only at hd hss hsn⊢
 rcases aB d 7 with hd7|hd7
 ·have hint:∀{K:KT},(∀out,Canon out->(∀v,has out v=(has l v&&has [mkR (1440*d) (1440*d+1439)] v))->out.length<=l.length+1->K (encRs out) [])->ACall Tryz.prog 297 [encRs l,.lst [encR (mkR (1440*d) (1440*d+1439))]] [] K:=fun h=>c19 l [mkR (1440*d) (1440*d+1439)] zo zx h
  have m1:(mkR (1440*(d:Int)) (1440*d+1439)).lo=1440*d:=mkR_lo zo zo zo zo
  have m2:(mkR (1440*(d:Int)) (1440*d+1439)).hi=1440*d+1439:=mkR_hi zo zo zo zo
  have hint2:∀{K:KT},(∀out,Canon out->(∀v,has out v=(has l v&&has [mkR (1440*d) (1440*d+1439)] v))->out.length<=l.length+1->K (encRs out) [])->ACall Tryz.prog 297 [encRs l,.lst [.agg [.v (.int .u32 ((d:Int)*1440)),.v (.int .u32 ((d:Int)*1440+1440-1))]]] [] K:=fun h=>by
   have:=hint h
   simp only[encR,m1,m2]at this
   rw[show(d:Int)*1440=1440*d by omega,show 1440*(d:Int)+1440-1=1440*d+1439 by omega]
   exact this
  (repeat' ((conv=>whnf);first|refine zG ?_|apply zA|(apply zI;intro h)|exact zT));(all_goals conv=>whnf)
  refine Jn.intro ByteArray (fun c=>⟨1,[(0,.arr 1 (ss.map encSt))],[(0,encRs l),(3,.os 0 1 0 ss.length),(4,.v (.int .i64 d)),(5,.v (.string c)),(16,.agg (dayL.map encSt)),(17,.v (.int .i64 d))]⟩) (fun c=>c.size<=3) ?_ ?_
  ·obtain rfl|rfl|rfl|rfl|rfl|rfl|rfl:d=0\/d=1\/d=2\/d=3\/d=4\/d=5\/d=6:=by omega
   all_goals
    (repeat' ((conv=>whnf);first|(with_reducible refine In.intro _ rfl zd ?_)|refine zG ?_|apply zA|(apply zI;intro h)|exact zT));(all_goals conv=>whnf)
    first
     |(refine⟨⟨#[109,111,110]⟩,by decide,?_⟩
       (exact leA)
       done)
     |(refine⟨⟨#[116,117,101]⟩,by decide,?_⟩
       (exact leA)
       done)
     |(refine⟨⟨#[119,101,100]⟩,by decide,?_⟩
       (exact leA)
       done)
     |(refine⟨⟨#[116,104,117]⟩,by decide,?_⟩
       (exact leA)
       done)
     |(refine⟨⟨#[102,114,105]⟩,by decide,?_⟩
       (exact leA)
       done)
     |(refine⟨⟨#[115,97,116]⟩,by decide,?_⟩
       (exact leA)
       done)
     |(refine⟨⟨#[115,117,110]⟩,by decide,?_⟩
       (exact leA)
       done)
  intro dn hdn
  (repeat' ((conv=>whnf);first|(with_reducible first|refine wr_i64 rfl zo zo ?_|refine wr_u32 rfl zo zo ?_)|(refine sl_full (by rfl) ?_)|(with_reducible refine hint2 fun out ho hh hn=>?_)|refine zG ?_|apply zA|(apply zI;intro h)|exact zT));(all_goals conv=>whnf)
  have hday:dayW l d=out:=dayW_eq ho fun v=>by
   rw[hh v]
   rw[has_day hd7]
  have hcs:=cntW_succ l d
  rw[hday]at hcs
  refine Lp.intro (Nat×List ByteArray) (fun g=>⟨3,[(0,.arr 1 (g.2.map encSt)),(1,.box [.v (.int .u32 ((d:Int)*1440)),.v (.int .u32 ((d:Int)*1440+1440-1))])],[(0,encRs l),(3,.os 0 1 0 g.2.length),(5,.v (.string dn)),(6,.op 1 0),(16,.agg (dayL.map encSt)),(17,.v (.int .i64 d)),(33,encRs out),(34,.v (.int .i64 (out.map encR).length)),(35,.v (.int .i64 g.1))]⟩)
   (fun g=>g.1<=out.length/\g.2.length<=ss.length+3*g.1/\g.2.length=3*(cntW l d+g.1)-1) (fun g=>out.length-g.1) (0,ss) ⟨aH _,by simp only;omega,by simp only;omega⟩ ?_ ?_
  ·(exact leA)
  rintro⟨i,st⟩ ⟨hi,hst,hstn⟩
  simp only at hi hst hstn⊢
  rcases aB i out.length with hil|hil
  ·obtain⟨r,hr⟩:=gex hil
   have hrm:=aF hr
   have hle:=canon_le ho hrm
   have hb:∀v,r.lo<=v->v<=r.hi->1440*(d:Int)<=v/\v<=1440*d+1439:=fun v h1 h2=>by
    have h3:has out v=true:=has_iff.2 ⟨r,hrm,h1,h2⟩
    rw[hh,has_day hd7]at h3
    simp only[aI,aK]at h3
    exact h3.2
   have hb1:=hb r.lo (cF _) hle
   have hb2:=hb r.hi hle (cF _)
   (repeat' ((conv=>whnf);first|(with_reducible first|refine in_map hil ?_|refine ix_map hr ?_)|refine zG ?_|apply zA|(apply zI;intro h)|exact zT));(all_goals conv=>whnf)
   refine Jn.intro (List ByteArray) (fun g=>⟨4,[(0,.arr 1 (g.map encSt)),(1,.box [.v (.int .u32 ((d:Int)*1440)),.v (.int .u32 ((d:Int)*1440+1440-1))]),(3,.box [.v (.int .u32 r.lo),.v (.int .u32 r.hi)])],[(0,encRs l),(3,.os 0 1 0 g.length),(5,.v (.string dn)),(6,.op 1 0),(8,.op 3 0),(16,.agg (dayL.map encSt)),(17,.v (.int .i64 d)),(33,encRs out),(34,.v (.int .i64 (out.map encR).length)),(35,.v (.int .i64 i))]⟩) (fun g=>g.length<=st.length+1/\g.length=3*(cntW l d+i)) ?_ ?_
   ·(repeat' ((conv=>whnf);first|(refine sl_full (by rfl) ?_)|refine zG ?_|apply zA|(apply zI;intro h)|exact zT));(all_goals conv=>whnf)
    ·refine⟨st++[⟨#[44]⟩],⟨by simp,by simp only[aC,aJ,aO];omega⟩,?_⟩
     simp only[aQ,aC,aU,bF,aJ,aO]
     (exact leA)
    ·refine⟨st,⟨by omega,by omega⟩,?_⟩
     (exact leA)
   rintro su ⟨hsu,hsun⟩
   have z1:(⟨#[45]⟩:ByteArray).size=1:=rfl
   (repeat' ((conv=>whnf);first|(with_reducible first|refine wr_u32 rfl zo zo ?_|refine wr_i64 rfl zo zo ?_|refine ckTime _ fun s hs=>?_)|(refine sl_full (by rfl) ?_)|(with_reducible refine Ob.intro (by(try simp only[ByteArray.size_append]);omega) ?_)|refine zG ?_|apply zA|(apply zI;intro h)|exact zT));(all_goals conv=>whnf)
   rename_i q1 sA hsA
   refine⟨(i+1,su++[dn,sA++⟨#[45]⟩++s]),⟨by simp only;omega,by simp only[aC,aJ,aO];omega,by simp only[aC,aJ,aO];omega⟩,by simp only;omega,?_⟩
   simp only[aQ,aC,aU,bF,aJ,aO,aN,aL]
   (exact leA)
  ·(repeat' ((conv=>whnf);first|refine zG ?_|apply zA|(apply zI;intro h)|exact zT));(all_goals conv=>whnf)
   refine⟨(d+1,st),⟨by simp only;omega,by simp only;omega,by simp only;omega⟩,by simp only;omega,?_⟩
   rw[show(((d+1,st):Nat×List ByteArray).1:Int)=(d:Int)+1 from by simp only;omega]
   (exact leA)
 ·(repeat' ((conv=>whnf);first|(with_reducible refine sl_full (aA ..) ?_)|refine zG ?_|apply zA|(apply zI;intro h)|exact zT));(all_goals conv=>whnf)
  exact⟨_,Weak.refl,hK ss (by rw[hsn,show d=7 by omega]) zo⟩
theorem ckPrt(p:Int)(r:Rg){K:KT}(hK:K (.sb (prB p r)) []):ACall Tryz.prog 295 [.v (.int .i64 p),.agg [.v (.int .u32 r.lo),.v (.int .u32 r.hi)]] [] K:=by
 refine ACall.bool (ofiPrt rfl rfl ?_)
 have hl0:=r.l0
 (repeat' ((conv=>whnf);first|(refine eqw_Rg ?_)|refine zG ?_|apply zA|(apply zI;intro h)|exact zT));(all_goals conv=>whnf)
 all_goals first
  |refine fin_t hK ?_
  |refine fin_f hK ?_
  |refine fin_s hK ?_
 all_goals
  unfold prB
  simp_all
 all_goals first
  |omega
  |(rw[aE zo,aE zo];intros;omega)
theorem ckItem(x:It)(v:Bool){K:KT}(hK:K (.sb (itB x (!v))) []):ACall Tryz.prog 248 [encIt x,.sb v] [] K:=by
 refine ACall.bool (ofiItem rfl rfl ?_)
 have hs:=sEq_self x.name
 (repeat' ((conv=>whnf);first|(with_reducible first|refine csName _ ?_|refine cpVal x.pf ?_|refine ckPrt x.proto x.ports ?_)|(refine eqw_It ?_)|refine zG ?_|apply zA|(apply zI;intro h)|exact zT));(all_goals conv=>whnf)
 all_goals first
  |refine fin_t hK ?_
  |refine fin_f hK ?_
  |refine fin_s hK ?_
 all_goals
  unfold itB
  simp_all[itN,itP,itS]
theorem ckOpt(s:ByteArray){K:KT}(hK:K (.sb (optB s)) []):ACall Tryz.prog 252 [.v (.string s)] [] K:=by
 refine ACall.bool (ofiEmp rfl rfl ?_)
 (repeat' ((conv=>whnf);first|(with_reducible refine csName _ ?_)|refine zG ?_|apply zA|(apply zI;intro h)|exact zT));(all_goals conv=>whnf)
 all_goals first
  |exact fin_t hK (by unfold optB sEq;simp_all)
  |exact fin_s hK (by unfold optB sEq;simp_all)
theorem ckWri(l:List Rg)(hl:l.length<=4000){K:KT}(hK:∀ss:List ByteArray,K (.tup [.lst (ss.map encSt),.sb (winB l)]) []):ACall Tryz.prog 174 [encRs l] [] K:=by
 have h1:1<=fmtN l\/l≠[]:=by
  by_cases h:l=[]
  ·left;rw[fmtN,aG h];exact aM _
  ·exact .inr h
 refine ACall.weak (ofiWri rfl rfl ?_)
 (repeat' ((conv=>whnf);first|(with_reducible refine ckForm l hl fun ss hss hsl=>?_)|refine zG ?_|apply zA|(apply zI;intro h)|exact zT));(all_goals conv=>whnf)
 ·have hq2:(((ss.map encSt).length:Int)+1).tdiv 3=(((ss.length+1)/3:Nat):Int):=by rw[aA,cY zo];omega
  (repeat' ((conv=>whnf);first|(with_reducible first|refine wr_i64 hq2 zo zo ?_|refine wr_i64 rfl (by(try simp only[aA]);omega) (by(try simp only[aA]);omega) ?_|refine Ob.intro zd ?_)|refine zG ?_|apply zA|(apply zI;intro h)|exact zT));(all_goals conv=>whnf)
  refine⟨_,Weak.refl,?_⟩
  have e:decide ((((ss.length+1)/3:Nat):Int)<=16)=winB l:=by
   rw[bG,winB_iff,win_iff,aK]
   unfold fmtL at hss
   simp only[aA]at h
   by_cases hv:Canon l/\∀r,r∈l->r.hi<=10079
   ·rw[aG hv]at hss
    have h3:fmtN l=1\/fmtN l=3*cntW l 7-1:=by
     unfold fmtN;split
     ·exact .inl rfl
     ·exact .inr rfl
    exact⟨fun h=>⟨hv,by omega⟩,fun h=>by omega⟩
   ·rw[aE hv]at hss;omega
  rw[e];exact hK _
 ·refine⟨_,Weak.tup2 Weak.refl Weak.bool,?_⟩
  have e:winB l=false:=by
   rw[cA,ne_eq,winB_iff,win_iff]
   rintro⟨hv,_⟩
   rw[fmtL,aG hv]at hss
   simp only[aA]at h
   have h0:fmtN l=0:=by omega
   rcases h1 with h1|h1
   ·omega
   ·have:=dayW_ne hv.1 hv.2 h1
    rw[fmtN,aE h1]at h0;omega
  rw[<-e];exact hK _
theorem ckSm(x:Sm){K:KT}(hK:K (.sb (smB x)) []):ACall Tryz.prog 179 [encSm x] [] K:=by
 refine ACall.bool (ofiSm rfl rfl ?_)
 (repeat' ((conv=>whnf);first|(with_reducible first|refine Lp.times 8 ?_|refine ckOpt _ ?_)|(refine in_c zd ?_)|(refine Ix.intro rfl ?_)|refine zG ?_|apply zA|(apply zI;intro h)|exact zT));(all_goals conv=>whnf)
 all_goals first
  |refine fin_t hK ?_
  |refine fin_f hK ?_
  |refine fin_s hK ?_
 all_goals
  unfold smB
  simp_all[sEq]
 all_goals omega
structure Bnd (i:Nt):Prop where
 g:i.grps.length<=999
 s:i.svcs.length<=999
 w:i.wins.length<=999
 t:i.sts.length<=999
 p:i.pubs.length<=999
 h:i.hids.length<=999
 gi:∀x,x∈i.grps->x.items.length<=999
 si:∀x,x∈i.svcs->x.items.length<=999
 wi:∀x,x∈i.wins->x.act.length<=4000
 its:itsN i.grps<=70
 sits:itsN i.svcs<=70000
theorem ckFind1(d:Df)(s:ByteArray){K:KT}(hK:K (.sb (sEq d.name s)) []):ACall Tryz.prog 294 [encDf d,.fp [.v (.string s)]] [] K:=by
 refine ofiFind1 rfl rfl ?_
 (repeat' ((conv=>whnf);first|refine zG ?_|apply zA|(apply zI;intro h)|exact zT));(all_goals conv=>whnf)
 exact hK
theorem cixD(l:List Df)(f:FuncId)(cs:List AV)(p:Df->Bool)(hF:∀(x:Df) (K:AV->List Vm.Obj->Prop),K (.sb (p x)) []->ACall Tryz.prog f [encDf x,.fp cs] [] K)(hl:l.length<1000000){K:KT}(hK:K (.v (.int .i64 (firstIx p l))) []):
  ACall Tryz.prog 293 [.lst (l.map encDf),.fn (.func f) [] [.fp cs]] [] K:=by
 refine ofwIxD rfl rfl ?_
 (repeat' ((conv=>whnf);first|refine zG ?_|apply zA|(apply zI;intro h)|exact zT));(all_goals conv=>whnf)
 refine Lp.intro Nat (fun k=>⟨0,[],[(0,.lst (l.map encDf)),(1,.fn (.func f) [] [.fp cs]),(7,.v (.int .i64 (l.map encDf).length)),(8,.v (.int .i64 k))]⟩) (fun k=>k<=l.length/\∀(i:Nat) y,i<k->l[i]? =some y->p y=false) (fun k=>l.length-k) 0 ⟨aH _,fun i y hi=>absurd hi (aZ _)⟩ ?_ ?_
 ·(exact leA)
 intro k ⟨hk,hinv⟩
 rcases aB k l.length with hkl|hkl
 ·obtain⟨r,hr⟩:=gex hkl
  (repeat' ((conv=>whnf);first|(with_reducible first|refine in_map hkl ?_|refine ix_map hr ?_|refine hF r _ ?_)|refine zG ?_|apply zA|(apply zI;intro h)|exact zT));(all_goals conv=>whnf)
  ·rw[firstIx_at hr h hinv]at hK;exact hK
  ·refine⟨k+1,⟨by omega,before_succ hr h hinv⟩,by omega,?_⟩
   rw[aN,aL]
   (exact leA)
 ·(repeat' ((conv=>whnf);first|refine zG ?_|apply zA|(apply zI;intro h)|exact zT));(all_goals conv=>whnf)
  rw[firstIx_none (before_all hkl hinv)]at hK
  exact hK
theorem ckFind(l:List Df)(s:ByteArray)(hl:l.length<1000000){K:KT}(hK:K (.v (.int .i64 (dfIx l s))) []):ACall Tryz.prog 247 [.lst (l.map encDf),.v (.string s)] [] K:=by
 have hc:∀{K:KT},K (.v (.int .i64 (dfIx l s))) []->ACall Tryz.prog 293 [.lst (l.map encDf),.fn (.func 294) [] [.fp [.v (.string s)]]] [] K:=fun h=>cixD l _ _ (fun d=>sEq d.name s) (fun x K h=>ckFind1 x s h) hl h
 refine ofiFind rfl rfl ?_
 (repeat' ((conv=>whnf);first|(with_reducible refine hc ?_)|refine zG ?_|apply zA|(apply zI;intro h)|exact zT));(all_goals conv=>whnf)
 exact hK
theorem ckWnd1(d:Wn)(s:ByteArray){K:KT}(hK:K (.sb (sEq d.name s)) []):ACall Tryz.prog 250 [encWn d,.fp [.v (.string s)]] [] K:=by
 refine ofiWnd1 rfl rfl ?_
 (repeat' ((conv=>whnf);first|refine zG ?_|apply zA|(apply zI;intro h)|exact zT));(all_goals conv=>whnf)
 exact hK
theorem cixW(l:List Wn)(f:FuncId)(cs:List AV)(p:Wn->Bool)(hF:∀(x:Wn) (K:AV->List Vm.Obj->Prop),K (.sb (p x)) []->ACall Tryz.prog f [encWn x,.fp cs] [] K)(hl:l.length<1000000){K:KT}(hK:K (.v (.int .i64 (firstIx p l))) []):
  ACall Tryz.prog 180 [.lst (l.map encWn),.fn (.func f) [] [.fp cs]] [] K:=by
 refine ofiIxW rfl rfl ?_
 (repeat' ((conv=>whnf);first|refine zG ?_|apply zA|(apply zI;intro h)|exact zT));(all_goals conv=>whnf)
 refine Lp.intro Nat (fun k=>⟨0,[],[(0,.lst (l.map encWn)),(1,.fn (.func f) [] [.fp cs]),(7,.v (.int .i64 (l.map encWn).length)),(8,.v (.int .i64 k))]⟩) (fun k=>k<=l.length/\∀(i:Nat) y,i<k->l[i]? =some y->p y=false) (fun k=>l.length-k) 0 ⟨aH _,fun i y hi=>absurd hi (aZ _)⟩ ?_ ?_
 ·(exact leA)
 intro k ⟨hk,hinv⟩
 rcases aB k l.length with hkl|hkl
 ·obtain⟨r,hr⟩:=gex hkl
  (repeat' ((conv=>whnf);first|(with_reducible first|refine in_map hkl ?_|refine ix_map hr ?_|refine hF r _ ?_)|refine zG ?_|apply zA|(apply zI;intro h)|exact zT));(all_goals conv=>whnf)
  ·rw[firstIx_at hr h hinv]at hK;exact hK
  ·refine⟨k+1,⟨by omega,before_succ hr h hinv⟩,by omega,?_⟩
   rw[aN,aL]
   (exact leA)
 ·(repeat' ((conv=>whnf);first|refine zG ?_|apply zA|(apply zI;intro h)|exact zT));(all_goals conv=>whnf)
  rw[firstIx_none (before_all hkl hinv)]at hK
  exact hK
theorem ckWnd(l:List Wn)(s:ByteArray)(hl:l.length<1000000){K:KT}(hK:K (.v (.int .i64 (wnIx l s))) []):ACall Tryz.prog 175 [.lst (l.map encWn),.v (.string s)] [] K:=by
 have hc:∀{K:KT},K (.v (.int .i64 (wnIx l s))) []->ACall Tryz.prog 180 [.lst (l.map encWn),.fn (.func 250) [] [.fp [.v (.string s)]]] [] K:=fun h=>cixW l _ _ (fun d=>sEq d.name s) (fun x K h=>ckWnd1 x s h) hl h
 refine ofiWnd rfl rfl ?_
 (repeat' ((conv=>whnf);first|(with_reducible refine hc ?_)|refine zG ?_|apply zA|(apply zI;intro h)|exact zT));(all_goals conv=>whnf)
 exact hK
theorem ckDefs(l:List Df)(v:Bool)(hl:l.length<=999)(hi:∀x,x∈l->x.items.length<=999){K:KT}(hK:K (.sb (dfsB l (!v))) []):ACall Tryz.prog 173 [.lst (l.map encDf),.sb v] [] K:=by
 refine ACall.bool (ofiDefs rfl rfl ?_)
 (repeat' ((conv=>whnf);first|refine zG ?_|apply zA|(apply zI;intro h)|exact zT));(all_goals conv=>whnf)
 refine Lp.intro Nat (fun i=>⟨0,[],[(0,.lst (l.map encDf)),(1,.sb v),(9,.lst (l.map encDf)),(10,.v (.int .i64 (l.map encDf).length)),(11,.v (.int .i64 i))]⟩) (fun i=>i<=l.length/\∀(j:Nat) d,j<i->l[j]? =some d->DfOk l (!v) j d) (fun i=>l.length-i) 0 ⟨aH _,fun i y hi=>absurd hi (aZ _)⟩ ?_ ?_
 ·(exact leA)
 intro i ⟨hil0,hinv⟩
 rcases aB i l.length with hil|hil
 ·obtain⟨x,hx⟩:=gex hil
  have hxi:=hi x (aF hx)
  have hno:(DfOk l (!v) i x->False)->dfsB l (!v)=false:=fun h=>dfsB_false fun hn=>h (hn.all i x hx)
  (repeat' ((conv=>whnf);first|(with_reducible first|refine in_map hil ?_|refine ix_map hx ?_)|refine zG ?_|apply zA|(apply zI;intro h)|exact zT));(all_goals conv=>whnf)
  refine Jn.intro Unit (fun _=>⟨1,[(0,.box [.v (.string x.name),.lst (x.items.map encIt)])],[(0,.lst (l.map encDf)),(1,.sb v),(5,.v (.int .i64 i)),(6,.op 0 0),(9,.lst (l.map encDf)),(10,.v (.int .i64 (l.map encDf).length)),(11,.v (.int .i64 i))]⟩) (fun _=>nameB x.name=true/\1<=x.items.length/\x.items.length<=16/\dfIx l x.name=i) ?_ ?_
  ·(repeat' ((conv=>whnf);first|(with_reducible first|refine csName _ ?_|refine ckFind l _ zo ?_)|refine zG ?_|apply zA|(apply zI;intro h)|exact zT));(all_goals conv=>whnf)
   all_goals first
    |(refine⟨(),⟨by with_reducible assumption,by simp only[aA]at*;omega,by simp only[aA]at*;omega,by with_reducible assumption⟩,?_⟩
      (exact leA)
      done)
    |(refine fin_f hK (hno fun hn=>?_)
      have n1:=hn.name;have n2:=hn.first;have n3:=hn.lo;have n4:=hn.hi
      (try simp only[aA]at*)
      first|omega|simp_all)
  rintro⟨⟩ ⟨h1,h2,h3,h4⟩
  (repeat' ((conv=>whnf);first|refine zG ?_|apply zA|(apply zI;intro h)|exact zT));(all_goals conv=>whnf)
  refine Lp.intro Nat (fun k=>⟨1,[],[(0,.lst (l.map encDf)),(1,.sb v),(9,.lst (l.map encDf)),(10,.v (.int .i64 (l.map encDf).length)),(11,.v (.int .i64 i)),(41,.lst (x.items.map encIt)),(42,.v (.int .i64 (x.items.map encIt).length)),(43,.v (.int .i64 k))]⟩) (fun k=>k<=x.items.length/\∀(j:Nat) y,j<k->x.items[j]? =some y->itB y (!v)=true) (fun k=>x.items.length-k) 0 ⟨aH _,fun i y hi=>absurd hi (aZ _)⟩ ?_ ?_
  ·(exact leA)
  intro k ⟨hk0,hkv⟩
  rcases aB k x.items.length with hkl|hkl
  ·obtain⟨y,hy⟩:=gex hkl
   (repeat' ((conv=>whnf);first|(with_reducible first|refine in_map hkl ?_|refine ix_map hy ?_|refine ckItem y v ?_)|refine zG ?_|apply zA|(apply zI;intro h)|exact zT));(all_goals conv=>whnf)
   ·refine⟨k+1,⟨hkl,all_succ hy h hkv⟩,by omega,?_⟩
    rw[aN,aL]
    (exact leA)
   ·refine fin_f hK (hno fun hn=>?_)
    rw[hn.all y (aF hy)]at h;cases h
  ·(repeat' ((conv=>whnf);first|refine zG ?_|apply zA|(apply zI;intro h)|exact zT));(all_goals conv=>whnf)
   have hall:=before_all hkl hkv
   refine⟨i+1,⟨hil,all_succ hx ⟨h1,h4,h2,h3,fun y hy=>?_⟩ hinv⟩,by omega,?_⟩
   ·obtain⟨j,hj⟩:=bM.1 hy
    exact hall j y hj
   ·rw[aN,aL]
    (exact leA)
 ·(repeat' ((conv=>whnf);first|refine zG ?_|apply zA|(apply zI;intro h)|exact zT));(all_goals conv=>whnf)
  refine fin_s hK ?_
  have hall:=before_all hil hinv
  rw[bG,dfsB_iff,aK,aA]
  exact⟨fun h=>by have:=h.len;omega,fun h=>⟨by omega,hall⟩⟩
theorem ckDefsV(l:List Df)(v:Bool)(hl:l.length<=999)(hi:∀x,x∈l->x.items.length<=999){K:KT}(hK:K (.sb (dfsB l (!v))) []):ACall Tryz.prog 173 [.lst (l.map encDf),.v (.bool v)] [] K:=
 ACall.args (ys:=[.lst (l.map encDf),.sb v]) ⟨Weak.refl,Weak.bool,trivial⟩ (ckDefs l v hl hi hK)
theorem ckPort(n:Int){K:KT}(hK:K (.sb (ptB n)) []):ACall Tryz.prog 176 [.v (.int .i64 n)] [] K:=by
 refine ACall.bool (ofiVal1 rfl rfl ?_)
 (repeat' ((conv=>whnf);first|refine zG ?_|apply zA|(apply zI;intro h)|exact zT));(all_goals conv=>whnf)
 ·exact fin_s hK (by unfold ptB;simp_all)
 ·exact fin_f hK (by unfold ptB;rw[decide_eq_false zo];rfl)
theorem ckNoSm(x:Sm){K:KT}(hK:K (.sb (!smB x)) []):ACall Tryz.prog 178 [encSm x] [] K:=by
 refine ofiVal2 rfl rfl ?_
 (repeat' ((conv=>whnf);first|(with_reducible refine ckSm x ?_)|refine zG ?_|apply zA|(apply zI;intro h)|exact zT));(all_goals conv=>whnf)
 exact hK
theorem ckIxS(l:List Sm)(hl:l.length<1000000){K:KT}(hK:K (.v (.int .i64 (firstIx (fun x=> !smB x) l))) []):
  ACall Tryz.prog 251 [.lst (l.map encSm),.fn (.func 178) [] []] [] K:=by
 refine ofiIxS rfl rfl ?_
 (repeat' ((conv=>whnf);first|refine zG ?_|apply zA|(apply zI;intro h)|exact zT));(all_goals conv=>whnf)
 refine Lp.intro Nat (fun k=>⟨0,[],[(0,.lst (l.map encSm)),(1,.fn (.func 178) [] []),(7,.v (.int .i64 (l.map encSm).length)),(8,.v (.int .i64 k))]⟩) (fun k=>k<=l.length/\∀(i:Nat) y,i<k->l[i]? =some y->(!smB y)=false) (fun k=>l.length-k) 0 ⟨aH _,fun i y hi=>absurd hi (aZ _)⟩ ?_ ?_
 ·(exact leA)
 intro k ⟨hk,hinv⟩
 rcases aB k l.length with hkl|hkl
 ·obtain⟨r,hr⟩:=gex hkl
  (repeat' ((conv=>whnf);first|(with_reducible first|refine in_map hkl ?_|refine ix_map hr ?_|refine ckNoSm r ?_)|refine zG ?_|apply zA|(apply zI;intro h)|exact zT));(all_goals conv=>whnf)
  all_goals first
   |(rw[firstIx_at (p:=fun x=> !smB x) hr (by simp only[h];rfl) hinv]at hK
     exact hK)
   |(refine⟨k+1,⟨by omega,before_succ (p:=fun x=> !smB x) hr (by simp only[h];rfl) hinv⟩,by omega,?_⟩
     rw[aN,aL]
     (exact leA))
 ·(repeat' ((conv=>whnf);first|refine zG ?_|apply zA|(apply zI;intro h)|exact zT));(all_goals conv=>whnf)
  rw[firstIx_none (p:=fun x=> !smB x) (before_all hkl hinv)]at hK
  exact hK
theorem first_any{α:Type}(p:α->Bool)(l:List α):decide (0<=firstIx p l)=l.any p:=by
 rw[bG,aK,dM]
 unfold firstIx
 cases hf:l.findIdx? p with
 |none=>
  rw[fM]at hf
  constructor
  ·intro h;simp at h
  ·rintro⟨x,hx,hp⟩
   rw[hf x hx]at hp;cases hp
 |some n=>
  rw[dP]at hf
  obtain⟨h1,h2,_⟩:=hf
  exact⟨fun _=>⟨_,dD h1,h2⟩,fun _=>by simp only;omega⟩
theorem ckAnS(l:List Sm)(hl:l.length<1000000){K:KT}(hK:K (.sb (l.any fun x=> !smB x)) []):
  ACall Tryz.prog 177 [.lst (l.map encSm),.fn (.func 178) [] []] [] K:=by
 refine ofiAnS rfl rfl ?_
 (repeat' ((conv=>whnf);first|(with_reducible refine ckIxS l hl ?_)|refine zG ?_|apply zA|(apply zI;intro h)|exact zT));(all_goals conv=>whnf)
 rw[<-first_any]at hK
 exact hK
theorem ckNt(i:Nt)(hb:Bnd i){K:KT}(hK:K (.sb (ntB i)) []):ACall Tryz.prog 96 [encNt i] [] K:=by
 have bg:=hb.g;have bs:=hb.s;have bw:=hb.w;have bt:=hb.t;have bp:=hb.p;have bh:=hb.h
 refine ACall.bool (ofiVal rfl rfl ?_)
 have hno:(NtOk i->False)->ntB i=false:=ntB_false
 (repeat' ((conv=>whnf);first|refine zG ?_|apply zA|(apply zI;intro h)|exact zT));(all_goals conv=>whnf)
 refine Jn.intro Unit (fun _=>⟨1,[(0,boxNt i)],[(1,.op 0 0)]⟩) (fun _=>DfsOk i.grps true/\DfsOk i.svcs false/\i.wins.length<=32/\i.sts.length<=64/\i.pubs.length<=16/\i.hids.length<=8) ?_ ?_
 ·have hG:∀{K:KT},K (.sb (dfsB i.grps true)) []->ACall Tryz.prog 173 [.lst (i.grps.map encDf),.v (.bool false)] [] K:=fun h=>ckDefsV i.grps false bg hb.gi h
  have hS:∀{K:KT},K (.sb (dfsB i.svcs false)) []->ACall Tryz.prog 173 [.lst (i.svcs.map encDf),.v (.bool true)] [] K:=fun h=>ckDefsV i.svcs true bs hb.si h
  (repeat' ((conv=>whnf);first|(with_reducible first|refine hG ?_|refine hS ?_)|refine zG ?_|apply zA|(apply zI;intro h)|exact zT));(all_goals conv=>whnf)
  all_goals first
   |(refine⟨(),⟨dfsB_iff.1 zw,dfsB_iff.1 zw,by simp only[aA]at*;omega,by simp only[aA]at*;omega,by simp only[aA]at*;omega,by simp only[aA]at*;omega⟩,?_⟩
     (exact leA)
     done)
   |(refine fin_f hK (hno fun hn=>?_)
     have n1:=hn.wl;have n2:=hn.tl;have n3:=hn.pl;have n4:=hn.hl
     (try simp only[aA]at*)
     first
      |omega
      |(rw[dfsB_true hn.g]at h;cases h;done)
      |(rw[dfsB_true hn.s]at h;cases h;done))
 rintro⟨⟩ ⟨hg,hs,h1,h2,h3,h4⟩
 (repeat' ((conv=>whnf);first|refine zG ?_|apply zA|(apply zI;intro h)|exact zT));(all_goals conv=>whnf)
 refine Lp.intro Nat (fun n=>⟨1,[(0,boxNt i)],[(1,.op 0 0),(47,.lst (i.wins.map encWn)),(48,.v (.int .i64 (i.wins.map encWn).length)),(49,.v (.int .i64 n))]⟩) (fun n=>n<=i.wins.length/\∀(j:Nat) y,j<n->i.wins[j]? =some y->WnOk i.wins j y) (fun n=>i.wins.length-n) 0 ⟨aH _,fun i y hi=>absurd hi (aZ _)⟩ ?_ ?_
 ·(exact leA)
 intro n ⟨hn,hwin0⟩
 rcases aB n i.wins.length with hnl|hnl
 ·obtain⟨x,hx⟩:=gex hnl
  have hxa:=hb.wi x (aF hx)
  (repeat' ((conv=>whnf);first|(with_reducible first|refine in_map hnl ?_|refine ix_map hx ?_|refine ckWri _ hxa fun ss=>?_|refine csName _ ?_|refine ckWnd _ _ zo ?_)|refine zG ?_|apply zA|(apply zI;intro h)|exact zT));(all_goals conv=>whnf)
  all_goals first
   |(refine⟨n+1,⟨hnl,all_succ hx ⟨by with_reducible assumption,by with_reducible assumption,winB_iff.1 zw⟩ hwin0⟩,by omega,?_⟩
     rw[aN,aL]
     (exact leA)
     done)
   |(refine fin_f hK (hno fun hn=>?_)
     have n1:=hn.w n x hx
     have n2:=winB_iff.2 n1.act;have n3:=n1.name;have n4:=n1.first
     first
      |exact h n4
      |(rw[n2]at h;cases h;done)
      |(rw[n3]at h;cases h;done))
 have hwin:=before_all hnl hwin0
 (repeat' ((conv=>whnf);first|refine zG ?_|apply zA|(apply zI;intro h)|exact zT));(all_goals conv=>whnf)
 refine Lp.intro Nat (fun n=>⟨1,[(0,boxNt i)],[(1,.op 0 0),(79,.lst (i.pubs.map encPb)),(80,.v (.int .i64 (i.pubs.map encPb).length)),(81,.v (.int .i64 n))]⟩) (fun n=>n<=i.pubs.length/\∀(j:Nat) y,j<n->i.pubs[j]? =some y->pbB y=true) (fun n=>i.pubs.length-n) 0 ⟨aH _,fun i y hi=>absurd hi (aZ _)⟩ ?_ ?_
 ·(exact leA)
 intro n ⟨hn,hpub0⟩
 rcases aB n i.pubs.length with hnl|hnl
 ·obtain⟨x,hx⟩:=gex hnl
  (repeat' ((conv=>whnf);first|(with_reducible first|refine in_map hnl ?_|refine ix_map hx ?_|refine ckPort _ ?_|refine csName _ ?_)|refine zG ?_|apply zA|(apply zI;intro h)|exact zT));(all_goals conv=>whnf)
  all_goals first
   |(refine⟨n+1,⟨hnl,all_succ hx (by unfold pbB;simp_all) hpub0⟩,by omega,?_⟩
     rw[aN,aL]
     (exact leA)
     done)
   |(refine fin_f hK (hno fun hn=>?_)
     have n1:=hn.p x (aF hx)
     unfold pbB at n1
     simp_all)
 have hpub:=before_all hnl hpub0
 (repeat' ((conv=>whnf);first|refine zG ?_|apply zA|(apply zI;intro h)|exact zT));(all_goals conv=>whnf)
 refine Lp.intro Nat (fun n=>⟨1,[(0,boxNt i)],[(1,.op 0 0),(115,.lst (i.hids.map encHn)),(116,.v (.int .i64 (i.hids.map encHn).length)),(117,.v (.int .i64 n))]⟩) (fun n=>n<=i.hids.length/\∀(j:Nat) y,j<n->i.hids[j]? =some y->hnB y=true) (fun n=>i.hids.length-n) 0 ⟨aH _,fun i y hi=>absurd hi (aZ _)⟩ ?_ ?_
 ·(exact leA)
 intro n ⟨hn,hhid0⟩
 rcases aB n i.hids.length with hnl|hnl
 ·obtain⟨x,hx⟩:=gex hnl
  (repeat' ((conv=>whnf);first|(with_reducible first|refine in_map hnl ?_|refine ix_map hx ?_|refine csName _ ?_)|refine zG ?_|apply zA|(apply zI;intro h)|exact zT));(all_goals conv=>whnf)
  all_goals first
   |(refine⟨n+1,⟨hnl,all_succ hx (by unfold hnB;simp_all) hhid0⟩,by omega,?_⟩
     rw[aN,aL]
     (exact leA)
     done)
   |(refine fin_f hK (hno fun hn=>?_)
     have n1:=hn.h x (aF hx)
     unfold hnB at n1
     simp_all
     try omega)
 have hhid:=before_all hnl hhid0
 (repeat' ((conv=>whnf);first|(with_reducible refine ckAnS i.sts zo ?_)|refine zG ?_|apply zA|(apply zI;intro h)|exact zT));(all_goals conv=>whnf)
 refine fin_s hK ?_
 have mem:∀{α:Type} {l:List α} {P:α->Prop},(∀(j:Nat) y,l[j]? =some y->P y)->∀x,x∈l->P x:=fun h x hx=>by
  obtain⟨j,hj⟩:=bM.1 hx
  exact h j x hj
 rw[bG,ntB_iff,eH,eZ]
 constructor
 ·intro h x hx
  rw[h.t x hx];decide
 ·intro h
  exact⟨hg,hs,h1,h2,h3,h4,hwin,fun x hx=>by simpa using h x hx,mem hpub,mem hhid⟩
theorem fine_nil(l:List Df):Fine l [] []:=⟨List.Pairwise.nil,List.Pairwise.nil,Firsts.nil,Firsts.nil,fun n h=>(by cases h),fun n h=>(by cases h),fun n h=>(by cases h)⟩
theorem cwStart(t:Tp)(ht:t.edges.length<1000)(l:List Df)(hl:l.length<=999)(hit:∀d,d∈l->d.items.length<=999)(nm:ByteArray){K:KT}
  (hK:K (.v (.int .i64 (fol (visG t) l (l.length+1) [] nm [] []).1)) [adO 2,boxT t,outO 4 (fol (visG t) l (l.length+1) [] nm [] []).2.2.length,.box [],arrO (fol (visG t) l (l.length+1) [] nm [] []).2.2]):
  ACall Tryz.prog 263 [.lst (l.map encDf),.v (.string nm),.fn (.func 264) [] [.op 0 0,.op 1 0]] [adO 2,boxT t,outO 3 0,.arr 2 []] K:=by
 refine ofwStart rfl rfl ?_
 have hc:∀{K:KT},K (.v (.int .i64 (fol (visG t) l (l.length+1) [] nm [] []).1)) [foO l,.map (nameM l []),.map (nameM l (fol (visG t) l (l.length+1) [] nm [] []).2.1),adO 5,boxT t,outO 7 (fol (visG t) l (l.length+1) [] nm [] []).2.2.length,.box [],arrO (fol (visG t) l (l.length+1) [] nm [] []).2.2]->
   ACall Tryz.prog 318 [.op 0 0,.v (.string nm)] [foO l,.map (fun _=>none),.map (fun _=>none),adO 5,boxT t,outO 6 0,.arr 2 []] K:=fun {K} h=>by
  rw[nameM_nil l]
  exact cwFol t ht l hl hit (l.length+1) [] nm [] [] (fine_nil l) zx zx h
 (repeat' ((conv=>whnf);first|(with_reducible refine hc ?_)|refine zG ?_|apply zA|(apply zI;intro h)|exact zT));(all_goals conv=>whnf)
 exact hK
def grpE(t:Tp)(l:List Df)(nm:ByteArray):Int×List Rg:=
 if sEq nm ⟨#[]⟩=true then(0,t.edges.map fun e=>e.pf.rg)else((fol (visG t) l (l.length+1) [] nm [] []).1,(fol (visG t) l (l.length+1) [] nm [] []).2.2)
theorem cwUn0(a:List Rg)(ha:a.length<900){K:KT}(hK:∀c,Canon c->(∀v,has c v=has a v)->c.length<=a.length->K (encRs c) []):ACall Tryz.prog 186 [encRs a,.lst []] [] K:=
 c18 a [] ha zx fun c h1 h2 h3=>hK c h1 (fun v=>by rw[h2];simp[has_nil]) (by simpa using h3)
theorem cwGrp(t:Tp)(ht:t.edges.length<900)(i:Nt)(hl:i.grps.length<=999)(hit:∀d,d∈i.grps->d.items.length<=999)(nm:ByteArray)(hb:(grpE t i.grps nm).1=0->(grpE t i.grps nm).2.length<900){K:KT}
  (hK1:(grpE t i.grps nm).1≠0->K (.tup [.lst [],.v (.int .i64 (grpE t i.grps nm).1)]) [])
  (hK2:(grpE t i.grps nm).1=0->∀c,Canon c->(∀v,has c v=has (grpE t i.grps nm).2 v)->c.length<=(grpE t i.grps nm).2.length->K (.tup [encRs c,.v (.int .i64 0)]) []):
  ACall Tryz.prog 193 [encT t,encNt i,.v (.string nm)] [] K:=by
 refine ACall.weak (ofwGrp rfl rfl ?_)
 unfold grpE at hb hK1 hK2
 by_cases hnm:sEq nm ⟨#[]⟩=true
 ·simp only[aG hnm]at hb hK1 hK2
  have hnm2:(nm.toList==(⟨#[]⟩:ByteArray).toList)=true:=hnm
  (repeat' ((conv=>whnf);first|refine zG ?_|apply zA|(apply zI;intro h)|exact zT));(all_goals conv=>whnf)
  all_goals first
   |skip
  refine Lp.intro (Nat×List Rg) (fun g=>⟨5,[(4,adO 2),(3,arrO g.2),(2,outO 3 g.2.length)],[(8,.op 2 0),(9,.op 4 0),(17,.lst (t.edges.map encE)),(18,.v (.int .i64 (t.edges.map encE).length)),(19,.v (.int .i64 g.1))]⟩)
   (fun g=>g.1<=t.edges.length/\g.2=(t.edges.take g.1).map fun e=>e.pf.rg) (fun g=>t.edges.length-g.1) (0,[]) ⟨aH _,rfl⟩ ?_ ?_
  ·(exact leA)
  rintro⟨k,out⟩ ⟨hk,ho⟩
  simp only at hk ho⊢
  have hol:out.length=k:=by rw[ho,aA,bI];omega
  rcases aB k t.edges.length with hkl|hkl
  ·obtain⟨e,he⟩:=gex hkl
   (repeat' ((conv=>whnf);first|(with_reducible first|refine in_map hkl ?_|refine ix_map he ?_|refine cwAdd e.pf out zo ?_)|refine zG ?_|apply zA|(apply zI;intro h)|exact zT));(all_goals conv=>whnf)
   refine⟨(k+1,out++[e.pf.rg]),⟨hkl,?_⟩,by simp only;omega,?_⟩
   ·simp only
    rw[ho,bJ,he,aQ]
    rfl
   ·simp only[aN,aL]
    (exact leA)
  ·have hke:k=t.edges.length:=by omega
   rw[hke,cU]at ho
   rw[<-ho]at hK2
   (repeat' ((conv=>whnf);first|(with_reducible first|refine sl_full (aA ..) ?_|refine cwUn0 out zo fun c hc1 hc2 hc3=>?_)|refine zG ?_|apply zA|(apply zI;intro h)|exact zT));(all_goals conv=>whnf)
   exact⟨_,Weak.refl,hK2 trivial c hc1 hc2 hc3⟩
 ·simp only[aE hnm]at hb hK1 hK2
  have hnm2:(nm.toList==(⟨#[]⟩:ByteArray).toList)=false:=by simpa[sEq]using hnm
  have hc:=fun {K} h=>@cwStart t zo i.grps hl hit nm K h
  generalize fol (visG t) i.grps (i.grps.length+1) [] nm [] []=q at*
  obtain⟨qe,qd,qs⟩:=q
  simp only at hb hK1 hK2 hc
  (repeat' ((conv=>whnf);first|(with_reducible first|refine hc ?_|refine sl_full (aA ..) ?_|refine cwUn0 qs (hb zp) fun c hc1 hc2 hc3=>?_)|refine zG ?_|apply zA|(apply zI;intro h)|exact zT));(all_goals conv=>whnf)
  all_goals first
   |(exfalso;simp_all;done)
   |exact⟨_,Weak.refl,hK2 zp c hc1 hc2 hc3⟩
   |exact⟨_,Weak.tup2 Weak.nils Weak.refl,hK1 zp⟩
def wgtD(l:List Df)(d:List Nat):Nat:=(d.map fun n=>((l[n]?).map fun x=>x.items.length).getD 0).sum
theorem wgtD_snoc{l:List Df}{d:List Nat}{n:Nat}{x:Df}(h:l[n]? =some x):wgtD l (d++[n])=wgtD l d+x.items.length:=by
 rw[wgtD,aQ,List.sum_append,<-wgtD];simp[h]
theorem wgtD_range(l:List Df):wgtD l (List.range l.length)=itsN l:=by
 unfold wgtD itsN
 congr 1
 refine List.ext_getElem zx fun i h1 h2=>?_
 have:i<l.length:=by simpa using h2
 simp[aD this]
theorem sum_erase{l:List Nat}{f:Nat->Nat}{x:Nat}(h:x∈l):(l.map f).sum=f x+((l.erase x).map f).sum:=by
 induction l with
 |nil=>simp at h
 |cons y l ih=>
  by_cases hy:y=x
  ·subst hy;simp
  ·have hx:x∈l:=by rcases aW.1 h with h|h;exact absurd h.symm hy;exact h
   have e:(y::l).erase x=y::l.erase x:=by rw[List.erase_cons_tail (by simpa using hy)]
   rw[e,aU,dF,ih hx,aU,dF];omega
theorem sum_nodup{f:Nat->Nat}:∀{d m:List Nat},d.Nodup->(∀x,x∈d->x∈m)->(d.map f).sum<=(m.map f).sum
 |[],m,_,_=>aH _
 |x::d,m,hn,hs=>by
  obtain⟨h1,h2⟩:=List.nodup_cons.1 hn
  rw[sum_erase (hs x zx),aU,dF]
  have:=sum_nodup (f:=f) (m:=m.erase x) h2 fun y hy=>(List.mem_erase_of_ne (fun e=>h1 (by rw[<-e];exact hy))).2 (hs y (bA _ hy))
  omega
theorem wgtD_le{l:List Df}{d:List Nat}(hn:d.Nodup)(hl:∀n,n∈d->n<l.length):wgtD l d<=itsN l:=by
 rw[<-wgtD_range]
 exact sum_nodup hn fun x hx=>dJ.2 (hl x hx)
section
variable {S:Type} (v:It->S->Int×S) (sz:S->Nat) (c:Nat) (hv:∀x s,(v x s).1=0->sz (v x s).2<=sz s+c)
structure Fit (l:List Df) (p d:List Nat) (s:S) (d':List Nat) (s':S) (k:Nat):Prop where
 fine:Fine l p d'
 size:sz s'+c*wgtD l d<=sz s+c*wgtD l d'+c*k
include hv
theorem folI_fit{l:List Df}{p:List Nat}{rec:ByteArray->List Nat->S->Int×List Nat×S}(hrec:∀nm d s,Fine l p d->(rec nm d s).1=0->Fit sz c l p d s (rec nm d s).2.1 (rec nm d s).2.2 0):
  ∀(its:List It) (d:List Nat) (s:S),Fine l p d->(folI v rec its d s).1=0->Fit sz c l p d s (folI v rec its d s).2.1 (folI v rec its d s).2.2 its.length
 |[],d,s,hf,_=>⟨hf,by simp[folI]⟩
 |x::r,d,s,hf,h=>by
  rw[folI_cons]at h⊢
  have hq:(if x.kind=3 then rec x.name d s else((v x s).1,d,(v x s).2)).1=0->Fit sz c l p d s (if x.kind=3 then rec x.name d s else((v x s).1,d,(v x s).2)).2.1 (if x.kind=3 then rec x.name d s else((v x s).1,d,(v x s).2)).2.2 1:=by
   by_cases hk:x.kind=3
   ·rw[aG hk]
    intro h0
    have:=hrec x.name d s hf h0
    exact⟨this.fine,by have:=this.size;omega⟩
   ·rw[aE hk]
    intro h0
    exact⟨hf,by have:=hv x s h0;simp only;omega⟩
  generalize (if x.kind=3 then rec x.name d s else((v x s).1,d,(v x s).2))=q at*
  by_cases h0:q.1=0
  ·rw[aG h0]at h⊢
   have hq:=hq h0
   have h2:=folI_fit hrec r q.2.1 q.2.2 hq.fine h
   exact⟨h2.fine,by have:=hq.size;have:=h2.size;rw[aJ,Nat.mul_succ];omega⟩
  ·rw[aE h0]at h;exact absurd h h0
theorem fol_fit(l:List Df):∀(k:Nat) (p:List Nat) (nm:ByteArray) (d:List Nat) (s:S),Fine l p d->(fol v l k p nm d s).1=0->
  Fit sz c l p d s (fol v l k p nm d s).2.1 (fol v l k p nm d s).2.2 0
 |0,p,nm,d,s,hf,h=>by simp[fol]at h
 |k+1,p,nm,d,s,hf,h=>by
  unfold fol at h⊢
  cases hn:findD l nm with
  |none=>simp[hn]at h
  |some n=>
   simp only[hn]at h⊢
   split at h
   ·simp at h
   rename_i hp
   rw[aE hp]
   split at h
   ·rename_i hd
    rw[aG hd]
    exact⟨hf,by simp⟩
   rename_i hd
   rw[aE hd]
   obtain⟨df,hdf,_⟩:=findD_some hn
   simp only[hdf,dC,cT]at h⊢
   have hpush:=hf.push hn hp hd
   split at h
   ·rename_i h0
    rw[aG h0]
    have h1:=folI_fit v sz c hv (fun nm d s hf h=>fol_fit l k (p++[n]) nm d s hf h) df.items d s hpush h0
    refine⟨h1.fine.pop hn,?_⟩
    have:=h1.size
    simp only
    rw[wgtD_snoc hdf,fO]
    omega
   ·rename_i h0;exact absurd h h0
theorem fol_all(l:List Df)(nm:ByteArray)(s:S)(h:(fol v l (l.length+1) [] nm [] s).1=0):sz (fol v l (l.length+1) [] nm [] s).2.2<=sz s+c*itsN l:=by
 have h1:=fol_fit v sz c hv l (l.length+1) [] nm [] s (fine_nil l) h
 have h2:=wgtD_le h1.fine.dn h1.fine.dl
 have h3:=h1.size
 have h4:=eK c h2
 have h5:wgtD l []=0:=rfl
 rw[h5]at h3
 omega
end
theorem grpE_len{t:Tp}{l:List Df}{nm:ByteArray}(h12:t.edges.length<=12)(h:(grpE t l nm).1=0):(grpE t l nm).2.length<=12+12*itsN l:=by
 unfold grpE at h⊢
 split
 ·simp only[aA];omega
 ·rename_i hn
  rw[aE hn]at h
  have:=fol_all (visG t) List.length 12 (fun x s h0=>by
   unfold visG at h0⊢
   have hll:=ixs_len (fun e=>sEq e.zone x.name) t.edges t.edges.length
   split
   ·rw[aC];simp
   ·split
    ·simp
    ·rw[aC,aA];omega) l nm [] h
  simp only[aO]at this⊢
  omega
noncomputable def grpP(t:Tp)(i:Nt)(nm:ByteArray):List Rg×Int:=if(grpE t i.grps nm).1=0 then(canO (has (grpE t i.grps nm).2),0)else([],(grpE t i.grps nm).1)
def svcGo:List It->List Bx->List Bx×Int
 |[],s=>(s,0)
 |x::r,s=>if(combP anB initS [hdrX x]).2≠0 then([],(combP anB initS [hdrX x]).2)else if(combP orB s (combP anB initS [hdrX x]).1).2≠0 then([],(combP orB s (combP anB initS [hdrX x]).1).2)else svcGo r (combP orB s (combP anB initS [hdrX x]).1).1
def svcF(l:List Df)(nm:ByteArray):Int×List It:=((fol visS l (l.length+1) [] nm [] []).1,(fol visS l (l.length+1) [] nm [] []).2.2)
def svcP(i:Nt)(nm:ByteArray):List Bx×Int:=if sEq nm ⟨#[]⟩=true then(initS,0)else if(svcF i.svcs nm).1≠0 then([],(svcF i.svcs nm).1)else svcGo (svcF i.svcs nm).2 []
def bindE{α:Type}(x:α×Int)(k:α->List Bx×Int):List Bx×Int:=if x.2≠0 then([],x.2)else k x.1
theorem bindE_ok{α:Type}{x:α×Int}{k:α->List Bx×Int}(h:x.2=0):bindE x k=k x.1:=by rw[bindE,aE zo]
theorem bindE_no{α:Type}{x:α×Int}{k:α->List Bx×Int}(h:x.2≠0):bindE x k=([],x.2):=by rw[bindE,aG h]
noncomputable def stmP(t:Tp)(i:Nt)(s:Sm):List Bx×Int:=
 bindE (grpP t i s.frm) fun f=>bindE (grpP t i s.to) fun g=>bindE (svcP i s.svc) fun v=>
 bindE (if s.exc then grpP t i s.exF else([],0)) fun o=>bindE (if s.exc then grpP t i s.exT else([],0)) fun n=>
 bindE (makeP (btwB f g)) fun b=>if(combP anB b v).2≠0\/s.exc=false then combP anB b v else
 bindE (makeP (btwB o n)) fun b2=>combP woB (combP anB b v).1 b2
def namE(t:Tp)(i:Nt)(s:Sm):Int:=
 if(sEq s.cls ⟨#[]⟩||t.devs.any fun d=>sEq d.cls s.cls)&&(sEq s.dur ⟨#[]⟩||i.wins.any fun w=>sEq w.name s.dur)then 0 else 5
def fstE{α:Type}(f:α->Int):List α->Int
 |[]=>0
 |x::l=>if f x≠0 then f x else fstE f l
noncomputable def chkP(t:Tp)(i:Nt):Int:=
 let a:=fstE (fun d:Df=>(grpP t i d.name).2) i.grps
 if a≠0 then a else
 let b:=fstE (fun d:Df=>(svcP i d.name).2) i.svcs
 if b≠0 then b else
 let c:=fstE (fun s:Sm=>if(stmP t i s).2≠0 then(stmP t i s).2 else namE t i s) i.sts
 if c≠0 then c else
 let d:=fstE (fun p:Pb=>if edgeIx t.edges p.edge<0 then 5 else 0) i.pubs
 if d≠0 then d else
 fstE (fun h:Hn=>if edgeIx t.edges h.edge<0 then 5 else(grpP t i h.grp).2) i.hids
theorem setBlen{s:List Bx}(h:setB s=true):s.length<1000000000:=by have:=(setB_pset h).len;omega
theorem comp_edges{t:Tp}(hc:compB t=true):t.edges.length<=12:=(compB_iff.1 hc).1.e1
theorem crGrp(t:Tp)(hc:compB t=true)(i:Nt)(hb:Bnd i)(nm:ByteArray){K:KT}(hK:K (.tup [encRs (grpP t i nm).1,.v (.int .i64 (grpP t i nm).2)]) []):ACall Tryz.prog 193 [encT t,encNt i,.v (.string nm)] [] K:=by
 have h12:=comp_edges hc
 have hits:=hb.its
 refine cwGrp t zo i hb.g hb.gi nm (fun h=>?_) (fun h=>?_) fun h c hc hh hl=>?_
 ·have:=grpE_len (l:=i.grps) h12 h;omega
 ·rw[grpP,aE h]at hK;exact hK
 ·rw[grpP,aG h,canO_eq hc hh]at hK;exact hK
theorem grpP_len{t:Tp}(hc:compB t=true){i:Nt}(hb:Bnd i)(nm:ByteArray):(grpP t i nm).1.length<=860:=by
 have h12:=comp_edges hc
 have hits:=hb.its
 unfold grpP
 split
 ·rename_i h
  have:=grpE_len (l:=i.grps) h12 h
  have:=canO_len (grpE t i.grps nm).2
  simp only;omega
 ·exact aH _
theorem cwStS(l:List Df)(hl:l.length<=999)(hit:∀d,d∈l->d.items.length<=999)(nm:ByteArray){K:KT}
  (hK:K (.v (.int .i64 (svcF l nm).1)) [itO 2 (svcF l nm).2.length,.box [],arI (svcF l nm).2]):
  ACall Tryz.prog 263 [.lst (l.map encDf),.v (.string nm),.fn (.func 266) [] [.op 0 0]] [itO 1 0,.arr 7 []] K:=by
 refine ofwStS rfl rfl ?_
 unfold svcF at hK
 have hc:∀{K:KT},K (.v (.int .i64 (fol visS l (l.length+1) [] nm [] []).1)) [fsO l,.map (nameM l []),.map (nameM l (fol visS l (l.length+1) [] nm [] []).2.1),itO 5 (fol visS l (l.length+1) [] nm [] []).2.2.length,.box [],arI (fol visS l (l.length+1) [] nm [] []).2.2]->
   ACall Tryz.prog 318 [.op 0 0,.v (.string nm)] [fsO l,.map (fun _=>none),.map (fun _=>none),itO 4 0,.arr 7 []] K:=fun {K} h=>by
  rw[nameM_nil l]
  exact cwFos l hl hit (l.length+1) [] nm [] [] (fine_nil l) zx zx h
 (repeat' ((conv=>whnf);first|(with_reducible refine hc ?_)|refine zG ?_|apply zA|(apply zI;intro h)|exact zT));(all_goals conv=>whnf)
 exact hK
theorem svcF_len{l:List Df}{nm:ByteArray}(h:(svcF l nm).1=0):(svcF l nm).2.length<=itsN l:=by
 unfold svcF at h⊢
 have:=fol_all visS List.length 1 (fun x s _=>by simp[visS]) l nm [] h
 simp only[aO]at this
 simp only;omega
theorem svcGo_drop{x:It}{r:List It}{s:List Bx}:svcGo (x::r) s=if(combP anB initS [hdrX x]).2≠0 then([],(combP anB initS [hdrX x]).2)else if(combP orB s (combP anB initS [hdrX x]).1).2≠0 then([],(combP orB s (combP anB initS [hdrX x]).1).2)else svcGo r (combP orB s (combP anB initS [hdrX x]).1).1:=rfl
theorem crSvc(i:Nt)(hb:Bnd i)(nm:ByteArray){K:KT}(hK:K (.tup [encXs (svcP i nm).1,.v (.int .i64 (svcP i nm).2)]) []):ACall Tryz.prog 194 [encNt i,.v (.string nm)] [] K:=by
 refine ACall.weak (ofwSvc rfl rfl ?_)
 unfold svcP at hK
 by_cases hnm:sEq nm ⟨#[]⟩=true
 ·rw[aG hnm]at hK
  have hnm2:(nm.toList==(⟨#[]⟩:ByteArray).toList)=true:=hnm
  (repeat' ((conv=>whnf);first|(with_reducible refine cxInit ?_)|refine zG ?_|apply zA|(apply zI;intro h)|exact zT));(all_goals conv=>whnf)
  exact⟨_,Weak.refl,hK⟩
 ·rw[aE hnm]at hK
  have hnm2:(nm.toList==(⟨#[]⟩:ByteArray).toList)=false:=by simpa[sEq]using hnm
  have hc:=fun {K} h=>@cwStS i.svcs hb.s hb.si nm K h
  have hlen:=svcF_len (l:=i.svcs) (nm:=nm)
  have hsn:=hb.sits
  generalize svcF i.svcs nm=q at*
  obtain⟨qe,its⟩:=q
  simp only at hK hc hlen
  (repeat' ((conv=>whnf);first|(with_reducible refine hc ?_)|refine zG ?_|apply zA|(apply zI;intro h)|exact zT));(all_goals conv=>whnf)
  ·rw[aE zo]at hK
   have hlen:=hlen h
   refine Lp.intro (Nat×List Bx) (fun g=>⟨4,[],[(8,encXs g.2),(25,.lst (its.map encIt)),(26,.v (.int .i64 (its.map encIt).length)),(27,.v (.int .i64 g.1))]⟩) (fun g=>g.1<=its.length/\setB g.2=true/\svcGo its []=svcGo (its.drop g.1) g.2) (fun g=>its.length-g.1) (0,[]) ⟨aH _,setB_nil,by rw[cD]⟩ ?_ ?_
   ·(exact leA)
   rintro⟨k,s⟩ ⟨hk,hs,heq⟩
   simp only at hk hs heq⊢
   have hsl:=setBlen hs
   rcases aB k its.length with hkl|hkl
   ·obtain⟨x,hx⟩:=gex hkl
    have hd:its.drop k=x::its.drop (k+1):=by
     rw[aD hkl]at hx
     rw[<-bH hx,<-bE hkl]
    rw[hd,svcGo_drop]at heq
    have hq:∀{K:KT},K (.tup [encXs (combP anB initS [hdrX x]).1,.v (.int .i64 (combP anB initS [hdrX x]).2)]) []->ACall Tryz.prog 76 [encXs initS,.lst [.agg [.v (.int .u32 fullB.r0.lo),.v (.int .u32 fullB.r0.hi),.v (.int .u32 fullB.r1.lo),.v (.int .u32 fullB.r1.hi),.v (.int .u32 (wu x.proto)),.v (.int .u32 (wu x.proto)),.v (.int .u32 fullB.r3.lo),.v (.int .u32 fullB.r3.hi),.v (.int .u32 x.ports.lo),.v (.int .u32 x.ports.hi)]]] [] K:=fun {K} h=>@cxInt initS [hdrX x] zd zx K h
    have hsA:=setB_combP anB initS [hdrX x]
    have hsB:=setB_combP orB s (combP anB initS [hdrX x]).1
    have hu:=fun {K} h=>@cxUn s (combP anB initS [hdrX x]).1 zo (by have:=setBlen hsA;omega) K h
    generalize combP orB s (combP anB initS [hdrX x]).1=B at*
    generalize combP anB initS [hdrX x]=A at*
    obtain⟨As,Ae⟩:=A
    obtain⟨Bs,Be⟩:=B
    simp only at heq hsA hsB hu hq
    (repeat' ((conv=>whnf);first|(with_reducible first|refine in_map hkl ?_|refine ix_map hx ?_|refine cxFull ?_)|(refine in_c zd ?_)|(with_reducible first|refine wr_u32_eq ?_|refine cxInit ?_)|(refine sl_full (by rfl) ?_)|(with_reducible first|refine hq ?_|refine hu ?_)|refine zG ?_|apply zA|(apply zI;intro h)|exact zT));(all_goals conv=>whnf)
    all_goals first
     |(rw[aE (fun hn=>hn zw),aE (fun hn=>hn zw)]at heq
       refine⟨(k+1,Bs),⟨hkl,hsB,heq⟩,by simp only;omega,?_⟩
       simp only[aN,aL]
       (exact leA)
       done)
     |(rw[aG h]at heq
       rw[heq]at hK
       exact⟨_,Weak.tup2 Weak.nils Weak.refl,hK⟩)
     |(rw[aE (fun hn=>hn zw),aG h]at heq
       rw[heq]at hK
       exact⟨_,Weak.tup2 Weak.nils Weak.refl,hK⟩)
   ·rw[cH hkl]at heq
    rw[heq]at hK
    (repeat' ((conv=>whnf);first|refine zG ?_|apply zA|(apply zI;intro h)|exact zT));(all_goals conv=>whnf)
    exact⟨_,Weak.refl,hK⟩
  ·rw[aG zp]at hK
   exact⟨_,Weak.tup2 Weak.nils Weak.refl,hK⟩
theorem svcGo_set:∀(its:List It) (s:List Bx),setB s=true->setB (svcGo its s).1=true
 |[],s,h=>h
 |x::r,s,h=>by
  rw[svcGo_drop]
  split
  ·exact setB_nil
  ·split
   ·exact setB_nil
   ·exact svcGo_set r _ (setB_combP ..)
theorem svcP_set(i:Nt)(nm:ByteArray):setB (svcP i nm).1=true:=by
 unfold svcP
 split
 ·exact init_set
 ·split
  ·exact setB_nil
  ·exact svcGo_set _ _ setB_nil
theorem bwB_snoc(a:List Rg)(r:Rg)(b:List Rg):btwB (a++[r]) b=btwB a b++b.map fun s=>btwX r s:=by simp[btwB]
theorem bwB_len(b:List Rg):∀a:List Rg,(btwB a b).length=a.length*b.length
 |[]=>by simp[btwB]
 |r::a=>by
  have:=bwB_len b a
  simp only[btwB,cR,aC,aA,aJ,fI]at*
  omega
theorem crBtw(a b:List Rg)(ha:a.length<=860)(hb:b.length<=860){K:KT}(hK:K (.tup [encXs (makeP (btwB a b)).1,.v (.int .i64 (makeP (btwB a b)).2)]) []):ACall Tryz.prog 199 [encRs a,encRs b] [] K:=by
 refine ofrBtw rfl rfl ?_
 (repeat' ((conv=>whnf);first|refine zG ?_|apply zA|(apply zI;intro h)|exact zT));(all_goals conv=>whnf)
 refine Lp.intro Nat (fun i=>⟨1,[(0,.arr 10 ((btwB (a.take i) b).map encX))],[(1,encRs b),(6,.os 0 10 0 (btwB (a.take i) b).length),(12,encRs a),(13,.v (.int .i64 (a.map encR).length)),(14,.v (.int .i64 i))]⟩) (fun i=>i<=a.length) (fun i=>a.length-i) 0 (aH _) ?_ ?_
 ·rw[cW,show btwB [] b=[]from rfl]
  (exact leA)
 intro i hi
 have hl:=bwB_len b (a.take i)
 have hm:(a.take i).length*b.length<=860*860:=dQ (by rw[bI];omega) hb
 rcases aB i a.length with hil|hil
 ·obtain⟨r,hr⟩:=gex hil
  have hs:btwB (a.take (i+1)) b=btwB (a.take i) b++b.map fun s=>btwX r s:=by rw[bJ,hr];exact bwB_snoc ..
  generalize btwB (a.take i) b=A at*
  (repeat' ((conv=>whnf);first|(with_reducible first|refine in_map hil ?_|refine ix_map hr ?_)|refine zG ?_|apply zA|(apply zI;intro h)|exact zT));(all_goals conv=>whnf)
  refine Lp.intro Nat (fun k=>⟨2,[(0,.arr 10 ((A++(b.take k).map fun s=>btwX r s).map encX)),(1,.box [.v (.int .u32 r.lo),.v (.int .u32 r.hi)])],[(1,encRs b),(6,.os 0 10 0 (A++(b.take k).map fun s=>btwX r s).length),(8,.op 1 0),(12,encRs a),(13,.v (.int .i64 (a.map encR).length)),(14,.v (.int .i64 i)),(18,encRs b),(19,.v (.int .i64 (b.map encR).length)),(20,.v (.int .i64 k))]⟩) (fun k=>k<=b.length) (fun k=>b.length-k) 0 (aH _) ?_ ?_
  ·rw[cW,bF,bD]
   (exact leA)
  intro k hk
  rcases aB k b.length with hkl|hkl
  ·obtain⟨s,hs2⟩:=gex hkl
   have hap:(A++(b.take (k+1)).map fun s=>btwX r s)=(A++(b.take k).map fun s=>btwX r s)++[btwX r s]:=by rw[bJ,hs2];simp
   have hlen:(A++(b.take k).map fun s=>btwX r s).length<=1000000:=by rw[aC,aA,bI];omega
   generalize hB:(A++(b.take (k+1)).map fun s=>btwX r s)=B at*
   generalize (A++(b.take k).map fun s=>btwX r s)=C at*
   (repeat' ((conv=>whnf);first|(with_reducible first|refine cxFull ?_|refine in_map hkl ?_|refine ix_map hs2 ?_)|(refine in_c zd ?_)|(refine sl_full (by rfl) ?_)|refine zG ?_|apply zA|(apply zI;intro h)|exact zT));(all_goals conv=>whnf)
   all_goals
    refine⟨k+1,hkl,by omega,?_⟩
    rw[hB,hap,aQ,aC,aN k,aL]
    (exact leA)
  ·(repeat' ((conv=>whnf);first|refine zG ?_|apply zA|(apply zI;intro h)|exact zT));(all_goals conv=>whnf)
   have hke:k=b.length:=by omega
   rw[hke,cU,<-hs]
   refine⟨i+1,hil,by omega,?_⟩
   rw[aN i,aL]
   (exact leA)
 ·have hie:i=a.length:=by omega
  have hbl:(btwB a b).length<1000000000:=by
   have:=dQ ha hb
   rw[bwB_len];omega
  rw[hie,cU]
  have hfull:((btwB a b).map encX).length=(btwB a b).length:=aA ..
  (repeat' ((conv=>whnf);first|(with_reducible first|refine sl_full hfull ?_|refine cxMake (btwB a b) hbl ?_)|refine zG ?_|apply zA|(apply zI;intro h)|exact zT));(all_goals conv=>whnf)
  exact hK
theorem crStm(t:Tp)(hc:compB t=true)(i:Nt)(hb:Bnd i)(s:Sm){K:KT}(hK:K (.tup [encXs (stmP t i s).1,.v (.int .i64 (stmP t i s).2)]) []):ACall Tryz.prog 112 [encT t,encNt i,encSm s] [] K:=by
 refine ACall.weak (ofrStm rfl rfl ?_)
 have hl:=fun nm=>grpP_len hc hb nm
 have hg:=fun(nm:ByteArray) {K:KT} h=>@crGrp t hc i hb nm K h
 unfold stmP at hK
 have l1:=hl s.frm;have l2:=hl s.to;have l4:=hl s.exF;have l5:=hl s.exT
 have g1:=fun {K} h=>@hg s.frm K h
 have g2:=fun {K} h=>@hg s.to K h
 have g4:=fun {K} h=>@hg s.exF K h
 have g5:=fun {K} h=>@hg s.exT K h
 have g3:=fun {K} h=>@crSvc i hb s.svc K h
 have s3:=svcP_set i s.svc
 generalize grpP t i s.frm=F at*
 generalize grpP t i s.to=G at*
 generalize grpP t i s.exF=O at*
 generalize grpP t i s.exT=N at*
 generalize svcP i s.svc=V at*
 obtain⟨Fs,Fe⟩:=F
 obtain⟨Gs,Ge⟩:=G
 obtain⟨Os,Oe⟩:=O
 obtain⟨Ns,Ne⟩:=N
 obtain⟨Vs,Ve⟩:=V
 simp only at l1 l2 l4 l5 g1 g2 g3 g4 g5 s3 hK
 (repeat' ((conv=>whnf);first|(with_reducible first|refine g1 ?_|refine g2 ?_|refine g3 ?_)|refine zG ?_|apply zA|(apply zI;intro h)|exact zT));(all_goals conv=>whnf)
 rotate_left
 ·rw[bindE_ok (x:=(Fs,Fe)) zw,bindE_ok (x:=(Gs,Ge)) zw,bindE_no (x:=(Vs,Ve)) h]at hK
  exact⟨_,Weak.tup2 Weak.nils Weak.refl,hK⟩
 ·rw[bindE_ok (x:=(Fs,Fe)) zw,bindE_no (x:=(Gs,Ge)) h]at hK
  exact⟨_,Weak.tup2 Weak.nils Weak.refl,hK⟩
 ·rw[bindE_no (x:=(Fs,Fe)) h]at hK
  exact⟨_,Weak.tup2 Weak.nils Weak.refl,hK⟩
 rw[bindE_ok (x:=(Fs,Fe)) zw,bindE_ok (x:=(Gs,Ge)) zw,bindE_ok (x:=(Vs,Ve)) h]at hK
 simp only at hK
 have hvl:=setBlen s3
 have b1:=fun {K} h=>@crBtw Fs Gs l1 l2 K h
 have sB:=setB_makeP (btwB Fs Gs)
 have i1:=fun {K} h=>@cxInt (makeP (btwB Fs Gs)).1 Vs (setBlen sB) hvl K h
 have sC:=setB_combP anB (makeP (btwB Fs Gs)).1 Vs
 have b2:=fun {K} h=>@crBtw Os Ns l4 l5 K h
 have sD:=setB_makeP (btwB Os Ns)
 have i2:=fun {K} h=>@cxSub (combP anB (makeP (btwB Fs Gs)).1 Vs).1 (makeP (btwB Os Ns)).1 (setBlen sC) (setBlen sD) K h
 by_cases hex:s.exc=true
 ·simp only[hex,if_true]at hK
  refine Jn.intro Unit (fun _=>⟨3,[(2,.box [.sb s.permit,.v (.string s.frm),.v (.string s.to),.v (.string s.svc),.sb s.exc,.v (.string s.exF),.v (.string s.exT),.v (.string s.cls),.v (.string s.dur),.v (.int .i64 s.pri)])],[(5,.op 2 0),(8,encRs Fs),(10,encRs Gs),(11,encXs Vs),(12,encRs Os),(13,encRs Ns)]⟩) (fun _=>Oe=0/\Ne=0) ?_ ?_
  ·(repeat' ((conv=>whnf);first|(with_reducible first|refine g4 ?_|refine g5 ?_)|refine zG ?_|apply zA|(apply zI;intro h)|exact zT));(all_goals conv=>whnf)
   all_goals first
    |(refine⟨(),⟨by with_reducible assumption,by with_reducible assumption⟩,?_⟩
      (exact leA)
      done)
    |(rw[bindE_no (x:=(Os,Oe)) h]at hK
      exact⟨_,Weak.tup2 Weak.nils Weak.refl,hK⟩)
    |(rw[bindE_ok (x:=(Os,Oe)) zw,bindE_no (x:=(Ns,Ne)) h]at hK
      exact⟨_,Weak.tup2 Weak.nils Weak.refl,hK⟩)
  rintro⟨⟩ ⟨h1,h2⟩
  rw[bindE_ok (x:=(Os,Oe)) h1,bindE_ok (x:=(Ns,Ne)) h2]at hK
  simp only at hK
  generalize makeP (btwB Fs Gs)=B at*
  generalize makeP (btwB Os Ns)=D at*
  generalize hC:combP anB B.1 Vs=C at*
  generalize hX:combP woB C.1 D.1=X at*
  obtain⟨Bs,Be⟩:=B
  obtain⟨Cs,Ce⟩:=C
  obtain⟨Ds,De⟩:=D
  obtain⟨Xs,Xe⟩:=X
  simp only at b1 i1 b2 i2 hK hC hX
  (repeat' ((conv=>whnf);first|(with_reducible first|refine b1 ?_|refine i1 ?_|refine b2 ?_|refine i2 ?_)|refine zG ?_|apply zA|(apply zI;intro h)|exact zT));(all_goals conv=>whnf)
  ·rw[bindE_ok (x:=(Bs,Be)) zw]at hK
   simp only[hC]at hK
   rw[aE (fun hh=>hh.elim (fun hn=>hn zw) (fun hn=>by cases hn)),bindE_ok (x:=(Ds,De)) h]at hK
   simp only[hX]at hK
   exact⟨_,Weak.refl,hK⟩
  ·rw[bindE_ok (x:=(Bs,Be)) zw]at hK
   simp only[hC]at hK
   rw[aE (fun hh=>hh.elim (fun hn=>hn zw) (fun hn=>by cases hn)),bindE_no (x:=(Ds,De)) h]at hK
   exact⟨_,Weak.tup2 Weak.nils Weak.refl,hK⟩
  ·rw[bindE_ok (x:=(Bs,Be)) zw]at hK
   simp only[hC]at hK
   rw[aG (.inl h)]at hK
   exact⟨_,Weak.refl,hK⟩
  ·rw[bindE_no (x:=(Bs,Be)) h]at hK
   exact⟨_,Weak.tup2 Weak.nils Weak.refl,hK⟩
 ·have hexf:s.exc=false:=by simpa using hex
  simp only[hexf,cM,if_false]at hK
  rw[bindE_ok (x:=(([]:List Rg),(0:Int))) rfl,bindE_ok (x:=(([]:List Rg),(0:Int))) rfl]at hK
  refine Jn.at ⟨3,[(2,.box [.sb s.permit,.v (.string s.frm),.v (.string s.to),.v (.string s.svc),.sb s.exc,.v (.string s.exF),.v (.string s.exT),.v (.string s.cls),.v (.string s.dur),.v (.int .i64 s.pri)])],[(5,.op 2 0),(8,encRs Fs),(10,encRs Gs),(11,encXs Vs)]⟩ ?_ ?_
  ·(repeat' ((conv=>whnf);first|refine zG ?_|apply zA|(apply zI;intro h)|exact zT));(all_goals conv=>whnf)
   refine⟨(),trivial,?_⟩
   (exact leA)
  simp only at hK
  generalize makeP (btwB Fs Gs)=B at*
  generalize hC:combP anB B.1 Vs=C at*
  obtain⟨Bs,Be⟩:=B
  obtain⟨Cs,Ce⟩:=C
  simp only at b1 i1 hK hC
  (repeat' ((conv=>whnf);first|(with_reducible first|refine b1 ?_|refine i1 ?_)|refine zG ?_|apply zA|(apply zI;intro h)|exact zT));(all_goals conv=>whnf)
  all_goals first
   |(rw[bindE_no (x:=(Bs,Be)) h]at hK
     exact⟨_,Weak.tup2 Weak.nils Weak.refl,hK⟩)
   |(rw[bindE_ok (x:=(Bs,Be)) zw]at hK
     simp only[hC,or_true,if_true,ite_self]at hK
     exact⟨_,Weak.refl,hK⟩)
noncomputable def stmV(t:Tp)(i:Nt)(n:Int):List Bx×Int:=
 if compB t=true/\ntB i=true then(if n<0\/(i.sts.length:Int)<=n then([],2)else match i.sts[n.toNat]? with
  |some s=>stmP t i s
  |none=>([],2))else([],1)
theorem crStatement(t:Tp)(ht:t.edges.length<1000000)(i:Nt)(hb:Bnd i)(n:Int){K:KT}(hK:K (.tup [encXs (stmV t i n).1,.v (.int .i64 (stmV t i n).2)]) []):ACall Tryz.prog 48 [encT t,encNt i,.v (.int .i64 n)] [] K:=by
 refine ACall.weak (ofrStmt rfl rfl ?_)
 unfold stmV at hK
 have bt:=hb.t
 by_cases hc:compB t=true
 ·by_cases hn:n<0\/(i.sts.length:Int)<=n
  ·rw[aG hn]at hK
   (repeat' ((conv=>whnf);first|(with_reducible first|refine ctComp t ht ?_|refine ckNt i hb ?_)|refine zG ?_|apply zA|(apply zI;intro h)|exact zT));(all_goals conv=>whnf)
   all_goals first
    |(rw[aG ⟨hc,zw⟩]at hK
      exact⟨_,Weak.tup2 Weak.nils Weak.refl,hK⟩)
    |(rw[aE (fun hh=>by rw[hh.2]at h;cases h)]at hK
      exact⟨_,Weak.tup2 Weak.nils Weak.refl,hK⟩)
    |(exfalso;simp only[aA]at*;omega)
  ·rw[aE hn]at hK
   obtain⟨k,rfl⟩:=cP (show 0<=n by omega)
   have hkl:k<i.sts.length:=by omega
   obtain⟨s,hs⟩:=gex hkl
   simp only[fB,hs]at hK
   have hg:=fun {K} h=>@crStm t hc i hb s K h
   (repeat' ((conv=>whnf);first|(with_reducible first|refine ctComp t ht ?_|refine ckNt i hb ?_|refine in_map hkl ?_|refine ix_map hs ?_|refine hg ?_)|refine zG ?_|apply zA|(apply zI;intro h)|exact zT));(all_goals conv=>whnf)
   all_goals first
    |(rw[aG ⟨hc,zw⟩]at hK
      exact⟨_,Weak.refl,hK⟩)
    |(rw[aE (fun hh=>by rw[hh.2]at h;cases h)]at hK
      exact⟨_,Weak.tup2 Weak.nils Weak.refl,hK⟩)
    |(exfalso;simp only[aA]at*;omega)
 ·have hcf:compB t=false:=by simpa using hc
  rw[aE (fun hh=>hc hh.1)]at hK
  (repeat' ((conv=>whnf);first|(with_reducible refine ctComp t ht ?_)|refine zG ?_|apply zA|(apply zI;intro h)|exact zT));(all_goals conv=>whnf)
  exact⟨_,Weak.tup2 Weak.nils Weak.refl,hK⟩
noncomputable abbrev clSm(s:Sm):List AV:=[.sb s.permit,.v (.string s.frm),.v (.string s.to),.v (.string s.svc),.sb s.exc,.v (.string s.exF),.v (.string s.exT),.v (.string s.cls),.v (.string s.dur),.v (.int .i64 s.pri)]
theorem crNam1(d:Dv)(s:Sm){K:KT}(hK:K (.sb (sEq d.cls s.cls)) []):ACall Tryz.prog 268 [encD d,.fp (clSm s)] [] K:=by
 refine ofrNam1 rfl rfl ?_
 (repeat' ((conv=>whnf);first|refine zG ?_|apply zA|(apply zI;intro h)|exact zT));(all_goals conv=>whnf)
 exact hK
theorem crNam2(d:Wn)(s:Sm){K:KT}(hK:K (.sb (sEq d.name s.dur)) []):ACall Tryz.prog 270 [encWn d,.fp (clSm s)] [] K:=by
 refine ofrNam2 rfl rfl ?_
 (repeat' ((conv=>whnf);first|refine zG ?_|apply zA|(apply zI;intro h)|exact zT));(all_goals conv=>whnf)
 exact hK
theorem crAnD(l:List Dv)(s:Sm)(hl:l.length<1000000){K:KT}(hK:K (.sb (l.any fun d=>sEq d.cls s.cls)) []):
  ACall Tryz.prog 267 [.lst (l.map encD),.fn (.func 268) [] [.fp (clSm s)]] [] K:=by
 have hc:∀{K:KT},K (.v (.int .i64 (firstIx (fun d:Dv=>sEq d.cls s.cls) l))) []->ACall Tryz.prog 284 [.lst (l.map encD),.fn (.func 268) [] [.fp (clSm s)]] [] K:=fun h=>cixDev l _ _ (fun d=>sEq d.cls s.cls) (fun x K h=>crNam1 x s h) hl h
 refine ofrAnD rfl rfl ?_
 (repeat' ((conv=>whnf);first|(with_reducible refine hc ?_)|refine zG ?_|apply zA|(apply zI;intro h)|exact zT));(all_goals conv=>whnf)
 rw[<-first_any]at hK
 exact hK
theorem crAnW(l:List Wn)(s:Sm)(hl:l.length<1000000){K:KT}(hK:K (.sb (l.any fun d=>sEq d.name s.dur)) []):
  ACall Tryz.prog 269 [.lst (l.map encWn),.fn (.func 270) [] [.fp (clSm s)]] [] K:=by
 have hc:∀{K:KT},K (.v (.int .i64 (firstIx (fun d:Wn=>sEq d.name s.dur) l))) []->ACall Tryz.prog 180 [.lst (l.map encWn),.fn (.func 270) [] [.fp (clSm s)]] [] K:=fun h=>cixW l _ _ (fun d=>sEq d.name s.dur) (fun x K h=>crNam2 x s h) hl h
 refine ofrAnW rfl rfl ?_
 (repeat' ((conv=>whnf);first|(with_reducible refine hc ?_)|refine zG ?_|apply zA|(apply zI;intro h)|exact zT));(all_goals conv=>whnf)
 rw[<-first_any]at hK
 exact hK
theorem crNames(t:Tp)(ht:t.devs.length<1000000)(i:Nt)(hb:Bnd i)(s:Sm){K:KT}(hK:K (.v (.int .i64 (namE t i s))) []):ACall Tryz.prog 195 [encT t,encNt i,encSm s] [] K:=by
 have bw:=hb.w
 refine ofrNames rfl rfl ?_
 (repeat' ((conv=>whnf);first|(with_reducible first|refine crAnD t.devs s ht ?_|refine crAnW i.wins s zo ?_)|refine zG ?_|apply zA|(apply zI;intro h)|exact zT));(all_goals conv=>whnf)
 all_goals
  have e:∀b:ByteArray,sEq b ⟨#[]⟩=(b.toList==(⟨#[]⟩:ByteArray).toList):=fun _=>rfl
  unfold namE at hK
  rw[e,e]at hK
  simp_all
 all_goals first
  |exact hK
theorem fstE_cons{α:Type}(f:α->Int)(x:α)(l:List α):fstE f (x::l)=if f x≠0 then f x else fstE f l:=rfl
noncomputable def chkV(t:Tp)(i:Nt):Int:=if compB t=true/\ntB i=true then chkP t i else 1
theorem chkP_eq(t:Tp)(i:Nt):chkP t i=
  if fstE (fun d:Df=>(grpP t i d.name).2) i.grps≠0 then fstE (fun d:Df=>(grpP t i d.name).2) i.grps else
  if fstE (fun d:Df=>(svcP i d.name).2) i.svcs≠0 then fstE (fun d:Df=>(svcP i d.name).2) i.svcs else
  if fstE (fun s:Sm=>if(stmP t i s).2≠0 then(stmP t i s).2 else namE t i s) i.sts≠0 then fstE (fun s:Sm=>if(stmP t i s).2≠0 then(stmP t i s).2 else namE t i s) i.sts else
  if fstE (fun p:Pb=>if edgeIx t.edges p.edge<0 then 5 else 0) i.pubs≠0 then fstE (fun p:Pb=>if edgeIx t.edges p.edge<0 then 5 else 0) i.pubs else
  fstE (fun h:Hn=>if edgeIx t.edges h.edge<0 then 5 else(grpP t i h.grp).2) i.hids:=rfl
theorem crCheck(t:Tp)(ht:t.edges.length<1000000)(hd:t.devs.length<1000000)(i:Nt)(hb:Bnd i){K:KT}(hK:K (.v (.int .i64 (chkV t i))) []):ACall Tryz.prog 110 [encT t,encNt i] [] K:=by
 have bg:=hb.g;have bs:=hb.s;have bt:=hb.t;have bp:=hb.p;have bh:=hb.h
 refine ofrCheck rfl rfl ?_
 unfold chkV at hK
 by_cases hc:compB t=true
 rotate_left
 ·have hcf:compB t=false:=by simpa using hc
  rw[aE (fun hh=>hc hh.1)]at hK
  (repeat' ((conv=>whnf);first|(with_reducible refine ctComp t ht ?_)|refine zG ?_|apply zA|(apply zI;intro h)|exact zT));(all_goals conv=>whnf)
  exact hK
 by_cases hn:ntB i=true
 rotate_left
 ·have hnf:ntB i=false:=by simpa using hn
  rw[aE (fun hh=>hn hh.2)]at hK
  (repeat' ((conv=>whnf);first|(with_reducible first|refine ctComp t ht ?_|refine ckNt i hb ?_)|refine zG ?_|apply zA|(apply zI;intro h)|exact zT));(all_goals conv=>whnf)
  exact hK
 rw[aG ⟨hc,hn⟩,chkP_eq]at hK
 have hg:=fun(nm:ByteArray) {K:KT} h=>@crGrp t hc i hb nm K h
 have hs:=fun(nm:ByteArray) {K:KT} h=>@crSvc i hb nm K h
 have hm:=fun(s:Sm) {K:KT} h=>@crStm t hc i hb s K h
 (repeat' ((conv=>whnf);first|(with_reducible first|refine ctComp t ht ?_|refine ckNt i hb ?_)|refine zG ?_|apply zA|(apply zI;intro h)|exact zT));(all_goals conv=>whnf)
 refine Lp.intro Nat (fun n=>⟨2,[(0,boxT t),(1,boxNt i)],[(2,.op 0 0),(3,.op 1 0),(33,.lst (i.grps.map encDf)),(34,.v (.int .i64 (i.grps.map encDf).length)),(35,.v (.int .i64 n))]⟩) (fun n=>n<=i.grps.length/\fstE (fun d:Df=>(grpP t i d.name).2) i.grps=fstE (fun d:Df=>(grpP t i d.name).2) (i.grps.drop n)) (fun n=>i.grps.length-n) 0 ⟨aH _,by rw[cD]⟩ ?_ ?_
 ·(exact leA)
 intro n ⟨hn1,heq⟩
 rcases aB n i.grps.length with hnl|hnl
 ·obtain⟨x,hx⟩:=gex hnl
  have hdr:i.grps.drop n=x::i.grps.drop (n+1):=by
   rw[aD hnl]at hx
   rw[<-bH hx,<-bE hnl]
  rw[hdr,fstE_cons]at heq
  have hgx:=fun {K} h=>@hg x.name K h
  generalize grpP t i x.name=G at*
  obtain⟨Gs,Ge⟩:=G
  simp only at heq hgx
  (repeat' ((conv=>whnf);first|(with_reducible first|refine in_map hnl ?_|refine ix_map hx ?_|refine hgx ?_)|refine zG ?_|apply zA|(apply zI;intro h)|exact zT));(all_goals conv=>whnf)
  all_goals first
   |(rw[aE (fun hh=>hh h)]at heq
     refine⟨n+1,⟨hnl,heq⟩,by omega,?_⟩
     rw[aN,aL]
     (exact leA)
     done)
   |(rw[aG h]at heq
     rw[heq,aG h]at hK
     exact hK)
 rw[cH hnl]at heq
 have e0:fstE (fun d:Df=>(grpP t i d.name).2) i.grps=0:=heq
 clear heq
 (repeat' ((conv=>whnf);first|refine zG ?_|apply zA|(apply zI;intro h)|exact zT));(all_goals conv=>whnf)
 refine Lp.intro Nat (fun n=>⟨2,[(0,boxT t),(1,boxNt i)],[(2,.op 0 0),(3,.op 1 0),(52,.lst (i.svcs.map encDf)),(53,.v (.int .i64 (i.svcs.map encDf).length)),(54,.v (.int .i64 n))]⟩) (fun n=>n<=i.svcs.length/\fstE (fun d:Df=>(svcP i d.name).2) i.svcs=fstE (fun d:Df=>(svcP i d.name).2) (i.svcs.drop n)) (fun n=>i.svcs.length-n) 0 ⟨aH _,by rw[cD]⟩ ?_ ?_
 ·(exact leA)
 intro n ⟨hn1,heq⟩
 rcases aB n i.svcs.length with hnl|hnl
 ·obtain⟨x,hx⟩:=gex hnl
  have hdr:i.svcs.drop n=x::i.svcs.drop (n+1):=by
   rw[aD hnl]at hx
   rw[<-bH hx,<-bE hnl]
  rw[hdr,fstE_cons]at heq
  have hsx:=fun {K} h=>@hs x.name K h
  generalize svcP i x.name=G at*
  obtain⟨Gs,Ge⟩:=G
  simp only at heq hsx
  (repeat' ((conv=>whnf);first|(with_reducible first|refine in_map hnl ?_|refine ix_map hx ?_|refine hsx ?_)|refine zG ?_|apply zA|(apply zI;intro h)|exact zT));(all_goals conv=>whnf)
  all_goals first
   |(rw[aE (fun hh=>hh h)]at heq
     refine⟨n+1,⟨hnl,heq⟩,by omega,?_⟩
     rw[aN,aL]
     (exact leA)
     done)
   |(rw[aG h]at heq
     rw[aE (fun hh=>hh e0)]at hK
     rw[heq,aG h]at hK
     exact hK)
 rw[cH hnl]at heq
 have e1:fstE (fun d:Df=>(svcP i d.name).2) i.svcs=0:=heq
 clear heq
 (repeat' ((conv=>whnf);first|refine zG ?_|apply zA|(apply zI;intro h)|exact zT));(all_goals conv=>whnf)
 refine Lp.intro Nat (fun n=>⟨2,[(0,boxT t),(1,boxNt i)],[(2,.op 0 0),(3,.op 1 0),(70,.lst (i.sts.map encSm)),(71,.v (.int .i64 (i.sts.map encSm).length)),(72,.v (.int .i64 n))]⟩) (fun n=>n<=i.sts.length/\fstE (fun s:Sm=>if(stmP t i s).2≠0 then(stmP t i s).2 else namE t i s) i.sts=fstE (fun s:Sm=>if(stmP t i s).2≠0 then(stmP t i s).2 else namE t i s) (i.sts.drop n)) (fun n=>i.sts.length-n) 0 ⟨aH _,by rw[cD]⟩ ?_ ?_
 ·(exact leA)
 intro n ⟨hn1,heq⟩
 rcases aB n i.sts.length with hnl|hnl
 ·obtain⟨x,hx⟩:=gex hnl
  have hdr:i.sts.drop n=x::i.sts.drop (n+1):=by
   rw[aD hnl]at hx
   rw[<-bH hx,<-bE hnl]
  rw[hdr,fstE_cons]at heq
  have hmx:=fun {K} h=>@hm x K h
  generalize stmP t i x=G at*
  obtain⟨Gs,Ge⟩:=G
  simp only at heq hmx
  (repeat' ((conv=>whnf);first|(with_reducible first|refine in_map hnl ?_|refine ix_map hx ?_|refine hmx ?_|refine crNames t hd i hb x ?_)|refine zG ?_|apply zA|(apply zI;intro h)|exact zT));(all_goals conv=>whnf)
  all_goals first
   |(rename_i hz
     rw[aE (show ¬(Ge≠0)from fun hh=>hh hz),aE (fun hh=>hh h)]at heq
     refine⟨n+1,⟨hnl,heq⟩,by omega,?_⟩
     rw[aN,aL]
     (exact leA)
     done)
   |(rw[aG h,aG h]at heq
     rw[aE (fun hh=>hh e0),aE (fun hh=>hh e1)]at hK
     rw[heq,aG h]at hK
     exact hK)
   |(rename_i hz
     rw[aE (show ¬(Ge≠0)from fun hh=>hh hz),aG h]at heq
     rw[aE (fun hh=>hh e0),aE (fun hh=>hh e1)]at hK
     rw[heq,aG h]at hK
     exact hK)
 rw[cH hnl]at heq
 have e2:fstE (fun s:Sm=>if(stmP t i s).2≠0 then(stmP t i s).2 else namE t i s) i.sts=0:=heq
 clear heq
 (repeat' ((conv=>whnf);first|refine zG ?_|apply zA|(apply zI;intro h)|exact zT));(all_goals conv=>whnf)
 refine Lp.intro Nat (fun n=>⟨2,[(0,boxT t),(1,boxNt i)],[(2,.op 0 0),(3,.op 1 0),(95,.lst (i.pubs.map encPb)),(96,.v (.int .i64 (i.pubs.map encPb).length)),(97,.v (.int .i64 n))]⟩) (fun n=>n<=i.pubs.length/\fstE (fun p:Pb=>if edgeIx t.edges p.edge<0 then 5 else 0) i.pubs=fstE (fun p:Pb=>if edgeIx t.edges p.edge<0 then 5 else 0) (i.pubs.drop n)) (fun n=>i.pubs.length-n) 0 ⟨aH _,by rw[cD]⟩ ?_ ?_
 ·(exact leA)
 intro n ⟨hn1,heq⟩
 rcases aB n i.pubs.length with hnl|hnl
 ·obtain⟨x,hx⟩:=gex hnl
  have hdr:i.pubs.drop n=x::i.pubs.drop (n+1):=by
   rw[aD hnl]at hx
   rw[<-bH hx,<-bE hnl]
  rw[hdr,fstE_cons]at heq
  (repeat' ((conv=>whnf);first|(with_reducible first|refine in_map hnl ?_|refine ix_map hx ?_|refine ctEdge t _ ht ?_)|refine zG ?_|apply zA|(apply zI;intro h)|exact zT));(all_goals conv=>whnf)
  all_goals first
   |(rw[aE h,aE zd]at heq
     refine⟨n+1,⟨hnl,heq⟩,by omega,?_⟩
     rw[aN,aL]
     (exact leA)
     done)
   |(rw[aG h,aG zd]at heq
     rw[aE (fun hh=>hh e0),aE (fun hh=>hh e1),aE (fun hh=>hh e2)]at hK
     rw[heq,aG zd]at hK
     exact hK)
 rw[cH hnl]at heq
 have e3:fstE (fun p:Pb=>if edgeIx t.edges p.edge<0 then 5 else 0) i.pubs=0:=heq
 clear heq
 (repeat' ((conv=>whnf);first|refine zG ?_|apply zA|(apply zI;intro h)|exact zT));(all_goals conv=>whnf)
 refine Lp.intro Nat (fun n=>⟨2,[(0,boxT t),(1,boxNt i)],[(2,.op 0 0),(3,.op 1 0),(108,.lst (i.hids.map encHn)),(109,.v (.int .i64 (i.hids.map encHn).length)),(110,.v (.int .i64 n))]⟩) (fun n=>n<=i.hids.length/\fstE (fun h:Hn=>if edgeIx t.edges h.edge<0 then 5 else(grpP t i h.grp).2) i.hids=fstE (fun h:Hn=>if edgeIx t.edges h.edge<0 then 5 else(grpP t i h.grp).2) (i.hids.drop n)) (fun n=>i.hids.length-n) 0 ⟨aH _,by rw[cD]⟩ ?_ ?_
 ·(exact leA)
 intro n ⟨hn1,heq⟩
 rcases aB n i.hids.length with hnl|hnl
 ·obtain⟨x,hx⟩:=gex hnl
  have hdr:i.hids.drop n=x::i.hids.drop (n+1):=by
   rw[aD hnl]at hx
   rw[<-bH hx,<-bE hnl]
  rw[hdr,fstE_cons]at heq
  have hgx:=fun {K} h=>@hg x.grp K h
  generalize grpP t i x.grp=G at*
  obtain⟨Gs,Ge⟩:=G
  simp only at heq hgx
  (repeat' ((conv=>whnf);first|(with_reducible first|refine in_map hnl ?_|refine ix_map hx ?_|refine ctEdge t _ ht ?_|refine hgx ?_)|refine zG ?_|apply zA|(apply zI;intro h)|exact zT));(all_goals conv=>whnf)
  all_goals first
   |(rename_i hz
     rw[aE hz,aE (fun hh=>hh h)]at heq
     refine⟨n+1,⟨hnl,heq⟩,by omega,?_⟩
     rw[aN,aL]
     (exact leA)
     done)
   |(rw[aG h,aG zd]at heq
     rw[aE (fun hh=>hh e0),aE (fun hh=>hh e1),aE (fun hh=>hh e2),aE (fun hh=>hh e3)]at hK
     rw[heq]at hK
     exact hK)
   |(rename_i hz
     rw[aE hz,aG h]at heq
     rw[aE (fun hh=>hh e0),aE (fun hh=>hh e1),aE (fun hh=>hh e2),aE (fun hh=>hh e3)]at hK
     rw[heq]at hK
     exact hK)
 rw[cH hnl]at heq
 have e4:fstE (fun h:Hn=>if edgeIx t.edges h.edge<0 then 5 else(grpP t i h.grp).2) i.hids=0:=heq
 clear heq
 rw[aE (fun hh=>hh e0),aE (fun hh=>hh e1),aE (fun hh=>hh e2),aE (fun hh=>hh e3),e4]at hK
 (repeat' ((conv=>whnf);first|refine zG ?_|apply zA|(apply zI;intro h)|exact zT));(all_goals conv=>whnf)
 exact hK
def actW(l:List Rg)(m:Int):Bool:=decide (0<=m)&&(decide (m<=4294967295)&&has l m)
def actB(i:Nt)(x:Sm)(m:Int):Bool:=sEq x.dur ⟨#[]⟩||(decide (0<=wnIx i.wins x.dur)&&actW (((i.wins[(wnIx i.wins x.dur).toNat]?).map Wn.act).getD []) m)
def priN(i:Nt)(n:Nat):Int:=((i.sts[n]?).map Sm.pri).getD 0
def actN(i:Nt)(m:Int)(n:Nat):Bool:=((i.sts[n]?).map fun x=>actB i x m).getD false
def priAt(i:Nt)(m:Int)(p:Int)(k:Nat):List Nat:=(List.range k).filter fun n=>decide (priN i n=p)&&actN i m n
def ordF(i:Nt)(m:Int)(c:Nat):List Nat:=(List.range c).flatMap fun(c:Nat)=>priAt i m (1000-(c:Int)) i.sts.length
def ordP(i:Nt)(m:Int):List Nat:=ordF i m 1001
theorem priAt_mem{i:Nt}{m p:Int}{k n:Nat}:n∈priAt i m p k↔n<k/\priN i n=p/\actN i m n=true:=by
 rw[priAt,cE,dJ,aI,aK]
theorem ordF_lt{i:Nt}{m:Int}{c n:Nat}(h:n∈ordF i m c):n<i.sts.length:=by
 rw[ordF,dT]at h
 obtain⟨a,_,ha⟩:=h
 exact(priAt_mem.1 ha).1
/-! the stable sort by priority gives this order -/
section
variable (f:Nat->Int)
def blk(l:List Nat)(a n:Nat):List Nat:=(List.range n).flatMap fun(c:Nat)=>l.filter fun x=>decide (f x=1000-((a+c:Nat):Int))
theorem blk_add(l:List Nat)(a n k:Nat):blk f l a (n+k)=blk f l a n++blk f l (a+n) k:=by
 rw[blk,List.range_add,eJ,<-blk,List.flatMap_map]
 simp only[blk,bY]
theorem blk_snoc{l:List Nat}{x:Nat}{a n:Nat}(h:∀c,c<n->f x≠1000-((a+c:Nat):Int)):blk f (l++[x]) a n=blk f l a n:=by
 unfold blk
 rw[List.flatMap_def,List.flatMap_def]
 congr 1
 refine dY fun c hc=>?_
 rw[dB,List.filter_cons_of_neg (by simpa using h c (dJ.1 hc))]
 simp
theorem blk_mem{l:List Nat}{a n y:Nat}(h:y∈blk f l a n):1000-((a+n:Nat):Int)<f y/\f y<=1000-(a:Int):=by
 rw[blk,dT]at h
 obtain⟨c,hc,hy⟩:=h
 have h1:=dJ.1 hc
 have h2:=(cE.1 hy).2
 rw[aK]at h2
 omega
theorem ins_blk{l:List Nat}{x:Nat}(h0:0<=f x)(h1:f x<=1000):insRev (fun a b=>decide (f b<f a)) (blk f l 0 1001).reverse x=(blk f (l++[x]) 0 1001).reverse:=by
 obtain⟨c,hc⟩:∃c:Nat,f x=1000-(c:Int):=⟨(1000-f x).toNat,by omega⟩
 obtain⟨k,hk⟩:∃k:Nat,c+1+k=1001:=⟨1000-c,by omega⟩
 have e1:blk f l 0 1001=blk f l 0 (c+1)++blk f l (c+1) k:=by rw[<-hk,blk_add];simp
 have e2:blk f (l++[x]) 0 1001=blk f l 0 (c+1)++x::blk f l (c+1) k:=by
  rw[<-hk,blk_add,blk_add f (l++[x]) 0 c 1,blk_add f l 0 c 1,blk_snoc f (n:=c) (fun d hd=>by omega),blk_snoc f (n:=k) (fun d hd=>by omega)]
  have:blk f (l++[x]) (0+c) 1=blk f l (0+c) 1++[x]:=by
   unfold blk
   simp only[List.range_one,cR,List.flatMap_nil,bD,dB]
   rw[List.filter_cons_of_pos (by simp only[aK];omega)]
   simp
  rw[this]
  simp
 rw[e1,e2,List.reverse_append,List.reverse_append,List.reverse_cons,cJ,insRev_at (fun y hy=>?_) (fun y A' hA=>?_)]
 ·simp
 ·have:=(blk_mem f (List.mem_reverse.1 hy)).2
  rw[aK];omega
 ·have hy:y∈blk f l 0 (c+1):=List.mem_reverse.1 (by rw[hA];simp)
  have:=(blk_mem f hy).1
  rw[decide_eq_false_iff_not];omega
theorem isort_blk:∀(l:List Nat),(∀x,x∈l->0<=f x/\f x<=1000)->isort (fun a b=>decide (f b<f a)) l=blk f l 0 1001:=by
 intro l h
 suffices hs:∀(l acc:List Nat),(∀x,x∈l->0<=f x/\f x<=1000)->l.foldl (insRev fun a b=>decide (f b<f a)) (blk f acc 0 1001).reverse=(blk f (acc++l) 0 1001).reverse by
  have:=hs l [] h
  rw[isort,sortRev]
  have e:(blk f [] 0 1001).reverse=[]:=by unfold blk;simp
  rw[e]at this
  rw[this];simp
 intro l
 induction l with
 |nil=>intro acc _;simp
 |cons x l ih=>
  intro acc h
  rw[dW,ins_blk f (h x zx).1 (h x zx).2,ih _ fun y hy=>h y (bA _ hy)]
  simp
end
theorem ord_sort{i:Nt}{m:Int}(hp:∀x,x∈i.sts->0<=x.pri/\x.pri<=1000):isort (fun a b=>decide (priN i b<priN i a)) ((List.range i.sts.length).filter (actN i m))=ordP i m:=by
 rw[isort_blk (priN i)]
 ·unfold blk ordP ordF priAt
  congr 1
  funext c
  rw[List.filter_filter]
  simp
 ·intro n hn
  have hl:=dJ.1 (cE.1 hn).1
  rw[priN,aD hl]
  exact hp _ (dD hl)
theorem ordP_len{i:Nt}{m:Int}(hp:∀x,x∈i.sts->0<=x.pri/\x.pri<=1000):(ordP i m).length<=i.sts.length:=by
 rw[<-ord_sort hp,isort_length]
 exact bR (dL ..) zx
/-! a part is joined with the set of a class -/
def putG:List Insp->ByteArray->List Bx->List Insp×Int
 |[],c,s=>([⟨c,s⟩],0)
 |y::r,c,s=>if ltS y.cls c=true then(y::(putG r c s).1,(putG r c s).2)else
  if sEq y.cls c=true then(⟨y.cls,(combP orB y.set s).1⟩::r,(combP orB y.set s).2)else(⟨c,s⟩::y::r,0)
def putP(l:List Insp)(c:ByteArray)(s:List Bx):List Insp×Int:=if sEq c ⟨#[]⟩=true\/s=[]then(l,0)else putG l c s
theorem sEq_iff{a b:ByteArray}:sEq a b=true↔a=b:=by
 rw[sEq_data]
 constructor
 ·intro h
  obtain⟨a⟩:=a
  obtain⟨b⟩:=b
  have:a.toList=b.toList:=by simpa using h
  rw[Array.toList_inj.1 this]
 ·rintro rfl;simp
theorem ltS_irr(a:ByteArray):ltS a a=false:=by
 rw[cA]
 intro h
 have:=(bl_asymm _ _ h).1
 rw[show Op.bytesLess a.toList a.toList=ltS a a from rfl,h]at this
 cases this
/-! the policy at a minute -/
def zPol:Pol:=⟨[],[]⟩
noncomputable def atGo(t:Tp)(i:Nt):List Nat->List Bx->Pol->Pol×Int
 |[],_,p=>(p,0)
 |n::r,rest,p=>match i.sts[n]? with
  |none=>(p,0)
  |some x=>
   if(combP anB rest (stmP t i x).1).2≠0 then(zPol,(combP anB rest (stmP t i x).1).2)else
   if(combP woB rest (stmP t i x).1).2≠0 then(zPol,(combP woB rest (stmP t i x).1).2)else
   if x.permit=false then atGo t i r (combP woB rest (stmP t i x).1).1 p else
   if(combP orB p.allow (combP anB rest (stmP t i x).1).1).2≠0 then(zPol,(combP orB p.allow (combP anB rest (stmP t i x).1).1).2)else
   if(putP p.insp x.cls (combP anB rest (stmP t i x).1).1).2≠0 then(zPol,(putP p.insp x.cls (combP anB rest (stmP t i x).1).1).2)else
   atGo t i r (combP woB rest (stmP t i x).1).1 ⟨(combP orB p.allow (combP anB rest (stmP t i x).1).1).1,(putP p.insp x.cls (combP anB rest (stmP t i x).1).1).1⟩
noncomputable def atP(t:Tp)(i:Nt)(m:Int):Pol×Int:=if(realP t).2≠0 then(zPol,(realP t).2)else atGo t i (ordP i m) (realP t).1 zPol
noncomputable def preV(t:Tp)(i:Nt)(m:Int):Int:=if compB t=true/\ntB i=true then(if 0<=m/\m<10080 then chkP t i else 2)else 1
noncomputable def atV(t:Tp)(i:Nt)(m:Int):Pol×Int:=if preV t i m≠0 then(zPol,preV t i m)else atP t i m
theorem fstE_zero{α:Type}{f:α->Int}:∀{l:List α},fstE f l=0->∀x,x∈l->f x=0
 |[],_,x,hx=>by simp at hx
 |y::l,h,x,hx=>by
  unfold fstE at h
  split at h
  ·rename_i hn;exact absurd h hn
  ·rename_i hn
   rcases aW.1 hx with rfl|hx
   ·exact Decidable.byContradiction fun h=>hn h
   ·exact fstE_zero h x hx
theorem chk_stm{t:Tp}{i:Nt}(h:chkP t i=0):∀x,x∈i.sts->(stmP t i x).2=0:=by
 intro x hx
 rw[chkP]at h
 simp only at h
 split at h
 ·rename_i hn;exact absurd h hn
 split at h
 ·rename_i hn;exact absurd h hn
 split at h
 ·rename_i hn;exact absurd h hn
 rename_i hn
 have:=fstE_zero (Decidable.byContradiction fun h=>hn h) x hx
 split at this
 ·rename_i h1;exact absurd this h1
 ·rename_i h1;exact Decidable.byContradiction fun h=>h1 h
/-! the sets of the classes as a map -/
noncomputable def mapS(g:ByteArray->Option (List Bx)):Value->Option AV
 |.string c=>(g c).map encXs
 |_=>none
def updS(g:ByteArray->Option (List Bx))(c:ByteArray)(s:List Bx):ByteArray->Option (List Bx):=fun d=>if d=c then some s else g d
theorem mapS_upd(g:ByteArray->Option (List Bx))(c:ByteArray)(s:List Bx):mapS (updS g c s)=updM (mapS g) (.string c) (encXs s):=by
 funext v
 unfold updM
 cases v with
 |string d=>
  by_cases h:d=c
  ·subst h;simp[mapS,updS]
  ·simp[mapS,updS,h]
 |_=>simp[mapS]
structure MapR (g:ByteArray->Option (List Bx)) (l:List Insp):Prop where
 mem:∀x:Insp,x∈l↔g x.cls=some x.set/\x.set≠[]
 set:∀c s,g c=some s->setB s=true
 od:l.Pairwise fun x y=>ltS x.cls y.cls=true
theorem mapR_nil:MapR (fun _=>none) []:=⟨fun x=>by simp,fun c s h=>by simp at h,List.Pairwise.nil⟩
theorem comb_nilR{s:List Bx}(h:setB s=true):combP orB s []=(s,0):=by
 have hl:=(setB_pset h).len
 have hc:canB 5 s=true:=by
  unfold setB at h
  simp only[aI]at h
  exact h.2.2
 have e:cano orB 5 s []=s:=by
  have:=(canB_iff 5 s zd (fun x hx f hf _=>okL_set h x hx f hf) (fun h=>by cases h)).1 hc
  rw[this,show(zeroTo 5:Bx->Bx)=id from funext fun b=>zeroTo_five b,List.map_id]
 rw[combP_set h setB_nil,e,limP,limE,aE zo,aE zo]
theorem comb_nilL{s:List Bx}(h:setB s=true):combP orB [] s=(s,0):=by
 have e:combP orB [] s=combP orB s []:=by
  rw[combP_set h setB_nil,combP_set setB_nil h,cano_ext2 orB orB 5 [] s s [] zd fun p _=>by simp[orB,Bool.or_comm]]
 rw[e,comb_nilR h]
theorem putG_mem{c:ByteArray}{s:List Bx}:∀{l:List Insp},l.Pairwise (fun x y=>ltS x.cls y.cls=true)->((∀y,y∈l->y.cls≠c)->(putG l c s).2=0/\(∀x,x∈(putG l c s).1↔x=⟨c,s⟩\/x∈l))/\
  (∀y,y∈l->y.cls=c->(putG l c s).2=(combP orB y.set s).2/\∀x,x∈(putG l c s).1↔x=⟨c,(combP orB y.set s).1⟩\/(x∈l/\x.cls≠c))/\
  ((putG l c s).1.Pairwise fun x y=>ltS x.cls y.cls=true)/\(∀d,ltS d c=true->(∀y,y∈l->ltS d y.cls=true)->∀y,y∈(putG l c s).1->ltS d y.cls=true)
 |[],_=>⟨fun _=>⟨rfl,fun x=>by simp[putG]⟩,fun y h=>by simp at h,by simp[putG],fun d h _ y hy=>by simp[putG]at hy;rw[hy];exact h⟩
 |z::r,hs=>by
  obtain⟨s1,s2⟩:=bQ.1 hs
  obtain⟨i1,i2,i3,i4⟩:=putG_mem (c:=c) (s:=s) s2
  unfold putG
  by_cases h1:ltS z.cls c=true
  ·have hzc:z.cls≠c:=fun e=>by rw[e,ltS_irr]at h1;cases h1
   simp only[h1,if_true]
   refine⟨fun hn=>?_,fun y hy hc=>?_,bQ.2 ⟨i4 _ h1 s1,i3⟩,fun d hd hl y hy=>?_⟩
   ·obtain⟨j1,j2⟩:=i1 fun y hy=>hn y (bA _ hy)
    exact⟨j1,fun x=>by rw[aW,j2 x,aW];exact⟨fun h=>by rcases h with h|h|h<;>simp[h],fun h=>by rcases h with h|h|h<;>simp[h]⟩⟩
   ·rcases aW.1 hy with rfl|hy
    ·exact absurd hc hzc
    ·obtain⟨j1,j2⟩:=i2 y hy hc
     refine⟨j1,fun x=>?_⟩
     rw[aW,j2 x,aW]
     constructor
     ·rintro(rfl|h|⟨h,h'⟩)
      ·exact .inr ⟨.inl rfl,hzc⟩
      ·exact .inl h
      ·exact .inr ⟨.inr h,h'⟩
     ·rintro(h|⟨rfl|h,h'⟩)
      ·exact .inr (.inl h)
      ·exact .inl rfl
      ·exact .inr (.inr ⟨h,h'⟩)
   ·rcases aW.1 hy with rfl|hy
    ·exact hl _ zx
    ·exact i4 d hd (fun w hw=>hl w (bA _ hw)) y hy
  ·rw[aE h1]
   by_cases h2:sEq z.cls c=true
   ·have hzc:z.cls=c:=sEq_iff.1 h2
    have hne:∀w,w∈r->w.cls≠c:=fun w hw e=>by have:=s1 w hw;rw[hzc,e,ltS_irr]at this;cases this
    rw[aG h2]
    refine⟨fun hn=>absurd hzc (hn z zx),fun y hy hc=>?_,?_,fun d hd hl y hy=>?_⟩
    ·rcases aW.1 hy with rfl|hy
     ·refine⟨rfl,fun x=>?_⟩
      simp only[aW]
      constructor
      ·rintro(rfl|h)
       ·exact .inl (by rw[hzc])
       ·exact .inr ⟨.inr h,hne x h⟩
      ·rintro(rfl|⟨rfl|h,h'⟩)
       ·exact .inl (by rw[hzc])
       ·exact absurd hzc h'
       ·exact .inr h
     ·exact absurd hc (hne y hy)
    ·exact bQ.2 ⟨fun w hw=>s1 w hw,s2⟩
    ·simp only[aW]at hy
     rcases hy with rfl|hy
     ·exact hl z zx
     ·exact hl y (bA _ hy)
   ·have hzc:z.cls≠c:=fun e=>h2 (sEq_iff.2 e)
    have hlt:ltS c z.cls=true:=bl_total _ _ (by simpa[ltS]using h1) (by simpa[sEq]using h2)
    have htr:∀w,w∈r->ltS c w.cls=true:=fun w hw=>bl_trans _ _ _ hlt (s1 w hw)
    have hne:∀w,w∈r->w.cls≠c:=fun w hw e=>by have:=htr w hw;rw[e,ltS_irr]at this;cases this
    rw[aE h2]
    refine⟨fun hn=>⟨rfl,fun x=>by simp⟩,fun y hy hc=>?_,?_,fun d hd hl y hy=>?_⟩
    ·rcases aW.1 hy with rfl|hy
     ·exact absurd hc hzc
     ·exact absurd hc (hne y hy)
    ·refine bQ.2 ⟨fun w hw=>?_,hs⟩
     rcases aW.1 hw with rfl|hw
     ·exact hlt
     ·exact htr w hw
    ·simp only[aW]at hy
     rcases hy with rfl|rfl|hy
     ·exact hd
     ·exact hl _ zx
     ·exact hl y (bA _ hy)
theorem or_ne{a b:List Bx}(ha:setB a=true)(hb:setB b=true)(hn:b≠[])(he:(combP orB a b).2=0):(combP orB a b).1≠[]:=by
 rw[combP_set ha hb]at he⊢
 simp only[limE]at he
 split at he
 ·cases he
 rename_i hl
 simp only[limP]
 rw[aE hl]
 intro hc
 rw[cano_nil_mem]at hc
 obtain⟨x,hx⟩:=List.exists_mem_of_ne_nil b hn
 obtain⟨p,hp,hpx⟩:=box_point (okL_set hb x hx)
 have:=hc p hp
 rw[memK_iff.2 ⟨x,hx,hpx⟩]at this
 simp[orB]at this
theorem MapR.put{g:ByteArray->Option (List Bx)}{l:List Insp}(h:MapR g l){c:ByteArray}(hc:sEq c ⟨#[]⟩=false){s:List Bx}(hs:setB s=true):
  (putP l c s).2=(combP orB ((g c).getD []) s).2/\((putP l c s).2=0->MapR (updS g c (combP orB ((g c).getD []) s).1) (putP l c s).1):=by
 unfold putP
 by_cases hs0:s=[]
 ·subst hs0
  rw[aG (.inr rfl)]
  have hg:setB ((g c).getD [])=true:=by
   cases hgc:g c with
   |none=>exact setB_nil
   |some u=>exact h.set c u hgc
  rw[comb_nilR hg]
  refine⟨rfl,fun _=>⟨fun x=>?_,fun d u hu=>?_,h.od⟩⟩
  ·rw[h.mem x]
   unfold updS
   by_cases e:x.cls=c
   ·rw[aG e,e]
    cases hgc:g c with
    |none=>
     simp only[gE,bO]
     exact⟨fun h=>(by cases h.1),fun h=>absurd h.1.symm h.2⟩
    |some u=>simp
   ·rw[aE e]
  ·unfold updS at hu
   split at hu
   ·cases hu;exact hg
   ·exact h.set d u hu
 ·rw[aE (by rw[hc];rintro(h|h);cases h;exact hs0 h)]
  obtain⟨p1,p2,p3,_⟩:=putG_mem (c:=c) (s:=s) h.od
  by_cases hex:∃y,y∈l/\y.cls=c
  ·obtain⟨y,hy,hyc⟩:=hex
   obtain⟨q1,q2⟩:=p2 y hy hyc
   have hgy:=((h.mem y).1 hy).1
   rw[hyc]at hgy
   rw[hgy]
   simp only[cT]
   refine⟨q1,fun he=>⟨fun x=>?_,fun d u hu=>?_,p3⟩⟩
   ·rw[q2 x]
    unfold updS
    by_cases e:x.cls=c
    ·rw[aG e]
     have hne:=or_ne (h.set c _ hgy) hs hs0 (by rw[<-q1];exact he)
     constructor
     ·rintro(rfl|⟨_,h'⟩)
      ·exact⟨rfl,hne⟩
      ·exact absurd e h'
     ·rintro⟨h1,_⟩
      left
      cases x
      simp only at e h1
      rw[e,bH h1]
    ·rw[aE e,h.mem x]
     constructor
     ·rintro(rfl|⟨h,_⟩)
      ·exact absurd rfl e
      ·exact h
     ·exact fun h=>.inr ⟨h,e⟩
   ·unfold updS at hu
    split at hu
    ·cases hu;exact setB_combP ..
    ·exact h.set d u hu
  ·have hn:∀y,y∈l->y.cls≠c:=fun y hy e=>hex ⟨y,hy,e⟩
   obtain⟨q1,q2⟩:=p1 hn
   have hgc:(g c).getD []=[]:=by
    cases hgc:g c with
    |none=>rfl
    |some u=>
     simp only[cT]
     refine Decidable.byContradiction fun hu=>?_
     exact hn ⟨c,u⟩ ((h.mem ⟨c,u⟩).2 ⟨hgc,hu⟩) rfl
   rw[hgc,comb_nilL hs]
   refine⟨q1,fun he=>⟨fun x=>?_,fun d u hu=>?_,p3⟩⟩
   ·rw[q2 x,h.mem x]
    unfold updS
    by_cases e:x.cls=c
    ·rw[aG e]
     constructor
     ·rintro(rfl|⟨h1,h2⟩)
      ·exact⟨rfl,hs0⟩
      ·rw[e]at h1;rw[h1]at hgc;exact absurd hgc h2
     ·rintro⟨h1,_⟩
      left
      cases x
      simp only at e h1
      rw[e,bH h1]
    ·rw[aE e]
     constructor
     ·rintro(rfl|h)
      ·exact absurd rfl e
      ·exact h
     ·exact .inr
   ·unfold updS at hu
    split at hu
    ·cases hu;exact hs
    ·exact h.set d u hu
theorem coIns(G:FuncId)(C:List AV)(c:Nat->Nat->Int)(l:List Nat)(hl:l.length<=100000)
  (hc:∀x y,x∈l->y∈l->∀{K:KT},K (.v (.int .i64 (c x y))) []->ACall Tryz.prog G [vN x,vN y,.fp C] [] K){K:KT}
  (hK:K (.tup []) [.arr 1 ((isort (fun x y=>decide (c x y<0)) l).map vN)]):
  ACall Tryz.prog 254 [.os 0 1 0 l.length,.v (.int .i64 0),.v (.int .i64 l.length),.fn (.func G) [] [.fp C]] [.arr 1 (l.map vN)] K:=by
 refine ofoIns rfl rfl ?_
 (repeat' ((conv=>whnf);first|refine zG ?_|apply zA|(apply zI;intro h)|exact zT));(all_goals conv=>whnf)
 refine Lp.intro Nat (fun i=>⟨1,[(0,.arr 1 ((isort (fun x y=>decide (c x y<0)) (l.take i)++l.drop i).map vN))],[(0,.os 0 1 0 l.length),(1,.v (.int .i64 0)),(2,.v (.int .i64 l.length)),(3,.fn (.func G) [] [.fp C]),(8,.v (.int .i64 i))]⟩)
  (fun i=>1<=i/\(i<=l.length\/l.length=0)) (fun i=>l.length-i) 1 ?_ ?_ ?_
 ·omega
 ·have e:isort (fun x y=>decide (c x y<0)) (l.take 1)++l.drop 1=l:=by cases l<;>simp[isort,sortRev,insRev]
  rw[e]
  (exact leA)
 intro i ⟨hi1,hi2⟩
 rcases aB i l.length with hil|hil
 ·obtain⟨x,hx⟩:=gex hil
  have hxm:=aF hx
  have hd:l.drop i=x::l.drop (i+1):=by
   rw[aD hil]at hx
   rw[<-bH hx,<-bE hil]
  generalize hlt:(fun x y=>decide (c x y<0))=lt at*
  have hsl:(sortRev lt (l.take i)).length=i:=by rw[sortRev_length];simp;omega
  (repeat' ((conv=>whnf);first|refine zG ?_|apply zA|(apply zI;intro h)|exact zT));(all_goals conv=>whnf)
  refine Lp.intro (List Nat×List Nat) (fun g=>⟨1,[(0,.arr 1 ((g.1++x::(g.2++l.drop (i+1))).map vN))],[(0,.os 0 1 0 l.length),(1,.v (.int .i64 0)),(2,.v (.int .i64 l.length)),(3,.fn (.func G) [] [.fp C]),(8,.v (.int .i64 i)),(9,.v (.int .i64 g.1.length))]⟩)
   (fun g=>sortRev lt (l.take i)=g.2.reverse++g.1.reverse/\∀y,y∈g.2->lt x y=true) (fun g=>g.1.length) ((sortRev lt (l.take i)).reverse,[]) ?_ ?_ ?_
  ·exact⟨by simp,fun y hy=>by simp at hy⟩
  ·rw[hd,isort]
   have e9:((i:Nat):Int)=((sortRev lt (l.take i)).reverse.length:Nat):=by rw[List.length_reverse,hsl]
   simp only[cZ]
   rw[<-e9]
   (exact leA)
  rintro⟨A,B⟩ ⟨hAB,hB⟩
  simp only at hAB hB⊢
  have hlen:A.length+B.length=i:=by rw[hAB]at hsl;simp at hsl;omega
  have fin:(∀a A',A.reverse=a::A'->lt x a=false)->isort lt (l.take (i+1))++l.drop (i+1)=A++x::(B++l.drop (i+1)):=by
   intro h
   rw[isort,sortRev_succ hx,hAB,insRev_at (fun y hy=>hB y (by simpa using hy)) h]
   simp
  rcases cK A with hA|⟨A',a,hA⟩
  ·subst hA
   (repeat' ((conv=>whnf);first|refine zG ?_|apply zA|(apply zI;intro h)|exact zT));(all_goals conv=>whnf)
   refine⟨i+1,⟨by omega,by omega⟩,by omega,?_⟩
   rw[fin (fun a A' h=>by simp at h)]
   (exact leA)
  ·rw[cL]at hA
   subst hA
   have hma:a∈l:=by
    have:a∈sortRev lt (l.take i):=by rw[hAB];simp
    rw[sortRev,foldl_ins_mem]at this
    exact cG (this.resolve_right zx)
   have hcx:lt x a=decide (c x a<0):=by rw[<-hlt]
   have hj:(((A'++[a]).length:Nat):Int)-1=(A'.length:Nat):=by simp
   have g1:(A'++[a]++x::(B++l.drop (i+1)))[0+(A'++[a]).length]? =some x:=by simp
   have g2:(A'++[a]++x::(B++l.drop (i+1)))[0+A'.length]? =some a:=by simp
   have n1:(A'++[a]).length<l.length:=by omega
   have n2:A'.length<l.length:=by simp at n1;omega
   have n3:0<(A'++[a]).length:=by simp
   have g3:((List.map vN (A'++[a]++x::(B++l.drop (i+1)))).set (0+(A'++[a]).length) (vN a))[0+A'.length]? =some (vN a):=by
    rw[gD zx,bP,g2];rfl
   have hset:((List.map vN (A'++[a]++x::(B++l.drop (i+1)))).set (0+(A'++[a]).length) (vN a)).set (0+A'.length) (vN x)=List.map vN (A'++x::((a::B)++l.drop (i+1))):=by
    rw[<-eQ,<-eQ]
    congr 1
    simp
   (repeat' ((conv=>whnf);first|(with_reducible first|refine in_nat n1 ?_|refine In.intro A'.length hj n2 ?_|refine ix_map g1 ?_|refine ix_map g2 ?_|refine Ix.intro g3 ?_|refine hc x a hxm hma ?_)|refine zG ?_|apply zA|(apply zI;intro h)|exact zT));(all_goals conv=>whnf)
   all_goals first
    |(refine⟨i+1,⟨by omega,by omega⟩,by omega,?_⟩
      rw[fin (fun a0 A0 h0=>by simp at h0;obtain⟨rfl,_⟩:=h0;rw[hcx];exact decide_eq_false zw)]
      (exact leA)
      done)
    |(refine⟨(A',a::B),⟨by rw[hAB];simp,fun y hy=>?_⟩,by simp,?_⟩
      ·rcases aW.1 hy with rfl|hy
       ·rw[hcx];exact decide_eq_true zw
       ·exact hB y hy
      ·simp only
       rw[hj,<-hset]
       (exact leA))
 ·have hll:l.length<=i:=hil
  (repeat' ((conv=>whnf);first|refine zG ?_|apply zA|(apply zI;intro h)|exact zT));(all_goals conv=>whnf)
  rw[aX hll,List.drop_eq_nil_of_le hll,bD]
  exact hK
theorem coInsI(G:FuncId)(c:Insp->Insp->Int)(l:List Insp)(hl:l.length<=100000)
  (hc:∀x y,x∈l->y∈l->∀{K:KT},K (.v (.int .i64 (c x y))) []->ACall Tryz.prog G [encIn x,encIn y] [] K){K:KT}
  (hK:K (.tup []) [.arr 2 ((isort (fun x y=>decide (c x y<0)) l).map encIn)]):
  ACall Tryz.prog 200 [.os 0 2 0 l.length,.v (.int .i64 0),.v (.int .i64 l.length),.fn (.func G) [] []] [.arr 2 (l.map encIn)] K:=by
 refine ofoInsI rfl rfl ?_
 (repeat' ((conv=>whnf);first|refine zG ?_|apply zA|(apply zI;intro h)|exact zT));(all_goals conv=>whnf)
 refine Lp.intro Nat (fun i=>⟨1,[(0,.arr 2 ((isort (fun x y=>decide (c x y<0)) (l.take i)++l.drop i).map encIn))],[(0,.os 0 2 0 l.length),(1,.v (.int .i64 0)),(2,.v (.int .i64 l.length)),(3,.fn (.func G) [] []),(8,.v (.int .i64 i))]⟩)
  (fun i=>1<=i/\(i<=l.length\/l.length=0)) (fun i=>l.length-i) 1 ?_ ?_ ?_
 ·omega
 ·have e:isort (fun x y=>decide (c x y<0)) (l.take 1)++l.drop 1=l:=by cases l<;>simp[isort,sortRev,insRev]
  rw[e]
  (exact leA)
 intro i ⟨hi1,hi2⟩
 rcases aB i l.length with hil|hil
 ·obtain⟨x,hx⟩:=gex hil
  have hxm:=aF hx
  have hd:l.drop i=x::l.drop (i+1):=by
   rw[aD hil]at hx
   rw[<-bH hx,<-bE hil]
  generalize hlt:(fun x y=>decide (c x y<0))=lt at*
  have hsl:(sortRev lt (l.take i)).length=i:=by rw[sortRev_length];simp;omega
  (repeat' ((conv=>whnf);first|refine zG ?_|apply zA|(apply zI;intro h)|exact zT));(all_goals conv=>whnf)
  refine Lp.intro (List Insp×List Insp) (fun g=>⟨1,[(0,.arr 2 ((g.1++x::(g.2++l.drop (i+1))).map encIn))],[(0,.os 0 2 0 l.length),(1,.v (.int .i64 0)),(2,.v (.int .i64 l.length)),(3,.fn (.func G) [] []),(8,.v (.int .i64 i)),(9,.v (.int .i64 g.1.length))]⟩)
   (fun g=>sortRev lt (l.take i)=g.2.reverse++g.1.reverse/\∀y,y∈g.2->lt x y=true) (fun g=>g.1.length) ((sortRev lt (l.take i)).reverse,[]) ?_ ?_ ?_
  ·exact⟨by simp,fun y hy=>by simp at hy⟩
  ·rw[hd,isort]
   have e9:((i:Nat):Int)=((sortRev lt (l.take i)).reverse.length:Nat):=by rw[List.length_reverse,hsl]
   simp only[cZ]
   rw[<-e9]
   (exact leA)
  rintro⟨A,B⟩ ⟨hAB,hB⟩
  simp only at hAB hB⊢
  have hlen:A.length+B.length=i:=by rw[hAB]at hsl;simp at hsl;omega
  have fin:(∀a A',A.reverse=a::A'->lt x a=false)->isort lt (l.take (i+1))++l.drop (i+1)=A++x::(B++l.drop (i+1)):=by
   intro h
   rw[isort,sortRev_succ hx,hAB,insRev_at (fun y hy=>hB y (by simpa using hy)) h]
   simp
  rcases cK A with hA|⟨A',a,hA⟩
  ·subst hA
   (repeat' ((conv=>whnf);first|refine zG ?_|apply zA|(apply zI;intro h)|exact zT));(all_goals conv=>whnf)
   refine⟨i+1,⟨by omega,by omega⟩,by omega,?_⟩
   rw[fin (fun a A' h=>by simp at h)]
   (exact leA)
  ·rw[cL]at hA
   subst hA
   have hma:a∈l:=by
    have:a∈sortRev lt (l.take i):=by rw[hAB];simp
    rw[sortRev,foldl_ins_mem]at this
    exact cG (this.resolve_right zx)
   have hcx:lt x a=decide (c x a<0):=by rw[<-hlt]
   have hj:(((A'++[a]).length:Nat):Int)-1=(A'.length:Nat):=by simp
   have g1:(A'++[a]++x::(B++l.drop (i+1)))[0+(A'++[a]).length]? =some x:=by simp
   have g2:(A'++[a]++x::(B++l.drop (i+1)))[0+A'.length]? =some a:=by simp
   have n1:(A'++[a]).length<l.length:=by omega
   have n2:A'.length<l.length:=by simp at n1;omega
   have n3:0<(A'++[a]).length:=by simp
   have g3:((List.map encIn (A'++[a]++x::(B++l.drop (i+1)))).set (0+(A'++[a]).length) (encIn a))[0+A'.length]? =some (encIn a):=by
    rw[gD zx,bP,g2];rfl
   have hset:((List.map encIn (A'++[a]++x::(B++l.drop (i+1)))).set (0+(A'++[a]).length) (encIn a)).set (0+A'.length) (encIn x)=List.map encIn (A'++x::((a::B)++l.drop (i+1))):=by
    rw[<-eQ,<-eQ]
    congr 1
    simp
   (repeat' ((conv=>whnf);first|(with_reducible first|refine in_nat n1 ?_|refine In.intro A'.length hj n2 ?_|refine ix_map g1 ?_|refine ix_map g2 ?_|refine Ix.intro g3 ?_|refine hc x a hxm hma ?_)|refine zG ?_|apply zA|(apply zI;intro h)|exact zT));(all_goals conv=>whnf)
   all_goals first
    |(refine⟨i+1,⟨by omega,by omega⟩,by omega,?_⟩
      rw[fin (fun a0 A0 h0=>by simp at h0;obtain⟨rfl,_⟩:=h0;rw[hcx];exact decide_eq_false zw)]
      (exact leA)
      done)
    |(refine⟨(A',a::B),⟨by rw[hAB];simp,fun y hy=>?_⟩,by simp,?_⟩
      ·rcases aW.1 hy with rfl|hy
       ·rw[hcx];exact decide_eq_true zw
       ·exact hB y hy
      ·simp only
       rw[hj,<-hset]
       (exact leA))
 ·have hll:l.length<=i:=hil
  (repeat' ((conv=>whnf);first|refine zG ?_|apply zA|(apply zI;intro h)|exact zT));(all_goals conv=>whnf)
  rw[aX hll,List.drop_eq_nil_of_le hll,bD]
  exact hK
theorem coSort(G:FuncId)(C:List AV)(c:Nat->Nat->Int)(l:List Nat)(hl:l.length<20)
  (hc:∀x y,x∈l->y∈l->∀{K:KT},K (.v (.int .i64 (c x y))) []->ACall Tryz.prog G [vN x,vN y,.fp C] [] K){K:KT}
  (hK:K (.tup []) [.arr 1 ((isort (fun x y=>decide (c x y<0)) l).map vN)]):
  ACall Tryz.prog 99 [.os 0 1 0 l.length,.fn (.func G) [] [.fp C]] [.arr 1 (l.map vN)] K:=by
 have hs:∀{K:KT},K (.tup []) [.arr 1 ((isort (fun x y=>decide (c x y<0)) l).map vN)]->ACall Tryz.prog 183 [.os 0 1 0 l.length,.v (.int .i64 l.length),.fn (.func G) [] [.fp C]] [.arr 1 (l.map vN)] K:=by
  intro K hK
  refine ofoStab rfl rfl ?_
  (repeat' ((conv=>whnf);first|(with_reducible first|refine Lp.times 2 ?_|refine coIns G C c l zo hc ?_)|refine zG ?_|apply zA|(apply zI;intro h)|exact zT));(all_goals conv=>whnf)
  exact hK
 refine ofoSort rfl rfl ?_
 (repeat' ((conv=>whnf);first|(with_reducible refine hs ?_)|refine zG ?_|apply zA|(apply zI;intro h)|exact zT));(all_goals conv=>whnf)
 exact hK
theorem coSortI(G:FuncId)(c:Insp->Insp->Int)(l:List Insp)(hl:l.length<=12)
  (hc:∀x y,x∈l->y∈l->∀{K:KT},K (.v (.int .i64 (c x y))) []->ACall Tryz.prog G [encIn x,encIn y] [] K){K:KT}
  (hK:K (.tup []) [.arr 2 ((isort (fun x y=>decide (c x y<0)) l).map encIn)]):
  ACall Tryz.prog 50 [.os 0 2 0 l.length,.fn (.func G) [] []] [.arr 2 (l.map encIn)] K:=by
 have hs:∀(n:Int) {K:KT},K (.tup []) [.arr 2 ((isort (fun x y=>decide (c x y<0)) l).map encIn)]->ACall Tryz.prog 115 [.os 0 2 0 l.length,.v (.int .i64 0),.v (.int .i64 l.length),.v (.int .i64 n),.fn (.func G) [] []] [.arr 2 (l.map encIn)] K:=by
  intro n K hK
  refine ofoPdq rfl rfl ?_
  (repeat' ((conv=>whnf);first|(with_reducible first|refine Lp.times 1 ?_|refine coInsI G c l zo hc ?_)|refine zG ?_|apply zA|(apply zI;intro h)|exact zT));(all_goals conv=>whnf)
  all_goals exact hK
 refine ofoSortI rfl rfl ?_
 (repeat' ((conv=>whnf);first|(with_reducible first|refine csLen l.length zo fun n _=>?_|refine hs _ ?_)|refine zG ?_|apply zA|(apply zI;intro h)|exact zT));(all_goals conv=>whnf)
 exact hK
end Go.Proofs.YtbdikofefjljoaaGreatDoor
