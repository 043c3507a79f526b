/- interval: Union, Complement, Intersect, Subtract, Subset. -/
import Derived.Test.YtahhamfngafmcaaGreatDoorM27
set_option linter.unusedVariables false
set_option linter.unusedSimpArgs false
set_option maxRecDepth 100000
set_option maxHeartbeats 4000000
namespace Go.Proofs.YtahhamfngafmcaaGreatDoor
open Go Go.Vm
theorem k39(l:List Rg)(hl:l.length<100000){K:KT}(hK:∀c,Canon c->(∀v,has c v=has l v)->c.length<=l.length->K (encRs c) []):ACall Tryz.prog 142 [encRs l] [] K:=c39 sorts l hl hK
theorem c18(a b:List Rg)(ha:a.length<900)(hb:b.length<900){K:KT}(hK:∀c,Canon c->(∀v,has c v=(has a v||has b v))->c.length<=a.length+b.length->K (encRs c) []):ACall Tryz.prog 85 [encRs a,encRs b] [] K:=by
 refine of18 rfl rfl ?_
 iterate 4 (all_goals((conv=>whnf);first|refine zG ?_|apply zA|(apply zI;intro h)|exact zT|skip))
 refine c40 [a,b] zx (fun l hl=>by
  simp only[List.mem_cons,List.not_mem_nil,or_false]at hl
  rcases hl with rfl|rfl<;>omega) ?_
 (conv=>whnf)
 refine k39 [a,b].flatten (by simp;omega) fun c h1 h2 h3=>?_
 (conv=>whnf)
 refine hK c h1 (fun v=>?_) (by simpa using h3)
 rw[h2]
 simp[has]
structure IInv (A B:List Rg) (i j:Nat) (out:List Rg):Prop where
 canon:Canon out
 sep:∀s,s∈out->∀v,has (A.drop i) v=true->has (B.drop j) v=true->s.hi+1<v
 mem:∀v,(has A v&&has B v)=(has out v||(has (A.drop i) v&&has (B.drop j) v))
 len:out.length<=i+j
theorem has_cons(r:Rg)(l:List Rg)(v:Int):has (r::l) v=((decide (r.lo<=v)&&decide (v<=r.hi))||has l v):=by simp[has]
theorem drop_of{l:List Rg}{i:Nat}{r:Rg}(h:l[i]? =some r):l.drop i=r::l.drop (i+1):=by
 obtain⟨h1,h2⟩:=List.getElem?_eq_some_iff.1 h
 rw[List.drop_eq_getElem_cons h1,h2]
theorem canon_rest{l:List Rg}(h:Canon l){i:Nat}{r:Rg}(hr:l[i]? =some r){v:Int}(hv:has (l.drop (i+1)) v=true):r.hi+1<v:=by
 obtain⟨s,hs,h1,h2⟩:=has_iff.1 hv
 obtain⟨j,hj⟩:=List.getElem?_of_mem hs
 rw[List.getElem?_drop]at hj
 have:=List.pairwise_iff_getElem.1 h.2 i (i+1+j) (List.getElem?_eq_some_iff.1 hr).1 (List.getElem?_eq_some_iff.1 hj).1 zo
 rw[(List.getElem?_eq_some_iff.1 hr).2,(List.getElem?_eq_some_iff.1 hj).2]at this
 omega
theorem canon_rest_f{l:List Rg}(h:Canon l){i:Nat}{r:Rg}(hr:l[i]? =some r){v:Int}(hv:v<=r.hi+1):has (l.drop (i+1)) v=false:=by
 cases hb:has (l.drop (i+1)) v with
 |false=>rfl
 |true=>have:=canon_rest h hr hb;omega
def cross(out:List Rg)(r s:Rg):List Rg:=if max r.lo s.lo<=min r.hi s.hi then out++[mkR (max r.lo s.lo) (min r.hi s.hi)]else out
theorem cross_has(out:List Rg)(r s:Rg)(v:Int):has (cross out r s) v=(has out v||((decide (r.lo<=v)&&decide (v<=r.hi))&&(decide (s.lo<=v)&&decide (v<=s.hi)))):=by
 have b1:=r.l0;have b2:=r.l1;have b3:=r.h0;have b4:=r.h1
 have d1:=s.l0;have d2:=s.l1;have d3:=s.h0;have d4:=s.h1
 unfold cross
 split
 ·rw[has_append,has_one,mkR_lo zo zo zo zo,mkR_hi zo zo zo zo]
  congr 1
  rw[Bool.eq_iff_iff]
  simp only[Bool.and_eq_true,decide_eq_true_eq]
  omega
 ·rename_i h
  have:((decide (r.lo<=v)&&decide (v<=r.hi))&&(decide (s.lo<=v)&&decide (v<=s.hi)))=false:=by
   cases hb:((decide (r.lo<=v)&&decide (v<=r.hi))&&(decide (s.lo<=v)&&decide (v<=s.hi)))with
   |false=>rfl
   |true=>simp only[Bool.and_eq_true,decide_eq_true_eq]at hb;omega
  rw[this,Bool.or_false]
theorem cross_canon{A B:List Rg}{i j:Nat}{out:List Rg}{r s:Rg}(h:IInv A B i j out)(hr:A[i]? =some r)(hs:B[j]? =some s):Canon (cross out r s)/\(cross out r s).length<=i+j+1:=by
 have b1:=r.l0;have b2:=r.l1;have b3:=r.h0;have b4:=r.h1
 have d1:=s.l0;have d2:=s.l1;have d3:=s.h0;have d4:=s.h1
 have hl:=h.len
 unfold cross
 split
 ·rename_i hle
  have e1:=mkR_lo (show 0<=max r.lo s.lo by omega) zo (show 0<=min r.hi s.hi by omega) zo
  have e2:=mkR_hi (show 0<=max r.lo s.lo by omega) zo (show 0<=min r.hi s.hi by omega) zo
  refine⟨canon_append_one h.canon (by rw[e1,e2];exact hle) (fun t ht=>?_),by simp;omega⟩
  rw[e1]
  refine h.sep t ht _ ?_ ?_
  ·rw[drop_of hr,has_cons,Bool.or_eq_true,Bool.and_eq_true,decide_eq_true_eq,decide_eq_true_eq];left;omega
  ·rw[drop_of hs,has_cons,Bool.or_eq_true,Bool.and_eq_true,decide_eq_true_eq,decide_eq_true_eq];left;omega
 ·exact⟨h.canon,by omega⟩
theorem cross_ends{out:List Rg}{r s t:Rg}(ht:t∈cross out r s):t∈out\/(t.hi<=r.hi/\t.hi<=s.hi):=by
 have b1:=r.l0;have b2:=r.l1;have b3:=r.h0;have b4:=r.h1
 have d1:=s.l0;have d2:=s.l1;have d3:=s.h0;have d4:=s.h1
 unfold cross at ht
 split at ht
 ·rcases List.mem_append.1 ht with ht|ht
  ·exact .inl ht
  ·simp at ht;subst ht
   right
   rw[mkR_hi zo zo zo zo]
   omega
 ·exact .inl ht
theorem iinv_left{A B:List Rg}{i j:Nat}{out:List Rg}{r s:Rg}(hA:Canon A)(hB:Canon B)(h:IInv A B i j out)(hr:A[i]? =some r)(hs:B[j]? =some s)(hlt:r.hi<s.hi):IInv A B (i+1) j (cross out r s):=by
 obtain⟨c1,c2⟩:=cross_canon h hr hs
 refine⟨c1,fun t ht v h1 h2=>?_,fun v=>?_,by omega⟩
 ·rcases cross_ends ht with ht|ht
  ·exact h.sep t ht v (by rw[drop_of hr,has_cons,h1,Bool.or_true]) h2
  ·have:=canon_rest hA hr h1;omega
 ·rw[h.mem,cross_has,drop_of hr,has_cons,drop_of hs,has_cons]
  rcases Int.lt_or_le (r.hi) v with h1|h1
  ·rw[show decide (v<=r.hi)=false from decide_eq_false zo];simp
  ·rw[canon_rest_f hA hr zo,canon_rest_f hB hs zo]
   cases has out v<;>cases (decide (r.lo<=v)&&decide (v<=r.hi))<;>cases (decide (s.lo<=v)&&decide (v<=s.hi))<;>rfl
theorem iinv_right{A B:List Rg}{i j:Nat}{out:List Rg}{r s:Rg}(hA:Canon A)(hB:Canon B)(h:IInv A B i j out)(hr:A[i]? =some r)(hs:B[j]? =some s)(hge:s.hi<=r.hi):IInv A B i (j+1) (cross out r s):=by
 obtain⟨c1,c2⟩:=cross_canon h hr hs
 refine⟨c1,fun t ht v h1 h2=>?_,fun v=>?_,by omega⟩
 ·rcases cross_ends ht with ht|ht
  ·exact h.sep t ht v h1 (by rw[drop_of hs,has_cons,h2,Bool.or_true])
  ·have:=canon_rest hB hs h2;omega
 ·rw[h.mem,cross_has,drop_of hr,has_cons,drop_of hs,has_cons]
  rcases Int.lt_or_le (s.hi) v with h1|h1
  ·rw[show decide (v<=s.hi)=false from decide_eq_false zo];simp
  ·rw[canon_rest_f hA hr zo,canon_rest_f hB hs zo]
   cases has out v<;>cases (decide (r.lo<=v)&&decide (v<=r.hi))<;>cases (decide (s.lo<=v)&&decide (v<=s.hi))<;>rfl
theorem c19(a b:List Rg)(ha:a.length<10000)(hb:b.length<10000){K:KT}
  (hK:∀out,Canon out->(∀v,has out v=(has a v&&has b v))->out.length<=a.length+b.length->K (encRs out) []):ACall Tryz.prog 183 [encRs a,encRs b] [] K:=by
 refine of19 rfl rfl ?_
 (conv=>whnf)
 refine k39 a zo fun A g1 g2 g3=>?_
 (conv=>whnf)
 refine k39 b zo fun B f1 f2 f3=>?_
 (conv=>whnf)
 refine Lp.intro (Nat×Nat×List Rg) (fun g=>⟨1,[(0,.arr 2 (g.2.2.map encR))],[(0,encRs A),(1,encRs B),(5,.os 0 2 0 g.2.2.length),(6,.v (.int .i64 g.1)),(7,.v (.int .i64 g.2.1))]⟩)
  (fun g=>g.1<=A.length/\g.2.1<=B.length/\IInv A B g.1 g.2.1 g.2.2) (fun g=>(A.length-g.1)+(B.length-g.2.1)) (0,0,[]) ?_ ?_ ?_
 ·exact⟨Nat.zero_le _,Nat.zero_le _,canon_nil,fun s hs=>by simp at hs,fun v=>by simp[has_nil],Nat.le_refl _⟩
 ·exact⟨[(0,0)],rfl,⟨rfl,rfl,rfl,rfl,rfl,trivial⟩,⟨rfl,trivial⟩⟩
 ·rintro⟨i,j,out⟩ ⟨hi,hj,hinv⟩
  simp only at hi hj hinv⊢
  have hlen:=hinv.len
  have fin:(∀v,(has (A.drop i) v&&has (B.drop j) v)=false)->K (encRs out) []:=fun he=>
   hK out hinv.canon (fun v=>by rw[<-g2,<-f2,hinv.mem,he,Bool.or_false]) zo
  rcases Nat.lt_or_ge i A.length with hil|hil
  ·rcases Nat.lt_or_ge j B.length with hjl|hjl
   ·obtain⟨r,hr⟩:=gex hil
    obtain⟨s,hs⟩:=gex hjl
    have b1:=r.l0;have b2:=r.l1;have b3:=r.h0;have b4:=r.h1
    have d1:=s.l0;have d2:=s.l1;have d3:=s.h0;have d4:=s.h1
    have e0:max r.lo s.lo<=min r.hi s.hi->cross out r s=out++[mkR (max r.lo s.lo) (min r.hi s.hi)]:=fun h=>by unfold cross;rw[if_pos h]
    have e1:¬max r.lo s.lo<=min r.hi s.hi->cross out r s=out:=fun h=>by unfold cross;rw[if_neg h]
    have e2:=enc_mkR (show 0<=max r.lo s.lo by omega) zo (show 0<=min r.hi s.hi by omega) zo
    iterate 90 (all_goals((conv=>whnf);first|(with_reducible first|refine in_map hil ?_|refine in_map hjl ?_|refine ix_map hr ?_|refine ix_map hs ?_)|refine zG ?_|apply zA|(apply zI;intro h)|exact zT|skip))
    ·have h:=iinv_left g1 f1 hinv hr hs zp
     rw[e0 zp]at h
     refine⟨(i+1,j,out++[mkR (max r.lo s.lo) (min r.hi s.hi)]),⟨by simp only;omega,hj,h⟩,by simp only;omega,?_⟩
     simp only[List.map_append,List.map_cons,List.map_nil,List.length_append,List.length_cons,List.length_nil]
     rw[e2]
     exact⟨[(0,2)],rfl,⟨rfl,rfl,rfl,rfl,rfl,trivial⟩,⟨rfl,trivial⟩⟩
    ·have h:=iinv_right g1 f1 hinv hr hs zo
     rw[e0 zp]at h
     refine⟨(i,j+1,out++[mkR (max r.lo s.lo) (min r.hi s.hi)]),⟨hi,by simp only;omega,h⟩,by simp only;omega,?_⟩
     simp only[List.map_append,List.map_cons,List.map_nil,List.length_append,List.length_cons,List.length_nil]
     rw[e2]
     exact⟨[(0,2)],rfl,⟨rfl,rfl,rfl,rfl,rfl,trivial⟩,⟨rfl,trivial⟩⟩
    ·have h:=iinv_left g1 f1 hinv hr hs zp
     rw[e1 zp]at h
     exact⟨(i+1,j,out),⟨by simp only;omega,hj,h⟩,by simp only;omega,⟨[(0,0)],rfl,⟨rfl,rfl,rfl,rfl,rfl,trivial⟩,⟨rfl,trivial⟩⟩⟩
    ·have h:=iinv_right g1 f1 hinv hr hs zo
     rw[e1 zp]at h
     exact⟨(i,j+1,out),⟨hi,by simp only;omega,h⟩,by simp only;omega,⟨[(0,0)],rfl,⟨rfl,rfl,rfl,rfl,rfl,trivial⟩,⟨rfl,trivial⟩⟩⟩
   ·iterate 10 (all_goals((conv=>whnf);first|(with_reducible first|refine in_map hil ?_|refine in_map hjl ?_)|refine zG ?_|apply zA|(apply zI;intro h)|exact zT|skip))
    exact fin fun v=>by rw[List.drop_of_length_le hjl,has_nil,Bool.and_false]
  ·iterate 10 (all_goals((conv=>whnf);first|(with_reducible refine in_map hil ?_)|refine zG ?_|apply zA|(apply zI;intro h)|exact zT|skip))
   exact fin fun v=>by rw[List.drop_of_length_le hil,has_nil,Bool.false_and]
theorem fine_nil(l:List Df):Fine l [] []:=⟨List.Pairwise.nil,List.Pairwise.nil,Firsts.nil,Firsts.nil,fun n h=>(by cases h),fun n h=>(by cases h),fun n h=>(by cases h)⟩
theorem cwStart(t:Tp)(ht:t.edges.length<1000)(l:List Df)(hl:l.length<=999)(hit:∀d,d∈l->d.items.length<=999)(nm:ByteArray){K:KT}
  (hK:K (.v (.int .i64 (fol (visG t) l (l.length+1) [] nm [] []).1)) [adO 2,boxT t,outO 4 (fol (visG t) l (l.length+1) [] nm [] []).2.2.length,.box [],arrO (fol (visG t) l (l.length+1) [] nm [] []).2.2]):
  ACall Tryz.prog 86 [.lst (l.map encDf),.v (.string nm),.fn (.func 87) [] [.op 0 0,.op 1 0]] [adO 2,boxT t,outO 3 0,.arr 2 []] K:=by
 refine ofwStart rfl rfl ?_
 have hc:∀{K:KT},K (.v (.int .i64 (fol (visG t) l (l.length+1) [] nm [] []).1)) [foO l,.map (nameM l []),.map (nameM l (fol (visG t) l (l.length+1) [] nm [] []).2.1),adO 5,boxT t,outO 7 (fol (visG t) l (l.length+1) [] nm [] []).2.2.length,.box [],arrO (fol (visG t) l (l.length+1) [] nm [] []).2.2]->
   ACall Tryz.prog 144 [.op 0 0,.v (.string nm)] [foO l,.map (fun _=>none),.map (fun _=>none),adO 5,boxT t,outO 6 0,.arr 2 []] K:=fun {K} h=>by
  rw[nameM_nil l]
  exact cwFol t ht l hl hit (l.length+1) [] nm [] [] (fine_nil l) zx zx h
 (repeat' ((conv=>whnf);first|(with_reducible refine hc ?_)|refine zG ?_|apply zA|(apply zI;intro h)|exact zT));(all_goals conv=>whnf)
 exact hK
def grpE(t:Tp)(l:List Df)(nm:ByteArray):Int×List Rg:=
 if sEq nm ⟨#[]⟩=true then(0,t.edges.map fun e=>e.pf.rg)else((fol (visG t) l (l.length+1) [] nm [] []).1,(fol (visG t) l (l.length+1) [] nm [] []).2.2)
theorem cwUn0(a:List Rg)(ha:a.length<900){K:KT}(hK:∀c,Canon c->(∀v,has c v=has a v)->c.length<=a.length->K (encRs c) []):ACall Tryz.prog 85 [encRs a,.lst []] [] K:=
 c18 a [] ha zx fun c h1 h2 h3=>hK c h1 (fun v=>by rw[h2];simp[has_nil]) (by simpa using h3)
theorem cwGrp(t:Tp)(ht:t.edges.length<900)(i:Nt)(hl:i.grps.length<=999)(hit:∀d,d∈i.grps->d.items.length<=999)(nm:ByteArray)(hb:(grpE t i.grps nm).1=0->(grpE t i.grps nm).2.length<900){K:KT}
  (hK1:(grpE t i.grps nm).1≠0->K (.tup [.lst [],.v (.int .i64 (grpE t i.grps nm).1)]) [])
  (hK2:(grpE t i.grps nm).1=0->∀c,Canon c->(∀v,has c v=has (grpE t i.grps nm).2 v)->c.length<=(grpE t i.grps nm).2.length->K (.tup [encRs c,.v (.int .i64 0)]) []):
  ACall Tryz.prog 46 [encT t,encNt i,.v (.string nm)] [] K:=by
 refine ACall.weak (ofwGrp rfl rfl ?_)
 unfold grpE at hb hK1 hK2
 by_cases hnm:sEq nm ⟨#[]⟩=true
 ·simp only[if_pos hnm]at hb hK1 hK2
  have hnm2:(nm.toList==(⟨#[]⟩:ByteArray).toList)=true:=hnm
  (repeat' ((conv=>whnf);first|refine zG ?_|apply zA|(apply zI;intro h)|exact zT));(all_goals conv=>whnf)
  all_goals first
   |skip
  refine Lp.intro (Nat×List Rg) (fun g=>⟨5,[(4,adO 2),(3,arrO g.2),(2,outO 3 g.2.length)],[(8,.op 2 0),(9,.op 4 0),(17,.lst (t.edges.map encE)),(18,.v (.int .i64 (t.edges.map encE).length)),(19,.v (.int .i64 g.1))]⟩)
   (fun g=>g.1<=t.edges.length/\g.2=(t.edges.take g.1).map fun e=>e.pf.rg) (fun g=>t.edges.length-g.1) (0,[]) ⟨Nat.zero_le _,rfl⟩ ?_ ?_
  ·(exact leA)
  rintro⟨k,out⟩ ⟨hk,ho⟩
  simp only at hk ho⊢
  have hol:out.length=k:=by rw[ho,List.length_map,List.length_take];omega
  rcases Nat.lt_or_ge k t.edges.length with hkl|hkl
  ·obtain⟨e,he⟩:=gex hkl
   (repeat' ((conv=>whnf);first|(with_reducible first|refine in_map hkl ?_|refine ix_map he ?_|refine cwAdd e.pf out zo ?_)|refine zG ?_|apply zA|(apply zI;intro h)|exact zT));(all_goals conv=>whnf)
   refine⟨(k+1,out++[e.pf.rg]),⟨hkl,?_⟩,by simp only;omega,?_⟩
   ·simp only
    rw[ho,List.take_add_one,he,List.map_append]
    rfl
   ·simp only[Int.natCast_add,Int.natCast_one]
    (exact leA)
  ·have hke:k=t.edges.length:=by omega
   rw[hke,List.take_length]at ho
   rw[<-ho]at hK2
   (repeat' ((conv=>whnf);first|(with_reducible first|refine sl_full (List.length_map ..) ?_|refine cwUn0 out zo fun c hc1 hc2 hc3=>?_)|refine zG ?_|apply zA|(apply zI;intro h)|exact zT));(all_goals conv=>whnf)
   exact⟨_,Weak.refl,hK2 trivial c hc1 hc2 hc3⟩
 ·simp only[if_neg hnm]at hb hK1 hK2
  have hnm2:(nm.toList==(⟨#[]⟩:ByteArray).toList)=false:=by simpa[sEq]using hnm
  have hc:=fun {K} h=>@cwStart t zo i.grps hl hit nm K h
  generalize fol (visG t) i.grps (i.grps.length+1) [] nm [] []=q at*
  obtain⟨qe,qd,qs⟩:=q
  simp only at hb hK1 hK2 hc
  (repeat' ((conv=>whnf);first|(with_reducible first|refine hc ?_|refine sl_full (List.length_map ..) ?_|refine cwUn0 qs (hb zp) fun c hc1 hc2 hc3=>?_)|refine zG ?_|apply zA|(apply zI;intro h)|exact zT));(all_goals conv=>whnf)
  all_goals first
   |(exfalso;simp_all;done)
   |exact⟨_,Weak.refl,hK2 zp c hc1 hc2 hc3⟩
   |exact⟨_,Weak.tup2 Weak.nils Weak.refl,hK1 zp⟩
   |trace_state
def wgtD(l:List Df)(d:List Nat):Nat:=(d.map fun n=>((l[n]?).map fun x=>x.items.length).getD 0).sum
theorem wgtD_snoc{l:List Df}{d:List Nat}{n:Nat}{x:Df}(h:l[n]? =some x):wgtD l (d++[n])=wgtD l d+x.items.length:=by
 rw[wgtD,List.map_append,List.sum_append,<-wgtD];simp[h]
theorem wgtD_range(l:List Df):wgtD l (List.range l.length)=itsN l:=by
 unfold wgtD itsN
 congr 1
 refine List.ext_getElem zx fun i h1 h2=>?_
 have:i<l.length:=by simpa using h2
 simp[List.getElem?_eq_getElem this]
theorem sum_erase{l:List Nat}{f:Nat->Nat}{x:Nat}(h:x∈l):(l.map f).sum=f x+((l.erase x).map f).sum:=by
 induction l with
 |nil=>simp at h
 |cons y l ih=>
  by_cases hy:y=x
  ·subst hy;simp
  ·have hx:x∈l:=by rcases List.mem_cons.1 h with h|h;exact absurd h.symm hy;exact h
   have e:(y::l).erase x=y::l.erase x:=by rw[List.erase_cons_tail (by simpa using hy)]
   rw[e,List.map_cons,List.sum_cons,ih hx,List.map_cons,List.sum_cons];omega
theorem sum_nodup{f:Nat->Nat}:∀{d m:List Nat},d.Nodup->(∀x,x∈d->x∈m)->(d.map f).sum<=(m.map f).sum
 |[],m,_,_=>Nat.zero_le _
 |x::d,m,hn,hs=>by
  obtain⟨h1,h2⟩:=List.nodup_cons.1 hn
  rw[sum_erase (hs x zx),List.map_cons,List.sum_cons]
  have:=sum_nodup (f:=f) (m:=m.erase x) h2 fun y hy=>(List.mem_erase_of_ne (fun e=>h1 (by rw[<-e];exact hy))).2 (hs y (List.mem_cons_of_mem _ hy))
  omega
theorem wgtD_le{l:List Df}{d:List Nat}(hn:d.Nodup)(hl:∀n,n∈d->n<l.length):wgtD l d<=itsN l:=by
 rw[<-wgtD_range]
 exact sum_nodup hn fun x hx=>List.mem_range.2 (hl x hx)
section
variable {S:Type} (v:It->S->Int×S) (sz:S->Nat) (c:Nat) (hv:∀x s,(v x s).1=0->sz (v x s).2<=sz s+c)
structure Fit (l:List Df) (p d:List Nat) (s:S) (d':List Nat) (s':S) (k:Nat):Prop where
 fine:Fine l p d'
 size:sz s'+c*wgtD l d<=sz s+c*wgtD l d'+c*k
include hv
theorem folI_fit{l:List Df}{p:List Nat}{rec:ByteArray->List Nat->S->Int×List Nat×S}(hrec:∀nm d s,Fine l p d->(rec nm d s).1=0->Fit sz c l p d s (rec nm d s).2.1 (rec nm d s).2.2 0):
  ∀(its:List It) (d:List Nat) (s:S),Fine l p d->(folI v rec its d s).1=0->Fit sz c l p d s (folI v rec its d s).2.1 (folI v rec its d s).2.2 its.length
 |[],d,s,hf,_=>⟨hf,by simp[folI]⟩
 |x::r,d,s,hf,h=>by
  rw[folI_cons]at h⊢
  have hq:(if x.kind=3 then rec x.name d s else((v x s).1,d,(v x s).2)).1=0->Fit sz c l p d s (if x.kind=3 then rec x.name d s else((v x s).1,d,(v x s).2)).2.1 (if x.kind=3 then rec x.name d s else((v x s).1,d,(v x s).2)).2.2 1:=by
   by_cases hk:x.kind=3
   ·rw[if_pos hk]
    intro h0
    have:=hrec x.name d s hf h0
    exact⟨this.fine,by have:=this.size;omega⟩
   ·rw[if_neg hk]
    intro h0
    exact⟨hf,by have:=hv x s h0;simp only;omega⟩
  generalize (if x.kind=3 then rec x.name d s else((v x s).1,d,(v x s).2))=q at*
  by_cases h0:q.1=0
  ·rw[if_pos h0]at h⊢
   have hq:=hq h0
   have h2:=folI_fit hrec r q.2.1 q.2.2 hq.fine h
   exact⟨h2.fine,by have:=hq.size;have:=h2.size;rw[List.length_cons,Nat.mul_succ];omega⟩
  ·rw[if_neg h0]at h;exact absurd h h0
theorem fol_fit(l:List Df):∀(k:Nat) (p:List Nat) (nm:ByteArray) (d:List Nat) (s:S),Fine l p d->(fol v l k p nm d s).1=0->
  Fit sz c l p d s (fol v l k p nm d s).2.1 (fol v l k p nm d s).2.2 0
 |0,p,nm,d,s,hf,h=>by simp[fol]at h
 |k+1,p,nm,d,s,hf,h=>by
  unfold fol at h⊢
  cases hn:findD l nm with
  |none=>simp[hn]at h
  |some n=>
   simp only[hn]at h⊢
   split at h
   ·simp at h
   rename_i hp
   rw[if_neg hp]
   split at h
   ·rename_i hd
    rw[if_pos hd]
    exact⟨hf,by simp⟩
   rename_i hd
   rw[if_neg hd]
   obtain⟨df,hdf,_⟩:=findD_some hn
   simp only[hdf,Option.map_some,Option.getD_some]at h⊢
   have hpush:=hf.push hn hp hd
   split at h
   ·rename_i h0
    rw[if_pos h0]
    have h1:=folI_fit v sz c hv (fun nm d s hf h=>fol_fit l k (p++[n]) nm d s hf h) df.items d s hpush h0
    refine⟨h1.fine.pop hn,?_⟩
    have:=h1.size
    simp only
    rw[wgtD_snoc hdf,Nat.mul_add]
    omega
   ·rename_i h0;exact absurd h h0
theorem fol_all(l:List Df)(nm:ByteArray)(s:S)(h:(fol v l (l.length+1) [] nm [] s).1=0):sz (fol v l (l.length+1) [] nm [] s).2.2<=sz s+c*itsN l:=by
 have h1:=fol_fit v sz c hv l (l.length+1) [] nm [] s (fine_nil l) h
 have h2:=wgtD_le h1.fine.dn h1.fine.dl
 have h3:=h1.size
 have h4:=Nat.mul_le_mul_left c h2
 have h5:wgtD l []=0:=rfl
 rw[h5]at h3
 omega
end
theorem grpE_len{t:Tp}{l:List Df}{nm:ByteArray}(h12:t.edges.length<=12)(h:(grpE t l nm).1=0):(grpE t l nm).2.length<=12+12*itsN l:=by
 unfold grpE at h⊢
 split
 ·simp only[List.length_map];omega
 ·rename_i hn
  rw[if_neg hn]at h
  have:=fol_all (visG t) List.length 12 (fun x s h0=>by
   unfold visG at h0⊢
   have hll:=ixs_len (fun e=>sEq e.zone x.name) t.edges t.edges.length
   split
   ·rw[List.length_append];simp
   ·split
    ·simp
    ·rw[List.length_append,List.length_map];omega) l nm [] h
  simp only[List.length_nil]at this⊢
  omega
noncomputable def grpP(t:Tp)(i:Nt)(nm:ByteArray):List Rg×Int:=if(grpE t i.grps nm).1=0 then(canO (has (grpE t i.grps nm).2),0)else([],(grpE t i.grps nm).1)
def svcGo:List It->List Bx->List Bx×Int
 |[],s=>(s,0)
 |x::r,s=>if(combP anB initS [hdrX x]).2≠0 then([],(combP anB initS [hdrX x]).2)else if(combP orB s (combP anB initS [hdrX x]).1).2≠0 then([],(combP orB s (combP anB initS [hdrX x]).1).2)else svcGo r (combP orB s (combP anB initS [hdrX x]).1).1
def svcF(l:List Df)(nm:ByteArray):Int×List It:=((fol visS l (l.length+1) [] nm [] []).1,(fol visS l (l.length+1) [] nm [] []).2.2)
def svcP(i:Nt)(nm:ByteArray):List Bx×Int:=if sEq nm ⟨#[]⟩=true then(initS,0)else if(svcF i.svcs nm).1≠0 then([],(svcF i.svcs nm).1)else svcGo (svcF i.svcs nm).2 []
def bindE{α:Type}(x:α×Int)(k:α->List Bx×Int):List Bx×Int:=if x.2≠0 then([],x.2)else k x.1
theorem bindE_ok{α:Type}{x:α×Int}{k:α->List Bx×Int}(h:x.2=0):bindE x k=k x.1:=by rw[bindE,if_neg zo]
theorem bindE_no{α:Type}{x:α×Int}{k:α->List Bx×Int}(h:x.2≠0):bindE x k=([],x.2):=by rw[bindE,if_pos h]
noncomputable def stmP(t:Tp)(i:Nt)(s:Sm):List Bx×Int:=
 bindE (grpP t i s.frm) fun f=>bindE (grpP t i s.to) fun g=>bindE (svcP i s.svc) fun v=>
 bindE (if s.exc then grpP t i s.exF else([],0)) fun o=>bindE (if s.exc then grpP t i s.exT else([],0)) fun n=>
 bindE (makeP (btwB f g)) fun b=>if(combP anB b v).2≠0\/s.exc=false then combP anB b v else
 bindE (makeP (btwB o n)) fun b2=>combP woB (combP anB b v).1 b2
def namE(t:Tp)(i:Nt)(s:Sm):Int:=
 if(sEq s.cls ⟨#[]⟩||t.devs.any fun d=>sEq d.cls s.cls)&&(sEq s.dur ⟨#[]⟩||i.wins.any fun w=>sEq w.name s.dur)then 0 else 5
def fstE{α:Type}(f:α->Int):List α->Int
 |[]=>0
 |x::l=>if f x≠0 then f x else fstE f l
noncomputable def chkP(t:Tp)(i:Nt):Int:=
 let a:=fstE (fun d:Df=>(grpP t i d.name).2) i.grps
 if a≠0 then a else
 let b:=fstE (fun d:Df=>(svcP i d.name).2) i.svcs
 if b≠0 then b else
 let c:=fstE (fun s:Sm=>if(stmP t i s).2≠0 then(stmP t i s).2 else namE t i s) i.sts
 if c≠0 then c else
 let d:=fstE (fun p:Pb=>if edgeIx t.edges p.edge<0 then 5 else 0) i.pubs
 if d≠0 then d else
 fstE (fun h:Hn=>if edgeIx t.edges h.edge<0 then 5 else(grpP t i h.grp).2) i.hids
theorem vis_S:Vis visS (fun its y=>y∈its) (fun x y=>y=x) (fun _=>true) where
 add:=fun x s h u=>by simp[visS]
 ok:=fun x s=>by simp[visS]
theorem svc_lead{l:List Df}{nm:ByteArray}(h:(svcF l nm).1=0):Good l (fun _=>true) nm/\∀y,y∈(svcF l nm).2↔Lead l (fun x y=>y=x) nm y:=
 fol_lead visS (fun its y=>y∈its) (fun x y=>y=x) (fun _=>true) vis_S l nm [] (fun u=>by simp) h
def sEqD(a b:ByteArray):Bool:=a.data.toList==b.data.toList
def itC(x:It)(g:Bool):Bool:=
 if x.kind=3 then nmChk x.name.data.toList&&itN x
 else if x.kind=1 then g&&(nmChk x.name.data.toList&&itN x)
 else if x.kind=2 then g&&(decide x.pf.okP&&(sEqD x.name ⟨#[]⟩&&decide (x.proto=0/\x.ports.lo=0/\x.ports.hi=0)))
 else if x.kind=4 then !g&&(prB x.proto x.ports&&(sEqD x.name ⟨#[]⟩&&decide (x.pf.addr=0/\x.pf.bits=0)))else false
theorem itC_itB{x:It}{g:Bool}(h:itC x g=true):itB x g=true:=by
 have hn:nmChk x.name.data.toList=true->nameB x.name=true:=fun h=>nameB_true (nameOk_data h)
 have he:sEqD x.name ⟨#[]⟩=sEq x.name ⟨#[]⟩:=(sEq_data _ _).symm
 unfold itC at h
 unfold itB itP itS
 rw[he]at h
 split
 ·rename_i hk
  rw[if_pos hk,Bool.and_eq_true]at h
  rw[hn h.1,h.2];rfl
 ·rename_i hk
  rw[if_neg hk]at h
  split
  ·rename_i hk1
   rw[if_pos hk1,Bool.and_eq_true,Bool.and_eq_true]at h
   rw[h.1,hn h.2.1,h.2.2];rfl
  ·rename_i hk1
   rw[if_neg hk1]at h
   exact h
def dfC(l:List Df)(g:Bool)(i:Nat)(d:Df):Bool:=
 nmChk d.name.data.toList&&(decide (l.findIdx? (fun e=>sEqD e.name d.name)=some i)&&(decide (1<=d.items.length)&&(decide (d.items.length<=16)&&d.items.all fun x=>itC x g)))
def dfsC(l:List Df)(g:Bool):Bool:=decide (l.length<=32)&&(l.zipIdx.all fun q=>dfC l g q.2 q.1)
theorem dfsC_ok{l:List Df}{g:Bool}(h:dfsC l g=true):DfsOk l g:=by
 unfold dfsC at h
 rw[Bool.and_eq_true,decide_eq_true_eq,List.all_eq_true]at h
 refine⟨h.1,fun i d hd=>?_⟩
 have h2:=h.2 (d,i) (List.mem_zipIdx_iff_getElem?.2 hd)
 unfold dfC at h2
 simp only[Bool.and_eq_true,decide_eq_true_eq,List.all_eq_true]at h2
 obtain⟨h3,h4,h5,h6,h7⟩:=h2
 refine⟨nameB_true (nameOk_data h3),?_,h5,h6,fun x hx=>itC_itB (h7 x hx)⟩
 have e:(fun e:Df=>sEq e.name d.name)=fun e=>sEqD e.name d.name:=by funext e;exact sEq_data _ _
 unfold dfIx firstIx
 rw[e,h4]
def defI(g s:List Df):Nt:=⟨g,s,[],[],[],[]⟩
theorem defI_ok{g s:List Df}(hg:dfsC g true=true)(hs:dfsC s false=true):NtOk (defI g s):=
 ⟨dfsC_ok hg,dfsC_ok hs,Nat.zero_le _,Nat.zero_le _,Nat.zero_le _,Nat.zero_le _,fun k x h=>by simp[defI]at h,fun x h=>by simp[defI]at h,fun x h=>by simp[defI]at h,fun x h=>by simp[defI]at h⟩
/-! the topology of the examples -/
def pf0:Pf:=⟨167772160,24,by decide,by decide⟩
def pf4:Pf:=⟨2886729728,16,by decide,by decide⟩
def netR:Tp:=⟨[⟨⟨#[114]⟩,0,false,false,⟨#[]⟩⟩],[],[⟨⟨#[97]⟩,0,⟨#[108,97,110]⟩,pf0,false⟩,⟨⟨#[98]⟩,0,⟨#[100,109,122]⟩,pf4,false⟩],[],0⟩
theorem topOk_netR:TopOk netR:=by
 have sEqr:∀s:ByteArray,sEq s s=true:=fun s=>by rw[sEq_data];simp
 refine⟨by simp[netR],by simp[netR],by simp[netR],by simp[netR],by simp[netR],by simp[netR],by simp[netR],?_,?_,?_,?_,?_⟩
 ·intro i d hi
  match i,hi with
  |0,hi=>
   simp[netR]at hi;subst hi
   exact⟨⟨nameOk_data (s:=⟨#[114]⟩) zd,by decide,by decide,.inl (sEqr _)⟩,firstIx_at (k:=0) rfl (sEqr _) (fun j y hj=>absurd hj (Nat.not_lt_zero _))⟩
  |i+1,hi=>simp[netR]at hi
 ·intro i l hi
  simp[netR]at hi
 ·intro i e hi
  match i,hi with
  |0,hi=>
   simp[netR]at hi;subst hi
   exact⟨⟨nameOk_data zd,nameOk_data zd,by decide,by simp[netR],by decide,by decide,by decide⟩,firstIx_at (k:=0) rfl (sEqr _) (fun j y hj=>absurd hj (Nat.not_lt_zero _))⟩
  |1,hi=>
   simp[netR]at hi;subst hi
   refine⟨⟨nameOk_data zd,nameOk_data zd,by decide,by simp[netR],by decide,by decide,by decide⟩,firstIx_at (k:=1) rfl (sEqr _) (fun j y hj hy=>?_)⟩
   obtain rfl:j=0:=by omega
   simp[netR]at hy;subst hy
   rw[sEq_data];rfl
  |i+2,hi=>simp[netR]at hi
 ·rintro i e hi j o hj ho ⟨_,_,h3⟩
  match i,hi,j,ho with
  |0,hi,j,ho=>omega
  |1,hi,0,ho=>simp[netR]at hi ho;subst hi;subst ho;revert h3;decide
  |1,hi,j+1,ho=>omega
  |i+2,hi,j,ho=>simp[netR]at hi
 ·intro i p hi
  simp[netR]at hi
theorem comp_netR:compB netR=true:=compB_iff.2 ⟨topOk_netR,fun e he=>by
 simp only[netR,List.mem_cons,List.not_mem_nil,or_false]at he
 rcases he with rfl|rfl<;>rfl⟩
def nmB(c:UInt8):ByteArray:=⟨#[c]⟩
def itNm(s:ByteArray):It:=⟨3,s,⟨0,0,by decide,by decide⟩,0,zR⟩
def itZn(s:ByteArray):It:=⟨1,s,⟨0,0,by decide,by decide⟩,0,zR⟩
def sanG:List Df:=[⟨nmB 97,[itNm (nmB 98)]⟩,⟨nmB 98,[itZn ⟨#[100,109,122]⟩]⟩,⟨nmB 99,[itNm (nmB 99)]⟩]
theorem san_ok:NtOk (defI sanG []):=defI_ok (by decide+kernel) (by decide+kernel)
theorem san_a:grpE netR sanG (nmB 97)=(0,[pf4.rg]):=by decide+kernel
theorem san_b:grpE netR sanG (nmB 98)=(0,[pf4.rg]):=by decide+kernel
theorem san_c:(grpE netR sanG (nmB 99)).1=8:=by decide+kernel
def atB(s:ByteArray)(c:Int)(i:Nat):Bool:=match s[i]? with
 |some b=>decide ((b.toNat:Int)=c)
 |none=>true
def prt(s:ByteArray)(c:Int):Nat->List ByteArray×Nat
 |0=>([],0)
 |i+1=>if atB s c i=true then((prt s c i).1++[s.extract (prt s c i).2 i],i+1)else prt s c i
theorem prt_le(s:ByteArray)(c:Int):∀i,(prt s c i).2<=i/\(prt s c i).1.length<=i
 |0=>⟨Nat.le_refl _,Nat.le_refl _⟩
 |i+1=>by
  have:=prt_le s c i
  rw[prt]
  split
  ·simp only[List.length_append,List.length_cons,List.length_nil];omega
  ·omega
theorem at_end(s:ByteArray)(c:Int):atB s c s.size=true:=by rw[atB,getElem?_neg s s.size (Nat.lt_irrefl _)]
theorem prt_end(s:ByteArray)(c:Int):(prt s c (s.size+1)).1=(prt s c s.size).1++[s.extract (prt s c s.size).2 s.size]:=by
 rw[prt,if_pos (at_end s c)]
def prtL(s:ByteArray)(c:Int):List ByteArray:=(prt s c (s.size+1)).1
theorem prtL_ne(s:ByteArray)(c:Int):prtL s c≠[]:=by rw[prtL,prt_end];simp
theorem djParts(s:ByteArray)(c:Int)(hs:s.size<=1000){K:KT}(hK:K (.lst ((prtL s c).map encSt)) []):ACall Tryz.prog 172 [.v (.string s),.v (.int .u8 c)] [] K:=by
 refine ofq1Parts rfl rfl ?_
 (repeat' ((conv=>whnf);first|refine zG ?_|apply zA|(apply zI;intro h)|exact zT));(all_goals conv=>whnf)
 refine Lp.intro (List ByteArray×Nat×Nat) (fun g=>⟨1,[(0,.arr 1 (g.1.map encSt))],[(0,.v (.string s)),(1,.v (.int .u8 c)),(5,.os 0 1 0 g.1.length),(6,.v (.int .i64 g.2.1)),(7,.v (.int .i64 g.2.2))]⟩)
  (fun g=>g.2.2<=s.size+1/\prt s c g.2.2=(g.1,g.2.1)) (fun g=>s.size+1-g.2.2) ([],0,0) ⟨by simp only;omega,rfl⟩ ?_ ?_
 ·(exact leA)
 rintro⟨l,a,i⟩ ⟨h1,hg⟩
 simp only at h1 hg⊢
 have hle:=prt_le s c i
 rw[hg]at hle
 obtain⟨h2,h3⟩:=hle
 simp only at h2 h3
 rcases Nat.lt_or_ge i (s.size+1)with hl|hl
 ·have hstep:prt s c (i+1)=if atB s c i=true then(l++[s.extract a i],i+1)else(l,a):=by rw[prt,hg]
  (repeat' ((conv=>whnf);first|(with_reducible first|refine in_nat zo ?_|refine ix_ba zo fun b hb=>?_|refine Sb.intro a i rfl rfl zo zo ?_)|refine zG ?_|apply zA|(apply zI;intro h)|exact zT));(all_goals conv=>whnf)
  all_goals first
   |(have hno:atB s c i=false:=by rw[atB,hb];exact decide_eq_false h
     rw[hno,if_neg zd]at hstep
     refine⟨(l,a,i+1),⟨by simp only;omega,hstep⟩,by simp only;omega,?_⟩
     rw[show(((l,a,i+1):List ByteArray×Nat×Nat).2.2:Int)=(i:Int)+1 from by simp only;omega]
     (exact leA)
     done)
   |(have hyes:atB s c i=true:=by
      first
       |(rw[atB,hb];exact decide_eq_true h)
       |(rw[show i=s.size by omega];exact at_end s c)
     rw[hyes,if_pos rfl]at hstep
     refine⟨(l++[s.extract a i],i+1,i+1),⟨by simp only;omega,hstep⟩,by simp only;omega,?_⟩
     simp only[List.map_append,List.length_append,List.map_cons,List.map_nil,List.length_cons,List.length_nil,Int.natCast_add,Int.natCast_one]
     (exact leA)
     done)
   |(exfalso;omega)
   |trace_state
 ·(repeat' ((conv=>whnf);first|(with_reducible refine sl_full (List.length_map ..) ?_)|refine zG ?_|apply zA|(apply zI;intro h)|exact zT));(all_goals conv=>whnf)
  rw[prtL,show s.size+1=i by omega,hg]at hK
  exact hK
noncomputable def dayIx(s:ByteArray):Int:=firstIx (fun x=>sEq x s) dayL
theorem djDay(s:ByteArray){K:KT}(hK:K (.v (.int .i64 (dayIx s))) []):ACall Tryz.prog 173 [.v (.string s)] [] K:=by
 unfold dayIx at hK
 refine ofq9Day rfl rfl ?_
 (repeat' ((conv=>whnf);first|(with_reducible refine cqDays ?_)|refine zG ?_|apply zA|(apply zI;intro h)|exact zT));(all_goals conv=>whnf)
 refine Lp.intro Nat (fun i=>⟨0,[],[(0,.v (.string s)),(3,.lst (dayL.map encSt)),(4,.v (.int .i64 i))]⟩) (fun i=>i<=dayL.length/\∀(j:Nat) y,j<i->dayL[j]? =some y->sEq y s=false) (fun i=>dayL.length-i) 0 ⟨Nat.zero_le _,fun i y hi=>absurd hi (Nat.not_lt_zero _)⟩ ?_ ?_
 ·(exact leA)
 intro i ⟨hi,hinv⟩
 have h7:dayL.length=7:=rfl
 rcases Nat.lt_or_ge i dayL.length with hl|hl
 ·obtain⟨x,hx⟩:=gex hl
  (repeat' ((conv=>whnf);first|(with_reducible first|refine in_map hl ?_|refine ix_map hx ?_)|refine zG ?_|apply zA|(apply zI;intro h)|exact zT));(all_goals conv=>whnf)
  ·rw[firstIx_at (p:=fun x=>sEq x s) hx (show sEq x s=true from h) hinv]at hK
   exact hK
  ·refine⟨i+1,⟨hl,before_succ (p:=fun x:ByteArray=>sEq x s) hx h hinv⟩,by omega,?_⟩
   rw[Int.natCast_add,Int.natCast_one]
   (exact leA)
 ·(repeat' ((conv=>whnf);first|refine zG ?_|apply zA|(apply zI;intro h)|exact zT));(all_goals conv=>whnf)
  rw[firstIx_none (p:=fun x=>sEq x s) (before_all hl hinv)]at hK
  exact hK
structure DayW (s:ByteArray):Prop where
 size:s.size<=1000
 two:(prtL s 45).length<=2
 ok:∀x y,(prtL s 45)[0]? =some x->(prtL s 45)[(prtL s 45).length-1]? =some y->0<=dayIx x/\dayIx x<=dayIx y/\dayIx y<=6/\dayIx y<=dayIx x+4
theorem djSpan(s:ByteArray)(hs:DayW s){K:KT}(hK:∀a b:Int,0<=a->a<=b->b<=6->b<=a+4->K (.tup [.v (.int .i64 a),.v (.int .i64 b)]) []):ACall Tryz.prog 124 [.v (.string s)] [] K:=by
 have h2:=hs.two
 have hok:=hs.ok
 have hpos:=List.length_pos_iff.2 (prtL_ne s 45)
 refine ofq9Span rfl rfl ?_
 have hp:=fun {K} h=>@djParts s 45 hs.size K h
 generalize prtL s 45=l at*
 have hm:((l.length:Nat):Int)-1=((l.length-1:Nat):Int):=by omega
 obtain⟨x,hx⟩:=gex hpos
 obtain⟨y,hy⟩:∃y,l[l.length-1]? =some y:=⟨_,List.getElem?_eq_getElem zo⟩
 obtain⟨q0,q1,q2,q3⟩:=hok x y hx hy
 (repeat' ((conv=>whnf);first|(with_reducible refine hp ?_)|(refine In.intro 0 rfl (by rw[List.length_map];omega) ?_)|(with_reducible first|refine wr_i64 (r:=((l.length-1:Nat):Int)) (by rw[List.length_map];omega) zo zo ?_|refine in_map zo ?_|refine ix_map hx ?_|refine ix_map hy ?_|refine djDay _ ?_)|refine zG ?_|apply zA|(apply zI;intro h)|exact zT));(all_goals conv=>whnf)
 all_goals first
  |exact hK _ _ q0 q1 q2 q3
  |(exfalso;simp only[List.length_map]at*;omega)
  |trace_state
def dayD(s:ByteArray):Int:=firstIx (fun x=>sEqD x s) dayL
theorem day_eq(s:ByteArray):dayIx s=dayD s:=by
 unfold dayIx dayD
 congr 1
 funext x
 rw[sEq_data];rfl
theorem winL_days:∀s,s∈winL->DayW s:=by
 have h:∀s,s∈winL->s.size<=1000/\(prtL s 45).length<=2/\(0<=dayD ((prtL s 45).getD 0 s)/\dayD ((prtL s 45).getD 0 s)<=dayD ((prtL s 45).getD ((prtL s 45).length-1) s)/\dayD ((prtL s 45).getD ((prtL s 45).length-1) s)<=6/\dayD ((prtL s 45).getD ((prtL s 45).length-1) s)<=dayD ((prtL s 45).getD 0 s)+4):=by decide+kernel
 intro s hs
 obtain⟨h1,h2,h3⟩:=h s hs
 refine⟨h1,h2,fun x y hx hy=>?_⟩
 rw[List.getD,hx,List.getD,hy]at h3
 rw[day_eq,day_eq]
 exact h3
theorem djTimes(s:ByteArray)(hs:s.size<=1000){K:KT}(hK:∀a b:Int,(a= -1\/(0<=a/\a<b))->b<=1440-> -1<=b->K (.tup [.v (.int .i64 a),.v (.int .i64 b)]) []):ACall Tryz.prog 125 [.v (.string s)] [] K:=by
 refine ofq9Times rfl rfl ?_
 (repeat' ((conv=>whnf);first|(with_reducible refine cqParts s _ hs fun l hl hn=>?_)|(refine In.intro 0 rfl zo ?_)|(refine In.intro 1 rfl zo ?_)|(with_reducible first|refine ix_map_any (by simp only[List.length_map]at*;omega) fun c hc=>?_|refine cqClock _ fun r r0 r1=>?_)|refine zG ?_|apply zA|(apply zI;intro h)|exact zT));(all_goals conv=>whnf)
 all_goals first
  |exact hK _ _ zo zo zo
  |trace_state
def OutOk(out:List Rg):Prop:=∀r,r∈out->∃d:Nat,d<7/\1440*(d:Int)<=r.lo/\r.lo<=r.hi/\r.hi<=1440*(d:Int)+1439
def inD(d:Nat)(r:Rg):Bool:=decide (1440*(d:Int)<=r.lo)&&decide (r.hi<=1440*(d:Int)+1439)
theorem ind_le{p:Nat->Bool}{k:Nat}(h:∀d,p d=true->d=k):∀n,((List.range n).map fun d=>if p d=true then 1 else 0).sum<=if k<n then 1 else 0
 |0=>by simp
 |n+1=>by
  have ih:=ind_le h n
  rw[List.range_succ,List.map_append,List.sum_append]
  simp only[List.map_cons,List.map_nil,List.sum_cons,List.sum_nil]
  by_cases hp:p n=true
  ·have:=h n hp
   subst this
   rw[if_pos hp,if_pos (Nat.lt_succ_self _)]
   rw[if_neg (Nat.lt_irrefl _)]at ih
   omega
  ·rw[if_neg hp]
   split at ih
   ·rw[if_pos zo];omega
   ·split<;>omega
theorem sum_add2{α:Type}(f g:α->Nat):∀l:List α,(l.map fun d=>f d+g d).sum=(l.map f).sum+(l.map g).sum
 |[]=>rfl
 |x::l=>by simp only[List.map_cons,List.sum_cons,sum_add2 f g l];omega
theorem sum_days:∀out:List Rg,(∀r,r∈out->r.lo<=r.hi)->((List.range 7).map fun d=>(out.filter (inD d)).length).sum<=out.length
 |[],_=>Nat.le_of_eq rfl
 |r::out,h=>by
  have ih:=sum_days out fun x hx=>h x (List.mem_cons_of_mem _ hx)
  have e:((List.range 7).map fun d=>((r::out).filter (inD d)).length)=(List.range 7).map fun d=>(if inD d r=true then 1 else 0)+(out.filter (inD d)).length:=by
   refine List.map_congr_left fun d _=>?_
   rw[List.filter_cons]
   split
   ·rw[List.length_cons];omega
   ·omega
  have hr:=h r zx
  have h1:=ind_le (p:=fun d=>inD d r) (k:=(r.lo/1440).toNat) (fun d hd=>by
   simp only[inD,Bool.and_eq_true,decide_eq_true_eq]at hd
   omega) 7
  rw[e,sum_add2,List.length_cons]
  have h2:(if(r.lo/1440).toNat<7 then 1 else 0)<=1:=by split<;>omega
  omega
theorem win_of_out{out rs:List Rg}(ho:OutOk out)(hl:out.length<=16)(hc:Canon rs)(hh:∀v,has rs v=has out v):WinOk rs:=by
 refine⟨hc,fun r hr=>?_,?_⟩
 ·have h1:=has_iff.2 ⟨r,hr,hc.1 r hr,Int.le_refl _⟩
  rw[hh]at h1
  obtain⟨q,hq,q1,q2⟩:=has_iff.1 h1
  obtain⟨d,d1,d2,d3,d4⟩:=ho q hq
  omega
 ·have hd:∀d,(dayW rs d).length<=(out.filter (inD d)).length:=fun d=>by
   have e:(fun v=>has rs v&&(decide (1440*(d:Int)<=v)&&decide (v<=1440*(d:Int)+1439)))=has (out.filter (inD d)):=by
    funext v
    rw[hh,Bool.eq_iff_iff]
    simp only[Bool.and_eq_true,decide_eq_true_eq]
    constructor
    ·rintro⟨h1,h2,h3⟩
     obtain⟨q,hq,q1,q2⟩:=has_iff.1 h1
     obtain⟨e,d1,d2,d3,d4⟩:=ho q hq
     have:e=d:=by omega
     subst this
     exact has_iff.2 ⟨q,List.mem_filter.2 ⟨hq,by simp only[inD,Bool.and_eq_true,decide_eq_true_eq];omega⟩,q1,q2⟩
    ·intro h
     obtain⟨q,hq,q1,q2⟩:=has_iff.1 h
     obtain⟨hq1,hq2⟩:=List.mem_filter.1 hq
     simp only[inD,Bool.and_eq_true,decide_eq_true_eq]at hq2
     exact⟨has_iff.2 ⟨q,hq1,q1,q2⟩,by omega,by omega⟩
   unfold dayW
   rw[e]
   exact canO_len _
  have hs:=sum_days out fun r hr=>by obtain⟨d,d1,d2,d3,d4⟩:=ho r hr;exact d3
  have hm:cntW rs 7<=((List.range 7).map fun d=>(out.filter (inD d)).length).sum:=by
   unfold cntW
   generalize List.range 7=l
   induction l with
   |nil=>simp
   |cons x l ih=>simp only[List.map_cons,List.sum_cons];have:=hd x;omega
  omega
theorem win_nil:WinOk []:=win_of_out (out:=[]) (fun r h=>by cases h) zx canon_nil fun v=>rfl
structure Wds (ws:List ByteArray):Prop where
 mod:ws.length%3=2
 len:ws.length<=8
 size:∀s,s∈ws->s.size<=1000
 day:∀(j:Nat) s,ws[3*j]? =some s->DayW s
theorem djParse(ws:List ByteArray)(hw:Wds ws){K:KT}(hK:∀(rs:List Rg) (e:Int),WinOk rs->rs.length<=16->K (.tup [encRs rs,.v (.int .i64 e)]) []):ACall Tryz.prog 68 [.lst (ws.map encSt)] [] K:=by
 have hl:=hw.len
 have hmod:=hw.mod
 have hm:(ws.length:Int).tmod 3=((ws.length%3:Nat):Int):=by rw[Int.tmod_eq_emod_of_nonneg zo];omega
 refine ACall.weak (ofq9Parse rfl rfl ?_)
 (repeat' ((conv=>whnf);first|(refine In.intro 0 rfl zo ?_)|(with_reducible first|refine ix_map_any (by simp only[List.length_map]at*;omega) fun c hc=>?_|refine Ob.intro zd ?_)|refine zG ?_|apply zA|(apply zI;intro h)|exact zT));(all_goals conv=>whnf)
 all_goals first
  |exact⟨_,Weak.tup2 Weak.nils Weak.refl,hK [] _ win_nil zx⟩
  |skip
 all_goals
  refine Lp.intro (Nat×List Rg) (fun g=>⟨1,[(0,.arr 2 (g.2.map encR))],[(0,.lst (ws.map encSt)),(4,.os 0 2 0 g.2.length),(5,.v (.int .i64 (3*g.1:Nat)))]⟩)
   (fun g=>3*g.1<=ws.length+1/\g.2.length<=5*g.1/\OutOk g.2) (fun g=>ws.length+3-3*g.1) (0,[]) ⟨Nat.zero_le _,Nat.zero_le _,fun r h=>by cases h⟩ ?_ ?_
  ·(exact leA)
  rintro⟨i,out⟩ ⟨h2,h3,h4⟩
  simp only at h2 h3 h4⊢
  rcases Nat.lt_or_ge (3*i) ws.length with hil|hil
  ·have hi1:3*i+1<ws.length:=by omega
   obtain⟨s0,hs0⟩:∃s,ws[3*i]? =some s:=⟨_,List.getElem?_eq_getElem hil⟩
   obtain⟨s1,hs1⟩:∃s,ws[3*i+1]? =some s:=⟨_,List.getElem?_eq_getElem hi1⟩
   (repeat' ((conv=>whnf);first|(with_reducible first|refine in_map hil ?_|refine ix_map hs0 ?_|refine In.intro (3*i+1) zo (by rw[List.length_map];exact hi1) ?_|refine ix_map hs1 ?_|refine djSpan s0 (hw.day i s0 hs0) fun a b a0 a1 a2 a3=>?_|refine djTimes s1 (hw.size _ (List.mem_of_getElem? hs1)) fun f g f0 g1 g0=>?_|refine In.intro (3*i+2) zo (by rw[List.length_map]at*;omega) ?_|refine ix_map_any (by simp only[List.length_map]at*;omega) fun c hc=>?_)|refine zG ?_|apply zA|(apply zI;intro h)|exact zT));(all_goals conv=>whnf)
   all_goals first
    |exact⟨_,Weak.tup2 Weak.nils Weak.refl,hK [] _ win_nil zx⟩
    |skip
   all_goals
    have hf:0<=f/\f<g:=by omega
    refine Lp.intro (Int×List Rg) (fun q=>⟨1,[(0,.arr 2 (q.2.map encR))],[(0,.lst (ws.map encSt)),(4,.os 0 2 0 q.2.length),(5,.v (.int .i64 (3*i:Nat))),(7,.v (.int .i64 b)),(8,.v (.int .i64 f)),(9,.v (.int .i64 g)),(10,.v (.int .i64 q.1))]⟩)
     (fun q=>a<=q.1/\q.1<=b+1/\(q.2.length:Int)<=5*i+(q.1-a)/\OutOk q.2) (fun q=>(7-q.1).toNat) (a,out) ⟨by simp only;omega,by simp only;omega,by simp only;omega,h4⟩ ?_ ?_
    ·(exact leA)
    rintro⟨d,ou⟩ ⟨k1,k2,k3,k4⟩
    simp only at k1 k2 k3 k4⊢
    rcases Int.lt_or_le b d with hbd|hbd
    ·(repeat' ((conv=>whnf);first|refine zG ?_|apply zA|(apply zI;intro h)|exact zT));(all_goals conv=>whnf)
     refine⟨(i+1,ou),⟨by simp only;omega,by simp only;omega,k4⟩,by simp only;omega,?_⟩
     rw[show((3*((i+1,ou):Nat×List Rg).1:Nat):Int)=((3*i:Nat):Int)+3 from by simp only;omega]
     (exact leA)
    ·(repeat' ((conv=>whnf);first|(with_reducible first|refine wr_i64 rfl zo zo ?_|refine wr_u32 rfl zo zo ?_)|refine zG ?_|apply zA|(apply zI;intro h)|exact zT));(all_goals conv=>whnf)
     refine⟨(d+1,ou++[⟨1440*d+f,1440*d+g-1,by omega,by omega,by omega,by omega⟩]),⟨by simp only;omega,by simp only;omega,by simp only[List.length_append,List.length_cons,List.length_nil];omega,fun r hr=>?_⟩,by simp only;omega,?_⟩
     ·rcases List.mem_append.1 hr with hr|hr
      ·exact k4 r hr
      ·rw[List.mem_singleton.1 hr]
       exact⟨d.toNat,by omega,by simp only;omega,by simp only;omega,by simp only;omega⟩
     ·simp only[List.map_append,List.length_append,List.map_cons,List.map_nil,List.length_cons,List.length_nil]
      (exact leA)
  ·(repeat' ((conv=>whnf);first|(with_reducible first|refine Ob.intro zd ?_|refine wr_any fun r=>?_|refine sl_full (List.length_map ..) ?_)|(refine c14 out [] zo zx fun rs q1 q2 q3=>?_)|refine zG ?_|apply zA|(apply zI;intro h)|exact zT));(all_goals conv=>whnf)
   all_goals first
    |exact⟨_,Weak.tup2 Weak.nils Weak.refl,hK [] _ win_nil zx⟩
    |exact⟨_,Weak.refl,hK _ _ (win_of_out h4 zo q1 fun v=>by rw[q2,has_nil];simp) (Nat.le_trans (canon_len (rs:=out) q1 fun v=>by rw[q2,has_nil];simp) zo)⟩
    |trace_state
theorem wds_two{c e:ByteArray}(hc:c∈winL)(he:e.size<=1000):Wds [c,e] where
 mod:=rfl
 len:=by simp
 size:=fun s hs=>by
  simp only[List.mem_cons,List.not_mem_nil,or_false]at hs
  rcases hs with rfl|rfl
  ·exact(winL_days _ hc).size
  ·exact he
 day:=fun j s hs=>by
  have:=(List.getElem?_eq_some_iff.1 hs).1
  simp only[List.length_cons,List.length_nil]at this
  obtain rfl:j=0:=by omega
  cases hs
  exact winL_days _ hc
theorem wds_snoc{ws:List ByteArray}{x y:ByteArray}(h:Wds ws)(hl:ws.length<=5)(hx:x∈winL)(hy:y.size<=1000):Wds (ws++[⟨#[44]⟩,x,y]) where
 mod:=by have:=h.mod;simp only[List.length_append,List.length_cons,List.length_nil];omega
 len:=by simp only[List.length_append,List.length_cons,List.length_nil];omega
 size:=fun s hs=>by
  rcases List.mem_append.1 hs with hs|hs
  ·exact h.size s hs
  ·simp only[List.mem_cons,List.not_mem_nil,or_false]at hs
   rcases hs with rfl|rfl|rfl
   ·decide
   ·exact(winL_days _ hx).size
   ·exact hy
 day:=fun j s hs=>by
  have hm:=h.mod
  rcases Nat.lt_or_ge (3*j) ws.length with hlt|hge
  ·rw[List.getElem?_append_left hlt]at hs
   exact h.day j s hs
  ·rw[List.getElem?_append_right hge]at hs
   have:=(List.getElem?_eq_some_iff.1 hs).1
   simp only[List.length_cons,List.length_nil]at this
   rw[show 3*j-ws.length=1 by omega]at hs
   cases hs
   exact winL_days _ hx
theorem enWin(raw:List Int)(pos:Nat)(hp:pos<=raw.length)(hr:raw.length<=9223372036854775807){K:KT}
  (hK:∀(rs:List Rg) (pos':Nat),WinOk rs->rs.length<=16->pos'<=raw.length->K (encRs rs) [tapeO raw pos']):ACall Tryz.prog 39 [.op 0 0] [tapeO raw pos] K:=by
 have b2:∀s,s∈houL->s.size<=1000:=by decide+kernel
 refine ofnWin rfl rfl ?_
 (repeat' ((conv=>whnf);first|(with_reducible first|refine nNext raw _ _ zo zp hr fun m1 p1 hm1 hp1=>?_|refine in_nat zo ?_|refine ix_strs winL 6 rfl rfl zo fun c hc=>?_|refine ix_strs houL 5 rfl rfl zo fun e he=>?_)|refine zG ?_|apply zA|(apply zI;intro h)|exact zT));(all_goals conv=>whnf)
 all_goals
  refine Lp.intro (Nat×Nat×List ByteArray) (fun g=>⟨4,[(0,tapeO raw g.1),(1,.arr 1 (winL.map encSt)),(2,.arr 1 (houL.map encSt)),(3,.arr 1 (g.2.2.map encSt))],[(0,.op 0 0),(3,.os 1 1 0 6),(4,.os 2 1 0 5),(5,.os 3 1 0 g.2.2.length),(6,.v (.int .i64 g.2.1))]⟩)
   (fun g=>g.1<=raw.length/\3*g.2.1+g.2.2.length<=8/\Wds g.2.2) (fun g=>g.2.1) (p1,m1,[c,e]) ⟨hp1,by simp only[List.length_cons,List.length_nil];omega,wds_two hc (b2 _ he)⟩ ?_ ?_
  ·(exact leA)
  rintro⟨p2,i,ws⟩ ⟨h1,h2,h3⟩
  simp only at h1 h2 h3⊢
  rcases Nat.lt_or_ge 0 i with hi0|hi0
  ·obtain⟨i',rfl⟩:∃i',i=i'+1:=⟨i-1,by omega⟩
   have hi1:((i'+1:Nat):Int)-1=(i':Int):=by omega
   (repeat' ((conv=>whnf);first|(with_reducible first|refine wr_i64 hi1 zo zo ?_|refine nNext raw _ _ zo zp hr fun m1 p1 hm1 hp1=>?_|refine in_nat zo ?_|refine ix_strs winL 6 rfl rfl zo fun x hx=>?_|refine ix_strs houL 5 rfl rfl zo fun y hy=>?_)|refine zG ?_|apply zA|(apply zI;intro h)|exact zT));(all_goals conv=>whnf)
   all_goals first
    |(refine⟨(p1,i',ws++[⟨#[44]⟩,x,y]),⟨hp1,by simp only[List.length_append,List.length_cons,List.length_nil];omega,wds_snoc h3 zo hx (b2 _ hy)⟩,by simp only;omega,?_⟩
      simp only[List.map_append,List.length_append,List.map_cons,List.map_nil,List.length_cons,List.length_nil]
      (exact leA))
    |trace_state
  ·obtain rfl:i=0:=by omega
   (repeat' ((conv=>whnf);first|(with_reducible first|refine sl_full (List.length_map ..) ?_|refine djParse ws h3 fun rs e hrs hrl=>?_)|refine zG ?_|apply zA|(apply zI;intro h)|exact zT));(all_goals conv=>whnf)
   exact hK _ _ hrs hrl h1
end Go.Proofs.YtahhamfngafmcaaGreatDoor
