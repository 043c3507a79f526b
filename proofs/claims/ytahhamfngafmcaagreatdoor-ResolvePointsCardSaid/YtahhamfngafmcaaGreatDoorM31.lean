/- A statement means exactly its headers: the statement ResolvePointsCardSaid holds, for every input, without a condition of ours (its card ties the package-level variables to the program's text). -/
import Derived.Test.YtahhamfngafmcaaGreatDoorM30
set_option linter.unusedVariables false
set_option linter.unusedSimpArgs false
set_option maxRecDepth 100000
set_option maxHeartbeats 4000000
namespace Go.Proofs.YtahhamfngafmcaaGreatDoor
open Go Go.Vm
theorem lead_map{U V:Type}{l:List Df}{vis:It->U->Prop}{vis':It->V->Prop}{p:V->U->Prop}(h:∀x u,vis x u↔∃r,vis' x r/\p r u){nm:ByteArray}{u:U}:Lead l vis nm u↔∃r,Lead l vis' nm r/\p r u:=by
 constructor
 ·intro hl
  induction hl with
  |here h1 h2 h3 h4 h5=>
   obtain⟨r,h6,h7⟩:=(h _ _).1 h5
   exact⟨r,.here h1 h2 h3 h4 h6,h7⟩
  |there h1 h2 h3 h4 h5 ih=>
   obtain⟨r,h6,h7⟩:=ih
   exact⟨r,.there h1 h2 h3 h4 h6,h7⟩
 ·rintro⟨r,hl,hp⟩
  induction hl with
  |here h1 h2 h3 h4 h5=>exact .here h1 h2 h3 h4 ((h _ _).2 ⟨_,h5,hp⟩)
  |there h1 h2 h3 h4 h5 ih=>exact .there h1 h2 h3 h4 (ih hp)
theorem lead_some{U:Type}{l:List Df}{vis:It->U->Prop}{nm:ByteArray}{u:U}(h:Lead l vis nm u):∃d x,d∈l/\x∈d.items/\x.kind≠3/\vis x u:=by
 induction h with
 |here h1 h2 h3 h4 h5=>exact⟨_,_,List.mem_of_getElem? h2,h3,h4,h5⟩
 |there h1 h2 h3 h4 h5 ih=>exact ih
def rgIt(t:Tp)(x:It)(r:Rg):Prop:=if x.kind=2 then r=x.pf.rg else ∃e,e∈t.edges/\sEq e.zone x.name=true/\r=e.pf.rg
theorem inIt_rg(t:Tp)(x:It)(u:Int):inIt t x u↔∃r,rgIt t x r/\inR r u=true:=by
 have h1:∀r:Rg,has [r] u=true↔inR r u=true:=fun r=>by simp[has,inR]
 unfold inIt rgIt
 by_cases hk:x.kind=2
 ·simp only[if_pos hk,exists_eq_left]
  exact h1 _
 ·simp only[if_neg hk]
  constructor
  ·rintro⟨e,he,hz,hu⟩;exact⟨_,⟨e,he,hz,rfl⟩,(h1 _).1 hu⟩
  ·rintro⟨r,⟨e,he,hz,rfl⟩,hu⟩;exact⟨e,he,hz,(h1 _).2 hu⟩
theorem has_inR{l:List Rg}{u:Int}:has l u=true↔∃r,r∈l/\inR r u=true:=by
 rw[has_iff]
 exact exists_congr fun r=>and_congr_right fun _=>inR_iff.symm
theorem has_pat{l:List Rg}{u v:Int}(h:∀r,r∈l->inR r u=inR r v):has l u=has l v:=by
 rw[Bool.eq_iff_iff,has_inR,has_inR]
 exact exists_congr fun r=>and_congr_right fun hr=>by rw[h r hr]
theorem grp_un(t:Tp)(i:Nt)(nm:ByteArray)(h:(grpE t i.grps nm).1=0):UnB (rgsI t i) (has (grpE t i.grps nm).2):=by
 cases hn:sEq nm ⟨#[]⟩with
 |true=>
  refine⟨fun r=>∃e,e∈t.edges/\r=e.pf.rg,fun u=>?_⟩
  have e:(grpE t i.grps nm).2=t.edges.map fun e=>e.pf.rg:=by unfold grpE;rw[if_pos hn]
  rw[e,has_inR]
  constructor
  ·rintro⟨r,hr,hu⟩
   obtain⟨x,hx,rfl⟩:=List.mem_map.1 hr
   exact⟨_,List.mem_append_left _ (List.mem_map.2 ⟨x,hx,rfl⟩),⟨x,hx,rfl⟩,hu⟩
  ·rintro⟨r,_,⟨x,hx,rfl⟩,hu⟩
   exact⟨_,List.mem_map.2 ⟨x,hx,rfl⟩,hu⟩
 |false=>
  obtain⟨_,hl⟩:=grp_lead hn h
  refine⟨fun r=>Lead i.grps (rgIt t) nm r,fun u=>?_⟩
  rw[hl u,lead_map (inIt_rg t)]
  constructor
  ·rintro⟨r,hr,hu⟩
   refine⟨r,?_,hr,hu⟩
   obtain⟨d,x,hd,hx,_,hv⟩:=lead_some hr
   unfold rgIt at hv
   split at hv
   ·subst hv
    exact List.mem_append_right _ (List.mem_flatMap.2 ⟨d,hd,List.mem_map.2 ⟨x,hx,rfl⟩⟩)
   ·obtain⟨e,he,_,rfl⟩:=hv
    exact List.mem_append_left _ (List.mem_map.2 ⟨e,he,rfl⟩)
  ·rintro⟨r,_,hr,hu⟩;exact⟨r,hr,hu⟩
theorem grpP_err(t:Tp)(i:Nt)(nm:ByteArray):(grpP t i nm).2=0\/(grpP t i nm).2=5\/(grpP t i nm).2=8:=by
 have:=grpE_err t i.grps nm
 unfold grpP
 split
 ·exact .inl rfl
 ·exact this
theorem grpP_can(t:Tp)(i:Nt)(nm:ByteArray)(h:(grpP t i nm).2=0):Canon (grpP t i nm).1/\UnB (rgsI t i) (has (grpP t i nm).1):=by
 unfold grpP at h⊢
 split at h
 ·rename_i h0
  rw[if_pos h0]
  obtain⟨h1,h2⟩:=canO_has (grpE t i.grps nm).2
  refine⟨h1,?_⟩
  obtain⟨P,hP⟩:=grp_un t i nm h0
  exact⟨P,fun u=>by rw[h2 u];exact hP u⟩
 ·rename_i h0;exact absurd h h0
section
variable {I:List (Int×Rg)}
structure Sx (I:List (Int×Rg)) (X:List Bx):Prop where
 ini:∀q,InP q->memK q 5 X=true->memK q 3 initS=true
 sig:∀q q',InP q->InP q'->q 0=q' 0->q 1=q' 1->(∀b,b∈initS->inK q 3 b=inK q' 3 b)->sigI I q q'->memK q 5 X=memK q' 5 X
theorem sx_len{X:List Bx}(h:Sx I X)(hk:∀x,x∈I->kindI x)(h4:I.length<=4)(u v:Int)(u0:0<=u)(u1:u<=4294967295)(v0:0<=v)(v1:v<=4294967295):(cano orB 3 (atF 1 v (atF 0 u X)) []).length<=16:=by
 have hin:∀p,InP p->InP (setF (setF p 1 v) 0 u):=fun p hp=>inP_set (inP_set hp (f:=1) v0 v1) (f:=0) u0 u1
 refine three_len (I:=I) ⟨fun p hp hm=>?_,fun p p' hp hp' h1 h2=>?_⟩ hk h4
 ·rw[at_two]at hm
  have:=h.ini _ (hin p hp) hm
  rwa[memK3_set (by omega),memK3_set (by omega)]at this
 ·rw[at_two,at_two]
  refine h.sig _ _ (hin p hp) (hin p' hp') rfl rfl (fun b hb=>?_) h2
  rw[inK3_set (by omega),inK3_set (by omega),inK3_set (by omega),inK3_set (by omega)]
  exact h1 b hb
theorem comb_small{op:Bool->Bool->Bool}{a b:List Bx}(ha:setB a=true)(hb:setB b=true){n:Nat}(hn:n<=4096)(h:∀X:List Bx,(∀q,InP q->memK q 5 X=op (memK q 5 a) (memK q 5 b))->(cano orB 5 X []).length<=n):(combP op a b).2=0/\∀q,InP q->memK q 5 (combP op a b).1=op (memK q 5 a) (memK q 5 b):=by
 have h1:=h (cano op 5 a b) fun q hq=>cano_mem op hq 5 _ _ (Nat.le_refl _)
 rw[cano_ext2 orB op 5 (cano op 5 a b) [] a b (Nat.le_refl _) fun q hq=>by
  rw[cano_mem op hq 5 _ _ (Nat.le_refl _),memK_nil];simp[orB]]at h1
 have h0:(combP op a b).2=0:=by
  rw[combP_set ha hb]
  simp only[limE]
  rw[if_neg (by omega)]
 exact⟨h0,fun q hq=>combP_mem ha hb h0 hq⟩
theorem cut_apart{a b:List Rg}(ha:Canon a)(hb:Canon b)(h:∀u,has a u=true->has b u=false):ApartR (a++b):=by
 refine List.pairwise_append.2 ⟨apart_of ha,apart_of hb,fun r hr s hs=>?_⟩
 rcases Int.lt_or_le r.hi s.lo with h1|h1
 ·exact .inl h1
 rcases Int.lt_or_le s.hi r.lo with h2|h2
 ·exact .inr h2
 exfalso
 have r1:=ha.1 r hr;have s1:=hb.1 s hs
 have h3:=h (max r.lo s.lo) (has_inR.2 ⟨r,hr,inR_iff.2 (by omega)⟩)
 rw[has_inR.2 ⟨s,hs,inR_iff.2 (by omega)⟩]at h3
 cases h3
theorem and_small{B f g:List Rg}(hB:B.length<=11)(hf:Canon f)(hg:Canon g)(uf:UnB B (has f))(ug:UnB B (has g)){v:List Bx}(hv:Sv I v)(hk:∀x,x∈I->kindI x)(h4:I.length<=4){X:List Bx}(hX:∀q,InP q->memK q 5 X=((has f (q 0)&&has g (q 1))&&memK q 5 v)):(cano orB 5 X []).length<=1936:=by
 have lf:=un_and hf uf uf fun u=>(Bool.and_self _).symm
 have lg:=un_and hg ug ug fun u=>(Bool.and_self _).symm
 have hs:Sx I X:=⟨fun q hq h=>by
  rw[hX q hq,Bool.and_eq_true]at h;exact hv.ini q hq h.2,fun q q' hq hq' e0 e1 h1 h2=>by rw[hX q hq,hX q' hq',e0,e1,hv.sig q q' hq hq' h1 h2]⟩
 have low:∀q q':Nat->Int,InP q->InP q'->q 2=q' 2->q 3=q' 3->q 4=q' 4->memK q 5 v=memK q' 5 v:=fun q q' hq hq' e2 e3 e4=>hv.sig q q' hq hq' (fun b _=>inK_congr 3 b (by omega) fun f h4 h5=>by
  obtain rfl|rfl|rfl:f=2\/f=3\/f=4:=by omega
  ·exact e2
  ·exact e3
  ·exact e4) fun x _=>by rw[e2,e4]
 have:=grid_len (X:=X) f (fun _=>g) 16 (apart_of hf) hf.1 (fun _ _=>apart_of hg) (fun _ _=>hg.1) (fun q hq h=>by
  rw[hX q hq,Bool.and_eq_true,Bool.and_eq_true,has_inR,has_inR]at h
  obtain⟨⟨⟨r,hr,h1⟩,s,hs,h2⟩,_⟩:=h
  exact⟨r,hr,h1,s,hs,h2⟩) (fun q q' hq hq' r hr h h' hs e2 e3 e4=>by
  rw[hX q hq,hX q' hq',low q q' hq hq' e2 e3 e4,has_pat (apart_pat (apart_of hf) hr h h'),has_pat hs]) (sx_len hs hk h4)
 rw[sum_nat_const]at this
 have h1:f.length*(g.length*16)<=11*(11*16):=Nat.mul_le_mul (by omega) (Nat.mul_le_mul_right _ (by omega))
 omega
theorem but_small{B f g o n:List Rg}(hB:B.length<=11)(hf:Canon f)(hg:Canon g)(uf:UnB B (has f))(ug:UnB B (has g))(uo:UnB B (has o))(un:UnB B (has n)){v:List Bx}(hv:Sv I v)(hk:∀x,x∈I->kindI x)(h4:I.length<=4){X:List Bx}(hX:∀q,InP q->memK q 5 X=(((has f (q 0)&&has g (q 1))&&memK q 5 v)&& !(has o (q 0)&&has n (q 1)))):(cano orB 5 X []).length<=3872:=by
 obtain⟨a,ca,ha⟩:=sub_ex f o
 obtain⟨b,cb,hb0⟩:=sub_ex f a
 obtain⟨c,cc,hc⟩:=sub_ex g n
 have hb:∀u,has b u=(has f u&&has o u):=fun u=>by rw[hb0,ha];cases has f u<;>cases has o u<;>rfl
 have la:=un_diff ca uf uo ha
 have lb:=un_and cb uf uo hb
 have lc:=un_diff cc ug un hc
 have lg:=un_and hg ug ug fun u=>(Bool.and_self _).symm
 have hs:Sx I X:=⟨fun q hq h=>by
  rw[hX q hq,Bool.and_eq_true,Bool.and_eq_true]at h;exact hv.ini q hq h.1.2,fun q q' hq hq' e0 e1 h1 h2=>by rw[hX q hq,hX q' hq',e0,e1,hv.sig q q' hq hq' h1 h2]⟩
 have low:∀q q':Nat->Int,InP q->InP q'->q 2=q' 2->q 3=q' 3->q 4=q' 4->memK q 5 v=memK q' 5 v:=fun q q' hq hq' e2 e3 e4=>hv.sig q q' hq hq' (fun b _=>inK_congr 3 b (by omega) fun f h4 h5=>by
  obtain rfl|rfl|rfl:f=2\/f=3\/f=4:=by omega
  ·exact e2
  ·exact e3
  ·exact e4) fun x _=>by rw[e2,e4]
 have hap:ApartR (a++b):=cut_apart ca cb fun u h=>by
  rw[ha]at h;rw[hb]
  cases hf1:has f u<;>cases ho1:has o u<;>simp_all
 have hra:∀r,r∈a->∀u,inR r u=true->has f u=true/\has o u=false:=fun r hr u hu=>by
  have:=has_inR.2 ⟨r,hr,hu⟩
  rw[ha,Bool.and_eq_true,Bool.not_eq_true']at this;exact this
 have hrb:∀r,r∈b->∀u,inR r u=true->has f u=true/\has o u=true:=fun r hr u hu=>by
  have:=has_inR.2 ⟨r,hr,hu⟩
  rw[hb,Bool.and_eq_true]at this;exact this
 have ga:∀r,r∈a->(if has o r.lo then c else g)=g:=fun r hr=>by rw[(hra r hr r.lo (inR_iff.2 ⟨Int.le_refl _,ca.1 r hr⟩)).2];rfl
 have gb:∀r,r∈b->(if has o r.lo then c else g)=c:=fun r hr=>by rw[(hrb r hr r.lo (inR_iff.2 ⟨Int.le_refl _,cb.1 r hr⟩)).2];rfl
 have hor:∀r:Rg,(if has o r.lo then c else g)=g\/(if has o r.lo then c else g)=c:=fun r=>by
  cases has o r.lo
  ·exact .inl rfl
  ·exact .inr rfl
 have:=grid_len (X:=X) (a++b) (fun r=>if has o r.lo then c else g) 16 hap (fun r hr=>by
   rcases List.mem_append.1 hr with hr|hr
   ·exact ca.1 r hr
   ·exact cb.1 r hr) (fun r _=>by
   rcases hor r with h|h
   ·simp only[h];exact apart_of hg
   ·simp only[h];exact apart_of cc) (fun r _=>by
   rcases hor r with h|h
   ·simp only[h];exact hg.1
   ·simp only[h];exact cc.1) (fun q hq h=>by
   rw[hX q hq]at h
   simp only[Bool.and_eq_true,Bool.not_eq_true',Bool.and_eq_false_iff]at h
   obtain⟨⟨⟨h1,h2⟩,_⟩,h3⟩:=h
   cases ho:has o (q 0)with
   |false=>
    have:has a (q 0)=true:=by rw[ha,h1,ho];rfl
    obtain⟨r,hr,hi⟩:=has_inR.1 this
    refine⟨r,List.mem_append_left _ hr,hi,?_⟩
    simp only[ga r hr]
    exact has_inR.1 h2
   |true=>
    have:has b (q 0)=true:=by rw[hb,h1,ho];rfl
    obtain⟨r,hr,hi⟩:=has_inR.1 this
    refine⟨r,List.mem_append_right _ hr,hi,?_⟩
    simp only[gb r hr]
    refine has_inR.1 ?_
    rw[hc,h2]
    rcases h3 with h3|h3
    ·rw[ho]at h3;cases h3
    ·rw[h3];rfl) (fun q q' hq hq' r hr h h' hs e2 e3 e4=>by
   rw[hX q hq,hX q' hq',low q q' hq hq' e2 e3 e4]
   rcases List.mem_append.1 hr with hr|hr
   ·simp only[ga r hr]at hs
    rw[has_pat hs,(hra r hr _ h).1,(hra r hr _ h).2,(hra r hr _ h').1,(hra r hr _ h').2]
    simp
   ·simp only[gb r hr]at hs
    have e:=has_pat hs
    rw[hc,hc]at e
    rw[(hrb r hr _ h).1,(hrb r hr _ h).2,(hrb r hr _ h').1,(hrb r hr _ h').2]
    revert e
    cases has g (q 1)<;>cases has g (q' 1)<;>cases has n (q 1)<;>cases has n (q' 1)<;>cases memK q' 5 v<;>decide) (sx_len hs hk h4)
 have h1:((a++b).map fun r=>(if has o r.lo then c else g).length*16).sum<=((a++b).map fun _=>176).sum:=sum_nat_le fun r _=>by
  rcases hor r with h|h<;>rw[h]<;>omega
 rw[sum_nat_const,List.length_append]at h1
 omega
end
theorem stmP_ok{t:Tp}{i:Nt}(hB:(rgsI t i).length<=11)(hs:DfsOk i.svcs false)(hk:∀x,x∈svcI i->kindI x)(h4:(svcI i).length<=4)(s:Sm):
  ((stmP t i s).2=0\/(stmP t i s).2=5\/(stmP t i s).2=8)/\((stmP t i s).2=0->((grpP t i s.frm).2=0/\(grpP t i s.to).2=0/\(svcP i s.svc).2=0/\(s.exc=true->(grpP t i s.exF).2=0/\(grpP t i s.exT).2=0))/\
    ∀q,InP q->memK q 5 (stmP t i s).1=(((has (grpP t i s.frm).1 (q 0)&&has (grpP t i s.to).1 (q 1))&&memK q 5 (svcP i s.svc).1)&& !(s.exc&&(has (grpP t i s.exF).1 (q 0)&&has (grpP t i s.exT).1 (q 1))))):=by
 have e1:=grpP_err t i s.frm
 have e2:=grpP_err t i s.to
 obtain⟨e3,v3,_⟩:=svcP_ok hs hk (by omega) s.svc
 have c1:=grpP_can t i s.frm
 have c2:=grpP_can t i s.to
 have s3:=svcP_set i s.svc
 unfold stmP
 by_cases h1:(grpP t i s.frm).2=0
 rotate_left
 ·rw[bindE_no h1];exact⟨e1,fun h=>absurd h h1⟩
 rw[bindE_ok h1]
 by_cases h2:(grpP t i s.to).2=0
 rotate_left
 ·rw[bindE_no h2];exact⟨e2,fun h=>absurd h h2⟩
 rw[bindE_ok h2]
 by_cases h3:(svcP i s.svc).2=0
 rotate_left
 ·rw[bindE_no h3];exact⟨e3,fun h=>absurd h h3⟩
 rw[bindE_ok h3]
 obtain⟨c1,u1⟩:=c1 h1
 obtain⟨c2,u2⟩:=c2 h2
 have l1:=un_and c1 u1 u1 fun u=>(Bool.and_self _).symm
 have l2:=un_and c2 u2 u2 fun u=>(Bool.and_self _).symm
 have hfg:(grpP t i s.frm).1.length*(grpP t i s.to).1.length<=11*11:=Nat.mul_le_mul (by omega) (by omega)
 obtain⟨b0,bm⟩:=btw_make c1 c2 (by omega)
 have hb:=setB_makeP (btwB (grpP t i s.frm).1 (grpP t i s.to).1)
 obtain⟨a0,am⟩:=comb_small (op:=anB) hb s3 (n:=1936) (by decide) fun X hX=>and_small hB c1 c2 u1 u2 v3 hk h4 fun q hq=>by rw[hX q hq,bm q hq];rfl
 have am2:∀q,InP q->memK q 5 (combP anB (makeP (btwB (grpP t i s.frm).1 (grpP t i s.to).1)).1 (svcP i s.svc).1).1=((has (grpP t i s.frm).1 (q 0)&&has (grpP t i s.to).1 (q 1))&&memK q 5 (svcP i s.svc).1):=fun q hq=>by rw[am q hq,bm q hq];rfl
 cases hx:s.exc with
 |false=>
  rw[bindE_ok (by simp),bindE_ok (by simp),bindE_ok b0,if_pos (.inr rfl)]
  refine⟨.inl a0,fun _=>⟨⟨h1,h2,h3,fun h=>by cases h⟩,fun q hq=>?_⟩⟩
  rw[am2 q hq]
  simp
 |true=>
  simp only[if_true]
  have e4:=grpP_err t i s.exF
  have e5:=grpP_err t i s.exT
  by_cases h5:(grpP t i s.exF).2=0
  rotate_left
  ·rw[bindE_no h5];exact⟨e4,fun h=>absurd h h5⟩
  rw[bindE_ok h5]
  by_cases h6:(grpP t i s.exT).2=0
  rotate_left
  ·rw[bindE_no h6];exact⟨e5,fun h=>absurd h h6⟩
  rw[bindE_ok h6,bindE_ok b0,if_neg (by rw[a0];simp)]
  obtain⟨c4,u4⟩:=grpP_can t i s.exF h5
  obtain⟨c5,u5⟩:=grpP_can t i s.exT h6
  have l4:=un_and c4 u4 u4 fun u=>(Bool.and_self _).symm
  have l5:=un_and c5 u5 u5 fun u=>(Bool.and_self _).symm
  have hon:(grpP t i s.exF).1.length*(grpP t i s.exT).1.length<=11*11:=Nat.mul_le_mul (by omega) (by omega)
  obtain⟨d0,dm⟩:=btw_make c4 c5 (by omega)
  have hd:=setB_makeP (btwB (grpP t i s.exF).1 (grpP t i s.exT).1)
  rw[bindE_ok d0]
  obtain⟨r0,rm⟩:=comb_small (op:=woB) (setB_combP anB (makeP (btwB (grpP t i s.frm).1 (grpP t i s.to).1)).1 (svcP i s.svc).1) hd (n:=3872) (by decide) fun X hX=>but_small hB c1 c2 u1 u2 u4 u5 v3 hk h4 fun q hq=>by rw[hX q hq,am2 q hq,dm q hq];rfl
  refine⟨.inl r0,fun _=>⟨⟨h1,h2,h3,fun _=>⟨h5,h6⟩⟩,fun q hq=>?_⟩⟩
  rw[rm q hq,am2 q hq,dm q hq]
  simp[woB]
theorem rgsI_few{t:Tp}{i:Nt}(h5:t.edges.length<=5)(h:GNt i):(rgsI t i).length<=11:=by
 have hg:=sum_flat_le (fun d:Df=>d.items.map fun y=>y.pf.rg) (c:=2) i.grps fun d hd=>by rw[List.length_map];exact h.few.gi d hd
 have hg3:=Nat.mul_le_mul_right 2 h.few.g3
 unfold rgsI
 rw[List.length_append,List.length_map]
 omega
theorem enTop3f(raw:List Int)(pos:Nat)(hp:pos<=raw.length)(hr:raw.length<=9223372036854775807){K:KT}
  (hK:∀(t:Tp) (pos':Nat),GTop t->t.devs.length<=3->pos'<=raw.length->K (encT t) [tapeO raw pos']):
  ACall Tryz.prog 10 [.op 0 0,.v (.int .i64 3)] [tapeO raw pos] K:=by
 refine ACall_fin (cnTop raw pos 3 (by decide) hp hr fun t p h1 h2 h3=>?_)
 (repeat' ((conv=>whnf);first|(with_reducible refine sl_full (List.length_map ..) ?_)|refine zG ?_|apply zA|(apply zI;intro h)|exact zT));(all_goals conv=>whnf)
 exact hK t p h1 (by omega) h3
theorem enInt3(raw:List Int)(pos:Nat)(t:Tp)(hg:GTop t)(hp:pos<=raw.length)(hr:raw.length<=9223372036854775807){K:KT}
  (hK:∀(i:Nt) (pos':Nat),ENt i->pos'<=raw.length->K (encNt i) [tapeO raw pos']):
  ACall Tryz.prog 11 [.op 0 0,encT t,.v (.int .i64 3)] [tapeO raw pos] K:=enInt raw pos t hg.e5 (by have:=hg.d6;omega) (tpn_top hg) 3 (by decide) hp hr hK
theorem bindE_set{α:Type}{x:α×Int}{k:α->List Bx×Int}(h:setB (k x.1).1=true):setB (bindE x k).1=true:=by
 unfold bindE
 split
 ·exact setB_nil
 ·exact h
theorem stmP_set(t:Tp)(i:Nt)(s:Sm):setB (stmP t i s).1=true:=by
 unfold stmP
 refine bindE_set (bindE_set (bindE_set (bindE_set (bindE_set (bindE_set ?_)))))
 split
 ·exact setB_combP ..
 ·exact bindE_set (setB_combP ..)
theorem cPoints(raw:List Int)(h0:Hd)(hr:raw.length<=9223372036854775807)(ho:h0.Ok):ACall Tryz.prog 8 [.lst (raw.map encI),encHd h0] [] Yes:=by
 refine ofl17Poi rfl rfl ?_
 (repeat' ((conv=>whnf);first|(with_reducible refine c9 raw ?_)|(refine enTop3f raw 0 (Nat.zero_le _) hr fun t p1 ht hd hp1=>?_)|(with_reducible first|refine enInt3 raw _ t ht (by with_reducible assumption) hr fun i p2 hi hp2=>?_|refine cwSane ?_|refine nNext raw _ _ (by simp only[List.length_map]at*;have:=hi.ok.tl;omega) (by with_reducible assumption) hr fun m p3 hm hp3=>?_|refine in_nat (by simp only[List.length_map]at*;omega) ?_|refine ix_getM (f:=encSm) (by simp only[List.length_map]at*;omega) fun s hs=>?_)|refine zG ?_|apply zA|(apply zI;intro h)|exact zT));(all_goals conv=>whnf)
 all_goals first
  |exact .inl rfl
  |exact .inr rfl
  |skip
 have hb:=bnd_ent hi
 have hc:=comp_top ht
 have hnt:=ntB_true hi.ok
 have he5:=ht.e5
 have h5s:=hi.gen
 have hml:m<i.sts.length:=(List.getElem?_eq_some_iff.1 hs).1
 have hst:∀{K:KT},K (.tup [encXs (stmP t i s).1,.v (.int .i64 (stmP t i s).2)]) []->ACall Tryz.prog 37 [encT t,encNt i,.v (.int .i64 m)] [] K:=fun h=>
  crStatement t (by omega) i hb m (by rw[stmV,if_pos ⟨hc,hnt⟩,if_neg (by omega),Int.toNat_natCast,hs];exact h)
 have hg:∀(nm:ByteArray) {K:KT},K (.tup [encRs (grpP t i nm).1,.v (.int .i64 (grpP t i nm).2)]) []->ACall Tryz.prog 13 [encT t,encNt i,.v (.string nm)] [] K:=fun nm K h=>
  crGroup t (by omega) i hb nm (by rw[grpV,if_pos ⟨hc,hnt⟩];exact h)
 have hsv:∀{K:KT},K (.tup [encXs (svcP i s.svc).1,.v (.int .i64 (svcP i s.svc).2)]) []->ACall Tryz.prog 24 [encNt i,.v (.string s.svc)] [] K:=fun h=>
  crService i hb s.svc (by rw[svcV,if_pos hnt];exact h)
 obtain⟨herr,hlaw⟩:=stmP_ok (rgsI_few he5 hi.gen) hi.ok.s (svcI_kind hi.gen) (svcI_few hi.gen) s
 have lF:=grpP_len hc hb s.frm
 have lG:=grpP_len hc hb s.to
 have lO:=grpP_len hc hb s.exF
 have lN:=grpP_len hc hb s.exT
 have sV:=svcP_set i s.svc
 have sX:=stmP_set t i s
 have g1:=fun {K} h=>@hg s.frm K h
 have g2:=fun {K} h=>@hg s.to K h
 have g4:=fun {K} h=>@hg s.exF K h
 have g5:=fun {K} h=>@hg s.exT K h
 clear hg
 generalize stmP t i s=X at*
 generalize grpP t i s.frm=F at*
 generalize grpP t i s.to=G at*
 generalize grpP t i s.exF=O at*
 generalize grpP t i s.exT=N at*
 generalize svcP i s.svc=V at*
 obtain⟨Fs,Fe⟩:=F
 obtain⟨Gs,Ge⟩:=G
 obtain⟨Os,Oe⟩:=O
 obtain⟨Ns,Ne⟩:=N
 obtain⟨Vs,Ve⟩:=V
 obtain⟨Xs,Xe⟩:=X
 simp only at hst hsv herr hlaw lF lG lO lN sV sX g1 g2 g4 g5
 by_cases hx0:Xe=0
 rotate_left
 ·(repeat' ((conv=>whnf);first|(with_reducible first|refine hst ?_|refine cwSane ?_)|refine zG ?_|apply zA|(apply zI;intro h)|exact zT));(all_goals conv=>whnf)
  all_goals first
   |exact .inl rfl
   |exact .inr rfl
   |(exfalso;omega)
   |trace_state
 obtain⟨_,hmem⟩:=hlaw hx0
 have lX:=(setB_pset sX).len
 have lV:=(setB_pset sV).len
 have hX:∀g:Hd,g.Ok->(Xs.any fun b=>conB b g)=(((has Fs g.src&&has Gs g.dst)&&(Vs.any fun b=>conB b g))&& !(s.exc&&(has Os g.src&&has Ns g.dst))):=fun g hg=>by
  rw[con_mem sX hg,con_mem sV hg,hmem (hdQ g) (hdQ_in hg)]
  rfl
 clear hmem hlaw herr
 (repeat' ((conv=>whnf);first|(with_reducible first|refine hst ?_|refine g1 ?_|refine g2 ?_|refine hsv ?_|refine enNear raw _ Xs (by omega) (by with_reducible assumption) hr fun a p4 ha hp4=>?_|refine enNear raw _ Vs (by omega) (by with_reducible assumption) hr fun b p5 hb2 hp5=>?_|refine cvHdr raw _ (by with_reducible assumption) hr fun c p6 hc2 hp6=>?_)|refine zG ?_|apply zA|(apply zI;intro h)|exact zT));(all_goals conv=>whnf)
 all_goals
  obtain⟨hs4,hhs⟩:∃hs4:List Hd,hs4=[h0,a,b,c]:=⟨_,rfl⟩
  have hsl:hs4.length=4:=by rw[hhs];rfl
  have hok:∀g,g∈hs4->g.Ok:=fun g hg=>by
   rw[hhs]at hg
   simp only[List.mem_cons,List.not_mem_nil,or_false]at hg
   rcases hg with rfl|rfl|rfl|rfl<;>assumption
  refine Lp.intro Nat (fun k=>⟨6,[(5,.arr 5 (hs4.map encHd)),(4,boxSm s),(3,boxNt i),(2,boxT t)],[(6,.op 2 0),(7,.op 3 0),(9,.op 4 0),(10,encXs Xs),(12,encRs Fs),(14,encRs Gs),(16,encXs Vs),(18,.os 5 5 0 4),(19,.v (.int .i64 k))]⟩) (fun k=>k<=4) (fun k=>4-k) 0 (Nat.zero_le _) ?_ ?_
  ·rw[hhs]
   (exact leA)
  intro k hk
  rcases Nat.lt_or_ge k 4 with hk4|hk4
  ·obtain⟨g,hgv⟩:∃g,hs4[0+k]? =some g:=⟨_,List.getElem?_eq_getElem (by omega)⟩
   have hgo:=hok g (List.mem_of_getElem? hgv)
   have hXg:=hX g hgo
   (repeat' ((conv=>whnf);first|(with_reducible first|refine in_nat (by(try simp only[List.length_map]);omega) ?_|refine ix_map hgv ?_|refine c34 Fs g.src (by omega) ?_|refine c34 Gs g.dst (by omega) ?_|refine eyCont Vs g hgo (by omega) ?_|refine g4 ?_|refine g5 ?_|refine c34 Os g.src (by omega) ?_|refine c34 Ns g.dst (by omega) ?_|refine eyCont Xs g hgo (by omega) ?_)|refine zG ?_|apply zA|(apply zI;intro h)|exact zT));(all_goals conv=>whnf)
   all_goals first
    |(refine⟨k+1,hk4,by omega,?_⟩
      rw[Int.natCast_add,Int.natCast_one]
      (exact leA)
      done)
    |(exfalso
      clear hX g1 g2 g4 g5 hst hsv
      rw[hXg]at h
      clear hXg
      generalize has Fs g.src=x1 at*
      generalize has Gs g.dst=x2 at*
      generalize has Os g.src=x3 at*
      generalize has Ns g.dst=x4 at*
      generalize (Vs.any fun b=>conB b g)=x5 at*
      generalize s.exc=x6 at*
      cases x1<;>cases x2<;>cases x3<;>cases x4<;>cases x5<;>cases x6<;>first|contradiction|(exact absurd h (by decide))
      done)
    |trace_state
  ·(repeat' ((conv=>whnf);first|(with_reducible refine cwSane ?_)|refine zG ?_|apply zA|(apply zI;intro h)|exact zT));(all_goals conv=>whnf)
   all_goals first
    |exact .inl rfl
    |exact .inr rfl
    |trace_state
open Go Go.Vm Go.ChangeShapes Go.WideShapes Go.ChangeAt Go.RowKit
theorem resolvePoints_lifted(os:Os)(started:os.Started)(H:Type)(enc:TypeId×Value->H):
  ReturnsInHanded {} Tryz.checked os 8 .any (fun w args=>(Rows.resolvePointsSpec.pre enc Tryz.prog Tryz.f8 [] false w args/\laidMetH Tryz.prog laid3 w)/\sizedMet enc Tryz.prog Tryz.f8 (OpenSpec.ofChange Rows.resolvePointsSpec) false w args)
   (Rows.resolvePointsSpec.post enc Tryz.prog Tryz.f8 false true false false):=by
 refine returnsInHanded_of_change_and (C:=Tryz.checked) (X:=fun w _=>laidMetH Tryz.prog laid3 w) (fun _ _ _ hh h=>h.of_heap hh) ownNone started (by kernel_rfl) Tryz.func8
  (ChangeSpec.witness_shaped (enc:=enc) (C:=Tryz.checked) (os:=os) (X:=fun w _=>laidMetH Tryz.prog laid3 w) false (World.doorLaid Tryz.prog 400 os) #[.slice none 0 0,.agg #[.int .u32 0,.int .u32 0,.int .u8 0,.int .u16 0,.int .u16 0]] 8 rfl (World.shaped_of_RefB (by kernel_rfl) (by kernel_rfl)) (by kernel_rfl) (by kernel_rfl) (by kernel_rfl) (door_met os _)) ?_
 intro W base args ds gs before hval0 hW _ _ hL _
 have hval:∀(j:Nat) t v,Tryz.f8.params[j]? =some t->args[j]? =some v->Value.okWide Tryz.prog W .any base t v:=hval0
 refine law_contract (P:=Tryz.prog) (t:=4) (d:=6) laidOut (by kernel_rfl) (by kernel_rfl) rfl rfl (by kernel_rfl) (fun ds hds=>?_) (fun xs hxs=>?_) (glob_of hL) hval hW
 ·have hds:ds.length=2:=hds.trans (show Tryz.f8.params.size=2 by kernel_rfl)
  match ds,hds with
  |[d0,d1],_=>rfl
 ·match xs,hxs with
  |[a0,a1],⟨h0,h1,_⟩=>
   obtain⟨raw0,rfl,hr0⟩:=ty_is (d:=4) h0
   obtain⟨g1,rfl,o1⟩:=tz_hd (d:=4) h1
   exact cPoints raw0 g1 hr0 o1
theorem resolvePoints_row:Rows.ResolvePointsSaid:=
 OpenClaim.holds_of_wide 8 Tryz.f8 rfl rfl rfl rfl rfl rfl rfl ⟨rfl,rfl,rfl,rfl,rfl⟩ rfl rfl rfl rfl rfl (by kernel_rfl) Tryz.func8 (by kernel_rfl)
  (of_decide_eq_true (by kernel_rfl)) (by unfold Func.isWrapper;first|(rw[if_pos (by decide+kernel)];kernel_rfl)|(rw[if_neg (by decide+kernel)];exact⟨rfl,rfl⟩))
  (fun os started H enc _=>resolvePoints_lifted os started H enc)
theorem resolvePoints_holds:Rows.ResolvePointsCardSaid:=
 Claim7.holds_tied_plain_at .later [] [.data,.widerDeep] true Rows.resolvePointsCard.stood.harness false
  resolvePoints_row (fun _ h=>by cases h) (by kernel_rfl) (fun _ h=>by cases h) resolvePoints_row_tie rfl ⟨rfl,rfl⟩ (by kernel_rfl) rfl
  (fun f fn hf hfn=>by
   obtain rfl:f=8:=Option.some.inj ((show Tryz.prog.funcNamed "netsegment/nsglaw17.ResolvePoints"=some 8 by kernel_rfl).symm.trans hf)|>.symm
   obtain rfl:fn=Tryz.f8:=(Option.some.inj (Tryz.func8.symm.trans hfn)).symm
   exact⟨by kernel_rfl,fun j t ht=>wants_none (ts:=Tryz.f8.params.toList) (by kernel_rfl) (List.mem_of_getElem? (by rw[Array.getElem?_toList];exact ht))⟩)
  (by kernel_rfl)
#print axioms resolvePoints_holds
end Go.Proofs.YtahhamfngafmcaaGreatDoor
