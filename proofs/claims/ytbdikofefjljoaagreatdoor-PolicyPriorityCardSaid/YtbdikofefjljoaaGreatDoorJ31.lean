/- Statements of few groups and services: no limit is met, and which headers they mean. Plain. -/
import Derived.Test.YtbdikofefjljoaaGreatDoorJ30
set_option linter.unusedVariables false
set_option linter.unusedSimpArgs false
set_option maxRecDepth 100000
set_option maxHeartbeats 4000000
namespace Go.Proofs.YtbdikofefjljoaaGreatDoor
open Go Go.Vm
theorem lead_map{U V:Type}{l:List Df}{vis:It->U->Prop}{vis':It->V->Prop}{p:V->U->Prop}(h:∀x u,vis x u↔∃r,vis' x r/\p r u){nm:ByteArray}{u:U}:Lead l vis nm u↔∃r,Lead l vis' nm r/\p r u:=by
 constructor
 ·intro hl
  induction hl with
  |here h1 h2 h3 h4 h5=>
   obtain⟨r,h6,h7⟩:=(h _ _).1 h5
   exact⟨r,.here h1 h2 h3 h4 h6,h7⟩
  |there h1 h2 h3 h4 h5 ih=>
   obtain⟨r,h6,h7⟩:=ih
   exact⟨r,.there h1 h2 h3 h4 h6,h7⟩
 ·rintro⟨r,hl,hp⟩
  induction hl with
  |here h1 h2 h3 h4 h5=>exact .here h1 h2 h3 h4 ((h _ _).2 ⟨_,h5,hp⟩)
  |there h1 h2 h3 h4 h5 ih=>exact .there h1 h2 h3 h4 (ih hp)
theorem lead_some{U:Type}{l:List Df}{vis:It->U->Prop}{nm:ByteArray}{u:U}(h:Lead l vis nm u):∃d x,d∈l/\x∈d.items/\x.kind≠3/\vis x u:=by
 induction h with
 |here h1 h2 h3 h4 h5=>exact⟨_,_,aG h2,h3,h4,h5⟩
 |there h1 h2 h3 h4 h5 ih=>exact ih
def rgIt(t:Tp)(x:It)(r:Rg):Prop:=if x.kind=2 then r=x.pf.rg else ∃e,e∈t.edges/\sEq e.zone x.name=true/\r=e.pf.rg
theorem inIt_rg(t:Tp)(x:It)(u:Int):inIt t x u↔∃r,rgIt t x r/\inR r u=true:=by
 have h1:∀r:Rg,has [r] u=true↔inR r u=true:=fun r=>by simp[has,inR]
 unfold inIt rgIt
 by_cases hk:x.kind=2
 ·simp only[aH hk,exists_eq_left]
  exact h1 _
 ·simp only[aE hk]
  constructor
  ·rintro⟨e,he,hz,hu⟩;exact⟨_,⟨e,he,hz,rfl⟩,(h1 _).1 hu⟩
  ·rintro⟨r,⟨e,he,hz,rfl⟩,hu⟩;exact⟨e,he,hz,(h1 _).2 hu⟩
theorem has_inR{l:List Rg}{u:Int}:has l u=true↔∃r,r∈l/\inR r u=true:=by
 rw[has_iff]
 exact exists_congr fun r=>and_congr_right fun _=>inR_iff.symm
theorem has_pat{l:List Rg}{u v:Int}(h:∀r,r∈l->inR r u=inR r v):has l u=has l v:=by
 rw[bD,has_inR,has_inR]
 exact exists_congr fun r=>and_congr_right fun hr=>by rw[h r hr]
theorem grp_un(t:Tp)(i:Nt)(nm:ByteArray)(h:(grpE t i.grps nm).1=0):UnB (rgsI t i) (has (grpE t i.grps nm).2):=by
 cases hn:sEq nm ⟨#[]⟩with
 |true=>
  refine⟨fun r=>∃e,e∈t.edges/\r=e.pf.rg,fun u=>?_⟩
  have e:(grpE t i.grps nm).2=t.edges.map fun e=>e.pf.rg:=by unfold grpE;rw[aH hn]
  rw[e,has_inR]
  constructor
  ·rintro⟨r,hr,hu⟩
   obtain⟨x,hx,rfl⟩:=bK.1 hr
   exact⟨_,cN _ (bK.2 ⟨x,hx,rfl⟩),⟨x,hx,rfl⟩,hu⟩
  ·rintro⟨r,_,⟨x,hx,rfl⟩,hu⟩
   exact⟨_,bK.2 ⟨x,hx,rfl⟩,hu⟩
 |false=>
  obtain⟨_,hl⟩:=grp_lead hn h
  refine⟨fun r=>Lead i.grps (rgIt t) nm r,fun u=>?_⟩
  rw[hl u,lead_map (inIt_rg t)]
  constructor
  ·rintro⟨r,hr,hu⟩
   refine⟨r,?_,hr,hu⟩
   obtain⟨d,x,hd,hx,_,hv⟩:=lead_some hr
   unfold rgIt at hv
   split at hv
   ·subst hv
    exact gI _ (dH.2 ⟨d,hd,bK.2 ⟨x,hx,rfl⟩⟩)
   ·obtain⟨e,he,_,rfl⟩:=hv
    exact cN _ (bK.2 ⟨e,he,rfl⟩)
  ·rintro⟨r,_,hr,hu⟩;exact⟨r,hr,hu⟩
theorem grpP_err(t:Tp)(i:Nt)(nm:ByteArray):(grpP t i nm).2=0\/(grpP t i nm).2=5\/(grpP t i nm).2=8:=by
 have:=grpE_err t i.grps nm
 unfold grpP
 split
 ·exact .inl rfl
 ·exact this
theorem grpP_can(t:Tp)(i:Nt)(nm:ByteArray)(h:(grpP t i nm).2=0):Canon (grpP t i nm).1/\UnB (rgsI t i) (has (grpP t i nm).1):=by
 unfold grpP at h⊢
 split at h
 ·rename_i h0
  rw[aH h0]
  obtain⟨h1,h2⟩:=canO_has (grpE t i.grps nm).2
  refine⟨h1,?_⟩
  obtain⟨P,hP⟩:=grp_un t i nm h0
  exact⟨P,fun u=>by rw[h2 u];exact hP u⟩
 ·rename_i h0;exact absurd h h0
section
variable {I:List (Int×Rg)}
structure Sx (I:List (Int×Rg)) (X:List Bx):Prop where
 ini:∀q,InP q->memK q 5 X=true->memK q 3 initS=true
 sig:∀q q',InP q->InP q'->q 0=q' 0->q 1=q' 1->(∀b,b∈initS->inK q 3 b=inK q' 3 b)->sigI I q q'->memK q 5 X=memK q' 5 X
theorem sx_len{X:List Bx}(h:Sx I X)(hk:∀x,x∈I->kindI x)(h4:I.length<=4)(u v:Int)(u0:0<=u)(u1:u<=4294967295)(v0:0<=v)(v1:v<=4294967295):(cano orB 3 (atF 1 v (atF 0 u X)) []).length<=16:=by
 have hin:∀p,InP p->InP (setF (setF p 1 v) 0 u):=fun p hp=>inP_set (inP_set hp (f:=1) v0 v1) (f:=0) u0 u1
 refine three_len (I:=I) ⟨fun p hp hm=>?_,fun p p' hp hp' h1 h2=>?_⟩ hk h4
 ·rw[at_two]at hm
  have:=h.ini _ (hin p hp) hm
  rwa[memK3_set zo,memK3_set zo]at this
 ·rw[at_two,at_two]
  refine h.sig _ _ (hin p hp) (hin p' hp') rfl rfl (fun b hb=>?_) h2
  rw[inK3_set zo,inK3_set zo,inK3_set zo,inK3_set zo]
  exact h1 b hb
theorem comb_small{op:Bool->Bool->Bool}{a b:List Bx}(ha:setB a=true)(hb:setB b=true){n:Nat}(hn:n<=4096)(h:∀X:List Bx,(∀q,InP q->memK q 5 X=op (memK q 5 a) (memK q 5 b))->(cano orB 5 X []).length<=n):(combP op a b).2=0/\∀q,InP q->memK q 5 (combP op a b).1=op (memK q 5 a) (memK q 5 b):=by
 have h1:=h (cano op 5 a b) fun q hq=>cano_mem op hq 5 _ _ (aJ _)
 rw[cano_ext2 orB op 5 (cano op 5 a b) [] a b (aJ _) fun q hq=>by
  rw[cano_mem op hq 5 _ _ (aJ _),memK_nil];simp[orB]]at h1
 have h0:(combP op a b).2=0:=by
  rw[combP_set ha hb]
  simp only[limE]
  rw[aE zo]
 exact⟨h0,fun q hq=>combP_mem ha hb h0 hq⟩
theorem cut_apart{a b:List Rg}(ha:Canon a)(hb:Canon b)(h:∀u,has a u=true->has b u=false):ApartR (a++b):=by
 refine dE.2 ⟨apart_of ha,apart_of hb,fun r hr s hs=>?_⟩
 rcases dO r.hi s.lo with h1|h1
 ·exact .inl h1
 rcases dO s.hi r.lo with h2|h2
 ·exact .inr h2
 exfalso
 have r1:=ha.1 r hr;have s1:=hb.1 s hs
 have h3:=h (max r.lo s.lo) (has_inR.2 ⟨r,hr,inR_iff.2 zo⟩)
 rw[has_inR.2 ⟨s,hs,inR_iff.2 zo⟩]at h3
 cases h3
theorem and_small{B f g:List Rg}(hB:B.length<=11)(hf:Canon f)(hg:Canon g)(uf:UnB B (has f))(ug:UnB B (has g)){v:List Bx}(hv:Sv I v)(hk:∀x,x∈I->kindI x)(h4:I.length<=4){X:List Bx}(hX:∀q,InP q->memK q 5 X=((has f (q 0)&&has g (q 1))&&memK q 5 v)):(cano orB 5 X []).length<=1936:=by
 have lf:=un_and hf uf uf fun u=>(fA _).symm
 have lg:=un_and hg ug ug fun u=>(fA _).symm
 have hs:Sx I X:=⟨fun q hq h=>by
  rw[hX q hq,aF]at h;exact hv.ini q hq h.2,fun q q' hq hq' e0 e1 h1 h2=>by rw[hX q hq,hX q' hq',e0,e1,hv.sig q q' hq hq' h1 h2]⟩
 have low:∀q q':Nat->Int,InP q->InP q'->q 2=q' 2->q 3=q' 3->q 4=q' 4->memK q 5 v=memK q' 5 v:=fun q q' hq hq' e2 e3 e4=>hv.sig q q' hq hq' (fun b _=>inK_congr 3 b zo fun f h4 h5=>by
  obtain rfl|rfl|rfl:f=2\/f=3\/f=4:=by omega
  ·exact e2
  ·exact e3
  ·exact e4) fun x _=>by rw[e2,e4]
 have:=grid_len (X:=X) f (fun _=>g) 16 (apart_of hf) hf.1 (fun _ _=>apart_of hg) (fun _ _=>hg.1) (fun q hq h=>by
  rw[hX q hq,aF,aF,has_inR,has_inR]at h
  obtain⟨⟨⟨r,hr,h1⟩,s,hs,h2⟩,_⟩:=h
  exact⟨r,hr,h1,s,hs,h2⟩) (fun q q' hq hq' r hr h h' hs e2 e3 e4=>by
  rw[hX q hq,hX q' hq',low q q' hq hq' e2 e3 e4,has_pat (apart_pat (apart_of hf) hr h h'),has_pat hs]) (sx_len hs hk h4)
 rw[sum_nat_const]at this
 have h1:f.length*(g.length*16)<=11*(11*16):=dR zo (bR _ zo)
 omega
theorem but_small{B f g o n:List Rg}(hB:B.length<=11)(hf:Canon f)(hg:Canon g)(uf:UnB B (has f))(ug:UnB B (has g))(uo:UnB B (has o))(un:UnB B (has n)){v:List Bx}(hv:Sv I v)(hk:∀x,x∈I->kindI x)(h4:I.length<=4){X:List Bx}(hX:∀q,InP q->memK q 5 X=(((has f (q 0)&&has g (q 1))&&memK q 5 v)&& !(has o (q 0)&&has n (q 1)))):(cano orB 5 X []).length<=3872:=by
 obtain⟨a,ca,ha⟩:=sub_ex f o
 obtain⟨b,cb,hb0⟩:=sub_ex f a
 obtain⟨c,cc,hc⟩:=sub_ex g n
 have hb:∀u,has b u=(has f u&&has o u):=fun u=>by rw[hb0,ha];cases has f u<;>cases has o u<;>rfl
 have la:=un_diff ca uf uo ha
 have lb:=un_and cb uf uo hb
 have lc:=un_diff cc ug un hc
 have lg:=un_and hg ug ug fun u=>(fA _).symm
 have hs:Sx I X:=⟨fun q hq h=>by
  rw[hX q hq,aF,aF]at h;exact hv.ini q hq h.1.2,fun q q' hq hq' e0 e1 h1 h2=>by rw[hX q hq,hX q' hq',e0,e1,hv.sig q q' hq hq' h1 h2]⟩
 have low:∀q q':Nat->Int,InP q->InP q'->q 2=q' 2->q 3=q' 3->q 4=q' 4->memK q 5 v=memK q' 5 v:=fun q q' hq hq' e2 e3 e4=>hv.sig q q' hq hq' (fun b _=>inK_congr 3 b zo fun f h4 h5=>by
  obtain rfl|rfl|rfl:f=2\/f=3\/f=4:=by omega
  ·exact e2
  ·exact e3
  ·exact e4) fun x _=>by rw[e2,e4]
 have hap:ApartR (a++b):=cut_apart ca cb fun u h=>by
  rw[ha]at h;rw[hb]
  cases hf1:has f u<;>cases ho1:has o u<;>simp_all
 have hra:∀r,r∈a->∀u,inR r u=true->has f u=true/\has o u=false:=fun r hr u hu=>by
  have:=has_inR.2 ⟨r,hr,hu⟩
  rw[ha,aF,dI]at this;exact this
 have hrb:∀r,r∈b->∀u,inR r u=true->has f u=true/\has o u=true:=fun r hr u hu=>by
  have:=has_inR.2 ⟨r,hr,hu⟩
  rw[hb,aF]at this;exact this
 have ga:∀r,r∈a->(if has o r.lo then c else g)=g:=fun r hr=>by rw[(hra r hr r.lo (inR_iff.2 ⟨cD _,ca.1 r hr⟩)).2];rfl
 have gb:∀r,r∈b->(if has o r.lo then c else g)=c:=fun r hr=>by rw[(hrb r hr r.lo (inR_iff.2 ⟨cD _,cb.1 r hr⟩)).2];rfl
 have hor:∀r:Rg,(if has o r.lo then c else g)=g\/(if has o r.lo then c else g)=c:=fun r=>by
  cases has o r.lo
  ·exact .inl rfl
  ·exact .inr rfl
 have:=grid_len (X:=X) (a++b) (fun r=>if has o r.lo then c else g) 16 hap (fun r hr=>by
   rcases aU.1 hr with hr|hr
   ·exact ca.1 r hr
   ·exact cb.1 r hr) (fun r _=>by
   rcases hor r with h|h
   ·simp only[h];exact apart_of hg
   ·simp only[h];exact apart_of cc) (fun r _=>by
   rcases hor r with h|h
   ·simp only[h];exact hg.1
   ·simp only[h];exact cc.1) (fun q hq h=>by
   rw[hX q hq]at h
   simp only[aF,dI,fH]at h
   obtain⟨⟨⟨h1,h2⟩,_⟩,h3⟩:=h
   cases ho:has o (q 0)with
   |false=>
    have:has a (q 0)=true:=by rw[ha,h1,ho];rfl
    obtain⟨r,hr,hi⟩:=has_inR.1 this
    refine⟨r,cN _ hr,hi,?_⟩
    simp only[ga r hr]
    exact has_inR.1 h2
   |true=>
    have:has b (q 0)=true:=by rw[hb,h1,ho];rfl
    obtain⟨r,hr,hi⟩:=has_inR.1 this
    refine⟨r,gI _ hr,hi,?_⟩
    simp only[gb r hr]
    refine has_inR.1 ?_
    rw[hc,h2]
    rcases h3 with h3|h3
    ·rw[ho]at h3;cases h3
    ·rw[h3];rfl) (fun q q' hq hq' r hr h h' hs e2 e3 e4=>by
   rw[hX q hq,hX q' hq',low q q' hq hq' e2 e3 e4]
   rcases aU.1 hr with hr|hr
   ·simp only[ga r hr]at hs
    rw[has_pat hs,(hra r hr _ h).1,(hra r hr _ h).2,(hra r hr _ h').1,(hra r hr _ h').2]
    simp
   ·simp only[gb r hr]at hs
    have e:=has_pat hs
    rw[hc,hc]at e
    rw[(hrb r hr _ h).1,(hrb r hr _ h).2,(hrb r hr _ h').1,(hrb r hr _ h').2]
    revert e
    cases has g (q 1)<;>cases has g (q' 1)<;>cases has n (q 1)<;>cases has n (q' 1)<;>cases memK q' 5 v<;>decide) (sx_len hs hk h4)
 have h1:((a++b).map fun r=>(if has o r.lo then c else g).length*16).sum<=((a++b).map fun _=>176).sum:=sum_nat_le fun r _=>by
  rcases hor r with h|h<;>rw[h]<;>omega
 rw[sum_nat_const,aC]at h1
 omega
end
theorem stmP_ok{t:Tp}{i:Nt}(hB:(rgsI t i).length<=11)(hs:DfsOk i.svcs false)(hk:∀x,x∈svcI i->kindI x)(h4:(svcI i).length<=4)(s:Sm):
  ((stmP t i s).2=0\/(stmP t i s).2=5\/(stmP t i s).2=8)/\((stmP t i s).2=0->((grpP t i s.frm).2=0/\(grpP t i s.to).2=0/\(svcP i s.svc).2=0/\(s.exc=true->(grpP t i s.exF).2=0/\(grpP t i s.exT).2=0))/\
    ∀q,InP q->memK q 5 (stmP t i s).1=(((has (grpP t i s.frm).1 (q 0)&&has (grpP t i s.to).1 (q 1))&&memK q 5 (svcP i s.svc).1)&& !(s.exc&&(has (grpP t i s.exF).1 (q 0)&&has (grpP t i s.exT).1 (q 1))))):=by
 have e1:=grpP_err t i s.frm
 have e2:=grpP_err t i s.to
 obtain⟨e3,v3,_⟩:=svcP_ok hs hk zo s.svc
 have c1:=grpP_can t i s.frm
 have c2:=grpP_can t i s.to
 have s3:=svcP_set i s.svc
 unfold stmP
 by_cases h1:(grpP t i s.frm).2=0
 rotate_left
 ·rw[bindE_no h1];exact⟨e1,fun h=>absurd h h1⟩
 rw[bindE_ok h1]
 by_cases h2:(grpP t i s.to).2=0
 rotate_left
 ·rw[bindE_no h2];exact⟨e2,fun h=>absurd h h2⟩
 rw[bindE_ok h2]
 by_cases h3:(svcP i s.svc).2=0
 rotate_left
 ·rw[bindE_no h3];exact⟨e3,fun h=>absurd h h3⟩
 rw[bindE_ok h3]
 obtain⟨c1,u1⟩:=c1 h1
 obtain⟨c2,u2⟩:=c2 h2
 have l1:=un_and c1 u1 u1 fun u=>(fA _).symm
 have l2:=un_and c2 u2 u2 fun u=>(fA _).symm
 have hfg:(grpP t i s.frm).1.length*(grpP t i s.to).1.length<=11*11:=dR zo zo
 obtain⟨b0,bm⟩:=btw_make c1 c2 zo
 have hb:=setB_makeP (btwB (grpP t i s.frm).1 (grpP t i s.to).1)
 obtain⟨a0,am⟩:=comb_small (op:=anB) hb s3 (n:=1936) zd fun X hX=>and_small hB c1 c2 u1 u2 v3 hk h4 fun q hq=>by rw[hX q hq,bm q hq];rfl
 have am2:∀q,InP q->memK q 5 (combP anB (makeP (btwB (grpP t i s.frm).1 (grpP t i s.to).1)).1 (svcP i s.svc).1).1=((has (grpP t i s.frm).1 (q 0)&&has (grpP t i s.to).1 (q 1))&&memK q 5 (svcP i s.svc).1):=fun q hq=>by rw[am q hq,bm q hq];rfl
 cases hx:s.exc with
 |false=>
  rw[bindE_ok zx,bindE_ok zx,bindE_ok b0,aH (.inr rfl)]
  refine⟨.inl a0,fun _=>⟨⟨h1,h2,h3,fun h=>by cases h⟩,fun q hq=>?_⟩⟩
  rw[am2 q hq]
  simp
 |true=>
  simp only[if_true]
  have e4:=grpP_err t i s.exF
  have e5:=grpP_err t i s.exT
  by_cases h5:(grpP t i s.exF).2=0
  rotate_left
  ·rw[bindE_no h5];exact⟨e4,fun h=>absurd h h5⟩
  rw[bindE_ok h5]
  by_cases h6:(grpP t i s.exT).2=0
  rotate_left
  ·rw[bindE_no h6];exact⟨e5,fun h=>absurd h h6⟩
  rw[bindE_ok h6,bindE_ok b0,aE (by rw[a0];simp)]
  obtain⟨c4,u4⟩:=grpP_can t i s.exF h5
  obtain⟨c5,u5⟩:=grpP_can t i s.exT h6
  have l4:=un_and c4 u4 u4 fun u=>(fA _).symm
  have l5:=un_and c5 u5 u5 fun u=>(fA _).symm
  have hon:(grpP t i s.exF).1.length*(grpP t i s.exT).1.length<=11*11:=dR zo zo
  obtain⟨d0,dm⟩:=btw_make c4 c5 zo
  have hd:=setB_makeP (btwB (grpP t i s.exF).1 (grpP t i s.exT).1)
  rw[bindE_ok d0]
  obtain⟨r0,rm⟩:=comb_small (op:=woB) (setB_combP anB (makeP (btwB (grpP t i s.frm).1 (grpP t i s.to).1)).1 (svcP i s.svc).1) hd (n:=3872) zd fun X hX=>but_small hB c1 c2 u1 u2 u4 u5 v3 hk h4 fun q hq=>by rw[hX q hq,am2 q hq,dm q hq];rfl
  refine⟨.inl r0,fun _=>⟨⟨h1,h2,h3,fun _=>⟨h5,h6⟩⟩,fun q hq=>?_⟩⟩
  rw[rm q hq,am2 q hq,dm q hq]
  simp[woB]
theorem rgsI_few{t:Tp}{i:Nt}(h5:t.edges.length<=5)(h:GNt i):(rgsI t i).length<=11:=by
 have hg:=sum_flat_le (fun d:Df=>d.items.map fun y=>y.pf.rg) (c:=2) i.grps fun d hd=>by rw[aA];exact h.few.gi d hd
 have hg3:=bR 2 h.few.g3
 unfold rgsI
 rw[aC,aA]
 omega
theorem enTop3f(raw:List Int)(pos:Nat)(hp:pos<=raw.length)(hr:raw.length<=9223372036854775807){K:KT}
  (hK:∀(t:Tp) (pos':Nat),GTop t->t.devs.length<=3->pos'<=raw.length->K (encT t) [tapeO raw pos']):
  AC 43 [.op 0 0,.v (.int .i64 3)] [tapeO raw pos] K:=by
 refine ACall_fin (cnTop raw pos 3 zd hp hr fun t p h1 h2 h3=>?_)
 (repeat' ((conv=>whnf);first|(with_reducible refine sl_full (aA ..) ?_)|refine zG ?_|apply zA|intro h|exact zT));all_goals conv=>whnf
 exact hK t p h1 zo h3
theorem bindE_set{α:Type}{x:α×Int}{k:α->List Bx×Int}(h:setB (k x.1).1=true):setB (bindE x k).1=true:=by
 unfold bindE
 split
 ·exact setB_nil
 ·exact h
theorem stmP_set(t:Tp)(i:Nt)(s:Sm):setB (stmP t i s).1=true:=by
 unfold stmP
 refine bindE_set (bindE_set (bindE_set (bindE_set (bindE_set (bindE_set ?_)))))
 split
 ·exact setB_combP ..
 ·exact bindE_set (setB_combP ..)
theorem enMin(raw:List Int)(pos:Nat)(hp:pos<=raw.length)(hr:raw.length<=9223372036854775807){K:KT}
  (hK:∀(m:Int) (pos':Nat),0<=m->m<10080->pos'<=raw.length->K (.v (.int .i64 m)) [tapeO raw pos']):AC 45 [.op 0 0] [tapeO raw pos] K:=by
 refine ofnMin rfl rfl ?_
 (repeat' ((conv=>whnf);first|(with_reducible first|refine nNext raw _ _ zo zw hr fun m1 p1 hm1 hp1=>?_|refine hU zo ?_|refine ix_intsB [0,479,480,481,1019,1020,1439,700] 8 0 1439 rfl rfl zd zo fun c h0 h1=>?_)|refine zG ?_|apply zA|intro h|exact zT));all_goals conv=>whnf
 all_goals exact hK _ _ zo zo zw
theorem coNear(raw:List Int)(pos:Nat)(t:Tp)(l:List Bx)(ht:t.edges.length<=1000)(hl:l.length<=1000000)(hp:pos<=raw.length)(hr:raw.length<=9223372036854775807){K:KT}
  (hK:∀(g:Hd) (pos':Nat),g.Ok->pos'<=raw.length->K (encHd g) [tapeO raw pos']):AC 20 [.op 0 0,encT t,encXs l] [tapeO raw pos] K:=by
 refine ofoNear rfl rfl ?_
 (repeat' ((conv=>whnf);first|(with_reducible first|refine enNear raw _ l hl zw hr fun g p1 hg hp1=>?_|refine nNext raw _ _ (by(try simp only[aA]);omega) zw hr fun m1 p2 hm1 hp2=>?_|refine hU (by simp only[aA]at*;omega) ?_|refine iA (f:=encE) (by simp only[aA]at*;omega) fun e he=>?_|refine wr_u32_any fun r r0 r1=>?_)|refine zG ?_|apply zA|intro h|exact zT));all_goals conv=>whnf
 all_goals first
  |exact hK _ _ zw zw
  |exact hK ⟨r,e.pf.addr,g.pro,g.sp,g.dp⟩ p2 ⟨r0,r1,e.pf.a0,e.pf.a1,hg.p0,hg.p1,hg.a0,hg.a1,hg.b0,hg.b1⟩ zw
noncomputable abbrev ownNt(k:Nat)(i:Nt):AV:=.agg [.lst (i.grps.map encDf),.lst (i.svcs.map encDf),.lst (i.wins.map encWn),.os k 10 0 i.sts.length,.os (k+1) 6 0 i.pubs.length,.os (k+2) 5 0 i.hids.length]
noncomputable abbrev objNt(i:Nt):List Vm.Obj:=[.arr 10 (i.sts.map encSm),.arr 6 (i.pubs.map encPb),.arr 5 (i.hids.map encHn)]
theorem enIntO(raw:List Int)(pos:Nat)(t:Tp)(hte:t.edges.length<=5)(htd:t.devs.length<=100)(htn:TpN t)(ns:Nat)(hns:ns<=4)(hp:pos<=raw.length)(hr:raw.length<=9223372036854775807){K:KT}
  (hK:∀(i:Nt) (pos':Nat),ENt i->pos'<=raw.length->K (ownNt 1 i) (tapeO raw pos'::objNt i)):
  AC 44 [.op 0 0,encT t,.v (.int .i64 ns)] [tapeO raw pos] K:=by
 refine ofnIntO rfl rfl ?_
 (repeat' ((conv=>whnf);first|(with_reducible refine nNext raw _ _ zo zp hr fun m1 p1 hm1 hp1=>?_)|refine zG ?_|apply zA|intro h|exact zT));all_goals conv=>whnf
 refine gL (Nat×Nat×List Df) (fun g=>⟨7,[(0,tapeO raw g.1),(1,boxT t),(2,nilNt),(3,.box [.os 4 2 0 g.2.2.length,.os 5 2 0 0,.os 6 2 0 0,.nils,.nils,.nils]),(4,.arr 2 (g.2.2.map encDf)),(5,.arr 2 []),(6,.arr 2 [])],[(0,.op 0 0),(2,.v (.int .i64 ns)),(4,.op 1 0),(6,.op 2 0),(7,.op 3 0),(8,.v (.int .i64 g.2.1))]⟩)
  (fun g=>g.1<=raw.length/\(g.2.1+g.2.2.length<=3/\1<=g.2.1+g.2.2.length)/\GDs gN g.2.2 true) (fun g=>g.2.1) (p1,m1+1,[]) ⟨hp1,by simp only[aP];omega,gds_nil⟩ ?_ ?_
 ·rw[show(((p1,m1+1,[]):Nat×Nat×List Df).2.1:Int)=1+(m1:Int)from by simp only;omega]
  (exact leA)
 rintro⟨p,k,gs⟩ ⟨h1,⟨h2,h2b⟩,h3⟩
 simp only at h1 h2 h2b h3⊢
 have hgnm:=gds_names h3 gN_ok
 rcases aD 0 k with hk|hk
 ·obtain⟨k',rfl⟩:∃k',k=k'+1:=⟨k-1,by omega⟩
  have hk1:((k'+1:Nat):Int)-1=(k':Int):=by omega
  (repeat' ((conv=>whnf);first|(with_reducible first|refine nNext raw _ _ zo zp hr fun m1 p1 hm1 hp1=>?_|refine wr_i64 hk1 zo zo ?_|refine hU zo ?_|refine ix_strX gN 3 rfl rfl zo fun c hc=>?_)|refine zG ?_|apply zA|intro h|exact zT));all_goals conv=>whnf
  refine gL (Nat×Nat×List It) (fun g=>⟨9,[(0,tapeO raw g.1),(1,boxT t),(2,nilNt),(3,.box [.os 4 2 0 gs.length,.os 5 2 0 0,.os 6 2 0 0,.nils,.nils,.nils]),(4,.arr 2 (gs.map encDf)),(5,.arr 2 []),(6,.arr 2 []),(7,.box [.v (.string c),.os 8 7 0 g.2.2.length]),(8,.arr 7 (g.2.2.map encIt))],[(0,.op 0 0),(2,.v (.int .i64 ns)),(4,.op 1 0),(6,.op 2 0),(7,.op 3 0),(8,.v (.int .i64 ((k'+1:Nat):Int))),(9,.op 7 0),(10,.v (.int .i64 g.2.1))]⟩)
   (fun g=>g.1<=raw.length/\(g.2.1+g.2.2.length<=2/\1<=g.2.1+g.2.2.length)/\∀y,y∈g.2.2->itB y true=true) (fun g=>g.2.1) (p1,m1+1,[]) ⟨by with_reducible assumption,by simp only[aP];omega,fun y h=>by simp at h⟩ ?_ ?_
  ·rw[show(((p1,m1+1,[]):Nat×Nat×List It).2.1:Int)=1+(m1:Int)from by simp only;omega]
   (exact leA)
  clear h1 p hm1 hp1 m1 p1
  rintro⟨p,m,its⟩ ⟨h1,⟨h4,h4b⟩,h9⟩
  simp only at h1 h4 h4b h9⊢
  rcases aD 0 m with hm|hm
  ·obtain⟨m',rfl⟩:∃m',m=m'+1:=⟨m-1,by omega⟩
   have hm1:((m'+1:Nat):Int)-1=(m':Int):=by omega
   (repeat' ((conv=>whnf);first|(with_reducible refine enPref raw _ zw hr fun q p2 hqo hp2=>?_)|refine zG ?_|apply zA|intro h|exact zT));all_goals conv=>whnf
   all_goals
    refine gU (It×Nat) (fun g=>⟨10,[(0,tapeO raw g.2),(1,boxT t),(2,nilNt),(3,.box [.os 4 2 0 gs.length,.os 5 2 0 0,.os 6 2 0 0,.nils,.nils,.nils]),(4,.arr 2 (gs.map encDf)),(5,.arr 2 []),(6,.arr 2 []),(7,.box [.v (.string c),.os 8 7 0 its.length]),(8,.arr 7 (its.map encIt)),(9,itBox g.1)],[(0,.op 0 0),(2,.v (.int .i64 ns)),(4,.op 1 0),(6,.op 2 0),(7,.op 3 0),(8,.v (.int .i64 ((k'+1:Nat):Int))),(9,.op 7 0),(10,.v (.int .i64 ((m'+1:Nat):Int))),(11,.op 9 0)]⟩) (fun g=>g.2<=raw.length/\itB g.1 true=true) ?_ ?_
    ·(repeat' ((conv=>whnf);first|(with_reducible first|refine nNext raw _ _ (by(try simp only[aA]);omega) zw hr fun m1 p1 hm1 hp1=>?_|refine hJ (by(try simp only[aA]at*);omega) ?_|refine iA (f:=encE) (by(try simp only[aA]at*);omega) fun e he=>?_)|refine zG ?_|apply zA|intro h|exact zT));all_goals conv=>whnf
     all_goals first
      |(refine⟨(⟨1,e.zone,noPf,0,zR⟩,p1),⟨zw,itB_zone (htn.zone e zw)⟩,?_⟩
        (exact leA)
        done)
      |(refine⟨(⟨2,⟨#[]⟩,q,0,zR⟩,p1),⟨zw,itB_sub hqo⟩,?_⟩
        (exact leA)
        done)
    rintro⟨y0,p4⟩ ⟨hp4,hy0⟩
    simp only at hp4 hy0⊢
    (repeat' ((conv=>whnf);first|refine zG ?_|apply zA|intro h|exact zT));all_goals conv=>whnf
    all_goals
     refine gU (It×Nat) (fun g=>⟨10,[(0,tapeO raw g.2),(1,boxT t),(2,nilNt),(3,.box [.os 4 2 0 gs.length,.os 5 2 0 0,.os 6 2 0 0,.nils,.nils,.nils]),(4,.arr 2 (gs.map encDf)),(5,.arr 2 []),(6,.arr 2 []),(7,.box [.v (.string c),.os 8 7 0 its.length]),(8,.arr 7 (its.map encIt)),(9,itBox g.1)],[(0,.op 0 0),(2,.v (.int .i64 ns)),(4,.op 1 0),(6,.op 2 0),(7,.op 3 0),(8,.v (.int .i64 ((k'+1:Nat):Int))),(9,.op 7 0),(10,.v (.int .i64 ((m'+1:Nat):Int))),(11,.op 9 0)]⟩) (fun g=>g.2<=raw.length/\itB g.1 true=true) ?_ ?_
     ·(repeat' ((conv=>whnf);first|(with_reducible first|refine nNext raw _ _ (by(try simp only[aA]);omega) zw hr fun m1 p1 hm1 hp1=>?_|refine gS 0 rfl (by(try simp only[aA]at*);omega) ?_|refine iA (f:=encDf) (by(try simp only[aA]at*);omega) fun d hd=>?_)|refine zG ?_|apply zA|intro h|exact zT));all_goals conv=>whnf
      all_goals first
       |(refine⟨(⟨3,d.name,noPf,0,zR⟩,p1),⟨zw,itB_name (hgnm d zw)⟩,?_⟩
         (exact leA)
         done)
       |(refine⟨(y0,p1),⟨zw,hy0⟩,?_⟩
         (exact leA)
         done)
       |(refine⟨(y0,p4),⟨zw,hy0⟩,?_⟩
         (exact leA)
         done)
     rintro⟨y,p3⟩ ⟨hp3,hyv⟩
     simp only at hp3 hyv⊢
     (repeat' ((conv=>whnf);first|(with_reducible refine wr_i64 hm1 zo zo ?_)|refine zG ?_|apply zA|intro h|exact zT));all_goals conv=>whnf
     refine⟨(p3,m',its++[y]),⟨hp3,by simp only[aC,aK,aP];omega,fun z hz=>by
      rcases aU.1 hz with hz|hz
      ·exact h9 z hz
      ·rw[aR.1 hz];exact hyv⟩,by simp only;omega,?_⟩
     simp only[aQ,aC,aW,bN,aK,aP]
     (exact leA)
  ·obtain rfl:m=0:=by omega
   (repeat' ((conv=>whnf);first|(with_reducible refine wr_i64 hk1 zo zo ?_)|refine zG ?_|apply zA|intro h|exact zT));all_goals conv=>whnf
   refine⟨(p,k',gs++[⟨c,its⟩]),⟨h1,by simp only[aC,aK,aP];omega,gds_snoc h3 (by rw[<-hc,bM]) zo h9⟩,by simp only;omega,?_⟩
   simp only[aQ,aC,aW,bN,aK,aP]
   (exact leA)
 obtain rfl:k=0:=by omega
 clear hk
 (repeat' ((conv=>whnf);first|(with_reducible refine nNext raw _ _ zo zw hr fun m1 p1 hm1 hp1=>?_)|refine zG ?_|apply zA|intro h|exact zT));all_goals conv=>whnf
 refine gL (Nat×Nat×List Df) (fun g=>⟨7,[(0,tapeO raw g.1),(1,boxT t),(2,nilNt),(3,.box [.os 4 2 0 gs.length,.os 5 2 0 g.2.2.length,.os 6 2 0 0,.nils,.nils,.nils]),(4,.arr 2 (gs.map encDf)),(5,.arr 2 (g.2.2.map encDf)),(6,.arr 2 [])],[(0,.op 0 0),(2,.v (.int .i64 ns)),(4,.op 1 0),(6,.op 2 0),(7,.op 3 0),(13,.v (.int .i64 g.2.1))]⟩)
  (fun g=>g.1<=raw.length/\g.2.1+g.2.2.length<=2/\GDs sN g.2.2 false/\∀d,d∈g.2.2->∀y,y∈d.items->SvcIt y) (fun g=>g.2.1) (p1,m1,[]) ⟨by with_reducible assumption,by simp only[aP];omega,gds_nil,fun d h=>by simp at h⟩ ?_ ?_
 ·(exact leA)
 clear h1 p hm1 hp1 m1 p1
 rintro⟨p,k,ss⟩ ⟨h1,h4,h5,h6⟩
 simp only at h1 h4 h5 h6⊢
 have hsnm:=gds_names h5 sN_ok
 rcases aD 0 k with hk|hk
 ·obtain⟨k',rfl⟩:∃k',k=k'+1:=⟨k-1,by omega⟩
  have hk1:((k'+1:Nat):Int)-1=(k':Int):=by omega
  (repeat' ((conv=>whnf);first|(with_reducible first|refine nNext raw _ _ (by(try simp only[aA]);omega) zw hr fun m1 p1 hm1 hp1=>?_|refine wr_i64 hk1 zo zo ?_|refine hU zo ?_|refine ix_strX sN 3 rfl rfl zo fun c hc=>?_)|refine zG ?_|apply zA|intro h|exact zT));all_goals conv=>whnf
  refine gL (Nat×Nat×List It) (fun g=>⟨9,[(0,tapeO raw g.1),(1,boxT t),(2,nilNt),(3,.box [.os 4 2 0 gs.length,.os 5 2 0 ss.length,.os 6 2 0 0,.nils,.nils,.nils]),(4,.arr 2 (gs.map encDf)),(5,.arr 2 (ss.map encDf)),(6,.arr 2 []),(7,.box [.v (.string c),.os 8 7 0 g.2.2.length]),(8,.arr 7 (g.2.2.map encIt))],[(0,.op 0 0),(2,.v (.int .i64 ns)),(4,.op 1 0),(6,.op 2 0),(7,.op 3 0),(13,.v (.int .i64 ((k'+1:Nat):Int))),(14,.op 7 0),(15,.v (.int .i64 g.2.1))]⟩)
   (fun g=>g.1<=raw.length/\(g.2.1+g.2.2.length<=2/\1<=g.2.1+g.2.2.length)/\∀y,y∈g.2.2->SvcIt y/\itB y false=true) (fun g=>g.2.1) (p1,m1+1,[]) ⟨by with_reducible assumption,by simp only[aP];omega,fun y h=>by simp at h⟩ ?_ ?_
  ·rw[show(((p1,m1+1,[]):Nat×Nat×List It).2.1:Int)=1+(m1:Int)from by simp only;omega]
   (exact leA)
  clear h1 p hm1 hp1 m1 p1
  rintro⟨p,m,its⟩ ⟨h1,⟨h7,h7b⟩,h8⟩
  simp only at h1 h7 h7b h8⊢
  rcases aD 0 m with hm|hm
  ·obtain⟨m',rfl⟩:∃m',m=m'+1:=⟨m-1,by omega⟩
   have hmm:((m'+1:Nat):Int)-1=(m':Int):=by omega
   (repeat' ((conv=>whnf);first|(with_reducible first|refine nNext raw _ _ (by(try simp only[aA]);omega) zw hr fun m1 p1 hm1 hp1=>?_|refine hU zo ?_|refine ix_ints [6,17,6,1,50] 5 rfl rfl zo fun v hv=>?_)|refine zG ?_|apply zA|intro h|exact zT));all_goals conv=>whnf
   simp only[aS,cK,or_false]at hv
   refine gU (It×Nat) (fun g=>⟨10,[(0,tapeO raw g.2),(1,boxT t),(2,nilNt),(3,.box [.os 4 2 0 gs.length,.os 5 2 0 ss.length,.os 6 2 0 0,.nils,.nils,.nils]),(4,.arr 2 (gs.map encDf)),(5,.arr 2 (ss.map encDf)),(6,.arr 2 []),(7,.box [.v (.string c),.os 8 7 0 its.length]),(8,.arr 7 (its.map encIt)),(9,itBox g.1)],[(0,.op 0 0),(2,.v (.int .i64 ns)),(4,.op 1 0),(6,.op 2 0),(7,.op 3 0),(13,.v (.int .i64 ((k'+1:Nat):Int))),(14,.op 7 0),(15,.v (.int .i64 ((m'+1:Nat):Int))),(16,.op 9 0)]⟩) (fun g=>g.2<=raw.length/\SvcIt g.1/\itB g.1 false=true) ?_ ?_
   ·(repeat' ((conv=>whnf);first|(with_reducible refine enRange raw _ 65535 zd zd zw hr fun r p2 hlo hhi hp2=>?_)|refine zG ?_|apply zA|intro h|exact zT));all_goals conv=>whnf
    all_goals first
     |(refine⟨(⟨4,⟨#[]⟩,noPf,v,⟨8,8,by decide,by decide,by decide,by decide⟩⟩,p1),⟨by with_reducible assumption,.inr (.inr (.inl ⟨by simp only;omega,rfl,rfl⟩)),itB_svc (by rw[show v=1 by omega];rfl)⟩,?_⟩
       (exact leA)
       done)
     |(refine⟨(⟨4,⟨#[]⟩,noPf,v,r⟩,p2),⟨by with_reducible assumption,.inr (.inl (by simp only;omega)),itB_svc (by rw[prB,aH zo];exact decide_eq_true ⟨hlo,hhi⟩)⟩,?_⟩
       (exact leA)
       done)
     |(refine⟨(⟨4,⟨#[]⟩,noPf,v,zR⟩,p1),⟨by with_reducible assumption,.inr (.inr (.inr ⟨by simp only;omega,rfl,rfl⟩)),itB_svc (by rw[show v=50 by omega];rfl)⟩,?_⟩
       (exact leA)
       done)
   rintro⟨y0,p4⟩ ⟨hp4,hy0⟩
   simp only at hp4 hy0⊢
   (repeat' ((conv=>whnf);first|refine zG ?_|apply zA|intro h|exact zT));all_goals conv=>whnf
   refine gU (It×Nat) (fun g=>⟨10,[(0,tapeO raw g.2),(1,boxT t),(2,nilNt),(3,.box [.os 4 2 0 gs.length,.os 5 2 0 ss.length,.os 6 2 0 0,.nils,.nils,.nils]),(4,.arr 2 (gs.map encDf)),(5,.arr 2 (ss.map encDf)),(6,.arr 2 []),(7,.box [.v (.string c),.os 8 7 0 its.length]),(8,.arr 7 (its.map encIt)),(9,itBox g.1)],[(0,.op 0 0),(2,.v (.int .i64 ns)),(4,.op 1 0),(6,.op 2 0),(7,.op 3 0),(13,.v (.int .i64 ((k'+1:Nat):Int))),(14,.op 7 0),(15,.v (.int .i64 ((m'+1:Nat):Int))),(16,.op 9 0)]⟩) (fun g=>g.2<=raw.length/\SvcIt g.1/\itB g.1 false=true) ?_ ?_
   ·(repeat' ((conv=>whnf);first|(with_reducible first|refine nNext raw _ _ (by(try simp only[aA]);omega) zw hr fun m1 p1 hm1 hp1=>?_|refine gS 0 rfl (by(try simp only[aA]at*);omega) ?_|refine iA (f:=encDf) (by(try simp only[aA]at*);omega) fun d hd=>?_)|refine zG ?_|apply zA|intro h|exact zT));all_goals conv=>whnf
    all_goals first
     |(refine⟨(⟨3,d.name,noPf,0,zR⟩,p1),⟨by with_reducible assumption,.inl ⟨rfl,rfl,rfl,rfl⟩,itB_name (hsnm d zw)⟩,?_⟩
       (exact leA)
       done)
     |(refine⟨(y0,p1),⟨by with_reducible assumption,hy0⟩,?_⟩
       (exact leA)
       done)
     |(refine⟨(y0,p4),⟨by with_reducible assumption,hy0⟩,?_⟩
       (exact leA)
       done)
   rintro⟨y,p3⟩ ⟨hp3,hyv⟩
   simp only at hp3 hyv⊢
   (repeat' ((conv=>whnf);first|(with_reducible refine wr_i64 hmm zo zo ?_)|refine zG ?_|apply zA|intro h|exact zT));all_goals conv=>whnf
   refine⟨(p3,m',its++[y]),⟨hp3,by simp only[aC,aK,aP];omega,fun z hz=>by
    rcases aU.1 hz with hz|hz
    ·exact h8 z hz
    ·rw[aR.1 hz];exact hyv⟩,by simp only;omega,?_⟩
   simp only[aQ,aC,aW,bN,aK,aP]
   (exact leA)
  ·obtain rfl:m=0:=by omega
   (repeat' ((conv=>whnf);first|(with_reducible refine wr_i64 hk1 zo zo ?_)|refine zG ?_|apply zA|intro h|exact zT));all_goals conv=>whnf
   refine⟨(p,k',ss++[⟨c,its⟩]),⟨h1,by simp only[aC,aK,aP];omega,gds_snoc h5 (by rw[<-hc,bM]) zo (fun y hy=>(h8 y hy).2),fun d hd=>by
    rcases aU.1 hd with hd|hd
    ·exact h6 d hd
    ·rw[aR.1 hd];exact fun y hy=>(h8 y hy).1⟩,by simp only;omega,?_⟩
   simp only[aQ,aC,aW,bN,aK,aP]
   (exact leA)
 obtain rfl:k=0:=by omega
 clear hk
 (repeat' ((conv=>whnf);first|refine zG ?_|apply zA|intro h|exact zT));all_goals conv=>whnf
 refine gU (Nat×List Wn) (fun g=>⟨7,[(0,tapeO raw g.1),(1,boxT t),(2,nilNt),(3,.box [.os 4 2 0 gs.length,.os 5 2 0 ss.length,.os 6 2 0 g.2.length,.nils,.nils,.nils]),(4,.arr 2 (gs.map encDf)),(5,.arr 2 (ss.map encDf)),(6,.arr 2 (g.2.map encWn))],[(0,.op 0 0),(2,.v (.int .i64 ns)),(4,.op 1 0),(6,.op 2 0),(7,.op 3 0)]⟩)
  (fun g=>g.1<=raw.length/\g.2.length<=1/\∀w,w∈g.2->w.name=⟨#[119,111,114,107]⟩/\WinOk w.act/\w.act.length<=16) ?_ ?_
 ·(repeat' ((conv=>whnf);first|(with_reducible first|refine nNext raw _ _ (by(try simp only[aA]);omega) zw hr fun m1 p1 hm1 hp1=>?_|refine enWin raw _ zw hr fun rs p2 hrs hrl hp2=>?_)|refine zG ?_|apply zA|intro h|exact zT));all_goals conv=>whnf
  all_goals first
   |(refine⟨(p2,[⟨⟨#[119,111,114,107]⟩,rs⟩]),⟨by with_reducible assumption,by simp,fun w hw=>by rw[aR.1 hw];exact⟨rfl,hrs,hrl⟩⟩,?_⟩
     (exact leA)
     done)
   |(refine⟨(p1,[]),⟨by with_reducible assumption,by simp,fun w hw=>by simp at hw⟩,?_⟩
     (exact leA)
     done)
 rintro⟨p5,ws⟩ ⟨hp5,hw1,hw2⟩
 simp only at hp5 hw1 hw2⊢
 have hwnm:∀w,w∈ws->nameB w.name=true:=fun w hw=>by rw[(hw2 w hw).1];exact nameB_lit (by decide+kernel)
 (repeat' ((conv=>whnf);first|(with_reducible first|refine sl_full (aA ..) ?_|refine nNext raw _ _ (by(try simp only[aA]);omega) zw hr fun m1 p1 hm1 hp1=>?_)|refine zG ?_|apply zA|intro h|exact zT));all_goals conv=>whnf
 refine gL (Nat×Nat×List Sm) (fun g=>⟨5,[(0,tapeO raw g.1),(1,boxT t),(2,nilNt),(3,.box [.lst (gs.map encDf),.lst (ss.map encDf),.lst (ws.map encWn),.os 4 10 0 g.2.2.length,.nils,.nils]),(4,.arr 10 (g.2.2.map encSm))],[(0,.op 0 0),(4,.op 1 0),(6,.op 2 0),(7,.op 3 0),(17,.v (.int .i64 g.2.1))]⟩)
  (fun g=>g.1<=raw.length/\g.2.1+g.2.2.length<=4/\∀x,x∈g.2.2->smB x=true) (fun g=>g.2.1) (p1,m1,[]) ⟨by with_reducible assumption,by simp only[aP];omega,fun x h=>by simp at h⟩ ?_ ?_
 ·(exact leA)
 clear h1 p hm1 hp1 m1 p1
 rintro⟨p,k,sts⟩ ⟨h1,h7,hst⟩
 simp only at h1 h7 hst⊢
 rcases aD 0 k with hk|hk
 ·obtain⟨k',rfl⟩:∃k',k=k'+1:=⟨k-1,by omega⟩
  have hkk:((k'+1:Nat):Int)-1=(k':Int):=by omega
  (repeat' ((conv=>whnf);first|(with_reducible first|refine wr_i64 hkk zo zo ?_|refine enStm raw _ t htd gs ss ws sts zo zo zo zw hr htn.cls hgnm hsnm hwnm fun x p2 hxo hp2=>?_)|refine zG ?_|apply zA|intro h|exact zT));all_goals conv=>whnf
  all_goals
   refine⟨(p2,k',sts++[x]),⟨by with_reducible assumption,by simp only[aC,aK,aP];omega,fun z hz=>by
    rcases aU.1 hz with hz|hz
    ·exact hst z hz
    ·rw[aR.1 hz];exact hxo⟩,by simp only;omega,?_⟩
   simp only[aQ,aC,aW,bN,aK,aP]
   (exact leA)
 obtain rfl:k=0:=by omega
 clear hk
 (repeat' ((conv=>whnf);first|refine zG ?_|apply zA|intro h|exact zT));all_goals conv=>whnf
 refine gU (Nat×List Pb) (fun g=>⟨7,[(0,tapeO raw g.1),(1,boxT t),(2,nilNt),(3,.box [.lst (gs.map encDf),.lst (ss.map encDf),.lst (ws.map encWn),.os 4 10 0 sts.length,.os 5 6 0 g.2.length,.os 6 5 0 0]),(4,.arr 10 (sts.map encSm)),(5,.arr 6 (g.2.map encPb)),(6,.arr 5 [])],[(0,.op 0 0),(4,.op 1 0),(6,.op 2 0),(7,.op 3 0)]⟩) (fun g=>g.1<=raw.length/\g.2.length<=1/\∀x,x∈g.2->pbB x=true) ?_ ?_
 ·(repeat' ((conv=>whnf);first|(with_reducible first|refine nNext raw _ _ (by(try simp only[aA]);omega) zw hr fun m1 p1 hm1 hp1=>?_|refine gS 1 rfl (by(try simp only[aA]at*);omega) ?_|refine gS 0 rfl (by(try simp only[aA]at*);omega) ?_|refine iA (f:=encE) (by(try simp only[aA]at*);omega) fun e he=>?_|refine crOf _ ?_|refine hU zo ?_|refine ix_ints [6,17] 2 rfl rfl zo fun v hv=>?_|refine enNum raw _ 65535 zd zd zw hr fun a p2 a0 a1 hp2=>?_)|refine zG ?_|apply zA|intro h|exact zT));all_goals conv=>whnf
  all_goals first
   |(refine⟨(p1,[]),⟨by with_reducible assumption,by simp,fun x h=>by simp at h⟩,?_⟩
     (exact leA)
     done)
   |(refine⟨(p,[]),⟨by with_reducible assumption,by simp,fun x h=>by simp at h⟩,?_⟩
     (exact leA)
     done)
   |(apply pb_exB
     ·(exact leA)
     ·with_reducible assumption
     ·have hnm:=htn.edge _ zw
      simp only[aS,cK,or_false]at hv
      simp only[pbB,ptB,hnm,fL,aF,bS,aI]
      omega)
 rintro⟨p6,pbs⟩ ⟨hp6,hb1,hb2⟩
 simp only at hp6 hb1 hb2⊢
 (repeat' ((conv=>whnf);first|refine zG ?_|apply zA|intro h|exact zT));all_goals conv=>whnf
 refine gU (Nat×List Hn) (fun g=>⟨7,[(0,tapeO raw g.1),(1,boxT t),(2,nilNt),(3,.box [.lst (gs.map encDf),.lst (ss.map encDf),.lst (ws.map encWn),.os 4 10 0 sts.length,.os 5 6 0 pbs.length,.os 6 5 0 g.2.length]),(4,.arr 10 (sts.map encSm)),(5,.arr 6 (pbs.map encPb)),(6,.arr 5 (g.2.map encHn))],[(0,.op 0 0),(4,.op 1 0),(6,.op 2 0),(7,.op 3 0)]⟩) (fun g=>g.1<=raw.length/\g.2.length<=1/\∀x,x∈g.2->hnB x=true) ?_ ?_
 ·(repeat' ((conv=>whnf);first|(with_reducible first|refine nNext raw _ _ (by(try simp only[aA]);omega) zw hr fun m1 p1 hm1 hp1=>?_|refine hJ (by(try simp only[aA]at*);omega) ?_|refine iA (f:=encE) (by(try simp only[aA]at*);omega) fun e he=>?_)|refine zG ?_|apply zA|intro h|exact zT));all_goals conv=>whnf
  all_goals first
   |(refine⟨(p1,[⟨⟨#[103,49]⟩,e.name,3325256705,⟨1024,1024+(m1:Int),by decide,by decide,by omega,by omega⟩⟩]),⟨by with_reducible assumption,by simp,fun x h=>by
      rw[aR.1 h]
      have hnm:=htn.edge e zw
      have hg1:nameB ⟨#[103,49]⟩=true:=nameB_lit (by decide+kernel)
      simp only[hnB,hnm,hg1,eF,aI]
      omega⟩,?_⟩
     (exact leA)
     done)
   |(refine⟨(p1,[]),⟨by with_reducible assumption,by simp,fun x h=>by simp at h⟩,?_⟩
     (exact leA)
     done)
   |(refine⟨(p6,[]),⟨by with_reducible assumption,by simp,fun x h=>by simp at h⟩,?_⟩
     (exact leA)
     done)
 rintro⟨p7,hds⟩ ⟨hp7,hh1,hh2⟩
 simp only at hp7 hh1 hh2⊢
 (repeat' ((conv=>whnf);first|refine zG ?_|apply zA|intro h|exact zT));all_goals conv=>whnf
 refine hK ⟨gs,ss,ws,sts,pbs,hds⟩ p7 ⟨⟨⟨⟨by simp only;omega,by simp only;omega,by simp only;omega,by simp only;omega,by simp only;omega,by simp only;omega,fun d hd=>bO (h3.it d hd).2 zd,fun d hd=>bO (h5.it d hd).2 zd,fun w hw=>?_⟩,by simp only;omega,by simp only;omega,fun d hd=>(h3.it d hd).2,fun d hd=>(h5.it d hd).2⟩,by simp only;omega,h6⟩,
  ⟨gds_ok h3 gN_ok gN_ne (by simp only;omega),gds_ok h5 sN_ok sN_ne (by simp only;omega),by simp only;omega,by simp only;omega,by simp only;omega,by simp only;omega,fun i x hx=>?_,hst,hb2,hh2⟩,h3,h5,by simp only;omega,by simp only;omega,by simp only;omega,by simp only;omega,by simp only;omega⟩ hp7
 ·exact bO (hw2 w hw).2.2 zd
 ·have hi:=(aM.1 hx).1
  obtain rfl:i=0:=by simp only at hi;omega
  refine⟨hwnm x (aG hx),?_,(hw2 x (aG hx)).2.1⟩
  unfold wnIx
  exact firstIx_at (p:=fun y=>sEq y.name x.name) hx (sEq_self _) fun j y hj _=>absurd hj (aY _)
theorem enIntNO(ns:Nat)(hns:ns<=4)(raw:List Int)(pos:Nat)(t:Tp)(hg:GTop t)(hp:pos<=raw.length)(hr:raw.length<=9223372036854775807){K:KT}
  (hK:∀(i:Nt) (pos':Nat),ENt i->pos'<=raw.length->K (ownNt 1 i) (tapeO raw pos'::objNt i)):
  AC 44 [.op 0 0,encT t,.v (.int .i64 ns)] [tapeO raw pos] K:=enIntO raw pos t hg.e5 (by have:=hg.d6;omega) (tpn_top hg) ns hns hp hr hK
theorem coNetO(ns:Nat)(hns:ns<=4)(raw:List Int)(pos:Nat)(hp:pos<=raw.length)(hr:raw.length<=9223372036854775807){K:KT}
  (hK:∀(t:Tp) (i:Nt) (m:Int) (pos':Nat),GTop t->t.devs.length<=3->ENt i->0<=m->m<10080->pos'<=raw.length->K (.tup [encT t,ownNt 1 i,.v (.int .i64 m)]) (tapeO raw pos'::objNt i)):
  AC 11 [.op 0 0,.v (.int .i64 3),.v (.int .i64 ns)] [tapeO raw pos] K:=by
 refine ofoNetO rfl rfl ?_
 (repeat' ((conv=>whnf);first|(with_reducible first|refine enTop3f raw _ zw hr fun t p1 ht hd hp1=>?_|refine enIntNO ns hns raw _ _ zw zw hr fun i p2 hi hp2=>?_|refine enMin raw _ zw hr fun m p3 m0 m1 hp3=>?_)|refine zG ?_|apply zA|intro h|exact zT));all_goals conv=>whnf
 exact hK t i m p3 ht hd hi m0 m1 hp3
def actW(l:List Rg)(m:Int):Bool:=decide (0<=m)&&(decide (m<=4294967295)&&has l m)
def actB(i:Nt)(x:Sm)(m:Int):Bool:=sEq x.dur ⟨#[]⟩||(decide (0<=wnIx i.wins x.dur)&&actW (((i.wins[(wnIx i.wins x.dur).toNat]?).map Wn.act).getD []) m)
def priN(i:Nt)(n:Nat):Int:=((i.sts[n]?).map Sm.pri).getD 0
def actN(i:Nt)(m:Int)(n:Nat):Bool:=((i.sts[n]?).map fun x=>actB i x m).getD false
def priAt(i:Nt)(m:Int)(p:Int)(k:Nat):List Nat:=(List.range k).filter fun n=>decide (priN i n=p)&&actN i m n
def ordF(i:Nt)(m:Int)(c:Nat):List Nat:=(List.range c).flatMap fun(c:Nat)=>priAt i m (1000-(c:Int)) i.sts.length
def ordP(i:Nt)(m:Int):List Nat:=ordF i m 1001
theorem priAt_succ(i:Nt)(m p:Int)(k:Nat):priAt i m p (k+1)=priAt i m p k++(if decide (priN i k=p)&&actN i m k then [k]else []):=by
 rw[priAt,fK,dB,<-priAt]
 cases h:(decide (priN i k=p)&&actN i m k)<;>simp[h]
theorem ordF_succ(i:Nt)(m:Int)(c:Nat):ordF i m (c+1)=ordF i m c++priAt i m (1000-(c:Int)) i.sts.length:=by
 rw[ordF,fK,eP,<-ordF];simp
theorem priAt_mem{i:Nt}{m p:Int}{k n:Nat}:n∈priAt i m p k↔n<k/\priN i n=p/\actN i m n=true:=by
 rw[priAt,bX,dK,aF,aI]
theorem ordF_lt{i:Nt}{m:Int}{c n:Nat}(h:n∈ordF i m c):n<i.sts.length:=by
 rw[ordF,dH]at h
 obtain⟨a,_,ha⟩:=h
 exact(priAt_mem.1 ha).1
/-! the stable sort by priority gives this order -/
section
variable (f:Nat->Int)
def blk(l:List Nat)(a n:Nat):List Nat:=(List.range n).flatMap fun(c:Nat)=>l.filter fun x=>decide (f x=1000-((a+c:Nat):Int))
theorem blk_add(l:List Nat)(a n k:Nat):blk f l a (n+k)=blk f l a n++blk f l (a+n) k:=by
 rw[blk,List.range_add,eP,<-blk,List.flatMap_map]
 simp only[blk,cG]
theorem blk_snoc{l:List Nat}{x:Nat}{a n:Nat}(h:∀c,c<n->f x≠1000-((a+c:Nat):Int)):blk f (l++[x]) a n=blk f l a n:=by
 unfold blk
 rw[List.flatMap_def,List.flatMap_def]
 congr 1
 refine dU fun c hc=>?_
 rw[dB,List.filter_cons_of_neg (by simpa using h c (dK.1 hc))]
 simp
theorem blk_mem{l:List Nat}{a n y:Nat}(h:y∈blk f l a n):1000-((a+n:Nat):Int)<f y/\f y<=1000-(a:Int):=by
 rw[blk,dH]at h
 obtain⟨c,hc,hy⟩:=h
 have h1:=dK.1 hc
 have h2:=(bX.1 hy).2
 rw[aI]at h2
 omega
theorem ins_blk{l:List Nat}{x:Nat}(h0:0<=f x)(h1:f x<=1000):insRev (fun a b=>decide (f b<f a)) (blk f l 0 1001).reverse x=(blk f (l++[x]) 0 1001).reverse:=by
 obtain⟨c,hc⟩:∃c:Nat,f x=1000-(c:Int):=⟨(1000-f x).toNat,by omega⟩
 obtain⟨k,hk⟩:∃k:Nat,c+1+k=1001:=⟨1000-c,by omega⟩
 have e1:blk f l 0 1001=blk f l 0 (c+1)++blk f l (c+1) k:=by rw[<-hk,blk_add];simp
 have e2:blk f (l++[x]) 0 1001=blk f l 0 (c+1)++x::blk f l (c+1) k:=by
  rw[<-hk,blk_add,blk_add f (l++[x]) 0 c 1,blk_add f l 0 c 1,blk_snoc f (n:=c) (fun d hd=>by omega),blk_snoc f (n:=k) (fun d hd=>by omega)]
  have:blk f (l++[x]) (0+c) 1=blk f l (0+c) 1++[x]:=by
   unfold blk
   simp only[List.range_one,cX,List.flatMap_nil,bJ,dB]
   rw[List.filter_cons_of_pos (by simp only[aI];omega)]
   simp
  rw[this]
  simp
 rw[e1,e2,List.reverse_append,List.reverse_append,List.reverse_cons,dL,insRev_at (fun y hy=>?_) (fun y A' hA=>?_)]
 ·simp
 ·have:=(blk_mem f (List.mem_reverse.1 hy)).2
  rw[aI];omega
 ·have hy:y∈blk f l 0 (c+1):=List.mem_reverse.1 (by rw[hA];simp)
  have:=(blk_mem f hy).1
  rw[decide_eq_false_iff_not];omega
theorem isort_blk:∀(l:List Nat),(∀x,x∈l->0<=f x/\f x<=1000)->isort (fun a b=>decide (f b<f a)) l=blk f l 0 1001:=by
 intro l h
 suffices hs:∀(l acc:List Nat),(∀x,x∈l->0<=f x/\f x<=1000)->l.foldl (insRev fun a b=>decide (f b<f a)) (blk f acc 0 1001).reverse=(blk f (acc++l) 0 1001).reverse by
  have:=hs l [] h
  rw[isort,sortRev]
  have e:(blk f [] 0 1001).reverse=[]:=by unfold blk;simp
  rw[e]at this
  rw[this];simp
 intro l
 induction l with
 |nil=>intro acc _;simp
 |cons x l ih=>
  intro acc h
  rw[eA,ins_blk f (h x zx).1 (h x zx).2,ih _ fun y hy=>h y (aX _ hy)]
  simp
end
theorem ord_sort{i:Nt}{m:Int}(hp:∀x,x∈i.sts->0<=x.pri/\x.pri<=1000):isort (fun a b=>decide (priN i b<priN i a)) ((List.range i.sts.length).filter (actN i m))=ordP i m:=by
 rw[isort_blk (priN i)]
 ·unfold blk ordP ordF priAt
  congr 1
  funext c
  rw[List.filter_filter]
  simp
 ·intro n hn
  have hl:=dK.1 (bX.1 hn).1
  rw[priN,aB hl]
  exact hp _ (dG hl)
theorem ordP_len{i:Nt}{m:Int}(hp:∀x,x∈i.sts->0<=x.pri/\x.pri<=1000):(ordP i m).length<=i.sts.length:=by
 rw[<-ord_sort hp,isort_length]
 exact bO (dQ ..) zx
/-! a part is joined with the set of a class -/
def putG:List Insp->ByteArray->List Bx->List Insp×Int
 |[],c,s=>([⟨c,s⟩],0)
 |y::r,c,s=>if ltS y.cls c=true then(y::(putG r c s).1,(putG r c s).2)else
  if sEq y.cls c=true then(⟨y.cls,(combP orB y.set s).1⟩::r,(combP orB y.set s).2)else(⟨c,s⟩::y::r,0)
def putP(l:List Insp)(c:ByteArray)(s:List Bx):List Insp×Int:=if sEq c ⟨#[]⟩=true\/s=[]then(l,0)else putG l c s
theorem sEq_iff{a b:ByteArray}:sEq a b=true↔a=b:=by
 rw[sEq_data]
 constructor
 ·intro h
  obtain⟨a⟩:=a
  obtain⟨b⟩:=b
  have:a.toList=b.toList:=by simpa using h
  rw[Array.toList_inj.1 this]
 ·rintro rfl;simp
theorem ltS_irr(a:ByteArray):ltS a a=false:=by
 rw[bV]
 intro h
 have:=(bl_asymm _ _ h).1
 rw[show Op.bytesLess a.toList a.toList=ltS a a from rfl,h]at this
 cases this
/-! the policy at a minute -/
def zPol:Pol:=⟨[],[]⟩
noncomputable def atGo(t:Tp)(i:Nt):List Nat->List Bx->Pol->Pol×Int
 |[],_,p=>(p,0)
 |n::r,rest,p=>match i.sts[n]? with
  |none=>(p,0)
  |some x=>
   if(combP anB rest (stmP t i x).1).2≠0 then(zPol,(combP anB rest (stmP t i x).1).2)else
   if(combP woB rest (stmP t i x).1).2≠0 then(zPol,(combP woB rest (stmP t i x).1).2)else
   if x.permit=false then atGo t i r (combP woB rest (stmP t i x).1).1 p else
   if(combP orB p.allow (combP anB rest (stmP t i x).1).1).2≠0 then(zPol,(combP orB p.allow (combP anB rest (stmP t i x).1).1).2)else
   if(putP p.insp x.cls (combP anB rest (stmP t i x).1).1).2≠0 then(zPol,(putP p.insp x.cls (combP anB rest (stmP t i x).1).1).2)else
   atGo t i r (combP woB rest (stmP t i x).1).1 ⟨(combP orB p.allow (combP anB rest (stmP t i x).1).1).1,(putP p.insp x.cls (combP anB rest (stmP t i x).1).1).1⟩
noncomputable def atP(t:Tp)(i:Nt)(m:Int):Pol×Int:=if(realP t).2≠0 then(zPol,(realP t).2)else atGo t i (ordP i m) (realP t).1 zPol
noncomputable def preV(t:Tp)(i:Nt)(m:Int):Int:=if compB t=true/\ntB i=true then(if 0<=m/\m<10080 then chkP t i else 2)else 1
theorem fstE_zero{α:Type}{f:α->Int}:∀{l:List α},fstE f l=0->∀x,x∈l->f x=0
 |[],_,x,hx=>by simp at hx
 |y::l,h,x,hx=>by
  unfold fstE at h
  split at h
  ·rename_i hn;exact absurd h hn
  ·rename_i hn
   rcases aS.1 hx with rfl|hx
   ·exact Decidable.byContradiction fun h=>hn h
   ·exact fstE_zero h x hx
theorem chk_stm{t:Tp}{i:Nt}(h:chkP t i=0):∀x,x∈i.sts->(stmP t i x).2=0:=by
 intro x hx
 rw[chkP]at h
 simp only at h
 split at h
 ·rename_i hn;exact absurd h hn
 split at h
 ·rename_i hn;exact absurd h hn
 split at h
 ·rename_i hn;exact absurd h hn
 rename_i hn
 have:=fstE_zero (Decidable.byContradiction fun h=>hn h) x hx
 split at this
 ·rename_i h1;exact absurd this h1
 ·rename_i h1;exact Decidable.byContradiction fun h=>h1 h
/-! the sets of the classes as a map -/
def updS(g:ByteArray->Option (List Bx))(c:ByteArray)(s:List Bx):ByteArray->Option (List Bx):=fun d=>if d=c then some s else g d
structure MapR (g:ByteArray->Option (List Bx)) (l:List Insp):Prop where
 mem:∀x:Insp,x∈l↔g x.cls=some x.set/\x.set≠[]
 set:∀c s,g c=some s->setB s=true
 od:l.Pairwise fun x y=>ltS x.cls y.cls=true
theorem comb_nilR{s:List Bx}(h:setB s=true):combP orB s []=(s,0):=by
 have hl:=(setB_pset h).len
 have hc:canB 5 s=true:=by
  unfold setB at h
  simp only[aF]at h
  exact h.2.2
 have e:cano orB 5 s []=s:=by
  have:=(canB_iff 5 s zd (fun x hx f hf _=>okL_set h x hx f hf) (fun h=>by cases h)).1 hc
  rw[this,show(zeroTo 5:Bx->Bx)=id from funext fun b=>zeroTo_five b,List.map_id]
 rw[combP_set h setB_nil,e,limP,limE,aE zo,aE zo]
theorem comb_nilL{s:List Bx}(h:setB s=true):combP orB [] s=(s,0):=by
 have e:combP orB [] s=combP orB s []:=by
  rw[combP_set h setB_nil,combP_set setB_nil h,cano_ext2 orB orB 5 [] s s [] zd fun p _=>by simp[orB,Bool.or_comm]]
 rw[e,comb_nilR h]
theorem putG_mem{c:ByteArray}{s:List Bx}:∀{l:List Insp},l.Pairwise (fun x y=>ltS x.cls y.cls=true)->((∀y,y∈l->y.cls≠c)->(putG l c s).2=0/\(∀x,x∈(putG l c s).1↔x=⟨c,s⟩\/x∈l))/\
  (∀y,y∈l->y.cls=c->(putG l c s).2=(combP orB y.set s).2/\∀x,x∈(putG l c s).1↔x=⟨c,(combP orB y.set s).1⟩\/(x∈l/\x.cls≠c))/\
  ((putG l c s).1.Pairwise fun x y=>ltS x.cls y.cls=true)/\(∀d,ltS d c=true->(∀y,y∈l->ltS d y.cls=true)->∀y,y∈(putG l c s).1->ltS d y.cls=true)
 |[],_=>⟨fun _=>⟨rfl,fun x=>by simp[putG]⟩,fun y h=>by simp at h,by simp[putG],fun d h _ y hy=>by simp[putG]at hy;rw[hy];exact h⟩
 |z::r,hs=>by
  obtain⟨s1,s2⟩:=cB.1 hs
  obtain⟨i1,i2,i3,i4⟩:=putG_mem (c:=c) (s:=s) s2
  unfold putG
  by_cases h1:ltS z.cls c=true
  ·have hzc:z.cls≠c:=fun e=>by rw[e,ltS_irr]at h1;cases h1
   simp only[h1,if_true]
   refine⟨fun hn=>?_,fun y hy hc=>?_,cB.2 ⟨i4 _ h1 s1,i3⟩,fun d hd hl y hy=>?_⟩
   ·obtain⟨j1,j2⟩:=i1 fun y hy=>hn y (aX _ hy)
    exact⟨j1,fun x=>by rw[aS,j2 x,aS];exact⟨fun h=>by rcases h with h|h|h<;>simp[h],fun h=>by rcases h with h|h|h<;>simp[h]⟩⟩
   ·rcases aS.1 hy with rfl|hy
    ·exact absurd hc hzc
    ·obtain⟨j1,j2⟩:=i2 y hy hc
     refine⟨j1,fun x=>?_⟩
     rw[aS,j2 x,aS]
     constructor
     ·rintro(rfl|h|⟨h,h'⟩)
      ·exact .inr ⟨.inl rfl,hzc⟩
      ·exact .inl h
      ·exact .inr ⟨.inr h,h'⟩
     ·rintro(h|⟨rfl|h,h'⟩)
      ·exact .inr (.inl h)
      ·exact .inl rfl
      ·exact .inr (.inr ⟨h,h'⟩)
   ·rcases aS.1 hy with rfl|hy
    ·exact hl _ zx
    ·exact i4 d hd (fun w hw=>hl w (aX _ hw)) y hy
  ·rw[aE h1]
   by_cases h2:sEq z.cls c=true
   ·have hzc:z.cls=c:=sEq_iff.1 h2
    have hne:∀w,w∈r->w.cls≠c:=fun w hw e=>by have:=s1 w hw;rw[hzc,e,ltS_irr]at this;cases this
    rw[aH h2]
    refine⟨fun hn=>absurd hzc (hn z zx),fun y hy hc=>?_,?_,fun d hd hl y hy=>?_⟩
    ·rcases aS.1 hy with rfl|hy
     ·refine⟨rfl,fun x=>?_⟩
      simp only[aS]
      constructor
      ·rintro(rfl|h)
       ·exact .inl (by rw[hzc])
       ·exact .inr ⟨.inr h,hne x h⟩
      ·rintro(rfl|⟨rfl|h,h'⟩)
       ·exact .inl (by rw[hzc])
       ·exact absurd hzc h'
       ·exact .inr h
     ·exact absurd hc (hne y hy)
    ·exact cB.2 ⟨fun w hw=>s1 w hw,s2⟩
    ·simp only[aS]at hy
     rcases hy with rfl|hy
     ·exact hl z zx
     ·exact hl y (aX _ hy)
   ·have hzc:z.cls≠c:=fun e=>h2 (sEq_iff.2 e)
    have hlt:ltS c z.cls=true:=bl_total _ _ (by simpa[ltS]using h1) (by simpa[sEq]using h2)
    have htr:∀w,w∈r->ltS c w.cls=true:=fun w hw=>bl_trans _ _ _ hlt (s1 w hw)
    have hne:∀w,w∈r->w.cls≠c:=fun w hw e=>by have:=htr w hw;rw[e,ltS_irr]at this;cases this
    rw[aE h2]
    refine⟨fun hn=>⟨rfl,fun x=>by simp⟩,fun y hy hc=>?_,?_,fun d hd hl y hy=>?_⟩
    ·rcases aS.1 hy with rfl|hy
     ·exact absurd hc hzc
     ·exact absurd hc (hne y hy)
    ·refine cB.2 ⟨fun w hw=>?_,hs⟩
     rcases aS.1 hw with rfl|hw
     ·exact hlt
     ·exact htr w hw
    ·simp only[aS]at hy
     rcases hy with rfl|rfl|hy
     ·exact hd
     ·exact hl _ zx
     ·exact hl y (aX _ hy)
theorem or_ne{a b:List Bx}(ha:setB a=true)(hb:setB b=true)(hn:b≠[])(he:(combP orB a b).2=0):(combP orB a b).1≠[]:=by
 rw[combP_set ha hb]at he⊢
 simp only[limE]at he
 split at he
 ·cases he
 rename_i hl
 simp only[limP]
 rw[aE hl]
 intro hc
 rw[cano_nil_mem]at hc
 obtain⟨x,hx⟩:=List.exists_mem_of_ne_nil b hn
 obtain⟨p,hp,hpx⟩:=box_point (okL_set hb x hx)
 have:=hc p hp
 rw[memK_iff.2 ⟨x,hx,hpx⟩]at this
 simp[orB]at this
theorem MapR.put{g:ByteArray->Option (List Bx)}{l:List Insp}(h:MapR g l){c:ByteArray}(hc:sEq c ⟨#[]⟩=false){s:List Bx}(hs:setB s=true):
  (putP l c s).2=(combP orB ((g c).getD []) s).2/\((putP l c s).2=0->MapR (updS g c (combP orB ((g c).getD []) s).1) (putP l c s).1):=by
 unfold putP
 by_cases hs0:s=[]
 ·subst hs0
  rw[aH (.inr rfl)]
  have hg:setB ((g c).getD [])=true:=by
   cases hgc:g c with
   |none=>exact setB_nil
   |some u=>exact h.set c u hgc
  rw[comb_nilR hg]
  refine⟨rfl,fun _=>⟨fun x=>?_,fun d u hu=>?_,h.od⟩⟩
  ·rw[h.mem x]
   unfold updS
   by_cases e:x.cls=c
   ·rw[aH e,e]
    cases hgc:g c with
    |none=>
     simp only[Option.getD_none,bP]
     exact⟨fun h=>(by cases h.1),fun h=>absurd h.1.symm h.2⟩
    |some u=>simp
   ·rw[aE e]
  ·unfold updS at hu
   split at hu
   ·cases hu;exact hg
   ·exact h.set d u hu
 ·rw[aE (by rw[hc];rintro(h|h);cases h;exact hs0 h)]
  obtain⟨p1,p2,p3,_⟩:=putG_mem (c:=c) (s:=s) h.od
  by_cases hex:∃y,y∈l/\y.cls=c
  ·obtain⟨y,hy,hyc⟩:=hex
   obtain⟨q1,q2⟩:=p2 y hy hyc
   have hgy:=((h.mem y).1 hy).1
   rw[hyc]at hgy
   rw[hgy]
   simp only[cW]
   refine⟨q1,fun he=>⟨fun x=>?_,fun d u hu=>?_,p3⟩⟩
   ·rw[q2 x]
    unfold updS
    by_cases e:x.cls=c
    ·rw[aH e]
     have hne:=or_ne (h.set c _ hgy) hs hs0 (by rw[<-q1];exact he)
     constructor
     ·rintro(rfl|⟨_,h'⟩)
      ·exact⟨rfl,hne⟩
      ·exact absurd e h'
     ·rintro⟨h1,_⟩
      left
      cases x
      simp only at e h1
      rw[e,bE h1]
    ·rw[aE e,h.mem x]
     constructor
     ·rintro(rfl|⟨h,_⟩)
      ·exact absurd rfl e
      ·exact h
     ·exact fun h=>.inr ⟨h,e⟩
   ·unfold updS at hu
    split at hu
    ·cases hu;exact setB_combP ..
    ·exact h.set d u hu
  ·have hn:∀y,y∈l->y.cls≠c:=fun y hy e=>hex ⟨y,hy,e⟩
   obtain⟨q1,q2⟩:=p1 hn
   have hgc:(g c).getD []=[]:=by
    cases hgc:g c with
    |none=>rfl
    |some u=>
     simp only[cW]
     refine Decidable.byContradiction fun hu=>?_
     exact hn ⟨c,u⟩ ((h.mem ⟨c,u⟩).2 ⟨hgc,hu⟩) rfl
   rw[hgc,comb_nilL hs]
   refine⟨q1,fun he=>⟨fun x=>?_,fun d u hu=>?_,p3⟩⟩
   ·rw[q2 x,h.mem x]
    unfold updS
    by_cases e:x.cls=c
    ·rw[aH e]
     constructor
     ·rintro(rfl|⟨h1,h2⟩)
      ·exact⟨rfl,hs0⟩
      ·rw[e]at h1;rw[h1]at hgc;exact absurd hgc h2
     ·rintro⟨h1,_⟩
      left
      cases x
      simp only at e h1
      rw[e,bE h1]
    ·rw[aE e]
     constructor
     ·rintro(rfl|h)
      ·exact absurd rfl e
      ·exact h
     ·exact .inr
   ·unfold updS at hu
    split at hu
    ·cases hu;exact hs
    ·exact h.set d u hu
end Go.Proofs.YtbdikofefjljoaaGreatDoor
