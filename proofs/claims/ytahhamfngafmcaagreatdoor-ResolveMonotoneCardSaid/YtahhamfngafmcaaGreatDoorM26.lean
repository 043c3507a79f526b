/- The functions of the seat as the machine takes them: contexts, bodies, contracts out of the code. Printed by gsctx.py. -/
import Derived.Test.YtahhamfngafmcaaGreatDoorProg
import Derived.Test.YtahhamfngafmcaaGreatDoorM25
set_option linter.unusedVariables false
set_option linter.unusedSimpArgs false
set_option maxRecDepth 100000
set_option maxHeartbeats 4000000
namespace Go.Proofs.YtahhamfngafmcaaGreatDoor
open Go Go.Vm
noncomputable def gkDig:Ctx:={N:=13}
noncomputable def bkDig:Code:=bdy Tryz.f206
abbrev ofkDig:=@ofC Tryz.prog gkDig 206 Tryz.f206 bkDig Tryz.func206 (by kernel_rfl) (by kernel_rfl) (by kernel_rfl) (by kernel_rfl)
noncomputable def gkTime:Ctx:={N:=11}
noncomputable def bkTime:Code:=bdy Tryz.f184
abbrev ofkTime:=@ofC Tryz.prog gkTime 184 Tryz.f184 bkTime Tryz.func184 (by kernel_rfl) (by kernel_rfl) (by kernel_rfl) (by kernel_rfl)
noncomputable def gkForm:Ctx:={N:=69,plan:=at1 15 (some (ln [1,3,5,7,9,11,13,15,21,23,25,27,29,31,33,16,19,34,37,38,40,43])) (fun _=>none),hints:=at1 6 ([.virt 3 1]) (fun _=>[]),cut:=at1 9 (true) (at1 15 (true) (fun _=>false))}
noncomputable def bkForm:Code:=bdy Tryz.f136
abbrev ofkForm:=@ofC Tryz.prog gkForm 136 Tryz.f136 bkForm Tryz.func136 (by kernel_rfl) (by kernel_rfl) (by kernel_rfl) (by kernel_rfl)
noncomputable def giEmp:Ctx:={N:=9}
noncomputable def biEmp:Code:=bdy Tryz.f140
abbrev ofiEmp:=@ofC Tryz.prog giEmp 140 Tryz.f140 biEmp Tryz.func140 (by kernel_rfl) (by kernel_rfl) (by kernel_rfl) (by kernel_rfl)
noncomputable def giPrt:Ctx:={N:=35}
noncomputable def biPrt:Code:=bdy Tryz.f181
abbrev ofiPrt:=@ofC Tryz.prog giPrt 181 Tryz.f181 biPrt Tryz.func181 (by kernel_rfl) (by kernel_rfl) (by kernel_rfl) (by kernel_rfl)
noncomputable def giItem:Ctx:={N:=78}
noncomputable def biItem:Code:=bdy Tryz.f135
abbrev ofiItem:=@ofC Tryz.prog giItem 135 Tryz.f135 biItem Tryz.func135 (by kernel_rfl) (by kernel_rfl) (by kernel_rfl) (by kernel_rfl)
noncomputable def giFind:Ctx:={N:=8}
noncomputable def biFind:Code:=bdy Tryz.f134
abbrev ofiFind:=@ofC Tryz.prog giFind 134 Tryz.f134 biFind Tryz.func134 (by kernel_rfl) (by kernel_rfl) (by kernel_rfl) (by kernel_rfl)
noncomputable def giFind1:Ctx:={N:=8}
noncomputable def biFind1:Code:=bdy Tryz.f180
abbrev ofiFind1:=@ofC Tryz.prog giFind1 180 Tryz.f180 biFind1 Tryz.func180 (by kernel_rfl) (by kernel_rfl) (by kernel_rfl) (by kernel_rfl)
noncomputable def giDefs:Ctx:={N:=56,cut:=at1 6 (true) (fun _=>false)}
noncomputable def biDefs:Code:=bdy Tryz.f75
abbrev ofiDefs:=@ofC Tryz.prog giDefs 75 Tryz.f75 biDefs Tryz.func75 (by kernel_rfl) (by kernel_rfl) (by kernel_rfl) (by kernel_rfl)
noncomputable def giWnd:Ctx:={N:=8}
noncomputable def biWnd:Code:=bdy Tryz.f78
abbrev ofiWnd:=@ofC Tryz.prog giWnd 78 Tryz.f78 biWnd Tryz.func78 (by kernel_rfl) (by kernel_rfl) (by kernel_rfl) (by kernel_rfl)
noncomputable def giWnd1:Ctx:={N:=8}
noncomputable def biWnd1:Code:=bdy Tryz.f138
abbrev ofiWnd1:=@ofC Tryz.prog giWnd1 138 Tryz.f138 biWnd1 Tryz.func138 (by kernel_rfl) (by kernel_rfl) (by kernel_rfl) (by kernel_rfl)
noncomputable def giIxW:Ctx:={N:=19}
noncomputable def biIxW:Code:=bdy Tryz.f137
abbrev ofiIxW:=@ofC Tryz.prog giIxW 137 Tryz.f137 biIxW Tryz.func137 (by kernel_rfl) (by kernel_rfl) (by kernel_rfl) (by kernel_rfl)
noncomputable def giWri:Ctx:={N:=18}
noncomputable def biWri:Code:=bdy Tryz.f76
abbrev ofiWri:=@ofC Tryz.prog giWri 76 Tryz.f76 biWri Tryz.func76 (by kernel_rfl) (by kernel_rfl) (by kernel_rfl) (by kernel_rfl)
noncomputable def giSm:Ctx:={N:=62}
noncomputable def biSm:Code:=bdy Tryz.f82
abbrev ofiSm:=@ofC Tryz.prog giSm 82 Tryz.f82 biSm Tryz.func82 (by kernel_rfl) (by kernel_rfl) (by kernel_rfl) (by kernel_rfl)
noncomputable def giVal1:Ctx:={N:=9}
noncomputable def biVal1:Code:=bdy Tryz.f79
abbrev ofiVal1:=@ofC Tryz.prog giVal1 79 Tryz.f79 biVal1 Tryz.func79 (by kernel_rfl) (by kernel_rfl) (by kernel_rfl) (by kernel_rfl)
noncomputable def giVal2:Ctx:={N:=6}
noncomputable def biVal2:Code:=bdy Tryz.f81
abbrev ofiVal2:=@ofC Tryz.prog giVal2 81 Tryz.f81 biVal2 Tryz.func81 (by kernel_rfl) (by kernel_rfl) (by kernel_rfl) (by kernel_rfl)
noncomputable def giIxS:Ctx:={N:=19}
noncomputable def biIxS:Code:=bdy Tryz.f139
abbrev ofiIxS:=@ofC Tryz.prog giIxS 139 Tryz.f139 biIxS Tryz.func139 (by kernel_rfl) (by kernel_rfl) (by kernel_rfl) (by kernel_rfl)
noncomputable def giAnS:Ctx:={N:=9}
noncomputable def biAnS:Code:=bdy Tryz.f80
abbrev ofiAnS:=@ofC Tryz.prog giAnS 80 Tryz.f80 biAnS Tryz.func80 (by kernel_rfl) (by kernel_rfl) (by kernel_rfl) (by kernel_rfl)
noncomputable def giVal:Ctx:={N:=157,cut:=at1 3 (true) (fun _=>false)}
noncomputable def biVal:Code:=bdy Tryz.f45
abbrev ofiVal:=@ofC Tryz.prog giVal 45 Tryz.f45 biVal Tryz.func45 (by kernel_rfl) (by kernel_rfl) (by kernel_rfl) (by kernel_rfl)
theorem inK_fb{p:Nat->Int}{p0 p1 s0 s1 d0 d1:Int}(h:(0<=p0/\p0<=4294967295)/\(0<=p1/\p1<=4294967295)/\(0<=s0/\s0<=4294967295)/\(0<=s1/\s1<=4294967295)/\(0<=d0/\d0<=4294967295)/\(0<=d1/\d1<=4294967295)):
  inK p 3 (fb p0 p1 s0 s1 d0 d1)=true↔(p0<=p 2/\p 2<=p1)/\(s0<=p 3/\p 3<=s1)/\d0<=p 4/\p 4<=d1:=by
 obtain⟨⟨h1,h2⟩,⟨h3,h4⟩,⟨h5,h6⟩,⟨h7,h8⟩,⟨h9,h10⟩,h11,h12⟩:=h
 simp only[inK,fb,Bx.get,Nat.sub_zero,Nat.reduceSub,Bool.and_true,Bool.and_eq_true,decide_eq_true_eq]
 rw[mkR_lo h1 h2 h3 h4,mkR_hi h1 h2 h3 h4,mkR_lo h5 h6 h7 h8,mkR_hi h5 h6 h7 h8,mkR_lo h9 h10 h11 h12,mkR_hi h9 h10 h11 h12]
def iniQ(q q':Nat->Int):Prop:=
 ((q 2=0/\q 3=0/\q 4=0)↔(q' 2=0/\q' 3=0/\q' 4=0))/\((q 2=1/\q 3<=7/\q 4=8)↔(q' 2=1/\q' 3<=7/\q' 4=8))/\((q 2=1/\9<=q 3/\q 4=8)↔(q' 2=1/\9<=q' 3/\q' 4=8))/\
 ((2<=q 2/\q 2<=5/\q 3=0/\q 4=0)↔(2<=q' 2/\q' 2<=5/\q' 3=0/\q' 4=0))/\(q 2=6↔q' 2=6)/\((7<=q 2/\q 2<=16/\q 3=0/\q 4=0)↔(7<=q' 2/\q' 2<=16/\q' 3=0/\q' 4=0))/\(q 2=17↔q' 2=17)/\((18<=q 2/\q 3=0/\q 4=0)↔(18<=q' 2/\q' 3=0/\q' 4=0))
theorem inP_b{q:Nat->Int}(hq:InP q):(0<=q 2/\q 2<=255)/\(0<=q 3/\q 3<=65535)/\0<=q 4/\q 4<=65535:=⟨hq 2,hq 3,hq 4⟩
theorem ini_same{q q':Nat->Int}(hq:InP q)(hq':InP q')(h:iniQ q q'):∀b,b∈initS->inK q 3 b=inK q' 3 b:=by
 have b1:=inP_b hq;have b2:=inP_b hq'
 obtain⟨h1,h2,h3,h4,h5,h6,h7,h8⟩:=h
 unfold initS
 simp only[List.forall_mem_cons]
 refine⟨?_,?_,?_,?_,?_,?_,?_,?_,fun b hb=>by simp at hb⟩<;>rw[Bool.eq_iff_iff,inK_fb (by decide),inK_fb (by decide)]
 ·clear h2 h3 h4 h5 h6 h7 h8;omega
 ·clear h1 h3 h4 h5 h6 h7 h8;omega
 ·clear h1 h2 h4 h5 h6 h7 h8;omega
 ·clear h1 h2 h3 h5 h6 h7 h8;omega
 ·clear h1 h2 h3 h4 h6 h7 h8;omega
 ·clear h1 h2 h3 h4 h5 h7 h8;omega
 ·clear h1 h2 h3 h4 h5 h6 h8;omega
 ·clear h1 h2 h3 h4 h5 h6 h7;omega
theorem ini_pt{q:Nat->Int}(hq:InP q)(h:memK q 3 initS=true):(q 2=6\/q 2=17)\/(q 2=1/\q 3≠8/\q 4=8)\/(q 2≠1/\q 3=0/\q 4=0):=by
 have b1:=inP_b hq
 rw[memK,List.any_eq_true]at h
 obtain⟨b,hb,hi⟩:=h
 simp only[initS,List.mem_cons,List.not_mem_nil,or_false]at hb
 rcases hb with rfl|rfl|rfl|rfl|rfl|rfl|rfl|rfl<;>rw[inK_fb (by decide)]at hi<;>omega
structure Sh (I:List (Int×Rg)) (X:List Bx):Prop where
 ini:∀p,InP p->memK p 3 X=true->memK p 3 initS=true
 sig:∀p p',InP p->InP p'->(∀b,b∈initS->inK p 3 b=inK p' 3 b)->(∀x,x∈I->((p 2=x.1/\x.2.lo<=p 4/\p 4<=x.2.hi)↔(p' 2=x.1/\x.2.lo<=p' 4/\p' 4<=x.2.hi)))->memK p 3 X=memK p' 3 X
def kindI(x:Int×Rg):Prop:=x.1=6\/x.1=17\/(x.1=1/\x.2.lo=8/\x.2.hi=8)\/(x.1=50/\x.2.lo=0/\x.2.hi=0)\/(x.1=0/\x.2.lo=0/\x.2.hi=0)
def cntI(I:List (Int×Rg))(e:Int):Nat:=(I.filter fun x=>decide (x.1=e)).length
section
variable {I:List (Int×Rg)} {X:List Bx}
theorem pt2{p:Nat->Int}(e:Int):memK p 2 (atF 2 e X)=memK (setF p 2 e) 3 X:=memK_at (k:=2) (by omega) e X
theorem pt3{p:Nat->Int}(e u:Int):memK p 1 (atF 3 u (atF 2 e X))=memK (setF (setF p 3 u) 2 e) 3 X:=by
 rw[memK_at (k:=1) (by omega) u];exact pt2 e
theorem vals(p:Nat->Int)(e:Int):setF p 2 e 2=e/\setF p 2 e 3=p 3/\setF p 2 e 4=p 4:=⟨rfl,rfl,rfl⟩
theorem vals3(p:Nat->Int)(u:Int):setF p 3 u 2=p 2/\setF p 3 u 3=u/\setF p 3 u 4=p 4:=⟨rfl,rfl,rfl⟩
theorem vals4(p:Nat->Int)(u:Int):setF p 4 u 2=p 2/\setF p 4 u 3=p 3/\setF p 4 u 4=u:=⟨rfl,rfl,rfl⟩
theorem len_pro(h:Sh I X){e:Int}(he:e=6\/e=17):(cano orB 2 (atF 2 e X) []).length<=1+2*cntI I e:=by
 have e0:0<=e/\e<=topF 2:=⟨by omega,by show e<=255;omega⟩
 have m:(mkR 0 65535).lo=0/\(mkR 0 65535).hi=65535:=by decide
 refine one_pt (k:=1) (by omega) (r:=mkR 0 65535) (by decide) (fun p hp _=>inR_iff.2 ?_) (fun p u v hp hu hv u0 u1 v0 v1=>?_) fun u hu u0 u1=>?_
 ·have:=(inP_b hp).2.1
  show(mkR 0 65535).lo<=p 3/\p 3<=(mkR 0 65535).hi
  omega
 ·have q1:=inP_set (inP_set hp (f:=3) u0 u1) e0.1 e0.2
  have q2:=inP_set (inP_set hp (f:=3) v0 v1) e0.1 e0.2
  have a1:=vals (setF p 3 u) e;have a2:=vals (setF p 3 v) e;have a3:=vals3 p u;have a4:=vals3 p v
  show memK (setF p 3 u) 2 (atF 2 e X)=memK (setF p 3 v) 2 (atF 2 e X)
  rw[pt2,pt2]
  refine h.sig _ _ q1 q2 (ini_same q1 q2 ?_) fun x hx=>?_
  ·unfold iniQ;omega
  ·omega
 ·have hc:=cano_len_by orB 0 (atF 3 u (atF 2 e X)) [] ((I.filter fun x=>decide (x.1=e)).map (·.2)) fun a b a0 a1 b0 b1 hab=>rest_ext (k:=0) (by omega) (fun p hp=>by
   show memK (setF p 4 a) 1 (atF 3 u (atF 2 e X))=memK (setF p 4 b) 1 (atF 3 u (atF 2 e X))
   have q1:=inP_set (inP_set (inP_set hp (f:=4) a0 a1) (f:=3) u0 u1) e0.1 e0.2
   have q2:=inP_set (inP_set (inP_set hp (f:=4) b0 b1) (f:=3) u0 u1) e0.1 e0.2
   have v1:=vals (setF (setF p 4 a) 3 u) e;have v2:=vals (setF (setF p 4 b) 3 u) e;have v3:=vals3 (setF p 4 a) u;have v4:=vals3 (setF p 4 b) u;have v5:=vals4 p a;have v6:=vals4 p b
   rw[pt3,pt3]
   refine h.sig _ _ q1 q2 (ini_same q1 q2 ?_) fun x hx=>?_
   ·unfold iniQ;omega
   ·by_cases hxe:x.1=e
    ·have:=hab x.2 (List.mem_map.2 ⟨x,List.mem_filter.2 ⟨hx,by simpa using hxe⟩,rfl⟩)
     omega
    ·omega) (fun p hp=>rfl)
  have hs:=sum_mono (st:=starts ((I.filter fun x=>decide (x.1=e)).map (·.2)) (topF (4-0))) (f:=fun v=>(restAt orB 0 (atF 3 u (atF 2 e X)) [] v).length) (g:=fun _=>1) fun v _=>last_len ..
  rw[sum_one]at hs
  have hl:=starts_length ((I.filter fun x=>decide (x.1=e)).map (·.2)) (topF_pos (4-0)).1
  rw[List.length_map]at hl
  unfold cntI
  exact Nat.le_trans hc (Nat.le_trans hs (by omega))
theorem len_last(h:Sh I X){e u d:Int}(he:0<=e/\e<=255)(hu:0<=u/\u<=65535)(hd:0<=d/\d<=65535)(hp:∀p,InP p->memK (setF (setF p 3 u) 2 e) 3 X=true->p 4=d):(cano orB 1 (atF 3 u (atF 2 e X)) []).length<=1:=by
 have m1:=mkR_lo hd.1 (by omega) hd.1 (show d<=4294967295 by omega)
 have m2:=mkR_hi hd.1 (by omega) hd.1 (show d<=4294967295 by omega)
 refine one_pt (k:=0) (by omega) (r:=mkR d d) (by omega) (fun p hpp hm=>inR_iff.2 ?_) (fun p a b _ ha hb _ _ _ _=>?_) fun v _ _ _=>?_
 ·rw[pt3]at hm
  have:=hp p hpp hm
  show(mkR d d).lo<=p 4/\p 4<=(mkR d d).hi
  omega
 ·rw[inR_iff]at ha hb
  rw[show a=b by omega]
 ·rw[cano];split<;>simp
theorem len_one(h:Sh I X):(cano orB 2 (atF 2 1 X) []).length<=2:=by
 have m:(mkR 0 7).lo=0/\(mkR 0 7).hi=7/\(mkR 9 65535).lo=9/\(mkR 9 65535).hi=65535:=by decide
 have hb:∀r,r∈[mkR 0 7,mkR 9 65535]->(r.lo=0/\r.hi=7)\/(r.lo=9/\r.hi=65535):=fun r hr=>by
  simp only[List.mem_cons,List.not_mem_nil,or_false]at hr
  rcases hr with rfl|rfl
  ·exact .inl ⟨m.1,m.2.1⟩
  ·exact .inr m.2.2
 have:=cano_len_ranges orB 1 (atF 2 1 X) [] [mkR 0 7,mkR 9 65535] (by
   refine List.pairwise_cons.2 ⟨fun s hs=>?_,List.pairwise_singleton ..⟩
   rw[List.mem_singleton.1 hs];omega) (fun r hr=>by have:=hb r hr;omega) (fun _=>1)
  (fun v v0 v1 hv=>rest_nil (k:=1) (by omega) rfl fun p hp=>by
   have n1:=hv (mkR 0 7) (by simp)
   have n2:=hv (mkR 9 65535) (by simp)
   rw[Bool.eq_false_iff,ne_eq,inR_iff]at n1 n2
   have q1:=inP_set (inP_set hp (f:=3) v0 v1) (f:=2) (v:=1) (by decide) (by decide)
   show orB (memK (setF p 3 v) 2 (atF 2 1 X)) (memK (setF p 3 v) 2 [])=false
   rw[memK_nil,orB,Bool.or_false,pt2]
   cases hm:memK (setF (setF p 3 v) 2 1) 3 X with
   |false=>rfl
   |true=>
    have:=ini_pt q1 (h.ini _ q1 hm)
    have a1:=vals (setF p 3 v) 1;have a3:=vals3 p v
    have v1':v<=65535:=v1
    exfalso;omega)
  (fun r hr u v hu hv u0 u1 v0 v1=>rest_ext (k:=1) (by omega) (fun p hp=>by
   show memK (setF p 3 u) 2 (atF 2 1 X)=memK (setF p 3 v) 2 (atF 2 1 X)
   have q1:=inP_set (inP_set hp (f:=3) u0 u1) (f:=2) (v:=1) (by decide) (by decide)
   have q2:=inP_set (inP_set hp (f:=3) v0 v1) (f:=2) (v:=1) (by decide) (by decide)
   have a1:=vals (setF p 3 u) 1;have a2:=vals (setF p 3 v) 1;have a3:=vals3 p u;have a4:=vals3 p v
   rw[pt2,pt2]
   have:=hb r hr
   rw[inR_iff]at hu hv
   refine h.sig _ _ q1 q2 (ini_same q1 q2 ?_) fun x hx=>?_
   ·unfold iniQ;omega
   ·omega) (fun p hp=>rfl))
  (fun r hr u hu u0 u1=>len_last h (e:=1) (d:=8) (by omega) ⟨u0,u1⟩ (by omega) fun p hp hm=>by
   have q1:=inP_set (inP_set hp (f:=3) u0 u1) (f:=2) (v:=1) (by decide) (by decide)
   have:=ini_pt q1 (h.ini _ q1 hm)
   have a1:=vals (setF p 3 u) 1;have a3:=vals3 p u
   omega)
 simpa using this
theorem len_pt(h:Sh I X){e:Int}(e0:0<=e)(e1:e<=255)(he:e≠1/\e≠6/\e≠17):(cano orB 2 (atF 2 e X) []).length<=1:=by
 have m:(mkR 0 0).lo=0/\(mkR 0 0).hi=0:=by decide
 have hpt:∀p,InP p->memK (setF p 2 e) 3 X=true->p 3=0/\p 4=0:=fun p hp hm=>by
  have q1:=inP_set hp (f:=2) (v:=e) e0 e1
  have:=ini_pt q1 (h.ini _ q1 hm)
  have a1:=vals p e
  omega
 refine one_pt (k:=1) (by omega) (r:=mkR 0 0) (by decide) (fun p hp hm=>inR_iff.2 ?_) (fun p u v hp hu hv u0 u1 v0 v1=>?_) fun u hu u0 u1=>?_
 ·have:=hpt p hp (by rw[<-pt2];exact hm)
  show(mkR 0 0).lo<=p 3/\p 3<=(mkR 0 0).hi
  omega
 ·rw[inR_iff]at hu hv
  rw[show u=v by omega]
 ·refine len_last h (d:=0) ⟨e0,e1⟩ ⟨u0,u1⟩ (by omega) fun p hp hm=>?_
  have:=hpt _ (inP_set hp (f:=3) u0 u1) hm
  have a3:=vals3 p u
  omega
def nPro(I:List (Int×Rg))(r:Rg):Nat:=if r.lo=1 then 2 else if r.lo=6 then 1+2*cntI I 6 else if r.lo=17 then 1+2*cntI I 17 else 1
theorem len_by(h:Sh I X)(hk:∀x,x∈I->kindI x)(L:List Rg)(hd:ApartR L)(hle:∀r,r∈L->r.lo<=r.hi)(hall:∀v,0<=v->v<=255->∃r,r∈L/\inR r v=true)
  (hs:∀r,r∈L->r.lo=r.hi\/(2<=r.lo/\r.hi<=5)\/(7<=r.lo/\r.hi<=16)\/(18<=r.lo/\∀x,x∈I->x.1=50->r.hi<50\/50<r.lo)):(cano orB 3 X []).length<=(L.map (nPro I)).sum:=by
 refine cano_len_ranges orB 2 X [] L hd hle (nPro I) (fun v v0 v1 hv=>?_) (fun r hr u v hu hv u0 u1 v0 v1=>?_) fun r hr u hu u0 u1=>?_
 ·obtain⟨r,hr,h1⟩:=hall v v0 v1
  rw[hv r hr]at h1;cases h1
 ·refine rest_ext (k:=2) (by omega) (fun p hp=>?_) fun p hp=>rfl
  show memK (setF p 2 u) 3 X=memK (setF p 2 v) 3 X
  have q1:=inP_set hp (f:=2) u0 u1
  have q2:=inP_set hp (f:=2) v0 v1
  have a1:=vals p u;have a2:=vals p v
  rw[inR_iff]at hu hv
  rcases hs r hr with h1|h1|h1|⟨h1,h2⟩
  ·rw[show u=v by omega]
  ·refine h.sig _ _ q1 q2 (ini_same q1 q2 ?_) fun x hx=>?_
   ·unfold iniQ;omega
   ·have:=hk x hx;unfold kindI at this;omega
  ·refine h.sig _ _ q1 q2 (ini_same q1 q2 ?_) fun x hx=>?_
   ·unfold iniQ;omega
   ·have:=hk x hx;unfold kindI at this;omega
  ·refine h.sig _ _ q1 q2 (ini_same q1 q2 ?_) fun x hx=>?_
   ·unfold iniQ;omega
   ·have:=hk x hx;have:=h2 x hx;unfold kindI at*;omega
 ·rw[inR_iff]at hu
  have hsr:=hs r hr
  have u1':u<=255:=u1
  have hu2:restAt orB 2 X [] u=cano orB 2 (atF 2 u X) []:=rfl
  rw[hu2]
  have hlo:(u=1->r.lo=1)/\(u=6->r.lo=6)/\(u=17->r.lo=17):=by
   rcases hsr with h1|h1|h1|⟨h1,_⟩<;>omega
  unfold nPro
  by_cases hu1:u=1
  ·rw[if_pos (hlo.1 hu1),hu1];exact len_one h
  ·by_cases hu6:u=6
   ·rw[if_neg (by omega),if_pos (hlo.2.1 hu6),hu6];exact len_pro h (.inl rfl)
   ·by_cases hu17:u=17
    ·rw[if_neg (by omega),if_neg (by omega),if_pos (hlo.2.2 hu17),hu17];exact len_pro h (.inr rfl)
    ·have:=len_pt h u0 u1' ⟨hu1,hu6,hu17⟩
     split
     ·omega
     ·split
      ·omega
      ·split
       ·omega
       ·omega
theorem cnt_three(I:List (Int×Rg)):cntI I 6+cntI I 17+cntI I 50<=I.length:=by
 unfold cntI
 induction I with
 |nil=>exact Nat.le_refl _
 |cons x I ih=>
  simp only[List.filter_cons,List.length_cons]
  by_cases h1:x.1=6
  ·rw[if_pos (by simpa using h1),if_neg (by simp;omega),if_neg (by simp;omega)];simp only[List.length_cons];omega
  ·by_cases h2:x.1=17
   ·rw[if_neg (by simpa using h1),if_pos (by simpa using h2),if_neg (by simp;omega)];simp only[List.length_cons];omega
   ·by_cases h3:x.1=50
    ·rw[if_neg (by simpa using h1),if_neg (by simpa using h2),if_pos (by simpa using h3)];simp only[List.length_cons];omega
    ·rw[if_neg (by simpa using h1),if_neg (by simpa using h2),if_neg (by simpa using h3)];omega
def lotB:List Rg:=[mkR 0 0,mkR 1 1,mkR 2 5,mkR 6 6,mkR 7 16,mkR 17 17,mkR 18 49,mkR 50 50,mkR 51 255]
theorem lotB_ok:ApartR lotB/\(∀r,r∈lotB->r.lo<=r.hi)/\(∀r,r∈lotB->r.lo=r.hi\/(2<=r.lo/\r.hi<=5)\/(7<=r.lo/\r.hi<=16)\/(18<=r.lo/\(r.hi<50\/50<r.lo))):=by
 unfold ApartR lotB;decide
theorem lot_all{L:List Rg}(h:∀n:Nat,n<256->(L.any fun r=>inR r (n:Int))=true):∀v,0<=v->v<=255->∃r,r∈L/\inR r v=true:=fun v v0 v1=>by
 have:=h v.toNat (by omega)
 rw[show((v.toNat:Nat):Int)=v by omega,List.any_eq_true]at this
 exact this
end
/-! ### Two boxes joined -/
/-! ### Pairs of what is cut by ranges -/
theorem inK_full{b:Bx}(h0:b.r0=fullB.r0)(h1:b.r1=fullB.r1){q:Nat->Int}(hq:InP q):inK q 5 b=inK q 3 b:=by
 have q0:=hq 0;have q1:=hq 1
 have t0:topF 0=4294967295:=rfl
 have t1:topF 1=4294967295:=rfl
 have e0:fullB.r0.lo=0/\fullB.r0.hi=4294967295:=by decide
 have e1:fullB.r1.lo=0/\fullB.r1.hi=4294967295:=by decide
 have d0:(decide ((b.get 0).lo<=q 0)&&decide (q 0<=(b.get 0).hi))=true:=by
  show(decide (b.r0.lo<=q 0)&&decide (q 0<=b.r0.hi))=true
  rw[h0,Bool.and_eq_true,decide_eq_true_eq,decide_eq_true_eq];omega
 have d1:(decide ((b.get 1).lo<=q 1)&&decide (q 1<=(b.get 1).hi))=true:=by
  show(decide (b.r1.lo<=q 1)&&decide (q 1<=b.r1.hi))=true
  rw[h1,Bool.and_eq_true,decide_eq_true_eq,decide_eq_true_eq];omega
 show(decide ((b.get 0).lo<=q 0)&&decide (q 0<=(b.get 0).hi)&&(decide ((b.get 1).lo<=q 1)&&decide (q 1<=(b.get 1).hi)&&inK q 3 b))=inK q 3 b
 rw[d0,d1];rfl
theorem boxI_full{i:Nt}{b:Bx}(h:b∈boxesI i):b.r0=fullB.r0/\b.r1=fullB.r1:=by
 rcases List.mem_append.1 h with h|h
 ·simp only[initS,List.mem_cons,List.not_mem_nil,or_false]at h
  rcases h with rfl|rfl|rfl|rfl|rfl|rfl|rfl|rfl<;>exact⟨rfl,rfl⟩
 ·obtain⟨d,_,h⟩:=List.mem_flatMap.1 h
  obtain⟨y,_,rfl⟩:=List.mem_map.1 h
  exact⟨rfl,rfl⟩
def svcI(i:Nt):List (Int×Rg):=i.svcs.flatMap fun d=>d.items.map fun y=>(wu y.proto,y.ports)
theorem inK_hdr{q:Nat->Int}(hq:InP q)(y:It):inK q 3 (hdrX y)=true↔q 2=wu y.proto/\y.ports.lo<=q 4/\q 4<=y.ports.hi:=by
 have h3:=(inP_b hq).2.1
 have e3:fullB.r3.lo=0/\fullB.r3.hi=65535:=by decide
 simp only[inK,hdrX,Bx.get,Nat.sub_zero,Nat.reduceSub,Bool.and_true,Bool.and_eq_true,decide_eq_true_eq]
 omega
section
variable {t:Tp} {i:Nt} {A:List Bx}
end
/-! ### Sums over all pairs -/
/-! ### Real headers and two boxes -/
/-! ### All pairs -/
theorem wu_id{p:Int}(h0:0<=p)(h1:p<=4294967295):wu p=p:=by
 unfold wu;simp only[IntKind.wrap,IntKind.signed,IntKind.bits];simp;omega
theorem sum_flat_le{α β:Type}(f:α->List β){c:Nat}:∀(l:List α),(∀x,x∈l->(f x).length<=c)->(l.flatMap f).length<=l.length*c
 |[],_=>by simp
 |x::l,h=>by
  have h1:=h x (by simp)
  have h2:=sum_flat_le f l fun y hy=>h y (List.mem_cons_of_mem _ hy)
  rw[List.flatMap_cons,List.length_append,List.length_cons,Nat.succ_mul];omega
noncomputable def gl17Net:Ctx:={N:=9}
noncomputable def bl17Net:Code:=bdy Tryz.f30
abbrev ofl17Net:=@ofC Tryz.prog gl17Net 30 Tryz.f30 bl17Net Tryz.func30 (by kernel_rfl) (by kernel_rfl) (by kernel_rfl) (by kernel_rfl)
noncomputable def gl17San:Ctx:={N:=69,plan:=at1 2 (some (ln [3,0,4,7,9,11,13,15])) (at1 3 (some (ln [3,0,4,7,9,11,13,15])) (at1 5 (some (ln [1,3,5,7,9,11,13,15,17,19,21,23,25,27,29,31,33,35,37,39,41,43,45,47,49,51,53,55,59,56,60,63,65,67])) (fun _=>none))),hints:=at1 2 ([.freezeB 1]) (fun _=>[])}
noncomputable def bl17San:Code:=bdy Tryz.f19
abbrev ofl17San:=@ofC Tryz.prog gl17San 19 Tryz.f19 bl17San Tryz.func19 (by kernel_rfl) (by kernel_rfl) (by kernel_rfl) (by kernel_rfl)
noncomputable def grAnD:Ctx:={N:=9}
noncomputable def brAnD:Code:=bdy Tryz.f147
abbrev ofrAnD:=@ofC Tryz.prog grAnD 147 Tryz.f147 brAnD Tryz.func147 (by kernel_rfl) (by kernel_rfl) (by kernel_rfl) (by kernel_rfl)
noncomputable def grNam1:Ctx:={N:=9}
noncomputable def brNam1:Code:=bdy Tryz.f148
abbrev ofrNam1:=@ofC Tryz.prog grNam1 148 Tryz.f148 brNam1 Tryz.func148 (by kernel_rfl) (by kernel_rfl) (by kernel_rfl) (by kernel_rfl)
noncomputable def grAnW:Ctx:={N:=9}
noncomputable def brAnW:Code:=bdy Tryz.f149
abbrev ofrAnW:=@ofC Tryz.prog grAnW 149 Tryz.f149 brAnW Tryz.func149 (by kernel_rfl) (by kernel_rfl) (by kernel_rfl) (by kernel_rfl)
noncomputable def grNam2:Ctx:={N:=9}
noncomputable def brNam2:Code:=bdy Tryz.f150
abbrev ofrNam2:=@ofC Tryz.prog grNam2 150 Tryz.f150 brNam2 Tryz.func150 (by kernel_rfl) (by kernel_rfl) (by kernel_rfl) (by kernel_rfl)
noncomputable def grBtw:Ctx:={N:=39,plan:=at1 9 (some (.one 0 true (.one 2 true (.alt 1 (.one 3 false (.one 4 true (.one 5 false (.done)))) (.alt 3 (.one 1 true (.one 4 true (.one 5 false (.done)))) (.stop)))))) (fun _=>none),hints:=at1 2 ([.virt 6 10]) (fun _=>[])}
noncomputable def brBtw:Code:=bdy Tryz.f122
abbrev ofrBtw:=@ofC Tryz.prog grBtw 122 Tryz.f122 brBtw Tryz.func122 (by kernel_rfl) (by kernel_rfl) (by kernel_rfl) (by kernel_rfl)
noncomputable def grStm:Ctx:={N:=111,cut:=at1 18 (true) (fun _=>false)}
noncomputable def brStm:Code:=bdy Tryz.f67
abbrev ofrStm:=@ofC Tryz.prog grStm 67 Tryz.f67 brStm Tryz.func67 (by kernel_rfl) (by kernel_rfl) (by kernel_rfl) (by kernel_rfl)
noncomputable def grNames:Ctx:={N:=33,lend:=at1 147 (true) (at1 149 (true) (fun _=>false))}
noncomputable def brNames:Code:=bdy Tryz.f89
abbrev ofrNames:=@ofC Tryz.prog grNames 89 Tryz.f89 brNames Tryz.func89 (by kernel_rfl) (by kernel_rfl) (by kernel_rfl) (by kernel_rfl)
noncomputable def grService:Ctx:={N:=14}
noncomputable def brService:Code:=bdy Tryz.f24
abbrev ofrService:=@ofC Tryz.prog grService 24 Tryz.f24 brService Tryz.func24 (by kernel_rfl) (by kernel_rfl) (by kernel_rfl) (by kernel_rfl)
noncomputable def grCheck:Ctx:={N:=131}
noncomputable def brCheck:Code:=bdy Tryz.f47
abbrev ofrCheck:=@ofC Tryz.prog grCheck 47 Tryz.f47 brCheck Tryz.func47 (by kernel_rfl) (by kernel_rfl) (by kernel_rfl) (by kernel_rfl)
noncomputable def gl17Mon:Ctx:={N:=139,own:=at1 9 (true) (at1 10 (true) (at1 11 (true) (at1 12 (true) (at1 20 (true) (at1 21 (true) (at1 23 (true) (fun _=>false))))))),plan:=at1 6 (some (.one 0 true (.one 2 true (.one 3 true (.one 5 true (.one 9 true (.wch 4 (.one 6 true (.one 7 true (.wch 8 (.alt 1 (.one 10 false (.one 11 true (.one 12 false (.one 13 false (.one 14 true (.one 15 true (.one 16 false (.done)))))))) (.alt 10 (.one 11 true (.alt 1 (.one 12 false (.one 13 false (.one 14 true (.one 15 true (.one 16 false (.done)))))) (.alt 12 (.alt 1 (.one 13 false (.one 14 true (.one 15 true (.one 16 false (.done))))) (.alt 13 (.one 1 true (.one 14 true (.one 15 true (.one 16 false (.done))))) (.stop))) (.stop)))) (.stop))))))))))))) (at1 7 (some (ln [1,3,5,7,9,11,13,15,16,19,21,23,25,27])) (at1 8 (some (ln [1,3,5,7,9,11,13,15,16,19,21,23,25,27])) (at1 14 (some (.one 0 true (.one 2 true (.one 3 true (.one 5 true (.one 9 true (.wch 4 (.one 6 true (.one 7 true (.wch 8 (.alt 1 (.one 10 false (.one 11 true (.one 12 false (.one 13 false (.one 14 true (.one 15 true (.one 16 false (.done)))))))) (.alt 10 (.one 11 true (.alt 1 (.one 12 false (.one 13 false (.one 14 true (.one 15 true (.one 16 false (.done)))))) (.alt 12 (.alt 1 (.one 13 false (.one 14 true (.one 15 true (.one 16 false (.done))))) (.alt 13 (.one 1 true (.one 14 true (.one 15 true (.one 16 false (.done))))) (.stop))) (.stop)))) (.stop))))))))))))) (at1 15 (some (ln [1,3,5,7,9,11,13,14,17,19,21,23,25])) (at1 16 (some (ln [1,3,5,7,9,11,13,14,17,19,21,23,25])) (fun _=>none)))))),hints:=at1 16 ([.flatB 6 0,.flatB 6 1]) (fun _=>[]),cut:=at1 7 (true) (at1 15 (true) (fun _=>false)),lend:=at1 13 (true) (fun _=>false)}
noncomputable def bl17Mon:Code:=bdy Tryz.f4
abbrev ofl17Mon:=@ofC Tryz.prog gl17Mon 4 Tryz.f4 bl17Mon Tryz.func4 (by kernel_rfl) (by kernel_rfl) (by kernel_rfl) (by kernel_rfl)
noncomputable def g39o:Ctx:={N:=72,own:=at1 185 (true) (fun _=>false),plan:=at1 13 (some (ln [1,3,5,7,9,11,13,15,17,19,21,23,25,27,29,31])) (at1 14 (some (ln [1,3,5,7,9,11,13,15,17,19,21,23,25,27,28])) (fun _=>none)),hints:=at1 2 ([.virt 3 2,.virt 4 2]) (fun _=>[]),res:=true}
noncomputable def b39o:Code:=bdy Tryz.f142
abbrev of39o:=@ofC Tryz.prog g39o 142 Tryz.f142 b39o Tryz.func142 (by kernel_rfl) (by kernel_rfl) (by kernel_rfl) (by kernel_rfl)
noncomputable def g18o:Ctx:={N:=10,res:=true,lend:=at1 142 (true) (fun _=>false)}
noncomputable def b18o:Code:=bdy Tryz.f85
abbrev of18o:=@ofC Tryz.prog g18o 85 Tryz.f85 b18o Tryz.func85 (by kernel_rfl) (by kernel_rfl) (by kernel_rfl) (by kernel_rfl)
noncomputable def gwGrpO:Ctx:={N:=40,own:=at1 86 (true) (at1 83 (true) (fun _=>false)),hints:=at1 2 ([.virtB 8 0 2]) (fun _=>[]),res:=true,lend:=at1 85 (true) (fun _=>false)}
noncomputable def bwGrpO:Code:=bdy Tryz.f46
abbrev ofwGrpO:=@ofC Tryz.prog gwGrpO 46 Tryz.f46 bwGrpO Tryz.func46 (by kernel_rfl) (by kernel_rfl) (by kernel_rfl) (by kernel_rfl)
noncomputable def gwGroO:Ctx:={N:=22,res:=true,lend:=at1 46 (true) (fun _=>false)}
noncomputable def bwGroO:Code:=bdy Tryz.f13
abbrev ofwGroO:=@ofC Tryz.prog gwGroO 13 Tryz.f13 bwGroO Tryz.func13 (by kernel_rfl) (by kernel_rfl) (by kernel_rfl) (by kernel_rfl)
end Go.Proofs.YtahhamfngafmcaaGreatDoor
