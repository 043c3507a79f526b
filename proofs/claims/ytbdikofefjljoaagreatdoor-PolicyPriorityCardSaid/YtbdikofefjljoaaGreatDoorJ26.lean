/- The functions of the seat as the machine takes them: contexts, bodies, contracts out of the code. Printed by gsctx.py. -/
import Derived.Test.YtbdikofefjljoaaGreatDoorProg
import Derived.Test.YtbdikofefjljoaaGreatDoorJ25
set_option linter.unusedVariables false
set_option linter.unusedSimpArgs false
set_option maxRecDepth 100000
set_option maxHeartbeats 4000000
namespace Go.Proofs.YtbdikofefjljoaaGreatDoor
open Go Go.Vm
noncomputable def gkDig:Ctx:={N:=13}
noncomputable def bkDig:Code:=bdy Tryz.f326
abbrev ofkDig:=@ofC Tryz.prog gkDig 326 Tryz.f326 bkDig Tryz.func326 zk zk zk zk
noncomputable def gkTime:Ctx:={N:=11}
noncomputable def bkTime:Code:=bdy Tryz.f298
abbrev ofkTime:=@ofC Tryz.prog gkTime 298 Tryz.f298 bkTime Tryz.func298 zk zk zk zk
noncomputable def gkForm:Ctx:={N:=69,plan:=at1 15 (some (ln [1,3,5,7,9,11,13,15,21,23,25,27,29,31,33,16,19,34,37,38,40,43])) (fun _=>none),hints:=at1 6 ([.virt 3 1]) (fun _=>[]),cut:=at1 9 (true) (at1 15 (true) (fun _=>false))}
noncomputable def bkForm:Code:=bdy Tryz.f249
abbrev ofkForm:=@ofC Tryz.prog gkForm 249 Tryz.f249 bkForm Tryz.func249 zk zk zk zk
noncomputable def giEmp:Ctx:={N:=9}
noncomputable def biEmp:Code:=bdy Tryz.f252
abbrev ofiEmp:=@ofC Tryz.prog giEmp 252 Tryz.f252 biEmp Tryz.func252 zk zk zk zk
noncomputable def giPrt:Ctx:={N:=35}
noncomputable def biPrt:Code:=bdy Tryz.f295
abbrev ofiPrt:=@ofC Tryz.prog giPrt 295 Tryz.f295 biPrt Tryz.func295 zk zk zk zk
noncomputable def giItem:Ctx:={N:=78}
noncomputable def biItem:Code:=bdy Tryz.f248
abbrev ofiItem:=@ofC Tryz.prog giItem 248 Tryz.f248 biItem Tryz.func248 zk zk zk zk
noncomputable def giFind:Ctx:={N:=8}
noncomputable def biFind:Code:=bdy Tryz.f247
abbrev ofiFind:=@ofC Tryz.prog giFind 247 Tryz.f247 biFind Tryz.func247 zk zk zk zk
noncomputable def giFind1:Ctx:={N:=8}
noncomputable def biFind1:Code:=bdy Tryz.f294
abbrev ofiFind1:=@ofC Tryz.prog giFind1 294 Tryz.f294 biFind1 Tryz.func294 zk zk zk zk
noncomputable def giDefs:Ctx:={N:=56,cut:=at1 6 (true) (fun _=>false)}
noncomputable def biDefs:Code:=bdy Tryz.f173
abbrev ofiDefs:=@ofC Tryz.prog giDefs 173 Tryz.f173 biDefs Tryz.func173 zk zk zk zk
noncomputable def giWnd:Ctx:={N:=8}
noncomputable def biWnd:Code:=bdy Tryz.f175
abbrev ofiWnd:=@ofC Tryz.prog giWnd 175 Tryz.f175 biWnd Tryz.func175 zk zk zk zk
noncomputable def giWnd1:Ctx:={N:=8}
noncomputable def biWnd1:Code:=bdy Tryz.f250
abbrev ofiWnd1:=@ofC Tryz.prog giWnd1 250 Tryz.f250 biWnd1 Tryz.func250 zk zk zk zk
noncomputable def giIxW:Ctx:={N:=19}
noncomputable def biIxW:Code:=bdy Tryz.f180
abbrev ofiIxW:=@ofC Tryz.prog giIxW 180 Tryz.f180 biIxW Tryz.func180 zk zk zk zk
noncomputable def giWri:Ctx:={N:=18}
noncomputable def biWri:Code:=bdy Tryz.f174
abbrev ofiWri:=@ofC Tryz.prog giWri 174 Tryz.f174 biWri Tryz.func174 zk zk zk zk
noncomputable def giSm:Ctx:={N:=62}
noncomputable def biSm:Code:=bdy Tryz.f179
abbrev ofiSm:=@ofC Tryz.prog giSm 179 Tryz.f179 biSm Tryz.func179 zk zk zk zk
noncomputable def giVal1:Ctx:={N:=9}
noncomputable def biVal1:Code:=bdy Tryz.f176
abbrev ofiVal1:=@ofC Tryz.prog giVal1 176 Tryz.f176 biVal1 Tryz.func176 zk zk zk zk
noncomputable def giVal2:Ctx:={N:=6}
noncomputable def biVal2:Code:=bdy Tryz.f178
abbrev ofiVal2:=@ofC Tryz.prog giVal2 178 Tryz.f178 biVal2 Tryz.func178 zk zk zk zk
noncomputable def giIxS:Ctx:={N:=19}
noncomputable def biIxS:Code:=bdy Tryz.f251
abbrev ofiIxS:=@ofC Tryz.prog giIxS 251 Tryz.f251 biIxS Tryz.func251 zk zk zk zk
noncomputable def giAnS:Ctx:={N:=9}
noncomputable def biAnS:Code:=bdy Tryz.f177
abbrev ofiAnS:=@ofC Tryz.prog giAnS 177 Tryz.f177 biAnS Tryz.func177 zk zk zk zk
noncomputable def giVal:Ctx:={N:=157,cut:=at1 3 (true) (fun _=>false)}
noncomputable def biVal:Code:=bdy Tryz.f96
abbrev ofiVal:=@ofC Tryz.prog giVal 96 Tryz.f96 biVal Tryz.func96 zk zk zk zk
theorem inK_fb{p:Nat->Int}{p0 p1 s0 s1 d0 d1:Int}(h:(0<=p0/\p0<=4294967295)/\(0<=p1/\p1<=4294967295)/\(0<=s0/\s0<=4294967295)/\(0<=s1/\s1<=4294967295)/\(0<=d0/\d0<=4294967295)/\(0<=d1/\d1<=4294967295)):
  inK p 3 (fb p0 p1 s0 s1 d0 d1)=true↔(p0<=p 2/\p 2<=p1)/\(s0<=p 3/\p 3<=s1)/\d0<=p 4/\p 4<=d1:=by
 obtain⟨⟨h1,h2⟩,⟨h3,h4⟩,⟨h5,h6⟩,⟨h7,h8⟩,⟨h9,h10⟩,h11,h12⟩:=h
 simp only[inK,fb,Bx.get,dZ,Nat.reduceSub,fL,aF,aI]
 rw[mkR_lo h1 h2 h3 h4,mkR_hi h1 h2 h3 h4,mkR_lo h5 h6 h7 h8,mkR_hi h5 h6 h7 h8,mkR_lo h9 h10 h11 h12,mkR_hi h9 h10 h11 h12]
def iniQ(q q':Nat->Int):Prop:=
 ((q 2=0/\q 3=0/\q 4=0)↔(q' 2=0/\q' 3=0/\q' 4=0))/\((q 2=1/\q 3<=7/\q 4=8)↔(q' 2=1/\q' 3<=7/\q' 4=8))/\((q 2=1/\9<=q 3/\q 4=8)↔(q' 2=1/\9<=q' 3/\q' 4=8))/\
 ((2<=q 2/\q 2<=5/\q 3=0/\q 4=0)↔(2<=q' 2/\q' 2<=5/\q' 3=0/\q' 4=0))/\(q 2=6↔q' 2=6)/\((7<=q 2/\q 2<=16/\q 3=0/\q 4=0)↔(7<=q' 2/\q' 2<=16/\q' 3=0/\q' 4=0))/\(q 2=17↔q' 2=17)/\((18<=q 2/\q 3=0/\q 4=0)↔(18<=q' 2/\q' 3=0/\q' 4=0))
theorem inP_b{q:Nat->Int}(hq:InP q):(0<=q 2/\q 2<=255)/\(0<=q 3/\q 3<=65535)/\0<=q 4/\q 4<=65535:=⟨hq 2,hq 3,hq 4⟩
theorem ini_same{q q':Nat->Int}(hq:InP q)(hq':InP q')(h:iniQ q q'):∀b,b∈initS->inK q 3 b=inK q' 3 b:=by
 have b1:=inP_b hq;have b2:=inP_b hq'
 obtain⟨h1,h2,h3,h4,h5,h6,h7,h8⟩:=h
 unfold initS
 simp only[fQ]
 refine⟨?_,?_,?_,?_,?_,?_,?_,?_,fun b hb=>by simp at hb⟩<;>rw[bD,inK_fb zd,inK_fb zd]
 ·clear h2 h3 h4 h5 h6 h7 h8;omega
 ·clear h1 h3 h4 h5 h6 h7 h8;omega
 ·clear h1 h2 h4 h5 h6 h7 h8;omega
 ·clear h1 h2 h3 h5 h6 h7 h8;omega
 ·clear h1 h2 h3 h4 h6 h7 h8;omega
 ·clear h1 h2 h3 h4 h5 h7 h8;omega
 ·clear h1 h2 h3 h4 h5 h6 h8;omega
 ·clear h1 h2 h3 h4 h5 h6 h7;omega
theorem ini_pt{q:Nat->Int}(hq:InP q)(h:memK q 3 initS=true):(q 2=6\/q 2=17)\/(q 2=1/\q 3≠8/\q 4=8)\/(q 2≠1/\q 3=0/\q 4=0):=by
 have b1:=inP_b hq
 rw[memK,cI]at h
 obtain⟨b,hb,hi⟩:=h
 simp only[initS,aS,cK,or_false]at hb
 rcases hb with rfl|rfl|rfl|rfl|rfl|rfl|rfl|rfl<;>rw[inK_fb zd]at hi<;>omega
structure Sh (I:List (Int×Rg)) (X:List Bx):Prop where
 ini:∀p,InP p->memK p 3 X=true->memK p 3 initS=true
 sig:∀p p',InP p->InP p'->(∀b,b∈initS->inK p 3 b=inK p' 3 b)->(∀x,x∈I->((p 2=x.1/\x.2.lo<=p 4/\p 4<=x.2.hi)↔(p' 2=x.1/\x.2.lo<=p' 4/\p' 4<=x.2.hi)))->memK p 3 X=memK p' 3 X
def kindI(x:Int×Rg):Prop:=x.1=6\/x.1=17\/(x.1=1/\x.2.lo=8/\x.2.hi=8)\/(x.1=50/\x.2.lo=0/\x.2.hi=0)\/(x.1=0/\x.2.lo=0/\x.2.hi=0)
def cntI(I:List (Int×Rg))(e:Int):Nat:=(I.filter fun x=>decide (x.1=e)).length
section
variable {I:List (Int×Rg)} {X:List Bx}
theorem pt2{p:Nat->Int}(e:Int):memK p 2 (atF 2 e X)=memK (setF p 2 e) 3 X:=memK_at (k:=2) zo e X
theorem pt3{p:Nat->Int}(e u:Int):memK p 1 (atF 3 u (atF 2 e X))=memK (setF (setF p 3 u) 2 e) 3 X:=by
 rw[memK_at (k:=1) zo u];exact pt2 e
theorem vals(p:Nat->Int)(e:Int):setF p 2 e 2=e/\setF p 2 e 3=p 3/\setF p 2 e 4=p 4:=⟨rfl,rfl,rfl⟩
theorem vals3(p:Nat->Int)(u:Int):setF p 3 u 2=p 2/\setF p 3 u 3=u/\setF p 3 u 4=p 4:=⟨rfl,rfl,rfl⟩
theorem vals4(p:Nat->Int)(u:Int):setF p 4 u 2=p 2/\setF p 4 u 3=p 3/\setF p 4 u 4=u:=⟨rfl,rfl,rfl⟩
theorem len_pro(h:Sh I X){e:Int}(he:e=6\/e=17):(cano orB 2 (atF 2 e X) []).length<=1+2*cntI I e:=by
 have e0:0<=e/\e<=topF 2:=⟨by omega,by show e<=255;omega⟩
 have m:(mkR 0 65535).lo=0/\(mkR 0 65535).hi=65535:=by decide
 refine one_pt (k:=1) zo (r:=mkR 0 65535) zd (fun p hp _=>inR_iff.2 ?_) (fun p u v hp hu hv u0 u1 v0 v1=>?_) fun u hu u0 u1=>?_
 ·have:=(inP_b hp).2.1
  show(mkR 0 65535).lo<=p 3/\p 3<=(mkR 0 65535).hi
  omega
 ·have q1:=inP_set (inP_set hp (f:=3) u0 u1) e0.1 e0.2
  have q2:=inP_set (inP_set hp (f:=3) v0 v1) e0.1 e0.2
  have a1:=vals (setF p 3 u) e;have a2:=vals (setF p 3 v) e;have a3:=vals3 p u;have a4:=vals3 p v
  show memK (setF p 3 u) 2 (atF 2 e X)=memK (setF p 3 v) 2 (atF 2 e X)
  rw[pt2,pt2]
  refine h.sig _ _ q1 q2 (ini_same q1 q2 ?_) fun x hx=>?_
  ·unfold iniQ;omega
  ·omega
 ·have hc:=cano_len_by orB 0 (atF 3 u (atF 2 e X)) [] ((I.filter fun x=>decide (x.1=e)).map (·.2)) fun a b a0 a1 b0 b1 hab=>rest_ext (k:=0) zo (fun p hp=>by
   show memK (setF p 4 a) 1 (atF 3 u (atF 2 e X))=memK (setF p 4 b) 1 (atF 3 u (atF 2 e X))
   have q1:=inP_set (inP_set (inP_set hp (f:=4) a0 a1) (f:=3) u0 u1) e0.1 e0.2
   have q2:=inP_set (inP_set (inP_set hp (f:=4) b0 b1) (f:=3) u0 u1) e0.1 e0.2
   have v1:=vals (setF (setF p 4 a) 3 u) e;have v2:=vals (setF (setF p 4 b) 3 u) e;have v3:=vals3 (setF p 4 a) u;have v4:=vals3 (setF p 4 b) u;have v5:=vals4 p a;have v6:=vals4 p b
   rw[pt3,pt3]
   refine h.sig _ _ q1 q2 (ini_same q1 q2 ?_) fun x hx=>?_
   ·unfold iniQ;omega
   ·by_cases hxe:x.1=e
    ·have:=hab x.2 (bK.2 ⟨x,bX.2 ⟨hx,by simpa using hxe⟩,rfl⟩)
     omega
    ·omega) (fun p hp=>rfl)
  have hs:=sum_mono (st:=starts ((I.filter fun x=>decide (x.1=e)).map (·.2)) (topF (4-0))) (f:=fun v=>(restAt orB 0 (atF 3 u (atF 2 e X)) [] v).length) (g:=fun _=>1) fun v _=>last_len ..
  rw[sum_one]at hs
  have hl:=starts_length ((I.filter fun x=>decide (x.1=e)).map (·.2)) (topF_pos (4-0)).1
  rw[aA]at hl
  unfold cntI
  exact bO hc (bO hs zo)
theorem len_last(h:Sh I X){e u d:Int}(he:0<=e/\e<=255)(hu:0<=u/\u<=65535)(hd:0<=d/\d<=65535)(hp:∀p,InP p->memK (setF (setF p 3 u) 2 e) 3 X=true->p 4=d):(cano orB 1 (atF 3 u (atF 2 e X)) []).length<=1:=by
 have m1:=mkR_lo hd.1 zo hd.1 (show d<=4294967295 by omega)
 have m2:=mkR_hi hd.1 zo hd.1 (show d<=4294967295 by omega)
 refine one_pt (k:=0) zo (r:=mkR d d) zo (fun p hpp hm=>inR_iff.2 ?_) (fun p a b _ ha hb _ _ _ _=>?_) fun v _ _ _=>?_
 ·rw[pt3]at hm
  have:=hp p hpp hm
  show(mkR d d).lo<=p 4/\p 4<=(mkR d d).hi
  omega
 ·rw[inR_iff]at ha hb
  rw[show a=b by omega]
 ·rw[cano];split<;>simp
theorem len_one(h:Sh I X):(cano orB 2 (atF 2 1 X) []).length<=2:=by
 have m:(mkR 0 7).lo=0/\(mkR 0 7).hi=7/\(mkR 9 65535).lo=9/\(mkR 9 65535).hi=65535:=by decide
 have hb:∀r,r∈[mkR 0 7,mkR 9 65535]->(r.lo=0/\r.hi=7)\/(r.lo=9/\r.hi=65535):=fun r hr=>by
  simp only[aS,cK,or_false]at hr
  rcases hr with rfl|rfl
  ·exact .inl ⟨m.1,m.2.1⟩
  ·exact .inr m.2.2
 have:=cano_len_ranges orB 1 (atF 2 1 X) [] [mkR 0 7,mkR 9 65535] (by
   refine cB.2 ⟨fun s hs=>?_,List.pairwise_singleton ..⟩
   rw[aR.1 hs];omega) (fun r hr=>by have:=hb r hr;omega) (fun _=>1)
  (fun v v0 v1 hv=>rest_nil (k:=1) zo rfl fun p hp=>by
   have n1:=hv (mkR 0 7) zx
   have n2:=hv (mkR 9 65535) zx
   rw[bV,ne_eq,inR_iff]at n1 n2
   have q1:=inP_set (inP_set hp (f:=3) v0 v1) (f:=2) (v:=1) zd zd
   show orB (memK (setF p 3 v) 2 (atF 2 1 X)) (memK (setF p 3 v) 2 [])=false
   rw[memK_nil,orB,eK,pt2]
   cases hm:memK (setF (setF p 3 v) 2 1) 3 X with
   |false=>rfl
   |true=>
    have:=ini_pt q1 (h.ini _ q1 hm)
    have a1:=vals (setF p 3 v) 1;have a3:=vals3 p v
    have v1':v<=65535:=v1
    exfalso;omega)
  (fun r hr u v hu hv u0 u1 v0 v1=>rest_ext (k:=1) zo (fun p hp=>by
   show memK (setF p 3 u) 2 (atF 2 1 X)=memK (setF p 3 v) 2 (atF 2 1 X)
   have q1:=inP_set (inP_set hp (f:=3) u0 u1) (f:=2) (v:=1) zd zd
   have q2:=inP_set (inP_set hp (f:=3) v0 v1) (f:=2) (v:=1) zd zd
   have a1:=vals (setF p 3 u) 1;have a2:=vals (setF p 3 v) 1;have a3:=vals3 p u;have a4:=vals3 p v
   rw[pt2,pt2]
   have:=hb r hr
   rw[inR_iff]at hu hv
   refine h.sig _ _ q1 q2 (ini_same q1 q2 ?_) fun x hx=>?_
   ·unfold iniQ;omega
   ·omega) (fun p hp=>rfl))
  (fun r hr u hu u0 u1=>len_last h (e:=1) (d:=8) zo ⟨u0,u1⟩ zo fun p hp hm=>by
   have q1:=inP_set (inP_set hp (f:=3) u0 u1) (f:=2) (v:=1) zd zd
   have:=ini_pt q1 (h.ini _ q1 hm)
   have a1:=vals (setF p 3 u) 1;have a3:=vals3 p u
   omega)
 simpa using this
theorem len_pt(h:Sh I X){e:Int}(e0:0<=e)(e1:e<=255)(he:e≠1/\e≠6/\e≠17):(cano orB 2 (atF 2 e X) []).length<=1:=by
 have m:(mkR 0 0).lo=0/\(mkR 0 0).hi=0:=by decide
 have hpt:∀p,InP p->memK (setF p 2 e) 3 X=true->p 3=0/\p 4=0:=fun p hp hm=>by
  have q1:=inP_set hp (f:=2) (v:=e) e0 e1
  have:=ini_pt q1 (h.ini _ q1 hm)
  have a1:=vals p e
  omega
 refine one_pt (k:=1) zo (r:=mkR 0 0) zd (fun p hp hm=>inR_iff.2 ?_) (fun p u v hp hu hv u0 u1 v0 v1=>?_) fun u hu u0 u1=>?_
 ·have:=hpt p hp (by rw[<-pt2];exact hm)
  show(mkR 0 0).lo<=p 3/\p 3<=(mkR 0 0).hi
  omega
 ·rw[inR_iff]at hu hv
  rw[show u=v by omega]
 ·refine len_last h (d:=0) ⟨e0,e1⟩ ⟨u0,u1⟩ zo fun p hp hm=>?_
  have:=hpt _ (inP_set hp (f:=3) u0 u1) hm
  have a3:=vals3 p u
  omega
def nPro(I:List (Int×Rg))(r:Rg):Nat:=if r.lo=1 then 2 else if r.lo=6 then 1+2*cntI I 6 else if r.lo=17 then 1+2*cntI I 17 else 1
theorem len_by(h:Sh I X)(hk:∀x,x∈I->kindI x)(L:List Rg)(hd:ApartR L)(hle:∀r,r∈L->r.lo<=r.hi)(hall:∀v,0<=v->v<=255->∃r,r∈L/\inR r v=true)
  (hs:∀r,r∈L->r.lo=r.hi\/(2<=r.lo/\r.hi<=5)\/(7<=r.lo/\r.hi<=16)\/(18<=r.lo/\∀x,x∈I->x.1=50->r.hi<50\/50<r.lo)):(cano orB 3 X []).length<=(L.map (nPro I)).sum:=by
 refine cano_len_ranges orB 2 X [] L hd hle (nPro I) (fun v v0 v1 hv=>?_) (fun r hr u v hu hv u0 u1 v0 v1=>?_) fun r hr u hu u0 u1=>?_
 ·obtain⟨r,hr,h1⟩:=hall v v0 v1
  rw[hv r hr]at h1;cases h1
 ·refine rest_ext (k:=2) zo (fun p hp=>?_) fun p hp=>rfl
  show memK (setF p 2 u) 3 X=memK (setF p 2 v) 3 X
  have q1:=inP_set hp (f:=2) u0 u1
  have q2:=inP_set hp (f:=2) v0 v1
  have a1:=vals p u;have a2:=vals p v
  rw[inR_iff]at hu hv
  rcases hs r hr with h1|h1|h1|⟨h1,h2⟩
  ·rw[show u=v by omega]
  ·refine h.sig _ _ q1 q2 (ini_same q1 q2 ?_) fun x hx=>?_
   ·unfold iniQ;omega
   ·have:=hk x hx;unfold kindI at this;omega
  ·refine h.sig _ _ q1 q2 (ini_same q1 q2 ?_) fun x hx=>?_
   ·unfold iniQ;omega
   ·have:=hk x hx;unfold kindI at this;omega
  ·refine h.sig _ _ q1 q2 (ini_same q1 q2 ?_) fun x hx=>?_
   ·unfold iniQ;omega
   ·have:=hk x hx;have:=h2 x hx;unfold kindI at*;omega
 ·rw[inR_iff]at hu
  have hsr:=hs r hr
  have u1':u<=255:=u1
  have hu2:restAt orB 2 X [] u=cano orB 2 (atF 2 u X) []:=rfl
  rw[hu2]
  have hlo:(u=1->r.lo=1)/\(u=6->r.lo=6)/\(u=17->r.lo=17):=by
   rcases hsr with h1|h1|h1|⟨h1,_⟩<;>omega
  unfold nPro
  by_cases hu1:u=1
  ·rw[aH (hlo.1 hu1),hu1];exact len_one h
  ·by_cases hu6:u=6
   ·rw[aE zo,aH (hlo.2.1 hu6),hu6];exact len_pro h (.inl rfl)
   ·by_cases hu17:u=17
    ·rw[aE zo,aE zo,aH (hlo.2.2 hu17),hu17];exact len_pro h (.inr rfl)
    ·have:=len_pt h u0 u1' ⟨hu1,hu6,hu17⟩
     split
     ·omega
     ·split
      ·omega
      ·split
       ·omega
       ·omega
theorem cnt_three(I:List (Int×Rg)):cntI I 6+cntI I 17+cntI I 50<=I.length:=by
 unfold cntI
 induction I with
 |nil=>exact aJ _
 |cons x I ih=>
  simp only[eD,aK]
  by_cases h1:x.1=6
  ·rw[aH (by simpa using h1),aE (by simp;omega),aE (by simp;omega)];simp only[aK];omega
  ·by_cases h2:x.1=17
   ·rw[aE (by simpa using h1),aH (by simpa using h2),aE (by simp;omega)];simp only[aK];omega
   ·by_cases h3:x.1=50
    ·rw[aE (by simpa using h1),aE (by simpa using h2),aH (by simpa using h3)];simp only[aK];omega
    ·rw[aE (by simpa using h1),aE (by simpa using h2),aE (by simpa using h3)];omega
def lotA:List Rg:=[mkR 0 0,mkR 1 1,mkR 2 5,mkR 6 6,mkR 7 16,mkR 17 17,mkR 18 255]
def lotB:List Rg:=[mkR 0 0,mkR 1 1,mkR 2 5,mkR 6 6,mkR 7 16,mkR 17 17,mkR 18 49,mkR 50 50,mkR 51 255]
theorem lotA_ok:ApartR lotA/\(∀r,r∈lotA->r.lo<=r.hi)/\(∀r,r∈lotA->r.lo=r.hi\/(2<=r.lo/\r.hi<=5)\/(7<=r.lo/\r.hi<=16)\/18<=r.lo):=by
 unfold ApartR lotA;decide
theorem lotB_ok:ApartR lotB/\(∀r,r∈lotB->r.lo<=r.hi)/\(∀r,r∈lotB->r.lo=r.hi\/(2<=r.lo/\r.hi<=5)\/(7<=r.lo/\r.hi<=16)\/(18<=r.lo/\(r.hi<50\/50<r.lo))):=by
 unfold ApartR lotB;decide
theorem lot_all{L:List Rg}(h:∀n:Nat,n<256->(L.any fun r=>inR r (n:Int))=true):∀v,0<=v->v<=255->∃r,r∈L/\inR r v=true:=fun v v0 v1=>by
 have:=h v.toNat zo
 rw[show((v.toNat:Nat):Int)=v by omega,cI]at this
 exact this
theorem three_len(h:Sh I X)(hk:∀x,x∈I->kindI x)(h4:I.length<=4):(cano orB 3 X []).length<=16:=by
 have hc:=cnt_three I
 by_cases h50:cntI I 50=0
 ·have:=len_by h hk lotA lotA_ok.1 lotA_ok.2.1 (lot_all zd) fun r hr=>by
   rcases lotA_ok.2.2 r hr with h1|h1|h1|h1
   ·exact .inl h1
   ·exact .inr (.inl h1)
   ·exact .inr (.inr (.inl h1))
   ·refine .inr (.inr (.inr ⟨h1,fun x hx hx50=>?_⟩))
    exfalso
    have:=cE.1 h50
    have hm:x∈I.filter fun x=>decide (x.1=50):=bX.2 ⟨hx,by simpa using hx50⟩
    rw[this]at hm;simp at hm
  have e:(lotA.map (nPro I)).sum=1+(2+(1+((1+2*cntI I 6)+(1+((1+2*cntI I 17)+(1+0)))))):=rfl
  omega
 ·have:=len_by h hk lotB lotB_ok.1 lotB_ok.2.1 (lot_all zd) fun r hr=>by
   rcases lotB_ok.2.2 r hr with h1|h1|h1|h1
   ·exact .inl h1
   ·exact .inr (.inl h1)
   ·exact .inr (.inr (.inl h1))
   ·exact .inr (.inr (.inr ⟨h1.1,fun _ _ _=>h1.2⟩))
  have e:(lotB.map (nPro I)).sum=1+(2+(1+((1+2*cntI I 6)+(1+((1+2*cntI I 17)+(1+(1+(1+0)))))))):=rfl
  omega
end
/-! ### Two boxes joined -/
/-! ### Pairs of what is cut by ranges -/
theorem inK_full{b:Bx}(h0:b.r0=fullB.r0)(h1:b.r1=fullB.r1){q:Nat->Int}(hq:InP q):inK q 5 b=inK q 3 b:=by
 have q0:=hq 0;have q1:=hq 1
 have t0:topF 0=4294967295:=rfl
 have t1:topF 1=4294967295:=rfl
 have e0:fullB.r0.lo=0/\fullB.r0.hi=4294967295:=by decide
 have e1:fullB.r1.lo=0/\fullB.r1.hi=4294967295:=by decide
 have d0:(decide ((b.get 0).lo<=q 0)&&decide (q 0<=(b.get 0).hi))=true:=by
  show(decide (b.r0.lo<=q 0)&&decide (q 0<=b.r0.hi))=true
  rw[h0,aF,aI,aI];omega
 have d1:(decide ((b.get 1).lo<=q 1)&&decide (q 1<=(b.get 1).hi))=true:=by
  show(decide (b.r1.lo<=q 1)&&decide (q 1<=b.r1.hi))=true
  rw[h1,aF,aI,aI];omega
 show(decide ((b.get 0).lo<=q 0)&&decide (q 0<=(b.get 0).hi)&&(decide ((b.get 1).lo<=q 1)&&decide (q 1<=(b.get 1).hi)&&inK q 3 b))=inK q 3 b
 rw[d0,d1];rfl
theorem boxI_full{i:Nt}{b:Bx}(h:b∈boxesI i):b.r0=fullB.r0/\b.r1=fullB.r1:=by
 rcases aU.1 h with h|h
 ·simp only[initS,aS,cK,or_false]at h
  rcases h with rfl|rfl|rfl|rfl|rfl|rfl|rfl|rfl<;>exact⟨rfl,rfl⟩
 ·obtain⟨d,_,h⟩:=dH.1 h
  obtain⟨y,_,rfl⟩:=bK.1 h
  exact⟨rfl,rfl⟩
def svcI(i:Nt):List (Int×Rg):=i.svcs.flatMap fun d=>d.items.map fun y=>(wu y.proto,y.ports)
theorem inK_hdr{q:Nat->Int}(hq:InP q)(y:It):inK q 3 (hdrX y)=true↔q 2=wu y.proto/\y.ports.lo<=q 4/\q 4<=y.ports.hi:=by
 have h3:=(inP_b hq).2.1
 have e3:fullB.r3.lo=0/\fullB.r3.hi=65535:=by decide
 simp only[inK,hdrX,Bx.get,dZ,Nat.reduceSub,fL,aF,aI]
 omega
section
variable {t:Tp} {i:Nt} {A:List Bx}
end
/-! ### Sums over all pairs -/
/-! ### Real headers and two boxes -/
/-! ### All pairs -/
theorem cov_of{p q:Pf}(hp:p.okP)(hq:q.okP)(hb:p.bits<=q.bits)(h1:p.addr<=q.addr+pz q.bits-1)(h2:q.addr<=p.addr+pz p.bits-1):p.cov q=true:=by
 have hs:=pz_pos q.bits
 obtain⟨k,hk,e⟩:=pz_mul hb hq.2.1
 refine cov_iff.2 ⟨hq,hb,has_iffP.2 ⟨hp,?_,h2⟩⟩
 have ha:=hp.2.2
 rw[e]at ha
 have e1:pz q.bits∣p.addr:=Int.dvd_trans (Int.dvd_mul_right (pz q.bits) k) (fW ha)
 have e2:pz q.bits∣q.addr:=fW hq.2.2
 rcases dO q.addr p.addr with hlt|hge
 ·have:=Int.le_of_dvd zo (Int.dvd_sub e1 e2)
  omega
 ·exact hge
theorem meet_apart{p q:Pf}(hp:p.okP)(hq:q.okP)(h:p.meet q=false):p.rg.hi<q.rg.lo\/q.rg.hi<p.rg.lo:=by
 unfold Pf.meet at h
 rw[Bool.or_eq_false_iff]at h
 rw[rg_lo hp,rg_lo hq,rg_hi hp,rg_hi hq]
 rcases dO (p.addr+pz p.bits-1) q.addr with h1|h1
 ·exact .inl h1
 ·rcases dO (q.addr+pz q.bits-1) p.addr with h2|h2
  ·exact .inr h2
  ·exfalso
   rcases Int.le_total p.bits q.bits with hb|hb
   ·rw[cov_of hp hq hb h2 h1]at h;exact absurd h.1 zd
   ·rw[cov_of hq hp hb h1 h2]at h;exact absurd h.2 zd
theorem edges_apart{t:Tp}(hc:compB t=true):ApartR (t.edges.map fun e=>e.pf.rg):=by
 obtain⟨ht,hp⟩:=compB_iff.1 hc
 refine cC.2 fun i j hi hj hij=>?_
 rw[List.getElem_map,List.getElem_map]
 rw[aA]at hi hj
 have h:=ht.apart j _ (aB hj) i _ hij (aB hi)
 have p1:=hp _ (dG hi)
 have p2:=hp _ (dG hj)
 have hm:(t.edges[j]).pf.meet (t.edges[i]).pf=false:=by
  cases hx:(t.edges[j]).pf.meet (t.edges[i]).pf with
  |false=>rfl
  |true=>exact absurd ⟨p2,p1,hx⟩ h
 obtain⟨_,_,_,_,_,o1,_⟩:=(ht.edge i _ (aB hi)).1
 obtain⟨_,_,_,_,_,o2,_⟩:=(ht.edge j _ (aB hj)).1
 exact(meet_apart o2 o1 hm).symm
theorem wu_id{p:Int}(h0:0<=p)(h1:p<=4294967295):wu p=p:=by
 unfold wu;simp only[IntKind.wrap,IntKind.signed,IntKind.bits];simp;omega
theorem sum_flat_le{α β:Type}(f:α->List β){c:Nat}:∀(l:List α),(∀x,x∈l->(f x).length<=c)->(l.flatMap f).length<=l.length*c
 |[],_=>by simp
 |x::l,h=>by
  have h1:=h x zx
  have h2:=sum_flat_le f l fun y hy=>h y (aX _ hy)
  rw[cX,aC,aK,eX];omega
noncomputable def grAnD:Ctx:={N:=9}
noncomputable def brAnD:Code:=bdy Tryz.f267
abbrev ofrAnD:=@ofC Tryz.prog grAnD 267 Tryz.f267 brAnD Tryz.func267 zk zk zk zk
noncomputable def grNam1:Ctx:={N:=9}
noncomputable def brNam1:Code:=bdy Tryz.f268
abbrev ofrNam1:=@ofC Tryz.prog grNam1 268 Tryz.f268 brNam1 Tryz.func268 zk zk zk zk
noncomputable def grAnW:Ctx:={N:=9}
noncomputable def brAnW:Code:=bdy Tryz.f269
abbrev ofrAnW:=@ofC Tryz.prog grAnW 269 Tryz.f269 brAnW Tryz.func269 zk zk zk zk
noncomputable def grNam2:Ctx:={N:=9}
noncomputable def brNam2:Code:=bdy Tryz.f270
abbrev ofrNam2:=@ofC Tryz.prog grNam2 270 Tryz.f270 brNam2 Tryz.func270 zk zk zk zk
noncomputable def grBtw:Ctx:={N:=39,plan:=at1 9 (some (.one 0 true (.one 2 true (.alt 1 (ln [6,9,10]) (.alt 3 (ln [3,9,10]) (.stop)))))) (fun _=>none),hints:=at1 2 ([.virt 6 10]) (fun _=>[])}
noncomputable def brBtw:Code:=bdy Tryz.f199
abbrev ofrBtw:=@ofC Tryz.prog grBtw 199 Tryz.f199 brBtw Tryz.func199 zk zk zk zk
noncomputable def grStm:Ctx:={N:=111,cut:=at1 18 (true) (fun _=>false)}
noncomputable def brStm:Code:=bdy Tryz.f112
abbrev ofrStm:=@ofC Tryz.prog grStm 112 Tryz.f112 brStm Tryz.func112 zk zk zk zk
noncomputable def grNames:Ctx:={N:=33,lend:=at1 267 (true) (at1 269 (true) (fun _=>false))}
noncomputable def brNames:Code:=bdy Tryz.f195
abbrev ofrNames:=@ofC Tryz.prog grNames 195 Tryz.f195 brNames Tryz.func195 zk zk zk zk
noncomputable def grStmt:Ctx:={N:=37,plan:=at1 5 (some (ln [1,3,5,7,9,11,13,14,17,19,21,23])) (fun _=>none)}
noncomputable def brStmt:Code:=bdy Tryz.f48
abbrev ofrStmt:=@ofC Tryz.prog grStmt 48 Tryz.f48 brStmt Tryz.func48 zk zk zk zk
noncomputable def grCheck:Ctx:={N:=131}
noncomputable def brCheck:Code:=bdy Tryz.f110
abbrev ofrCheck:=@ofC Tryz.prog grCheck 110 Tryz.f110 brCheck Tryz.func110 zk zk zk zk
noncomputable def geNear:Ctx:={N:=79,np:=1,own:=at1 16 (true) (at1 132 (true) (fun _=>false)),plan:=gvNear.plan,cut:=at1 9 (true) (fun _=>false)}
noncomputable def beNear:Code:=bdy Tryz.f66
abbrev ofeNear:=@ofC Tryz.prog geNear 66 Tryz.f66 beNear Tryz.func66 zk zk zk zk
theorem enNear(raw:List Int)(pos:Nat)(l:List Bx)(hl:l.length<=1000000)(hp:pos<=raw.length)(hr:raw.length<=9223372036854775807){K:KT}
  (hK:∀(h:Hd) (pos':Nat),h.Ok->pos'<=raw.length->K (encHd h) [tapeO raw pos']):AC 66 [.op 0 0,encXs l] [tapeO raw pos] K:=by
 refine ofeNear rfl rfl ?_
 (repeat' ((conv=>whnf);first|(with_reducible first|refine nNext raw _ _ (by(try simp only[aA]);omega) zw hr fun m1 p1 hm1 hp1=>?_|refine hU (by simp only[aA]at*;omega) ?_|refine iA (f:=encX) (by simp only[aA]at*;omega) fun w hw=>?_|refine cvHdr raw _ zp hr fun h p2 ho hp2=>?_)|refine zG ?_|apply zA|intro h|exact zT));all_goals conv=>whnf
 all_goals first
  |exact hK _ _ zp zp
  |skip
 have b0:=And.intro (Rg.l0 w.r0) (Rg.l1 w.r0)
 have c0:=And.intro (Rg.h0 w.r0) (Rg.h1 w.r0)
 have b1:=And.intro (Rg.l0 w.r1) (Rg.l1 w.r1)
 have c1:=And.intro (Rg.h0 w.r1) (Rg.h1 w.r1)
 have b2:=And.intro (Rg.l0 w.r2) (Rg.l1 w.r2)
 have c2:=And.intro (Rg.h0 w.r2) (Rg.h1 w.r2)
 have b3:=And.intro (Rg.l0 w.r3) (Rg.l1 w.r3)
 have c3:=And.intro (Rg.h0 w.r3) (Rg.h1 w.r3)
 have b4:=And.intro (Rg.l0 w.r4) (Rg.l1 w.r4)
 have c4:=And.intro (Rg.h0 w.r4) (Rg.h1 w.r4)
 refine Lp.times 6 ?_
 (repeat' ((conv=>whnf);first|(with_reducible first|refine nNext raw _ _ zo zp hr fun m1 p1 hm1 hp1=>?_|refine cvHdr raw _ zp hr fun h p2 ho hp2=>?_)|(refine in_c zd ?_)|(with_reducible first|refine hU zo ?_|refine wr_u32_any fun r r0 r1=>?_)|(refine gT (by exact rfl) ?_)|(with_reducible first|refine cr3Top _ ?_|refine cvHd _ _ _ _ _ zo zo zo zo fun g ho=>?_)|(refine ix_5 zo ⟨by omega,by omega,⟨by assumption,by assumption⟩,⟨by assumption,by assumption⟩,⟨by assumption,by assumption⟩⟩ fun y y0 y1=>?_)|refine zG ?_|apply zA|intro h|exact zT));all_goals conv=>whnf
 refine gU (Nat×Int) (fun g=>⟨4,[(0,tapeO raw g.1),(1,.box [.v (.int .u32 0),.v (.int .u32 0),.v (.int .u8 0),.v (.int .u16 0),.v (.int .u16 0)]),(2,.box (celX w)),(3,.box [.v (.int .u32 g.2),.v (.int .u32 0),.v (.int .u32 0),.v (.int .u32 0),.v (.int .u32 0)])],[(0,.op 0 0),(4,.op 1 0),(5,.op 2 0),(6,.op 3 0),(7,.v (.int .i64 0))]⟩) (fun g=>g.1<=raw.length/\0<=g.2/\g.2<=4294967295) ?_ ?_
 ·(repeat' ((conv=>whnf);first|(with_reducible first|refine nNext raw _ _ zo zp hr fun m1 p1 hm1 hp1=>?_|refine cvHdr raw _ zp hr fun h p2 ho hp2=>?_)|(refine in_c zd ?_)|(with_reducible first|refine hU zo ?_|refine wr_u32_any fun r r0 r1=>?_)|(refine gT (by exact rfl) ?_)|(with_reducible first|refine cr3Top _ ?_|refine cvHd _ _ _ _ _ zo zo zo zo fun g ho=>?_)|(refine ix_5 zo ⟨by omega,by omega,⟨by assumption,by assumption⟩,⟨by assumption,by assumption⟩,⟨by assumption,by assumption⟩⟩ fun y y0 y1=>?_)|refine zG ?_|apply zA|intro h|exact zT));all_goals conv=>whnf
  all_goals
   refine⟨(p1,y),⟨hp1,y0,y1⟩,?_⟩
   (exact leA)
 rintro⟨q0,y0⟩ ⟨hq0,l0,u0⟩
 simp only at hq0 l0 u0⊢
 (repeat' ((conv=>whnf);first|(with_reducible first|refine nNext raw _ _ zo zp hr fun m1 p1 hm1 hp1=>?_|refine cvHdr raw _ zp hr fun h p2 ho hp2=>?_)|(refine in_c zd ?_)|(with_reducible first|refine hU zo ?_|refine wr_u32_any fun r r0 r1=>?_)|(refine gT (by exact rfl) ?_)|(with_reducible first|refine cr3Top _ ?_|refine cvHd _ _ _ _ _ zo zo zo zo fun g ho=>?_)|(refine ix_5 zo ⟨by omega,by omega,⟨by assumption,by assumption⟩,⟨by assumption,by assumption⟩,⟨by assumption,by assumption⟩⟩ fun y y0 y1=>?_)|refine zG ?_|apply zA|intro h|exact zT));all_goals conv=>whnf
 refine gU (Nat×Int) (fun g=>⟨4,[(0,tapeO raw g.1),(1,.box [.v (.int .u32 0),.v (.int .u32 0),.v (.int .u8 0),.v (.int .u16 0),.v (.int .u16 0)]),(2,.box (celX w)),(3,.box [.v (.int .u32 (min y0 (topI 0))),.v (.int .u32 g.2),.v (.int .u32 0),.v (.int .u32 0),.v (.int .u32 0)])],[(0,.op 0 0),(4,.op 1 0),(5,.op 2 0),(6,.op 3 0),(7,.v (.int .i64 1))]⟩) (fun g=>g.1<=raw.length/\0<=g.2/\g.2<=4294967295) ?_ ?_
 ·(repeat' ((conv=>whnf);first|(with_reducible first|refine nNext raw _ _ zo zp hr fun m1 p1 hm1 hp1=>?_|refine cvHdr raw _ zp hr fun h p2 ho hp2=>?_)|(refine in_c zd ?_)|(with_reducible first|refine hU zo ?_|refine wr_u32_any fun r r0 r1=>?_)|(refine gT (by exact rfl) ?_)|(with_reducible first|refine cr3Top _ ?_|refine cvHd _ _ _ _ _ zo zo zo zo fun g ho=>?_)|(refine ix_5 zo ⟨by omega,by omega,⟨by assumption,by assumption⟩,⟨by assumption,by assumption⟩,⟨by assumption,by assumption⟩⟩ fun y y0 y1=>?_)|refine zG ?_|apply zA|intro h|exact zT));all_goals conv=>whnf
  all_goals
   refine⟨(p1,y),⟨hp1,y0,y1⟩,?_⟩
   (exact leA)
 rintro⟨q1,y1⟩ ⟨hq1,l1,u1⟩
 simp only at hq1 l1 u1⊢
 (repeat' ((conv=>whnf);first|(with_reducible first|refine nNext raw _ _ zo zp hr fun m1 p1 hm1 hp1=>?_|refine cvHdr raw _ zp hr fun h p2 ho hp2=>?_)|(refine in_c zd ?_)|(with_reducible first|refine hU zo ?_|refine wr_u32_any fun r r0 r1=>?_)|(refine gT (by exact rfl) ?_)|(with_reducible first|refine cr3Top _ ?_|refine cvHd _ _ _ _ _ zo zo zo zo fun g ho=>?_)|(refine ix_5 zo ⟨by omega,by omega,⟨by assumption,by assumption⟩,⟨by assumption,by assumption⟩,⟨by assumption,by assumption⟩⟩ fun y y0 y1=>?_)|refine zG ?_|apply zA|intro h|exact zT));all_goals conv=>whnf
 refine gU (Nat×Int) (fun g=>⟨4,[(0,tapeO raw g.1),(1,.box [.v (.int .u32 0),.v (.int .u32 0),.v (.int .u8 0),.v (.int .u16 0),.v (.int .u16 0)]),(2,.box (celX w)),(3,.box [.v (.int .u32 (min y0 (topI 0))),.v (.int .u32 (min y1 (topI 1))),.v (.int .u32 g.2),.v (.int .u32 0),.v (.int .u32 0)])],[(0,.op 0 0),(4,.op 1 0),(5,.op 2 0),(6,.op 3 0),(7,.v (.int .i64 2))]⟩) (fun g=>g.1<=raw.length/\0<=g.2/\g.2<=4294967295) ?_ ?_
 ·(repeat' ((conv=>whnf);first|(with_reducible first|refine nNext raw _ _ zo zp hr fun m1 p1 hm1 hp1=>?_|refine cvHdr raw _ zp hr fun h p2 ho hp2=>?_)|(refine in_c zd ?_)|(with_reducible first|refine hU zo ?_|refine wr_u32_any fun r r0 r1=>?_)|(refine gT (by exact rfl) ?_)|(with_reducible first|refine cr3Top _ ?_|refine cvHd _ _ _ _ _ zo zo zo zo fun g ho=>?_)|(refine ix_5 zo ⟨by omega,by omega,⟨by assumption,by assumption⟩,⟨by assumption,by assumption⟩,⟨by assumption,by assumption⟩⟩ fun y y0 y1=>?_)|refine zG ?_|apply zA|intro h|exact zT));all_goals conv=>whnf
  all_goals
   refine⟨(p1,y),⟨hp1,y0,y1⟩,?_⟩
   (exact leA)
 rintro⟨q2,y2⟩ ⟨hq2,l2,u2⟩
 simp only at hq2 l2 u2⊢
 (repeat' ((conv=>whnf);first|(with_reducible first|refine nNext raw _ _ zo zp hr fun m1 p1 hm1 hp1=>?_|refine cvHdr raw _ zp hr fun h p2 ho hp2=>?_)|(refine in_c zd ?_)|(with_reducible first|refine hU zo ?_|refine wr_u32_any fun r r0 r1=>?_)|(refine gT (by exact rfl) ?_)|(with_reducible first|refine cr3Top _ ?_|refine cvHd _ _ _ _ _ zo zo zo zo fun g ho=>?_)|(refine ix_5 zo ⟨by omega,by omega,⟨by assumption,by assumption⟩,⟨by assumption,by assumption⟩,⟨by assumption,by assumption⟩⟩ fun y y0 y1=>?_)|refine zG ?_|apply zA|intro h|exact zT));all_goals conv=>whnf
 refine gU (Nat×Int) (fun g=>⟨4,[(0,tapeO raw g.1),(1,.box [.v (.int .u32 0),.v (.int .u32 0),.v (.int .u8 0),.v (.int .u16 0),.v (.int .u16 0)]),(2,.box (celX w)),(3,.box [.v (.int .u32 (min y0 (topI 0))),.v (.int .u32 (min y1 (topI 1))),.v (.int .u32 (min y2 (topI 2))),.v (.int .u32 g.2),.v (.int .u32 0)])],[(0,.op 0 0),(4,.op 1 0),(5,.op 2 0),(6,.op 3 0),(7,.v (.int .i64 3))]⟩) (fun g=>g.1<=raw.length/\0<=g.2/\g.2<=4294967295) ?_ ?_
 ·(repeat' ((conv=>whnf);first|(with_reducible first|refine nNext raw _ _ zo zp hr fun m1 p1 hm1 hp1=>?_|refine cvHdr raw _ zp hr fun h p2 ho hp2=>?_)|(refine in_c zd ?_)|(with_reducible first|refine hU zo ?_|refine wr_u32_any fun r r0 r1=>?_)|(refine gT (by exact rfl) ?_)|(with_reducible first|refine cr3Top _ ?_|refine cvHd _ _ _ _ _ zo zo zo zo fun g ho=>?_)|(refine ix_5 zo ⟨by omega,by omega,⟨by assumption,by assumption⟩,⟨by assumption,by assumption⟩,⟨by assumption,by assumption⟩⟩ fun y y0 y1=>?_)|refine zG ?_|apply zA|intro h|exact zT));all_goals conv=>whnf
  all_goals
   refine⟨(p1,y),⟨hp1,y0,y1⟩,?_⟩
   (exact leA)
 rintro⟨q3,y3⟩ ⟨hq3,l3,u3⟩
 simp only at hq3 l3 u3⊢
 (repeat' ((conv=>whnf);first|(with_reducible first|refine nNext raw _ _ zo zp hr fun m1 p1 hm1 hp1=>?_|refine cvHdr raw _ zp hr fun h p2 ho hp2=>?_)|(refine in_c zd ?_)|(with_reducible first|refine hU zo ?_|refine wr_u32_any fun r r0 r1=>?_)|(refine gT (by exact rfl) ?_)|(with_reducible first|refine cr3Top _ ?_|refine cvHd _ _ _ _ _ zo zo zo zo fun g ho=>?_)|(refine ix_5 zo ⟨by omega,by omega,⟨by assumption,by assumption⟩,⟨by assumption,by assumption⟩,⟨by assumption,by assumption⟩⟩ fun y y0 y1=>?_)|refine zG ?_|apply zA|intro h|exact zT));all_goals conv=>whnf
 refine gU (Nat×Int) (fun g=>⟨4,[(0,tapeO raw g.1),(1,.box [.v (.int .u32 0),.v (.int .u32 0),.v (.int .u8 0),.v (.int .u16 0),.v (.int .u16 0)]),(2,.box (celX w)),(3,.box [.v (.int .u32 (min y0 (topI 0))),.v (.int .u32 (min y1 (topI 1))),.v (.int .u32 (min y2 (topI 2))),.v (.int .u32 (min y3 (topI 3))),.v (.int .u32 g.2)])],[(0,.op 0 0),(4,.op 1 0),(5,.op 2 0),(6,.op 3 0),(7,.v (.int .i64 4))]⟩) (fun g=>g.1<=raw.length/\0<=g.2/\g.2<=4294967295) ?_ ?_
 ·(repeat' ((conv=>whnf);first|(with_reducible first|refine nNext raw _ _ zo zp hr fun m1 p1 hm1 hp1=>?_|refine cvHdr raw _ zp hr fun h p2 ho hp2=>?_)|(refine in_c zd ?_)|(with_reducible first|refine hU zo ?_|refine wr_u32_any fun r r0 r1=>?_)|(refine gT (by exact rfl) ?_)|(with_reducible first|refine cr3Top _ ?_|refine cvHd _ _ _ _ _ zo zo zo zo fun g ho=>?_)|(refine ix_5 zo ⟨by omega,by omega,⟨by assumption,by assumption⟩,⟨by assumption,by assumption⟩,⟨by assumption,by assumption⟩⟩ fun y y0 y1=>?_)|refine zG ?_|apply zA|intro h|exact zT));all_goals conv=>whnf
  all_goals
   refine⟨(p1,y),⟨hp1,y0,y1⟩,?_⟩
   (exact leA)
 rintro⟨q4,y4⟩ ⟨hq4,l4,u4⟩
 simp only at hq4 l4 u4⊢
 have e0:topI 0=4294967295:=by decide
 have e1:topI 1=4294967295:=by decide
 have e2:topI 2=255:=by decide
 have e3:topI 3=65535:=by decide
 have e4:topI 4=65535:=by decide
 (repeat' ((conv=>whnf);first|(with_reducible first|refine nNext raw _ _ zo zp hr fun m1 p1 hm1 hp1=>?_|refine cvHdr raw _ zp hr fun h p2 ho hp2=>?_)|(refine in_c zd ?_)|(with_reducible first|refine hU zo ?_|refine wr_u32_any fun r r0 r1=>?_)|(refine gT (by exact rfl) ?_)|(with_reducible first|refine cr3Top _ ?_|refine cvHd _ _ _ _ _ zo zo zo zo fun g ho=>?_)|(refine ix_5 zo ⟨by omega,by omega,⟨by assumption,by assumption⟩,⟨by assumption,by assumption⟩,⟨by assumption,by assumption⟩⟩ fun y y0 y1=>?_)|refine zG ?_|apply zA|intro h|exact zT));all_goals conv=>whnf
 exact hK _ _ zp zp
theorem firstIx_get{α:Type}{p:α->Bool}{l:List α}{k:Nat}(h:firstIx p l=k):∃x,l[k]? =some x/\p x=true:=by
 unfold firstIx at h
 split at h
 ·rename_i i hi
  obtain rfl:i=k:=by omega
  obtain⟨h1,h2,_⟩:=dM.1 hi
  exact⟨_,aB h1,h2⟩
 ·omega
def insRev{α:Type}(lt:α->α->Bool):List α->α->List α
 |[],x=>[x]
 |y::ys,x=>if lt x y then y::insRev lt ys x else x::y::ys
def sortRev{α:Type}(lt:α->α->Bool)(l:List α):List α:=l.foldl (insRev lt) []
def isort{α:Type}(lt:α->α->Bool)(l:List α):List α:=(sortRev lt l).reverse
theorem insRev_at{α:Type}{lt:α->α->Bool}{x:α}:∀{B A:List α},(∀y,y∈B->lt x y=true)->(∀a A',A=a::A'->lt x a=false)->insRev lt (B++A) x=B++x::A
 |[],[],_,_=>rfl
 |[],a::A,_,h=>by simp[insRev,h a A rfl]
 |b::B,A,h1,h2=>by
  simp only[List.cons_append,insRev,h1 b zx,if_true]
  rw[insRev_at (fun y hy=>h1 y (by simp[hy])) h2]
theorem insRev_length{α:Type}(lt:α->α->Bool):∀(l:List α) (x:α),(insRev lt l x).length=l.length+1
 |[],x=>rfl
 |y::ys,x=>by
  simp only[insRev]
  split
  ·simp[insRev_length lt ys x]
  ·simp
theorem insRev_mem{α:Type}{lt:α->α->Bool}{z:α}:∀{l:List α} {x:α},z∈insRev lt l x↔z=x\/z∈l
 |[],x=>by simp[insRev]
 |y::ys,x=>by
  simp only[insRev]
  split
  ·simp only[aS,insRev_mem (l:=ys)]
   constructor
   ·rintro(h|h|h)<;>simp[h]
   ·rintro(h|h|h)<;>simp[h]
  ·simp
theorem sortRev_succ{α:Type}{lt:α->α->Bool}{l:List α}{k:Nat}{x:α}(h:l[k]? =some x):sortRev lt (l.take (k+1))=insRev lt (sortRev lt (l.take k)) x:=by
 simp[sortRev,bH,h]
theorem foldl_ins_length{α:Type}(lt:α->α->Bool):∀(l acc:List α),(l.foldl (insRev lt) acc).length=acc.length+l.length
 |[],acc=>rfl
 |x::l,acc=>by rw[eA,foldl_ins_length lt l,insRev_length,aK];omega
theorem sortRev_length{α:Type}(lt:α->α->Bool)(l:List α):(sortRev lt l).length=l.length:=by
 rw[sortRev,foldl_ins_length];simp
theorem foldl_ins_mem{α:Type}{lt:α->α->Bool}{z:α}:∀{l acc:List α},z∈l.foldl (insRev lt) acc↔z∈l\/z∈acc
 |[],acc=>by simp
 |x::l,acc=>by
  rw[eA,foldl_ins_mem (l:=l),insRev_mem,aS]
  constructor
  ·rintro(h|h|h)<;>simp[h]
  ·rintro((h|h)|h)<;>simp[h]
theorem isort_length{α:Type}(lt:α->α->Bool)(l:List α):(isort lt l).length=l.length:=by rw[isort,List.length_reverse,sortRev_length]
noncomputable def gnCpI:Ctx:={N:=55,own:=at1 77 (true) (fun _=>false),plan:=at1 1 (some (.one 0 true (.one 1 true (.one 3 true (.wch 4 (.alt 2 (.alt 5 (ln [13,14,16]) (.alt 7 (ln [10,13,16]) (.stop))) (.alt 7 (ln [4,10,13,16]) (.stop)))))))) (at1 5 (some (.one 0 true (.one 2 true (.one 4 true (.one 9 true (.one 10 true (.one 11 true (.one 12 true (.one 13 true (.one 14 true (.wch 3 (.one 5 true (.one 6 true (.wch 7 (.alt 1 (ln [16,30,33,34,36,39,40]) (.alt 8 (.alt 1 (ln [30,33,34,36,39,40]) (.alt 15 (ln [3,33,34,36,39,40]) (.stop))) (.stop))))))))))))))))) (fun _=>none)),hints:=at1 2 ([.freeze 1]) (at1 6 ([.flatB 3 2,.virtB 3 1 2,.virtB 3 2 2]) (fun _=>[])),out:=true}
noncomputable def gnCpE:Ctx:={N:=28,plan:=at1 5 (some (.one 0 true (.one 1 true (.one 2 true (.one 3 true (.one 4 true (.one 7 true (.one 8 true (.one 9 true (.one 10 true (.one 11 true (.wch 5 (ln [12,24,27,28,30,33]))))))))))))) (fun _=>none),hints:=at1 6 ([.flatS 3,.virt 3 2]) (fun _=>[]),out:=true}
noncomputable def bnCpE:Code:=bdy Tryz.f77
abbrev ofnCpE:=@ofC Tryz.prog gnCpE 77 Tryz.f77 bnCpE Tryz.func77 zk zk zk zk
noncomputable def gnCpV:Ctx:={N:=55,own:=at1 77 (true) (fun _=>false),plan:=gnCpI.plan,hints:=at1 2 ([.freeze 1]) (at1 6 ([.flatB 3 2,.virtB 3 2 2]) (fun _=>[])),out:=true}
noncomputable def bnCpV:Code:=bdy Tryz.f24
abbrev ofnCpV:=@ofC Tryz.prog gnCpV 24 Tryz.f24 bnCpV Tryz.func24 zk zk zk zk
end Go.Proofs.YtbdikofefjljoaaGreatDoor
