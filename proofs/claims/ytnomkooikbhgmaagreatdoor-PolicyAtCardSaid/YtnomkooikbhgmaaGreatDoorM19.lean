/- Lemmas. -/
import Derived.Test.YtnomkooikbhgmaaGreatDoorProg
import Derived.Sort.AssemblyPlain
import Derived.Test.YtnomkooikbhgmaaGreatDoorM18
set_option linter.unusedVariables false
set_option linter.unusedSimpArgs false
set_option maxRecDepth 100000
set_option maxHeartbeats 4000000
noncomputable section
namespace Go.Proofs.YtnomkooikbhgmaaGreatDoor
open Go Go.Vm
def gyWho:Ctx:={N:=32}
abbrev ofyWho:=ofD gyWho Tryz.func152
def gyPairs:Ctx:={N:=31,hints:=h1 2 [.virt 3 10] hn}
abbrev ofyPairs:=ofD gyPairs Tryz.func76
def gyVal:Ctx:={N:=109,plan:=p1 1 (ln [1,2,5,7,9,11,12,15,17,19,21,23,25,26,28,31,33,35,37,39,40,42,45,47]) (p1 6 (ln [1,3,4,7,9,11,13,15,17,19,21,23,25,27,29,31,33,35,37,39,41,43,45,47,49,51,53,55,57,58,61,63,65,67,69,71,73,74,77,79]) pn),cut:=oz [8]}
abbrev ofyVal:=ofD gyVal Tryz.func51
def gxInit:Ctx:={N:=28,own:=oz [117],hints:=h1 2 [.virtB 1 0 10] hn}
abbrev ofxInit:=ofD gxInit Tryz.func55
def gxInitC:Ctx:={N:=31,np:=2,out:=true}
abbrev ofxInitC:=ofD gxInitC Tryz.func117
def gxEqB:Ctx:={N:=26,plan:=p1 6 (lo 9) pn}
abbrev ofxEqB:=ofD gxEqB Tryz.func254
def gxCan:Ctx:={N:=170,plan:=p1 13 (lp 13 [26,28]) (p1 14 (lp 6 [15,17,19,21,25,27,12,22,28,31,33,35,37,39]) (p1 19 (lp 23 [46,49]) pn)),hints:=h1 8 [.virt 12 3] hn,cut:=oz [7]}
abbrev ofxCan:=ofD gxCan Tryz.func231
def gxRests:Ctx:={N:=28,own:=oz [229]}
abbrev ofxRests:=ofD gxRests Tryz.func253
def gxComb:Ctx:={N:=20}
abbrev ofxComb:=ofD gxComb Tryz.func150
def gxSet:Ctx:={N:=11}
abbrev ofxSet:=ofD gxSet Tryz.func232
def gxOf:Ctx:={N:=33}
abbrev ofxOf:=ofD gxOf Tryz.func153
def gxMake:Ctx:={N:=29,hints:=h1 2 [.asL 4] hn}
abbrev ofxMake:=ofD gxMake Tryz.func75
def gxVald:Ctx:={N:=18}
abbrev ofxVald:=ofD gxVald Tryz.func105
def gxDiv:Ctx:={N:=86,plan:=p1 6 (lo 18) (p1 8 (lz [1,3,5,7,9,11,13,15,17] (.alt 9 (ln [21,22,24]) (.alt 11 (ln [18,21,24]) Aa))) (p1 14 (ln [1,3,5,7,8,11]) pn)),cut:=oz [8,9]}
abbrev ofxDiv:=ofD gxDiv Tryz.func188
def gxInt:Ctx:={N:=11}
abbrev ofxInt:=ofD gxInt Tryz.func77
def gxUn:Ctx:={N:=11}
abbrev ofxUn:=ofD gxUn Tryz.func80
def gxSub:Ctx:={N:=11}
abbrev ofxSub:=ofD gxSub Tryz.func79
def gxSubs:Ctx:={N:=15}
abbrev ofxSubs:=ofD gxSubs Tryz.func106
def gxLst:Ctx:={N:=77,np:=1,own:=oz [255],plan:=p1 10 (lp 9 [21,23,25,27,29,31,33,37,39,18,34,40]) pn,cut:=oz [5]}
abbrev ofxLst:=ofD gxLst Tryz.func255
def gxFst:Ctx:={N:=31,own:=oz [255]}
abbrev ofxFst:=ofD gxFst Tryz.func189
def gxVals:Ctx:={N:=17}
abbrev ofxVals:=ofD gxVals Tryz.func194
def gxHdr:Ctx:={N:=17}
abbrev ofxHdr:=ofD gxHdr Tryz.func297
def gxWith:Ctx:={N:=29}
abbrev ofxWith:=ofD gxWith Tryz.func256
def gxTop:Ctx:={N:=12}
abbrev ofxTop:=ofD gxTop Tryz.func119
def gxFull:Ctx:={N:=15}
abbrev ofxFull:=ofD gxFull Tryz.func118
def gxBVal:Ctx:={N:=24,plan:=p1 4 (lo 13) pn}
abbrev ofxBVal:=ofD gxBVal Tryz.func193
def gxCov:Ctx:={N:=36,hints:=h1 2 [.virt 7 10] hn}
abbrev ofxCov:=ofD gxCov Tryz.func290
def gxEither:Ctx:={N:=9}
abbrev ofxEither:=ofD gxEither Tryz.func151
def gxBoth:Ctx:={N:=9}
abbrev ofxBoth:=ofD gxBoth Tryz.func154
def gxWout:Ctx:={N:=10}
abbrev ofxWout:=ofD gxWout Tryz.func156
def gxCuts:Ctx:={N:=47,own:=oz [308,309],plan:=p1 8 (lp 12 [24,26,29]) pn}
abbrev ofxCuts:=ofD gxCuts Tryz.func289
def gxValC:Ctx:={N:=6}
abbrev ofxValC:=ofD gxValC Tryz.func230
def gxIdx:Ctx:={N:=19}
abbrev ofxIdx:=ofD gxIdx Tryz.func192
def gxClone:Ctx:={N:=8,res:=true}
abbrev ofxClone:=ofD gxClone Tryz.func229
def gxDel:Ctx:={N:=42,np:=1,res:=true,lend:=oz [192]}
abbrev ofxDel:=ofD gxDel Tryz.func228
def gxVal:Ctx:={N:=6,own:=oz [229,228]}
abbrev ofxVal:=ofD gxVal Tryz.func149
def gxDel0:Ctx:={N:=42}
abbrev ofxDel0:=ofD gxDel0 Tryz.func228
theorem cxTop(f:Int){K:KT}(hK:K (.v (.int .u32 (topI f))) []):AC 119 [.v (.int .i64 f)] [] K:=by
 refine ofxTop rfl rfl ?_;by_cases h1:0<=f/\f<5
 ·have h2:f=0\/f=1\/f=2\/f=3\/f=4:=by omega
  rcases h2 with rfl|rfl|rfl|rfl|rfl
  all_goals
   (repeat' ((conv=>whnf);first|(refine in_c zd ?_)|refine zG ?_|apply zA|intro h|exact zT));all_goals conv=>whnf
   exact hK
 ·(repeat' ((conv=>whnf);first|refine zG ?_|apply zA|intro h|exact zT));all_goals conv=>whnf
  ·rw[show topI f=0 from by unfold topI;rw[aD zo,aD zo,aD zo]]at hK;exact hK
  ·rw[show topI f=0 from by unfold topI;rw[aD zo,aD zo,aD zo]]at hK;exact hK
theorem cxFull{K:KT}(hK:K (encX fullB) []):AC 118 [] [] K:=by
 refine ofxFull rfl rfl ?_;(repeat' ((conv=>whnf);first|(with_reducible refine Lp.times 6 ?_)|(refine in_c zd ?_)|refine zG ?_|apply zA|intro h|exact zT));all_goals conv=>whnf
 exact hK
theorem cxBVal(b:Bx){K:KT}(hK:K (.sb (decide b.ok)) []):AC 193 [encX b] [] K:=by
 refine gO (ofxBVal rfl rfl ?_);(repeat' ((conv=>whnf);first|(with_reducible refine Lp.times 6 ?_)|(refine in_c zd ?_)|refine zG ?_|apply zA|intro h|exact zT));all_goals conv=>whnf
 all_goals
  have hb:b.ok↔((b.r0.lo<=b.r0.hi/\b.r0.hi<=4294967295)/\(b.r1.lo<=b.r1.hi/\b.r1.hi<=4294967295)/\(b.r2.lo<=b.r2.hi/\b.r2.hi<=255)/\(b.r3.lo<=b.r3.hi/\b.r3.hi<=65535)/\(b.r4.lo<=b.r4.hi/\b.r4.hi<=65535)):=Iff.rfl;first
   |exact fin_f hK (decide_eq_false (by rw[hb];omega))
   |exact fin_t hK (decide_eq_true (by rw[hb];omega))
theorem cxEither(x y:Bool){K:KT}(hK:K (.sb (x||y)) []):AC 151 [.sb x,.sb y] [] K:=by
 refine gO (ofxEither rfl rfl ?_);(repeat' ((conv=>whnf);first|refine zG ?_|apply zA|intro h|exact zT));all_goals conv=>whnf
 all_goals
  first
   |exact fin_s hK (by cases x<;>cases y<;>simp_all)
   |exact fin_t hK (by cases x<;>cases y<;>simp_all)
   |exact fin_f hK (by cases x<;>cases y<;>simp_all)
theorem cxBoth(x y:Bool){K:KT}(hK:K (.sb (x&&y)) []):AC 154 [.sb x,.sb y] [] K:=by
 refine gO (ofxBoth rfl rfl ?_);(repeat' ((conv=>whnf);first|refine zG ?_|apply zA|intro h|exact zT));all_goals conv=>whnf
 all_goals
  first
   |exact fin_s hK (by cases x<;>cases y<;>simp_all)
   |exact fin_t hK (by cases x<;>cases y<;>simp_all)
   |exact fin_f hK (by cases x<;>cases y<;>simp_all)
theorem cxWout(x y:Bool){K:KT}(hK:K (.sb (x&& !y)) []):AC 156 [.sb x,.sb y] [] K:=by
 refine gO (ofxWout rfl rfl ?_);(repeat' ((conv=>whnf);first|refine zG ?_|apply zA|intro h|exact zT));all_goals conv=>whnf
 all_goals
  first
   |exact fin_s hK (by cases x<;>cases y<;>simp_all)
   |exact fin_t hK (by cases x<;>cases y<;>simp_all)
   |exact fin_f hK (by cases x<;>cases y<;>simp_all)
theorem cxValC(x:Bx){K:KT}(hK:K (.sb (!decide x.ok)) []):AC 230 [encX x] [] K:=by
 refine gO (ofxValC rfl rfl ?_);(repeat' ((conv=>whnf);first|(with_reducible refine cxBVal x ?_)|refine zG ?_|apply zA|intro h|exact zT));all_goals conv=>whnf
 exact fin_s hK rfl
theorem cxClone(l:List Bx)(hl:l.length<1000000000){K:KT}(hK0:l=[]->K .nils [])(hK:K (.os 0 10 0 l.length) [.arr 10 (l.map encX)]):AC 229 [encXs l] [] K:=by
 refine ofxClone rfl rfl ?_;have e:0+(l.map encX).length=l.length:=by rw[aA];omega
 have hK':K (.os 0 10 0 (0+(l.map encX).length)) [.arr 10 (l.map encX)]:=by rw[e];exact hK
 (repeat' ((conv=>whnf);first|refine zG ?_|apply zA|intro h|exact zT));all_goals conv=>whnf
 all_goals first
  |exact hK'
  |exact hK0 ((List.map_eq_nil_iff (f:=encX)).1 (by simp_all))
  |skip
 all_goals
  intro b hb;(repeat' ((conv=>whnf);first|refine zG ?_|apply zA|intro h|exact zT));all_goals conv=>whnf
  all_goals first
   |exact hK'
   |exact hK0 ((List.map_eq_nil_iff (f:=encX)).1 (by simp_all))
theorem cxIdx(l:List Bx)(hl:l.length<1000000000){K:KT}(hK1:(∀x,x∈l->x.ok)->K (.v (.int .i64 (-1))) [])
  (hK2:∀(i:Nat) x,l[i]? =some x->¬x.ok->(∀y,y∈l.take i->y.ok)->K (.v (.int .i64 i)) []):
  AC 192 [encXs l,.fn (.func 230) [] []] [] K:=by
 refine ofxIdx rfl rfl ?_;(repeat' ((conv=>whnf);first|refine zG ?_|apply zA|intro h|exact zT));all_goals conv=>whnf
 refine gL Nat (fun k=>⟨0,[],[(0,encXs l),(1,.fn (.func 230) [] []),(7,.v (.int .i64 ((l.map encX).length:Nat))),(8,.v (.int .i64 k))]⟩) (fun k=>k<=l.length/\∀y,y∈l.take k->y.ok) (fun k=>l.length-k) 0 ⟨aK _,by simp⟩ ?_ ?_
 ·exact leA
 intro k ⟨hk,hin⟩;rcases aF k l.length with hkl|hkl
 ·obtain⟨x,hx⟩:=gex hkl;(repeat' ((conv=>whnf);first|(with_reducible first|refine hU hkl ?_|refine hJ hx ?_|refine cxValC x ?_)|refine zG ?_|apply zA|intro h|exact zT));all_goals conv=>whnf
  all_goals first
   |exact hK2 k x hx (by simpa using h) hin
   |(refine⟨k+1,⟨hkl,fun y hy=>?_⟩,by omega,?_⟩
     ·rw[bI,hx]at hy;rcases aX.1 hy with hy|hy
      ·exact hin y hy
      ·simp only[eC,aV]at hy;subst hy;simpa using h
     ·rw[aO,aN];(exact leA))
 ·rw[aY hkl]at hin;(repeat' ((conv=>whnf);first|refine zG ?_|apply zA|intro h|exact zT));all_goals conv=>whnf
  exact hK1 hin
theorem cxDel(l:List Bx)(hl:l.length<1000000000){K:KT}(hK:∀zs,K (.os 0 10 0 (vldB l).length) [.arr 10 ((vldB l).map encX++zs)]):
  AC 228 [.os 0 10 0 l.length,.fn (.func 230) [] []] [.arr 10 (l.map encX)] K:=by
 refine ofxDel rfl rfl ?_;(repeat' ((conv=>whnf);first|refine zG ?_|apply zA|intro h|exact zT));all_goals conv=>whnf
 refine cxIdx l hl (fun hall=>?_) (fun i x hx hbad hbef=>?_)
 ·have e:vldB l=l:=eQ.2 fun y hy=>by simpa using hall y hy
  have:=hK [];rw[e,bF]at this;(repeat' ((conv=>whnf);first|refine zG ?_|apply zA|intro h|exact zT));all_goals conv=>whnf
  exact this
 ·have hil:i<l.length:=(aP.1 hx).1;have e0:vldB (l.take i)=l.take i:=eQ.2 fun y hy=>by simpa using hbef y hy
  have e1:vldB (l.take (i+1))=l.take i:=by rw[vldB_succ hx,aD hbad,e0,bF]
  have e2:(l.take i).length=i:=by rw[bA];omega
  (repeat' ((conv=>whnf);first|refine zG ?_|apply zA|intro h|exact zT));all_goals conv=>whnf
  refine gL Nat (fun j=>⟨1,[(0,.arr 10 ((vldB (l.take j)++l.drop (vldB (l.take j)).length).map encX))],[(0,.os 0 10 0 l.length),(1,.fn (.func 230) [] []),(5,.v (.int .i64 (vldB (l.take j)).length)),(6,.v (.int .i64 j))]⟩) (fun j=>j<=l.length/\(vldB (l.take j)).length<j) (fun j=>l.length-j) (i+1) ⟨hil,by rw[e1,e2];omega⟩ ?_ ?_
  ·rw[e1,e2,cO,aO,aN];exact leA
  intro j ⟨hj1,hj2⟩;rcases aF j l.length with hjl|hjl
  ·obtain⟨y,hy⟩:=gex hjl;have hs:=vldB_succ hy;generalize hC:vldB (l.take j)=C at*;have hget:∀i,C.length<=i->(C++l.drop C.length)[i]? =l[i]? :=fun i hi=>by
    rw[bG hi,cF]
    congr 1;omega
   have hCn:C.length<l.length:=by omega
   have hy0:(C++l.drop C.length)[0+j]? =some y:=by rw[bK,hget _ zo];exact hy
   obtain⟨z,hz⟩:∃z,l[C.length]? =some z:=⟨_,aE hCn⟩
   have hz0:(C++l.drop C.length)[0+C.length]? =some z:=by rw[bK,hget _ (aM _)];exact hz
   have hdr:l.drop C.length=z::l.drop (C.length+1):=by
    rw[aE hCn]at hz;rw[<-bE hz,<-bB hCn]
   have hset:((C++l.drop C.length).map encX).set (0+C.length) (encX y)=((C++[y])++l.drop (C++[y]).length).map encX:=by
    rw[bK,<-eU,eB _ _ (aM _),dX,hdr];simp
   (repeat' ((conv=>whnf);first|(with_reducible first|refine hZ hjl ?_|refine hJ hy0 ?_|refine cxValC y ?_|refine hZ hCn ?_|refine hJ hz0 ?_)|refine zG ?_|apply zA|intro h|exact zT));all_goals conv=>whnf
   ·rw[aG h]at hs;refine⟨j+1,⟨hjl,by rw[hs,aC];simp;omega⟩,by omega,?_⟩;rw[hs,<-hset,show((C++[y]).length:Int)=(C.length:Int)+1 by simp,aO j,aN];exact leA
   ·rw[aD h,bF]at hs;refine⟨j+1,⟨hjl,by rw[hs];omega⟩,by omega,?_⟩;rw[hs,aO j,aN];exact leA
  ·have hCl:vldB (l.take j)=vldB l:=by rw[aY hjl]
   have hCn:(vldB l).length<=l.length:=vldB_len l;rw[hCl];(repeat' ((conv=>whnf);first|(refine gY (vldB l).length l.length rfl rfl hCn (aM _) ?_)|(refine gY 0 (vldB l).length rfl rfl (aK _) hCn ?_)|refine zG ?_|apply zA|intro h|exact zT));all_goals conv=>whnf
   have e3:(List.map encX (vldB l++l.drop (vldB l).length)).take (0+(vldB l).length)=(vldB l).map encX:=by
    rw[bK,aQ,fZ zx]
   rw[e3,eF,eL];exact hK _
theorem cxIdx0{K:KT}(hK:K (.v (.int .i64 (-1))) []):
  AC 192 [.lst [],.fn (.func 230) [] []] [] K:=
 cxIdx [] zd (fun _=>hK) (fun i x h=>by simp at h)
theorem cxDel0{K:KT}(hK:K .nils []):
  AC 228 [.nils,.fn (.func 230) [] []] [] K:=by
 refine ofxDel0 rfl rfl ?_;(repeat' ((conv=>whnf);first|(with_reducible refine cxIdx0 ?_)|refine zG ?_|apply zA|intro h|exact zT));all_goals conv=>whnf
 exact hK
theorem cxVal(l:List Bx)(hl:l.length<1000000000){K:KT}(hK:K (encXs (vldB l)) []):AC 149 [encXs l] [] K:=by
 refine gP (ofxVal rfl rfl ?_);(repeat' ((conv=>whnf);first|refine zG ?_|apply zA|intro h|exact zT));all_goals conv=>whnf
 refine cxClone l hl (fun e=>?_) ?_
 ·subst e;(repeat' ((conv=>whnf);first|(with_reducible refine cxDel0 ?_)|refine zG ?_|apply zA|intro h|exact zT));all_goals conv=>whnf
  exact⟨_,gR,hK⟩
 ·(repeat' ((conv=>whnf);first|(with_reducible refine cxDel l hl fun zs=>?_)|refine zG ?_|apply zA|intro h|exact zT));all_goals conv=>whnf
  refine Sl.intro (ys:=(vldB l).map encX) zx (by rw[bZ,fZ zx]) ?_;exact⟨_,gM,hK⟩
theorem cxCov(l:List Bx)(f:Nat)(hf:f<=4)(v:Int)(hl:l.length<1000000000000){K:KT}(hK:K (encXs (atF f v l)) []):AC 290 [encXs l,.v (.int .i64 f),.v (.int .u32 v)] [] K:=by
 refine ofxCov rfl rfl ?_;(repeat' ((conv=>whnf);first|refine zG ?_|apply zA|intro h|exact zT));all_goals conv=>whnf
 refine gL Nat (fun k=>⟨1,[(0,.arr 10 ((atF f v (l.take k)).map encX))],[(1,.v (.int .i64 f)),(2,.v (.int .u32 v)),(7,.os 0 10 0 (atF f v (l.take k)).length),(10,encXs l),(11,.v (.int .i64 l.length)),(12,.v (.int .i64 k))]⟩) (fun k=>k<=l.length) (fun k=>l.length-k) 0 (aK _) ?_ ?_
 ·have e1:(List.map encX l).length=l.length:=aA ..;rw[e1];exact leA
 intro k hk;have hlen:=atF_len f v (l.take k);rw[bA]at hlen;rcases aF k l.length with hkl|hkl
 ·obtain⟨x,hx⟩:=gex hkl;have hs:=atF_succ (f:=f) (v:=v) hx;rcases f with _|_|_|_|_|f
  case succ.succ.succ.succ.succ=>omega
  all_goals
   simp only[Bx.get]at hs;(repeat' ((conv=>whnf);first|(with_reducible first|refine hU hkl ?_|refine hZ hkl ?_|refine hJ hx ?_)|(refine in_c zd ?_)|refine zG ?_|apply zA|intro h|exact zT));all_goals conv=>whnf
   all_goals
    refine⟨k+1,by omega,by omega,?_⟩;first
     |(rw[aG zo]at hs
       rw[hs,aQ,aC];exact leA)
     |(rw[aD zo,bF]at hs
       rw[hs];exact leA)
 ·(repeat' ((conv=>whnf);first|refine zG ?_|apply zA|intro h|exact zT));all_goals conv=>whnf
  rw[aY hkl]at*;(repeat' ((conv=>whnf);first|refine zG ?_|apply zA|intro h|exact zT));all_goals conv=>whnf
  exact hK
def gsNaN:Ctx:={N:=6}
abbrev ofsNaN:=ofD gsNaN Tryz.func338
def gsLess:Ctx:={N:=17}
abbrev ofsLess:=ofD gsLess Tryz.func331
def Ag:Sched:=lp 15 [30,33,34]
def gsIns:Ctx:={N:=49,np:=1,plan:=p1 4 (lp 13 [26,29]) (p1 6 Ag pn)}
abbrev ofsIns:=ofD gsIns Tryz.func325
def gsSift:Ctx:={N:=76,np:=1,plan:=p1 3 (lp 18 [36,39]) (p1 5 Af (p1 6 (lp 21 [42,45,46]) pn))}
abbrev ofsSift:=ofD gsSift Tryz.func335
def gsHeap:Ctx:={N:=56,np:=1,own:=oz [335],plan:=p1 10 (lp 17 [34,37,38]) pn}
abbrev ofsHeap:=ofD gsHeap Tryz.func326
def Ah:Sched:=lp 13 [26,29,30]
def gsRev:Ctx:={N:=32,np:=1,plan:=p1 3 Ah pn}
abbrev ofsRev:=ofD gsRev Tryz.func329
def Ai:Sched:=lp 12 [24,27,29]
def gsPart:Ctx:={N:=168,np:=1,plan:=p1 1 Ah (p1 3 Af (p1 5 Ai (p1 8 Ah (p1 10 Ah (p1 13 Af (p1 15 Ai (p1 18 Ah (p1 21 Ah pn)))))))),cut:=oz [5,7,15,17]}
abbrev ofsPart:=ofD gsPart Tryz.func333
def gsPeq:Ctx:={N:=84,np:=1,plan:=p1 1 Ah (p1 3 Ai (p1 5 Af (p1 8 Ah pn))),cut:=oz [5,7]}
abbrev ofsPeq:=ofD gsPeq Tryz.func332
def gsPins:Ctx:={N:=133,np:=1,plan:=p1 5 (lp 13 [26,29,31]) (p1 11 Ag (p1 16 (lp 9 [18,21]) (p1 17 Ag (p1 22 (lp 9 [18,21]) (p1 23 Ag pn))))),cut:=oz [7,18]}
abbrev ofsPins:=ofD gsPins Tryz.func330
def gsOrd2:Ctx:={N:=28,np:=2,plan:=p1 1 (lp 8 [16]) pn}
abbrev ofsOrd2:=ofD gsOrd2 Tryz.func339
def gsMed:Ctx:={N:=36,np:=2,own:=oz [339]}
abbrev ofsMed:=ofD gsMed Tryz.func337
def gsMedA:Ctx:={N:=15,np:=2,own:=oz [337]}
abbrev ofsMedA:=ofD gsMedA Tryz.func336
def gsPiv:Ctx:={N:=57,np:=1,own:=oz [337,336]}
abbrev ofsPiv:=ofD gsPiv Tryz.func328
def gsLen64:Ctx:={N:=25}
abbrev ofsLen64:=ofD gsLen64 Tryz.func166
def gsLen:Ctx:={N:=8}
abbrev ofsLen:=ofD gsLen Tryz.func82
def gsPow2:Ctx:={N:=7}
abbrev ofsPow2:=ofD gsPow2 Tryz.func234
def Ac:Sched:=lp 9 [18]
def gsNext:Ctx:={N:=33,np:=1,plan:=p1 1 Ac (p1 2 Ac (p1 3 Ac pn))}
abbrev ofsNext:=ofD gsNext Tryz.func235
def gsBrk:Ctx:={N:=65,np:=1,own:=oz [235],plan:=p1 10 (lp 17 [34,37,38]) pn}
abbrev ofsBrk:=ofD gsBrk Tryz.func327
def gsPdq:Ctx:={N:=134,np:=1,own:=oz [325,326,327,328,329,330,332,333,321],plan:=p1 17 Ai pn,cut:=oz [10,15,17]}
abbrev ofsPdq:=ofD gsPdq Tryz.func321
def gsSort:Ctx:={N:=11,np:=1,own:=oz [321]}
abbrev ofsSort:=ofD gsSort Tryz.func308
def gsComp:Ctx:={N:=61,np:=1,plan:=p1 6 (lo 10) (p1 11 (lo 10) pn),res:=true}
abbrev ofsComp:=ofD gsComp Tryz.func309
abbrev encZ(z:Int):AV:=.v (.int .u64 z)
abbrev rowZ(d:Array Int):Vm.Obj:=.arr 1 (d.toList.map encZ)
theorem z_get{d:Array Int}{i:Nat}(h:i<d.size):d.toList[i]? =some d[i]! :=by
 rw[Array.getElem?_toList,bH h,getElem!_pos d i h]
theorem ix_z{d:Array Int}{i:Nat}{K:AV->Prop}(h:i<d.size)(hk:K (encZ d[i]!)):Ix (d.toList.map encZ) (0+i) K:=by
 rw[bK];exact hJ (z_get h) hk
theorem swp_z{d:Array Int}{i j:Nat}:((d.toList.map encZ).set i (encZ d[j]!)).set j (encZ d[i]!)=(Sort.swp d i j).toList.map encZ:=by
 rw[<-eU,<-eU];simp[Sort.swp]
theorem ix_zs{d:Array Int}{i j:Nat}{x:AV}{K:AV->Prop}(hij:i≠j)(h:j<d.size)(hk:K (encZ d[j]!)):Ix ((d.toList.map encZ).set (0+i) x) (0+j) K:=by
 rw[bK,bK];exact gU (by rw[gJ hij,bP,z_get h];rfl) hk
theorem ix_zw{d:Array Int}{i j:Nat}{y:Int}{K:AV->Prop}(h:j<d.size)(hk:∀z,K (encZ z)):Ix ((d.toList.map encZ).set (0+i) (encZ y)) (0+j) K:=by
 rw[bK,bK];rcases Nat.decEq i j with hij|rfl
 ·exact gU (by rw[gJ hij,bP,z_get h];rfl) (hk _)
 ·exact gU (by rw[List.getElem?_set_self (by simpa using h)]) (hk _)
theorem swp0{d:Array Int}{i j:Nat}:((d.toList.map encZ).set (0+i) (encZ d[j]!)).set (0+j) (encZ d[i]!)=(Sort.swp d i j).toList.map encZ:=by rw[bK,bK];exact swp_z
theorem swp_size{d:Array Int}{i j:Nat}:(Sort.swp d i j).size=d.size:=by simp[Sort.swp]
theorem csNaN(x:Int){K:KT}(hK:K (.sb false) []):AC 338 [encZ x] [] K:=by
 refine ofsNaN rfl rfl ?_;(repeat' ((conv=>whnf);first|refine zG ?_|apply zA|intro h|exact zT));all_goals conv=>whnf
 have e:(!decide (x=x))=false:=by simp
 unfold one?;rw[e];exact hK
theorem csLess(x y:Int){K:KT}(hK:K (.sb (Sort.ltInt x y)) []):AC 331 [encZ x,encZ y] [] K:=by
 refine gO (ofsLess rfl rfl ?_);(repeat' ((conv=>whnf);first|(with_reducible refine csNaN _ ?_)|refine zG ?_|apply zA|intro h|exact zT));all_goals conv=>whnf
 exact fin_s hK rfl
theorem csIns(d:Array Int)(a b:Nat)(hab:a<=b)(hb:b<=d.size)(hsz:d.size<1000000000000){K:KT}(hK:K (.tup []) [rowZ (Sort.insertionSort Sort.ltInt d a b)]):
  AC 325 [.os 0 1 0 d.size,.v (.int .i64 a),.v (.int .i64 b)] [rowZ d] K:=by
 refine ofsIns rfl rfl ?_;(repeat' ((conv=>whnf);first|refine zG ?_|apply zA|intro h|exact zT));all_goals conv=>whnf
 refine gL (Nat×Array Int) (fun g=>⟨1,[(0,rowZ g.2)],[(0,.os 0 1 0 d.size),(1,.v (.int .i64 a)),(2,.v (.int .i64 b)),(6,.v (.int .i64 g.1))]⟩)
  (fun g=>g.2.size=d.size/\a+1<=g.1/\g.1<=d.size+1/\Sort.insOuter Sort.ltInt a b g.1 g.2=Sort.insertionSort Sort.ltInt d a b) (fun g=>b-g.1) (a+1,d) ⟨rfl,aM _,by omega,rfl⟩ ?_ ?_
 ·dsimp only;rw[aO,aN];exact leA
 rintro⟨i,e⟩ ⟨he,hi1,hi2,ht⟩
 simp only at he hi1 hi2 ht⊢;rw[Sort.insOuter]at ht;rcases aF i b with hib|hib
 ·rw[aG hib]at ht;(repeat' ((conv=>whnf);first|refine zG ?_|apply zA|intro h|exact zT));all_goals conv=>whnf
  refine gL (Nat×Array Int) (fun g=>⟨1,[(0,rowZ g.2)],[(0,.os 0 1 0 d.size),(1,.v (.int .i64 a)),(2,.v (.int .i64 b)),(6,.v (.int .i64 i)),(7,.v (.int .i64 g.1))]⟩)
   (fun g=>g.2.size=d.size/\a<=g.1/\g.1<=i/\Sort.insInner Sort.ltInt a g.1 g.2=Sort.insInner Sort.ltInt a i e) (fun g=>g.1) (i,e) ⟨he,by omega,aM _,rfl⟩ ?_ ?_
  ·exact leA
  rintro⟨j,f⟩ ⟨hf,hj1,hj2,hg⟩
  simp only at hf hj1 hj2 hg⊢;have n1:j<d.size:=by omega
  have n1':j<f.size:=by omega
  rcases aF a j with haj|haj
  ·obtain⟨m,rfl⟩:∃m,j=m+1:=⟨j-1,by omega⟩
   have n2:m<d.size:=by omega
   have n2':m<f.size:=by omega
   have hm:((m+1:Nat):Int)-1=(m:Nat):=by omega
   (repeat' ((conv=>whnf);first|(with_reducible first|refine csLess _ _ ?_|refine hZ n1 ?_|refine gT m hm n2 ?_|refine ix_z n1' ?_|refine ix_z n2' ?_|refine ix_zs (Nat.succ_ne_self m) n2' ?_)|refine zG ?_|apply zA|intro h|exact zT));all_goals conv=>whnf
   ·refine⟨(m,Sort.swp f (m+1) m),⟨by rw[swp_size,hf],by omega,by omega,?_⟩,by dsimp only;omega,?_⟩
    ·rw[<-hg];simp only[Sort.insInner];rw[aG];simp only[aJ,aL];exact⟨haj,h⟩
    ·dsimp only;rw[hm,swp0];exact leA
   ·refine⟨(i+1,f),⟨hf,by omega,by omega,?_⟩,by dsimp only;omega,?_⟩
    ·rw[<-ht,<-hg];simp only[Sort.insInner];rw[aD];simp[h]
    ·dsimp only;rw[aO,aN];exact leA
  ·have hja:j=a:=by omega
   subst hja;(repeat' ((conv=>whnf);first|refine zG ?_|apply zA|intro h|exact zT));all_goals conv=>whnf
   refine⟨(i+1,f),⟨hf,by omega,by omega,?_⟩,by dsimp only;omega,?_⟩
   ·rw[<-ht,<-hg];cases j with
    |zero=>rfl
    |succ j=>simp only[Sort.insInner];rw[aD];simp
   ·dsimp only;rw[aO,aN];exact leA
 ·rw[aD zo]at ht;rw[<-ht]at hK;(repeat' ((conv=>whnf);first|refine zG ?_|apply zA|intro h|exact zT));all_goals conv=>whnf
  exact hK
theorem csSift(d:Array Int)(lo hi first:Nat)(hlo:lo<=d.size)(hb:first+hi<=d.size)(hsz:d.size<1000000000000){K:KT}(hK:K (.tup []) [rowZ (Sort.siftDown Sort.ltInt hi first lo d)]):
  AC 335 [.os 0 1 0 d.size,.v (.int .i64 lo),.v (.int .i64 hi),.v (.int .i64 first)] [rowZ d] K:=by
 refine ofsSift rfl rfl ?_;(repeat' ((conv=>whnf);first|refine zG ?_|apply zA|intro h|exact zT));all_goals conv=>whnf
 refine gL (Nat×Array Int) (fun g=>⟨1,[(0,rowZ g.2)],[(0,.os 0 1 0 d.size),(1,.v (.int .i64 lo)),(2,.v (.int .i64 hi)),(3,.v (.int .i64 first)),(8,.v (.int .i64 g.1))]⟩)
  (fun g=>g.2.size=d.size/\g.1<=d.size/\Sort.siftDown Sort.ltInt hi first g.1 g.2=Sort.siftDown Sort.ltInt hi first lo d) (fun g=>hi-g.1) (lo,d) ⟨rfl,hlo,rfl⟩ ?_ ?_
 ·exact leA
 rintro⟨r,e⟩ ⟨he,hr,ht⟩
 simp only at he hr ht⊢;rw[Sort.siftDown]at ht;rcases aF (2*r+1) hi with h1|h1
 ·rw[dif_neg zo]at ht;have a1:first+(2*r+1)<e.size:=by omega
  have a0:first+r<e.size:=by omega
  have e1:first+(2*r+1)+1=first+(2*r+2):=by omega
  rw[e1]at ht;rcases aF (2*r+2) hi with h2|h2
  ·have a2:first+(2*r+2)<e.size:=by omega
   rw[show decide (2*r+1+1<hi)=true from decide_eq_true zo,eG,dif_pos h2]at ht;(repeat' ((conv=>whnf);first|(with_reducible refine csLess _ _ ?_)|(refine gT (first+(2*r+1)) zo zo ?_)|(refine gT (first+(2*r+2)) zo zo ?_)|(refine gT (first+r) zo zo ?_)|(with_reducible first|refine ix_z a0 ?_|refine ix_z a1 ?_|refine ix_z a2 ?_)|(refine ix_zs zo a1 ?_)|(refine ix_zs zo a2 ?_)|refine zG ?_|apply zA|intro h|exact zT));all_goals conv=>whnf
   ·rename_i hh;simp only[hh,h,fW,fB,cM,if_true,if_false,reduceIte]at ht;refine⟨(2*r+2,Sort.swp e (first+r) (first+(2*r+2))),⟨by rw[swp_size,he],by dsimp only;omega,ht⟩,by dsimp only;omega,?_⟩;dsimp only;rw[swp0,show((2*r+2:Nat):Int)=2*(r:Int)+1+1 by omega];exact leA
   ·rename_i hh;simp only[hh,h,fW,fB,cM,if_true,if_false,reduceIte]at ht;rw[ht];exact hK
   ·rename_i hh;simp only[hh,h,fW,fB,cM,if_true,if_false,reduceIte]at ht;refine⟨(2*r+1,Sort.swp e (first+r) (first+(2*r+1))),⟨by rw[swp_size,he],by dsimp only;omega,ht⟩,by dsimp only;omega,?_⟩;dsimp only;rw[swp0,show((2*r+1:Nat):Int)=2*(r:Int)+1 by omega];exact leA
   ·rename_i hh;simp only[hh,h,fW,fB,cM,if_true,if_false,reduceIte]at ht;rw[ht];exact hK
  ·rw[show decide (2*r+1+1<hi)=false from decide_eq_false zo,Bool.false_and]at ht;(repeat' ((conv=>whnf);first|(with_reducible refine csLess _ _ ?_)|(refine gT (first+(2*r+1)) zo zo ?_)|(refine gT (first+r) zo zo ?_)|(with_reducible first|refine ix_z a0 ?_|refine ix_z a1 ?_)|(refine ix_zs zo a1 ?_)|refine zG ?_|apply zA|intro h|exact zT));all_goals conv=>whnf
   ·simp only[h,Bool.false_and,fW,fB,cM,if_true,if_false,reduceIte]at ht;refine⟨(2*r+1,Sort.swp e (first+r) (first+(2*r+1))),⟨by rw[swp_size,he],by dsimp only;omega,ht⟩,by dsimp only;omega,?_⟩;dsimp only;rw[swp0,show((2*r+1:Nat):Int)=2*(r:Int)+1 by omega];exact leA
   ·simp only[h,Bool.false_and,fW,fB,cM,if_true,if_false,reduceIte]at ht;rw[ht];exact hK
 ·rw[dif_pos h1]at ht;rw[<-ht]at hK;(repeat' ((conv=>whnf);first|refine zG ?_|apply zA|intro h|exact zT));all_goals conv=>whnf
  exact hK
theorem siftDown_size(lt:Int->Int->Bool)(hi first:Nat):∀(n r:Nat) (e:Array Int),hi-r<=n->(Sort.siftDown lt hi first r e).size=e.size:=by
 intro n
 induction n with
 |zero=>intro r e h;rw[Sort.siftDown,dif_pos zo]
 |succ n ih=>
  intro r e h;rw[Sort.siftDown];split
  ·rfl
  ·split
   ·split
    ·rfl
    ·split
     ·rw[ih _ _ zo,swp_size]
     ·rfl
   ·split
    ·rfl
    ·rw[ih _ _ zo,swp_size]
theorem sift_size{lt:Int->Int->Bool}{hi first r:Nat}{e:Array Int}:(Sort.siftDown lt hi first r e).size=e.size:=siftDown_size lt hi first _ r e (aM _)
theorem csSift'{n:Nat}{d:Array Int}(hn:d.size=n)(lo hi first:Nat)(hlo:lo<=n)(hb:first+hi<=n)(hsz:n<1000000000000){K:KT}(hK:K (.tup []) [rowZ (Sort.siftDown Sort.ltInt hi first lo d)]):
  AC 335 [.os 0 1 0 n,.v (.int .i64 lo),.v (.int .i64 hi),.v (.int .i64 first)] [rowZ d] K:=by
 subst hn;exact csSift d lo hi first hlo hb hsz hK
theorem csHeap(d:Array Int)(a b:Nat)(hab:a<b)(hb:b<=d.size)(hsz:d.size<1000000000000){K:KT}(hK:K (.tup []) [rowZ (Sort.heapSort Sort.ltInt d a b)]):
  AC 326 [.os 0 1 0 d.size,.v (.int .i64 a),.v (.int .i64 b)] [rowZ d] K:=by
 refine ofsHeap rfl rfl ?_;have hq:((b:Int)-a-1).tdiv 2=(((b-a-1)/2:Nat):Int):=by rw[dH zo];omega
 have hba:(b:Int)-a=((b-a:Nat):Int):=by omega
 have hw:∀{K:Int->Prop},K (((b-a-1)/2:Nat):Int)->Wr .i64 (((b:Int)-a-1).tdiv 2) K:=fun h=>wr_i64 hq zo zo h;(repeat' ((conv=>whnf);first|(with_reducible refine hw ?_)|refine zG ?_|apply zA|intro h|exact zT));all_goals conv=>whnf
 refine gL (Nat×Array Int) (fun g=>⟨1,[(0,rowZ g.2)],[(0,.os 0 1 0 d.size),(1,.v (.int .i64 a)),(2,.v (.int .i64 b)),(6,.v (.int .i64 a)),(7,.v (.int .i64 0)),(8,.v (.int .i64 ((b:Int)-a))),(9,.v (.int .i64 ((g.1:Int)-1)))]⟩)
  (fun g=>g.2.size=d.size/\g.1<=(b-a-1)/2+1/\Sort.heapBuild Sort.ltInt (b-a) a g.1 g.2=Sort.heapBuild Sort.ltInt (b-a) a ((b-a-1)/2+1) d) (fun g=>g.1) ((b-a-1)/2+1,d) ⟨rfl,aM _,rfl⟩ ?_ ?_
 ·dsimp only;rw[show((((b-a-1)/2+1:Nat):Int)-1)=(((b-a-1)/2:Nat):Int) by omega];exact leA
 rintro⟨k,e⟩ ⟨he,hk,ht⟩
 simp only at he hk ht⊢;rcases k with _|k
 ·simp only[Sort.heapBuild]at ht;subst ht;have hs:∀{K:KT} (k:Nat) (e:Array Int),e.size=d.size->k<b-a->K (.tup []) [rowZ (Sort.siftDown Sort.ltInt k a 0 e)]->AC 335 [.os 0 1 0 d.size,.v (.int .i64 0),.v (.int .i64 k),.v (.int .i64 a)] [rowZ e] K:=fun k e he hk h=>csSift' he 0 k a zo zo hsz h;(repeat' ((conv=>whnf);first|refine zG ?_|apply zA|intro h|exact zT));all_goals conv=>whnf
  refine gL (Nat×Array Int) (fun g=>⟨1,[(0,rowZ g.2)],[(0,.os 0 1 0 d.size),(1,.v (.int .i64 a)),(2,.v (.int .i64 b)),(6,.v (.int .i64 a)),(7,.v (.int .i64 0)),(8,.v (.int .i64 ((b:Int)-a))),(10,.v (.int .i64 ((g.1:Int)-1)))]⟩)
   (fun g=>g.2.size=d.size/\g.1<=b-a/\Sort.heapPop Sort.ltInt a g.1 g.2=Sort.heapSort Sort.ltInt d a b) (fun g=>g.1) (b-a,Sort.heapBuild Sort.ltInt (b-a) a ((b-a-1)/2+1) d) ⟨he,aM _,rfl⟩ ?_ ?_
  ·dsimp only;rw[<-hba];exact leA
  rintro⟨k,f⟩ ⟨hf,hk,ht⟩
  simp only at hf hk ht⊢;rcases k with _|k
  ·simp only[Sort.heapPop]at ht;rw[<-ht]at hK;(repeat' ((conv=>whnf);first|refine zG ?_|apply zA|intro h|exact zT));all_goals conv=>whnf
   exact hK
  ·have a0:a<f.size:=by omega
   have a1:a+k<f.size:=by omega
   have n0:a<d.size:=by omega
   have hik:((k+1:Nat):Int)-1=(k:Nat):=by omega
   rw[hik];(repeat' ((conv=>whnf);first|(with_reducible refine hZ n0 ?_)|(refine gT (a+k) zo zo ?_)|(with_reducible first|refine ix_z a0 ?_|refine ix_z a1 ?_)|(refine ix_zw a1 fun z=>?_)|(rw[swp0])|(with_reducible refine hs k _ (swp_size.trans hf) zo ?_)|refine zG ?_|apply zA|intro h|exact zT));all_goals conv=>whnf
   refine⟨(k,Sort.siftDown Sort.ltInt k a 0 (Sort.swp f a (a+k))),⟨by rw[sift_size,swp_size,hf],by dsimp only;omega,?_⟩,by dsimp only;omega,?_⟩
   ·rw[<-ht];rfl
   ·exact leA
 ·have hik:((k+1:Nat):Int)-1=(k:Nat):=by omega
  rw[hik];have hs:∀{K:KT},K (.tup []) [rowZ (Sort.siftDown Sort.ltInt (b-a) a k e)]->AC 335 [.os 0 1 0 d.size,.v (.int .i64 k),.v (.int .i64 ((b:Int)-a)),.v (.int .i64 a)] [rowZ e] K:=fun h=>by rw[hba];exact csSift' he k (b-a) a zo zo hsz h
  (repeat' ((conv=>whnf);first|(with_reducible refine hs ?_)|refine zG ?_|apply zA|intro h|exact zT));all_goals conv=>whnf
  refine⟨(k,Sort.siftDown Sort.ltInt (b-a) a k e),⟨by rw[sift_size,he],by dsimp only;omega,?_⟩,by dsimp only;omega,?_⟩
  ·rw[<-ht];rfl
  ·exact leA
theorem csRev(d:Array Int)(a b:Nat)(hab:a<b)(hb:b<=d.size)(hsz:d.size<1000000000000){K:KT}(hK:K (.tup []) [rowZ (Sort.reverseRange d a b)]):
  AC 329 [.os 0 1 0 d.size,.v (.int .i64 a),.v (.int .i64 b)] [rowZ d] K:=by
 refine ofsRev rfl rfl ?_;(repeat' ((conv=>whnf);first|refine zG ?_|apply zA|intro h|exact zT));all_goals conv=>whnf
 refine gL (Nat×Nat×Array Int) (fun g=>⟨1,[(0,rowZ g.2.2)],[(0,.os 0 1 0 d.size),(1,.v (.int .i64 a)),(2,.v (.int .i64 b)),(6,.v (.int .i64 g.1)),(7,.v (.int .i64 g.2.1))]⟩)
  (fun g=>g.2.2.size=d.size/\g.1<=g.2.1+1/\g.2.1<d.size/\Sort.reverseLoop g.1 g.2.1 g.2.2=Sort.reverseRange d a b) (fun g=>g.2.1-g.1) (a,b-1,d) ⟨rfl,by dsimp only;omega,by dsimp only;omega,rfl⟩ ?_ ?_
 ·dsimp only;rw[Int.natCast_sub zo,aN];exact leA
 rintro⟨i,j,e⟩ ⟨he,hi,hj,ht⟩
 simp only at he hi hj ht⊢;rw[Sort.reverseLoop]at ht;rcases aF i j with h1|h1
 ·rw[aG h1]at ht;have a1:i<e.size:=by omega
  have a2:j<e.size:=by omega
  have n1:i<d.size:=by omega
  have n2:j<d.size:=by omega
  (repeat' ((conv=>whnf);first|(with_reducible first|refine hZ n1 ?_|refine hZ n2 ?_|refine ix_z a1 ?_|refine ix_z a2 ?_)|(refine ix_zs zo a2 ?_)|refine zG ?_|apply zA|intro h|exact zT));all_goals conv=>whnf
  refine⟨(i+1,j-1,Sort.swp e i j),⟨by rw[swp_size,he],by dsimp only;omega,by dsimp only;omega,ht⟩,by dsimp only;omega,?_⟩;dsimp only;rw[aO,aN,Int.natCast_sub zo,aN,swp0];exact leA
 ·rw[aD zo]at ht;rw[<-ht]at hK;(repeat' ((conv=>whnf);first|refine zG ?_|apply zA|intro h|exact zT));all_goals conv=>whnf
  exact hK
theorem csPart(d:Array Int)(a b p:Nat)(hap:a<=p)(hpb:p<b)(hb:b<=d.size)(hsz:d.size<1000000000000){K:KT}(hK:K (.tup [.v (.int .i64 (Sort.partition Sort.ltInt d a b p).1),.sb (Sort.partition Sort.ltInt d a b p).2.1]) [rowZ (Sort.partition Sort.ltInt d a b p).2.2]):
  AC 333 [.os 0 1 0 d.size,.v (.int .i64 a),.v (.int .i64 b),.v (.int .i64 p)] [rowZ d] K:=by
 refine gP (ofsPart rfl rfl ?_);have na:a<d.size:=by omega
 have np:p<d.size:=by omega
 have hb1:(b:Int)-1=((b-1:Nat):Int):=by omega
 have ha1:(a:Int)+1=((a+1:Nat):Int):=by omega
 obtain⟨e,he⟩:∃e,e=Sort.swp d a p:=⟨_,rfl⟩
 have hes:e.size=d.size:=by rw[he,swp_size]
 have na':a<e.size:=by omega
 unfold Sort.partition at hK;rw[<-he]at hK;simp only at hK;(repeat' ((conv=>whnf);first|(with_reducible first|refine hZ na ?_|refine hZ np ?_|refine ix_z na ?_|refine ix_z np ?_)|(refine ix_zw np fun z=>?_)|(rw[swp0,<-he])|refine zG ?_|apply zA|intro h|exact zT));all_goals conv=>whnf
 obtain⟨i1,hi1⟩:∃i1,i1=Sort.scanUp (fun x=>Sort.ltInt x e[a]!) e (b-1) (a+1):=⟨_,rfl⟩
 have s1:=Sort.scanUp_spec (fun x=>Sort.ltInt x e[a]!) e (b-1) _ (a+1) rfl;rw[<-hi1]at s1;obtain⟨s1a,s1b0,_,s1d⟩:=s1;have s1b:=s1b0 zo;obtain⟨j1,hj1⟩:∃j1,j1=Sort.scanDown (fun x=> !Sort.ltInt x e[a]!) e i1 (b-1):=⟨_,rfl⟩
 have s2:=Sort.scanDown_spec (fun x=> !Sort.ltInt x e[a]!) e i1 (b-1);rw[<-hj1]at s2;obtain⟨s2a,s2b0,_,s2d⟩:=s2;have s2b:=s2b0 zo;refine Jn.at ⟨1,[(0,rowZ e)],[(0,.os 0 1 0 d.size),(1,.v (.int .i64 a)),(10,.v (.int .i64 ((i1:Nat):Int))),(11,.v (.int .i64 (((b-1):Nat):Int)))]⟩ ?_ ?_
 ·rw[hi1];refine gL Nat (fun k=>⟨1,[(0,rowZ e)],[(0,.os 0 1 0 d.size),(1,.v (.int .i64 a)),(10,.v (.int .i64 k)),(11,.v (.int .i64 (((b-1):Nat):Int)))]⟩) (fun k=>(a+1)<=k/\k<=(b-1)+1/\Sort.scanUp (fun x=>Sort.ltInt x e[a]!) e (b-1) k=Sort.scanUp (fun x=>Sort.ltInt x e[a]!) e (b-1) (a+1)) (fun k=>(b-1)+1-k) (a+1) ⟨aM _,by omega,rfl⟩ ?_ ?_
  ·rw[ha1,hb1];(exact leA)
  intro k ⟨hk1,hk2,hk3⟩;rw[Sort.scanUp]at hk3;rcases aF (b-1) k with hjk|hjk
  ·rw[aD (by simp;omega)]at hk3;(repeat' ((conv=>whnf);first|refine zG ?_|apply zA|intro h|exact zT));all_goals conv=>whnf
   refine⟨(),trivial,?_⟩;rw[<-hk3];exact leA
  ·have n1:k<d.size:=by omega
   have n1':k<e.size:=by omega
   (repeat' ((conv=>whnf);first|(with_reducible first|refine csLess _ _ ?_|refine hZ n1 ?_|refine hZ na ?_|refine ix_z n1' ?_|refine ix_z na' ?_)|refine zG ?_|apply zA|intro h|exact zT));all_goals conv=>whnf
   all_goals first
    |(rw[aG (by simp[h];omega)]at hk3
      refine⟨k+1,⟨by omega,by omega,hk3⟩,by omega,?_⟩;rw[aO,aN];(exact leA))
    |(rw[aD (by simp[h])]at hk3
      refine⟨(),trivial,?_⟩;rw[<-hk3];(exact leA))
 refine Jn.at ⟨1,[(0,rowZ e)],[(0,.os 0 1 0 d.size),(1,.v (.int .i64 a)),(10,.v (.int .i64 ((i1:Nat):Int))),(11,.v (.int .i64 ((j1:Nat):Int)))]⟩ ?_ ?_
 ·rw[hj1];refine gL Nat (fun k=>⟨1,[(0,rowZ e)],[(0,.os 0 1 0 d.size),(1,.v (.int .i64 a)),(10,.v (.int .i64 ((i1:Nat):Int))),(11,.v (.int .i64 k))]⟩) (fun k=>i1<=k+1/\k<=(b-1)/\Sort.scanDown (fun x=> !Sort.ltInt x e[a]!) e i1 k=Sort.scanDown (fun x=> !Sort.ltInt x e[a]!) e i1 (b-1)) (fun k=>k) (b-1) ⟨by omega,aM _,rfl⟩ ?_ ?_
  ·exact leA
  intro k ⟨hk1,hk2,hk3⟩;rcases aF k i1 with hjk|hjk
  ·have hk4:Sort.scanDown (fun x=> !Sort.ltInt x e[a]!) e i1 k=k:=by
    cases k with
    |zero=>rfl
    |succ k=>rw[Sort.scanDown,aD (by simp;omega)]
   rw[hk4]at hk3;(repeat' ((conv=>whnf);first|refine zG ?_|apply zA|intro h|exact zT));all_goals conv=>whnf
   refine⟨(),trivial,?_⟩;rw[<-hk3];exact leA
  ·obtain⟨m,rfl⟩:∃m,k=m+1:=⟨k-1,by omega⟩
   have n1:m+1<d.size:=by omega
   have n1':m+1<e.size:=by omega
   have hm:((m+1:Nat):Int)-1=(m:Nat):=by omega
   rw[Sort.scanDown]at hk3;(repeat' ((conv=>whnf);first|(with_reducible first|refine csLess _ _ ?_|refine hZ n1 ?_|refine hZ na ?_|refine ix_z n1' ?_|refine ix_z na' ?_)|refine zG ?_|apply zA|intro h|exact zT));all_goals conv=>whnf
   all_goals first
    |(rw[aG (by simp[h];omega)]at hk3
      refine⟨m,⟨by omega,by omega,hk3⟩,by omega,?_⟩;rw[hm];(exact leA))
    |(rw[aD (by simp[h])]at hk3
      refine⟨(),trivial,?_⟩;rw[<-hk3];(exact leA))
 rw[<-hi1,<-hj1]at hK;have ni:j1<d.size:=by omega
 have ni':j1<e.size:=by omega
 rcases aF j1 i1 with hij|hij
 ·rw[aG hij]at hK;(repeat' ((conv=>whnf);first|(with_reducible first|refine hZ na ?_|refine hZ ni ?_|refine ix_z na' ?_|refine ix_z ni' ?_)|(refine ix_zw na' fun z=>?_)|(rw[swp0])|refine zG ?_|apply zA|intro h|exact zT));all_goals conv=>whnf
  exact⟨_,gQ gM Weak.bool,hK⟩
 ·have hlt:i1<j1:=by
   rcases aF i1 j1 with h9|h9
   ·exact h9
   ·have h8:j1=i1:=by omega
    rw[h8]at s2d;have u:=s1d zo;have v:=s2d (aM _) zo
    revert u v
    cases Sort.ltInt e[i1]! e[a]! <;>simp
  have nj:i1<d.size:=by omega
  have nj':i1<e.size:=by omega
  rw[aD zo]at hK;simp only at hK;have hi11:(i1:Int)+1=((i1+1:Nat):Int):=by omega
  have hj11:(j1:Int)-1=((j1-1:Nat):Int):=by omega
  (repeat' ((conv=>whnf);first|(with_reducible first|refine hZ nj ?_|refine hZ ni ?_|refine ix_z nj' ?_|refine ix_z ni' ?_)|(refine ix_zw ni' fun z=>?_)|(rw[swp0])|refine zG ?_|apply zA|intro h|exact zT));all_goals conv=>whnf
  refine gL (Nat×Nat×Array Int) (fun g=>⟨1,[(0,rowZ g.2.2)],[(0,.os 0 1 0 d.size),(1,.v (.int .i64 a)),(10,.v (.int .i64 g.1)),(11,.v (.int .i64 g.2.1))]⟩) (fun g=>g.2.2.size=d.size/\a<g.1/\g.1<=g.2.1+1/\g.2.1<d.size/\Sort.partLoop Sort.ltInt a g.1 g.2.1 g.2.2=Sort.partLoop Sort.ltInt a (i1+1) (j1-1) (Sort.swp e i1 j1)) (fun g=>g.2.1+1-g.1) (i1+1,j1-1,Sort.swp e i1 j1) ⟨by rw[swp_size,hes],by dsimp only;omega,by dsimp only;omega,by dsimp only;omega,rfl⟩ ?_ ?_
  ·dsimp only;rw[<-hi11,<-hj11];exact leA
  generalize Sort.partLoop Sort.ltInt a (i1+1) (j1-1) (Sort.swp e i1 j1)=T at*
  rintro⟨i,j,e⟩ ⟨hes,hai,hij,hjn,ht⟩
  simp only at hes hai hij hjn ht⊢;rw[Sort.partLoop_eq]at ht;have na':a<e.size:=by omega
  obtain⟨i1,hi1⟩:∃i1,i1=Sort.scanUp (fun x=>Sort.ltInt x e[a]!) e j i:=⟨_,rfl⟩
  have s1:=Sort.scanUp_spec (fun x=>Sort.ltInt x e[a]!) e j _ i rfl;rw[<-hi1]at s1;obtain⟨s1a,s1b0,_,s1d⟩:=s1;have s1b:=s1b0 zo;obtain⟨j1,hj1⟩:∃j1,j1=Sort.scanDown (fun x=> !Sort.ltInt x e[a]!) e i1 j:=⟨_,rfl⟩
  have s2:=Sort.scanDown_spec (fun x=> !Sort.ltInt x e[a]!) e i1 j;rw[<-hj1]at s2;obtain⟨s2a,s2b0,_,s2d⟩:=s2;have s2b:=s2b0 zo;refine Jn.at ⟨1,[(0,rowZ e)],[(0,.os 0 1 0 d.size),(1,.v (.int .i64 a)),(10,.v (.int .i64 ((i1:Nat):Int))),(11,.v (.int .i64 ((j:Nat):Int)))]⟩ ?_ ?_
  ·rw[hi1];refine gL Nat (fun k=>⟨1,[(0,rowZ e)],[(0,.os 0 1 0 d.size),(1,.v (.int .i64 a)),(10,.v (.int .i64 k)),(11,.v (.int .i64 ((j:Nat):Int)))]⟩) (fun k=>i<=k/\k<=j+1/\Sort.scanUp (fun x=>Sort.ltInt x e[a]!) e j k=Sort.scanUp (fun x=>Sort.ltInt x e[a]!) e j i) (fun k=>j+1-k) i ⟨aM _,by omega,rfl⟩ ?_ ?_
   ·exact leA
   intro k ⟨hk1,hk2,hk3⟩;rw[Sort.scanUp]at hk3;rcases aF j k with hjk|hjk
   ·rw[aD (by simp;omega)]at hk3;(repeat' ((conv=>whnf);first|refine zG ?_|apply zA|intro h|exact zT));all_goals conv=>whnf
    refine⟨(),trivial,?_⟩;rw[<-hk3];exact leA
   ·have n1:k<d.size:=by omega
    have n1':k<e.size:=by omega
    (repeat' ((conv=>whnf);first|(with_reducible first|refine csLess _ _ ?_|refine hZ n1 ?_|refine hZ na ?_|refine ix_z n1' ?_|refine ix_z na' ?_)|refine zG ?_|apply zA|intro h|exact zT));all_goals conv=>whnf
    all_goals first
     |(rw[aG (by simp[h];omega)]at hk3
       refine⟨k+1,⟨by omega,by omega,hk3⟩,by omega,?_⟩;rw[aO,aN];(exact leA))
     |(rw[aD (by simp[h])]at hk3
       refine⟨(),trivial,?_⟩;rw[<-hk3];(exact leA))
  refine Jn.at ⟨1,[(0,rowZ e)],[(0,.os 0 1 0 d.size),(1,.v (.int .i64 a)),(10,.v (.int .i64 ((i1:Nat):Int))),(11,.v (.int .i64 ((j1:Nat):Int)))]⟩ ?_ ?_
  ·rw[hj1];refine gL Nat (fun k=>⟨1,[(0,rowZ e)],[(0,.os 0 1 0 d.size),(1,.v (.int .i64 a)),(10,.v (.int .i64 ((i1:Nat):Int))),(11,.v (.int .i64 k))]⟩) (fun k=>i1<=k+1/\k<=j/\Sort.scanDown (fun x=> !Sort.ltInt x e[a]!) e i1 k=Sort.scanDown (fun x=> !Sort.ltInt x e[a]!) e i1 j) (fun k=>k) j ⟨by omega,aM _,rfl⟩ ?_ ?_
   ·exact leA
   intro k ⟨hk1,hk2,hk3⟩;rcases aF k i1 with hjk|hjk
   ·have hk4:Sort.scanDown (fun x=> !Sort.ltInt x e[a]!) e i1 k=k:=by
     cases k with
     |zero=>rfl
     |succ k=>rw[Sort.scanDown,aD (by simp;omega)]
    rw[hk4]at hk3;(repeat' ((conv=>whnf);first|refine zG ?_|apply zA|intro h|exact zT));all_goals conv=>whnf
    refine⟨(),trivial,?_⟩;rw[<-hk3];exact leA
   ·obtain⟨m,rfl⟩:∃m,k=m+1:=⟨k-1,by omega⟩
    have n1:m+1<d.size:=by omega
    have n1':m+1<e.size:=by omega
    have hm:((m+1:Nat):Int)-1=(m:Nat):=by omega
    rw[Sort.scanDown]at hk3;(repeat' ((conv=>whnf);first|(with_reducible first|refine csLess _ _ ?_|refine hZ n1 ?_|refine hZ na ?_|refine ix_z n1' ?_|refine ix_z na' ?_)|refine zG ?_|apply zA|intro h|exact zT));all_goals conv=>whnf
    all_goals first
     |(rw[aG (by simp[h];omega)]at hk3
       refine⟨m,⟨by omega,by omega,hk3⟩,by omega,?_⟩;rw[hm];(exact leA))
     |(rw[aD (by simp[h])]at hk3
       refine⟨(),trivial,?_⟩;rw[<-hk3];(exact leA))
  rw[<-hi1,<-hj1]at ht;have ni:j1<d.size:=by omega
  have ni':j1<e.size:=by omega
  rcases aF j1 i1 with hx|hx
  ·rw[aG hx]at ht;subst ht;(repeat' ((conv=>whnf);first|(with_reducible first|refine hZ na ?_|refine hZ ni ?_|refine ix_z na' ?_|refine ix_z ni' ?_)|(refine ix_zw na' fun z=>?_)|(rw[swp0])|refine zG ?_|apply zA|intro h|exact zT));all_goals conv=>whnf
   exact⟨_,gQ gM Weak.bool,hK⟩
  ·have hlt:i1<j1:=by
    rcases aF i1 j1 with h9|h9
    ·exact h9
    ·have h8:j1=i1:=by omega
     rw[h8]at s2d;have u:=s1d zo;have v:=s2d (aM _) zo
     revert u v
     cases Sort.ltInt e[i1]! e[a]! <;>simp
   have nj:i1<d.size:=by omega
   have nj':i1<e.size:=by omega
   rw[aD zo]at ht;have hi11:(i1:Int)+1=((i1+1:Nat):Int):=by omega
   have hj11:(j1:Int)-1=((j1-1:Nat):Int):=by omega
   (repeat' ((conv=>whnf);first|(with_reducible first|refine hZ nj ?_|refine hZ ni ?_|refine ix_z nj' ?_|refine ix_z ni' ?_)|(refine ix_zw ni' fun z=>?_)|(rw[swp0])|refine zG ?_|apply zA|intro h|exact zT));all_goals conv=>whnf
   refine⟨(i1+1,j1-1,Sort.swp e i1 j1),⟨by rw[swp_size,hes],by dsimp only;omega,by dsimp only;omega,by dsimp only;omega,ht⟩,by dsimp only;omega,?_⟩;dsimp only;rw[<-hi11,<-hj11];exact leA
theorem csPeq(d:Array Int)(a b p:Nat)(hap:a<=p)(hpb:p<b)(hb:b<=d.size)(hsz:d.size<1000000000000){K:KT}(hK:K (.v (.int .i64 (Sort.partitionEqual Sort.ltInt d a b p).1)) [rowZ (Sort.partitionEqual Sort.ltInt d a b p).2]):
  AC 332 [.os 0 1 0 d.size,.v (.int .i64 a),.v (.int .i64 b),.v (.int .i64 p)] [rowZ d] K:=by
 refine ofsPeq rfl rfl ?_;have na:a<d.size:=by omega
 have np:p<d.size:=by omega
 have hb1:(b:Int)-1=((b-1:Nat):Int):=by omega
 have ha1:(a:Int)+1=((a+1:Nat):Int):=by omega
 unfold Sort.partitionEqual at hK;(repeat' ((conv=>whnf);first|(with_reducible first|refine hZ na ?_|refine hZ np ?_|refine ix_z na ?_|refine ix_z np ?_)|(refine ix_zw np fun z=>?_)|(rw[swp0])|refine zG ?_|apply zA|intro h|exact zT));all_goals conv=>whnf
 refine gL (Nat×Nat×Array Int) (fun g=>⟨1,[(0,rowZ g.2.2)],[(0,.os 0 1 0 d.size),(1,.v (.int .i64 a)),(9,.v (.int .i64 g.1)),(10,.v (.int .i64 g.2.1))]⟩) (fun g=>g.2.2.size=d.size/\a<g.1/\g.1<=g.2.1+1/\g.2.1<d.size/\Sort.partEqLoop Sort.ltInt a g.1 g.2.1 g.2.2=Sort.partEqLoop Sort.ltInt a (a+1) (b-1) (Sort.swp d a p)) (fun g=>g.2.1+1-g.1) (a+1,b-1,Sort.swp d a p) ⟨by rw[swp_size],by dsimp only;omega,by dsimp only;omega,by dsimp only;omega,rfl⟩ ?_ ?_
 ·dsimp only;rw[<-ha1,<-hb1];exact leA
 generalize Sort.partEqLoop Sort.ltInt a (a+1) (b-1) (Sort.swp d a p)=T at*
 rintro⟨i,j,e⟩ ⟨hes,hai,hij,hjn,ht⟩
 simp only at hes hai hij hjn ht⊢;rw[Sort.partEqLoop_eq]at ht;have na':a<e.size:=by omega
 obtain⟨i1,hi1⟩:∃i1,i1=Sort.scanUp (fun x=> !Sort.ltInt e[a]! x) e j i:=⟨_,rfl⟩
 have s1:=Sort.scanUp_spec (fun x=> !Sort.ltInt e[a]! x) e j _ i rfl;rw[<-hi1]at s1;obtain⟨s1a,s1b0,_,s1d⟩:=s1;have s1b:=s1b0 zo;obtain⟨j1,hj1⟩:∃j1,j1=Sort.scanDown (fun x=>Sort.ltInt e[a]! x) e i1 j:=⟨_,rfl⟩
 have s2:=Sort.scanDown_spec (fun x=>Sort.ltInt e[a]! x) e i1 j;rw[<-hj1]at s2;obtain⟨s2a,s2b0,_,s2d⟩:=s2;have s2b:=s2b0 zo;refine Jn.at ⟨1,[(0,rowZ e)],[(0,.os 0 1 0 d.size),(1,.v (.int .i64 a)),(9,.v (.int .i64 ((i1:Nat):Int))),(10,.v (.int .i64 ((j:Nat):Int)))]⟩ ?_ ?_
 ·rw[hi1];refine gL Nat (fun k=>⟨1,[(0,rowZ e)],[(0,.os 0 1 0 d.size),(1,.v (.int .i64 a)),(9,.v (.int .i64 k)),(10,.v (.int .i64 ((j:Nat):Int)))]⟩) (fun k=>i<=k/\k<=j+1/\Sort.scanUp (fun x=> !Sort.ltInt e[a]! x) e j k=Sort.scanUp (fun x=> !Sort.ltInt e[a]! x) e j i) (fun k=>j+1-k) i ⟨aM _,by omega,rfl⟩ ?_ ?_
  ·exact leA
  intro k ⟨hk1,hk2,hk3⟩;rw[Sort.scanUp]at hk3;rcases aF j k with hjk|hjk
  ·rw[aD (by simp;omega)]at hk3;(repeat' ((conv=>whnf);first|refine zG ?_|apply zA|intro h|exact zT));all_goals conv=>whnf
   refine⟨(),trivial,?_⟩;rw[<-hk3];exact leA
  ·have n1:k<d.size:=by omega
   have n1':k<e.size:=by omega
   (repeat' ((conv=>whnf);first|(with_reducible first|refine csLess _ _ ?_|refine hZ n1 ?_|refine hZ na ?_|refine ix_z n1' ?_|refine ix_z na' ?_)|refine zG ?_|apply zA|intro h|exact zT));all_goals conv=>whnf
   all_goals first
    |(rw[aG (by simp[h];omega)]at hk3
      refine⟨k+1,⟨by omega,by omega,hk3⟩,by omega,?_⟩;rw[aO,aN];(exact leA))
    |(rw[aD (by simp[h])]at hk3
      refine⟨(),trivial,?_⟩;rw[<-hk3];(exact leA))
 refine Jn.at ⟨1,[(0,rowZ e)],[(0,.os 0 1 0 d.size),(1,.v (.int .i64 a)),(9,.v (.int .i64 ((i1:Nat):Int))),(10,.v (.int .i64 ((j1:Nat):Int)))]⟩ ?_ ?_
 ·rw[hj1];refine gL Nat (fun k=>⟨1,[(0,rowZ e)],[(0,.os 0 1 0 d.size),(1,.v (.int .i64 a)),(9,.v (.int .i64 ((i1:Nat):Int))),(10,.v (.int .i64 k))]⟩) (fun k=>i1<=k+1/\k<=j/\Sort.scanDown (fun x=>Sort.ltInt e[a]! x) e i1 k=Sort.scanDown (fun x=>Sort.ltInt e[a]! x) e i1 j) (fun k=>k) j ⟨by omega,aM _,rfl⟩ ?_ ?_
  ·exact leA
  intro k ⟨hk1,hk2,hk3⟩;rcases aF k i1 with hjk|hjk
  ·have hk4:Sort.scanDown (fun x=>Sort.ltInt e[a]! x) e i1 k=k:=by
    cases k with
    |zero=>rfl
    |succ k=>rw[Sort.scanDown,aD (by simp;omega)]
   rw[hk4]at hk3;(repeat' ((conv=>whnf);first|refine zG ?_|apply zA|intro h|exact zT));all_goals conv=>whnf
   refine⟨(),trivial,?_⟩;rw[<-hk3];exact leA
  ·obtain⟨m,rfl⟩:∃m,k=m+1:=⟨k-1,by omega⟩
   have n1:m+1<d.size:=by omega
   have n1':m+1<e.size:=by omega
   have hm:((m+1:Nat):Int)-1=(m:Nat):=by omega
   rw[Sort.scanDown]at hk3;(repeat' ((conv=>whnf);first|(with_reducible first|refine csLess _ _ ?_|refine hZ n1 ?_|refine hZ na ?_|refine ix_z n1' ?_|refine ix_z na' ?_)|refine zG ?_|apply zA|intro h|exact zT));all_goals conv=>whnf
   all_goals first
    |(rw[aG (by simp[h];omega)]at hk3
      refine⟨m,⟨by omega,by omega,hk3⟩,by omega,?_⟩;rw[hm];(exact leA))
    |(rw[aD (by simp[h])]at hk3
      refine⟨(),trivial,?_⟩;rw[<-hk3];(exact leA))
 rw[<-hi1,<-hj1]at ht;have ni:j1<d.size:=by omega
 have ni':j1<e.size:=by omega
 rcases aF j1 i1 with hx|hx
 ·rw[aG hx]at ht;subst ht;(repeat' ((conv=>whnf);first|refine zG ?_|apply zA|intro h|exact zT));all_goals conv=>whnf
  exact hK
 ·have hlt:i1<j1:=by
   rcases aF i1 j1 with h9|h9
   ·exact h9
   ·have h8:j1=i1:=by omega
    rw[h8]at s2d;have u:=s1d zo;have v:=s2d (aM _) zo
    revert u v
    cases Sort.ltInt e[a]! e[i1]! <;>simp
  have nj:i1<d.size:=by omega
  have nj':i1<e.size:=by omega
  rw[aD zo]at ht;have hi11:(i1:Int)+1=((i1+1:Nat):Int):=by omega
  have hj11:(j1:Int)-1=((j1-1:Nat):Int):=by omega
  (repeat' ((conv=>whnf);first|(with_reducible first|refine hZ nj ?_|refine hZ ni ?_|refine ix_z nj' ?_|refine ix_z ni' ?_)|(refine ix_zw ni' fun z=>?_)|(rw[swp0])|refine zG ?_|apply zA|intro h|exact zT));all_goals conv=>whnf
  refine⟨(i1+1,j1-1,Sort.swp e i1 j1),⟨by rw[swp_size,hes],by dsimp only;omega,by dsimp only;omega,by dsimp only;omega,ht⟩,by dsimp only;omega,?_⟩;dsimp only;rw[<-hi11,<-hj11];exact leA
end Go.Proofs.YtnomkooikbhgmaaGreatDoor
