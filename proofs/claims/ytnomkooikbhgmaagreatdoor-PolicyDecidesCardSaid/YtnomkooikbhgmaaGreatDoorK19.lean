/- Lemmas. -/
import Derived.Test.YtnomkooikbhgmaaGreatDoorProg
import Derived.Sort.AssemblyPlain
import Derived.Test.YtnomkooikbhgmaaGreatDoorK18
set_option linter.unusedVariables false
set_option linter.unusedSimpArgs false
set_option maxRecDepth 100000
set_option maxHeartbeats 4000000
noncomputable section
namespace Go.Proofs.YtnomkooikbhgmaaGreatDoor
open Go Go.Vm
def aTq:Ctx:={N:=32}
abbrev aPu:=ofD aTq Tryz.func152
def aGj:Ctx:={N:=31,hints:=h1 2 [.virt 3 10] hn}
abbrev aDl:=ofD aGj Tryz.func76
def aTp:Ctx:={N:=109,plan:=p1 1 (ln [1,2,5,7,9,11,12,15,17,19,21,23,25,26,28,31,33,35,37,39,40,42,45,47]) (p1 6 (ln [1,3,4,7,9,11,13,15,17,19,21,23,25,27,29,31,33,35,37,39,41,43,45,47,49,51,53,55,57,58,61,63,65,67,69,71,73,74,77,79]) pn),cut:=oz [8]}
abbrev aPt:=ofD aTp Tryz.func51
def aNv:Ctx:={N:=28,own:=oz [117],hints:=h1 2 [.virtB 1 0 10] hn}
abbrev aIn:=ofD aNv Tryz.func55
def aGh:Ctx:={N:=31,np:=2,out:=true}
abbrev aDi:=ofD aGh Tryz.func117
def aTf:Ctx:={N:=26,plan:=p1 6 (lo 9) pn}
abbrev aPk:=ofD aTf Tryz.func254
def aTb:Ctx:={N:=170,plan:=p1 13 (lp 13 [26,28]) (p1 14 (lp 6 [15,17,19,21,25,27,12,22,28,31,33,35,37,39]) (p1 19 (lp 23 [46,49]) pn)),hints:=h1 8 [.virt 12 3] hn,cut:=oz [7]}
abbrev aDf:=ofD aTb Tryz.func231
def aGi:Ctx:={N:=28,own:=oz [229]}
abbrev aDk:=ofD aGi Tryz.func253
def aNr:Ctx:={N:=20}
abbrev aIj:=ofD aNr Tryz.func150
def aTl:Ctx:={N:=11}
abbrev aPp:=ofD aTl Tryz.func232
def aUy:Ctx:={N:=33}
abbrev aTD:=ofD aUy Tryz.func153
def aNw:Ctx:={N:=29,hints:=h1 2 [.asL 4] hn}
abbrev aIo:=ofD aNw Tryz.func75
def aNz:Ctx:={N:=18}
abbrev aIr:=ofD aNz Tryz.func105
def aTe:Ctx:={N:=86,plan:=p1 6 (lo 18) (p1 8 (lz [1,3,5,7,9,11,13,15,17] (.alt 9 (ln [21,22,24]) (.alt 11 (ln [18,21,24]) Aa))) (p1 14 (ln [1,3,5,7,8,11]) pn)),cut:=oz [8,9]}
abbrev aDh:=ofD aTe Tryz.func188
def aTj:Ctx:={N:=11}
abbrev aPo:=ofD aTj Tryz.func77
def aUz:Ctx:={N:=11}
abbrev aTE:=ofD aUz Tryz.func80
def aTm:Ctx:={N:=11}
abbrev aPq:=ofD aTm Tryz.func79
def aNx:Ctx:={N:=15}
abbrev aIp:=ofD aNx Tryz.func106
def aTk:Ctx:={N:=77,np:=1,own:=oz [255],plan:=p1 10 (lp 9 [21,23,25,27,29,31,33,37,39,18,34,40]) pn,cut:=oz [5]}
abbrev aDj:=ofD aTk Tryz.func255
def aTg:Ctx:={N:=31,own:=oz [255]}
abbrev aPl:=ofD aTg Tryz.func189
def aNA:Ctx:={N:=17}
abbrev aIs:=ofD aNA Tryz.func194
def aTh:Ctx:={N:=17}
abbrev aPm:=ofD aTh Tryz.func297
def aNB:Ctx:={N:=29}
abbrev aIt:=ofD aNB Tryz.func256
def aTn:Ctx:={N:=12}
abbrev aPr:=ofD aTn Tryz.func119
def aNu:Ctx:={N:=15}
abbrev aIm:=ofD aNu Tryz.func118
def aNp:Ctx:={N:=24,plan:=p1 4 (lo 13) pn}
abbrev aIh:=ofD aNp Tryz.func193
def aTc:Ctx:={N:=36,hints:=h1 2 [.virt 7 10] hn}
abbrev aPi:=ofD aTc Tryz.func290
def aBJ:Ctx:={N:=9}
abbrev Y0:=ofD aBJ Tryz.func151
def aNq:Ctx:={N:=9}
abbrev aIi:=ofD aNq Tryz.func154
def aNC:Ctx:={N:=10}
abbrev aIu:=ofD aNC Tryz.func156
def aNs:Ctx:={N:=47,own:=oz [308,309],plan:=p1 8 (lp 12 [24,26,29]) pn}
abbrev aIk:=ofD aNs Tryz.func289
def aNy:Ctx:={N:=6}
abbrev aIq:=ofD aNy Tryz.func230
def aTi:Ctx:={N:=19}
abbrev aPn:=ofD aTi Tryz.func192
def aGg:Ctx:={N:=8,res:=true}
abbrev aDg:=ofD aGg Tryz.func229
def aTd:Ctx:={N:=42,np:=1,res:=true,lend:=oz [192]}
abbrev aPj:=ofD aTd Tryz.func228
def aTo:Ctx:={N:=6,own:=oz [229,228]}
abbrev aPs:=ofD aTo Tryz.func149
def aNt:Ctx:={N:=42}
abbrev aIl:=ofD aNt Tryz.func228
theorem aAM(f:Int){K:KT}(hK:K (.v (.int .u32 (pT f))) []):AC 119 [.v (.int .i64 f)] [] K:=by
 refine aPr rfl rfl ?_;by_cases h1:0<=f/\f<5
 ·have h2:f=0\/f=1\/f=2\/f=3\/f=4:=by omega
  rcases h2 with rfl|rfl|rfl|rfl|rfl
  all_goals
   (repeat' ((conv=>whnf);first|(refine kP zd ?_)|refine zG ?_|apply zA|intro h|exact zT));all_goals conv=>whnf
   exact hK
 ·(repeat' ((conv=>whnf);first|refine zG ?_|apply zA|intro h|exact zT));all_goals conv=>whnf
  ·rw[show pT f=0 from by unfold pT;rw[aF zo,aF zo,aF zo]]at hK;exact hK
  ·rw[show pT f=0 from by unfold pT;rw[aF zo,aF zo,aF zo]]at hK;exact hK
theorem Ny{K:KT}(hK:K (iY fullB) []):AC 118 [] [] K:=by
 refine aIm rfl rfl ?_;(repeat' ((conv=>whnf);first|(with_reducible refine Lp.times 6 ?_)|(refine kP zd ?_)|refine zG ?_|apply zA|intro h|exact zT));all_goals conv=>whnf
 exact hK
theorem aAH(b:Bx){K:KT}(hK:K (.sb (decide b.ok)) []):AC 193 [iY b] [] K:=by
 refine gP (aIh rfl rfl ?_);(repeat' ((conv=>whnf);first|(with_reducible refine Lp.times 6 ?_)|(refine kP zd ?_)|refine zG ?_|apply zA|intro h|exact zT));all_goals conv=>whnf
 all_goals
  have hb:b.ok↔((b.r0.lo<=b.r0.hi/\b.r0.hi<=4294967295)/\(b.r1.lo<=b.r1.hi/\b.r1.hi<=4294967295)/\(b.r2.lo<=b.r2.hi/\b.r2.hi<=255)/\(b.r3.lo<=b.r3.hi/\b.r3.hi<=65535)/\(b.r4.lo<=b.r4.hi/\b.r4.hi<=65535)):=Iff.rfl;first
   |exact iL hK (decide_eq_false (by rw[hb];omega))
   |exact jU hK (decide_eq_true (by rw[hb];omega))
theorem aAK(x y:Bool){K:KT}(hK:K (.sb (x||y)) []):AC 151 [.sb x,.sb y] [] K:=by
 refine gP (Y0 rfl rfl ?_);(repeat' ((conv=>whnf);first|refine zG ?_|apply zA|intro h|exact zT));all_goals conv=>whnf
 all_goals
  first
   |exact jP hK (by cases x<;>cases y<;>simp_all)
   |exact jU hK (by cases x<;>cases y<;>simp_all)
   |exact iL hK (by cases x<;>cases y<;>simp_all)
theorem aLf(x y:Bool){K:KT}(hK:K (.sb (x&&y)) []):AC 154 [.sb x,.sb y] [] K:=by
 refine gP (aIi rfl rfl ?_);(repeat' ((conv=>whnf);first|refine zG ?_|apply zA|intro h|exact zT));all_goals conv=>whnf
 all_goals
  first
   |exact jP hK (by cases x<;>cases y<;>simp_all)
   |exact jU hK (by cases x<;>cases y<;>simp_all)
   |exact iL hK (by cases x<;>cases y<;>simp_all)
theorem aLj(x y:Bool){K:KT}(hK:K (.sb (x&& !y)) []):AC 156 [.sb x,.sb y] [] K:=by
 refine gP (aIu rfl rfl ?_);(repeat' ((conv=>whnf);first|refine zG ?_|apply zA|intro h|exact zT));all_goals conv=>whnf
 all_goals
  first
   |exact jP hK (by cases x<;>cases y<;>simp_all)
   |exact jU hK (by cases x<;>cases y<;>simp_all)
   |exact iL hK (by cases x<;>cases y<;>simp_all)
theorem aAN(x:Bx){K:KT}(hK:K (.sb (!decide x.ok)) []):AC 230 [iY x] [] K:=by
 refine gP (aIq rfl rfl ?_);(repeat' ((conv=>whnf);first|(with_reducible refine aAH x ?_)|refine zG ?_|apply zA|intro h|exact zT));all_goals conv=>whnf
 exact jP hK rfl
theorem V0(l:List Bx)(hl:l.length<1000000000){K:KT}(hK0:l=[]->K .nils [])(hK:K (.os 0 10 0 l.length) [.arr 10 (l.map iY)]):AC 229 [iE l] [] K:=by
 refine aDg rfl rfl ?_;have e:0+(l.map iY).length=l.length:=by rw[aA];omega
 have hK':K (.os 0 10 0 (0+(l.map iY).length)) [.arr 10 (l.map iY)]:=by rw[e];exact hK
 (repeat' ((conv=>whnf);first|refine zG ?_|apply zA|intro h|exact zT));all_goals conv=>whnf
 all_goals first
  |exact hK'
  |exact hK0 ((List.map_eq_nil_iff (f:=iY)).1 (by simp_all))
  |skip
 all_goals
  intro b hb;(repeat' ((conv=>whnf);first|refine zG ?_|apply zA|intro h|exact zT));all_goals conv=>whnf
  all_goals first
   |exact hK'
   |exact hK0 ((List.map_eq_nil_iff (f:=iY)).1 (by simp_all))
theorem aJy(l:List Bx)(hl:l.length<1000000000){K:KT}(hK1:(∀x,x∈l->x.ok)->K (.v (.int .i64 (-1))) [])
  (hK2:∀(i:Nat) x,l[i]? =some x->¬x.ok->(∀y,y∈l.take i->y.ok)->K (.v (.int .i64 i)) []):
  AC 192 [iE l,.fn (.func 230) [] []] [] K:=by
 refine aPn rfl rfl ?_;(repeat' ((conv=>whnf);first|refine zG ?_|apply zA|intro h|exact zT));all_goals conv=>whnf
 refine gM Nat (fun k=>⟨0,[],[(0,iE l),(1,.fn (.func 230) [] []),(7,.v (.int .i64 ((l.map iY).length:Nat))),(8,.v (.int .i64 k))]⟩) (fun k=>k<=l.length/\∀y,y∈l.take k->y.ok) (fun k=>l.length-k) 0 ⟨aO _,by simp⟩ ?_ ?_
 ·exact leA
 intro k ⟨hk,hin⟩;rcases aC k l.length with hkl|hkl
 ·obtain⟨x,hx⟩:=gex hkl;(repeat' ((conv=>whnf);first|(with_reducible first|refine hZ hkl ?_|refine hU hx ?_|refine aAN x ?_)|refine zG ?_|apply zA|intro h|exact zT));all_goals conv=>whnf
  all_goals first
   |exact hK2 k x hx (by simpa using h) hin
   |(refine⟨k+1,⟨hkl,fun y hy=>?_⟩,by omega,?_⟩
     ·rw[bF,hx]at hy;rcases aY.1 hy with hy|hy
      ·exact hin y hy
      ·simp only[eH,aW]at hy;subst hy;simpa using h
     ·rw[aN,aL];(exact leA))
 ·rw[aU hkl]at hin;(repeat' ((conv=>whnf);first|refine zG ?_|apply zA|intro h|exact zT));all_goals conv=>whnf
  exact hK1 hin
theorem aQU(l:List Bx)(hl:l.length<1000000000){K:KT}(hK:∀zs,K (.os 0 10 0 (jN l).length) [.arr 10 ((jN l).map iY++zs)]):
  AC 228 [.os 0 10 0 l.length,.fn (.func 230) [] []] [.arr 10 (l.map iY)] K:=by
 refine aPj rfl rfl ?_;(repeat' ((conv=>whnf);first|refine zG ?_|apply zA|intro h|exact zT));all_goals conv=>whnf
 refine aJy l hl (fun hall=>?_) (fun i x hx hbad hbef=>?_)
 ·have e:jN l=l:=eT.2 fun y hy=>by simpa using hall y hy
  have:=hK [];rw[e,bI]at this;(repeat' ((conv=>whnf);first|refine zG ?_|apply zA|intro h|exact zT));all_goals conv=>whnf
  exact this
 ·have hil:i<l.length:=(aP.1 hx).1;have e0:jN (l.take i)=l.take i:=eT.2 fun y hy=>by simpa using hbef y hy
  have e1:jN (l.take (i+1))=l.take i:=by rw[F9 hx,aF hbad,e0,bI]
  have e2:(l.take i).length=i:=by rw[aZ];omega
  (repeat' ((conv=>whnf);first|refine zG ?_|apply zA|intro h|exact zT));all_goals conv=>whnf
  refine gM Nat (fun j=>⟨1,[(0,.arr 10 ((jN (l.take j)++l.drop (jN (l.take j)).length).map iY))],[(0,.os 0 10 0 l.length),(1,.fn (.func 230) [] []),(5,.v (.int .i64 (jN (l.take j)).length)),(6,.v (.int .i64 j))]⟩) (fun j=>j<=l.length/\(jN (l.take j)).length<j) (fun j=>l.length-j) (i+1) ⟨hil,by rw[e1,e2];omega⟩ ?_ ?_
  ·rw[e1,e2,cN,aN,aL];exact leA
  intro j ⟨hj1,hj2⟩;rcases aC j l.length with hjl|hjl
  ·obtain⟨y,hy⟩:=gex hjl;have hs:=F9 hy;generalize hC:jN (l.take j)=C at*;have hget:∀i,C.length<=i->(C++l.drop C.length)[i]? =l[i]? :=fun i hi=>by
    rw[bH hi,cD]
    congr 1;omega
   have hCn:C.length<l.length:=by omega
   have hy0:(C++l.drop C.length)[0+j]? =some y:=by rw[bD,hget _ zo];exact hy
   obtain⟨z,hz⟩:∃z,l[C.length]? =some z:=⟨_,aE hCn⟩
   have hz0:(C++l.drop C.length)[0+C.length]? =some z:=by rw[bD,hget _ (aK _)];exact hz
   have hdr:l.drop C.length=z::l.drop (C.length+1):=by
    rw[aE hCn]at hz;rw[<-bG hz,<-bB hCn]
   have hset:((C++l.drop C.length).map iY).set (0+C.length) (iY y)=((C++[y])++l.drop (C++[y]).length).map iY:=by
    rw[bD,<-eW,dZ _ _ (aK _),dT,hdr];simp
   (repeat' ((conv=>whnf);first|(with_reducible first|refine iA hjl ?_|refine hU hy0 ?_|refine aAN y ?_|refine iA hCn ?_|refine hU hz0 ?_)|refine zG ?_|apply zA|intro h|exact zT));all_goals conv=>whnf
   ·rw[aH h]at hs;refine⟨j+1,⟨hjl,by rw[hs,aD];simp;omega⟩,by omega,?_⟩;rw[hs,<-hset,show((C++[y]).length:Int)=(C.length:Int)+1 by simp,aN j,aL];exact leA
   ·rw[aF h,bI]at hs;refine⟨j+1,⟨hjl,by rw[hs];omega⟩,by omega,?_⟩;rw[hs,aN j,aL];exact leA
  ·have hCl:jN (l.take j)=jN l:=by rw[aU hjl]
   have hCn:(jN l).length<=l.length:=uP l;rw[hCl];(repeat' ((conv=>whnf);first|(refine gZ (jN l).length l.length rfl rfl hCn (aK _) ?_)|(refine gZ 0 (jN l).length rfl rfl (aO _) hCn ?_)|refine zG ?_|apply zA|intro h|exact zT));all_goals conv=>whnf
   have e3:(List.map iY (jN l++l.drop (jN l).length)).take (0+(jN l).length)=(jN l).map iY:=by
    rw[bD,aQ,fF zx]
   rw[e3,dV,eN];exact hK _
theorem aLh{K:KT}(hK:K (.v (.int .i64 (-1))) []):
  AC 192 [.lst [],.fn (.func 230) [] []] [] K:=
 aJy [] zd (fun _=>hK) (fun i x h=>by simp at h)
theorem aLg{K:KT}(hK:K .nils []):
  AC 228 [.nils,.fn (.func 230) [] []] [] K:=by
 refine aIl rfl rfl ?_;(repeat' ((conv=>whnf);first|(with_reducible refine aLh ?_)|refine zG ?_|apply zA|intro h|exact zT));all_goals conv=>whnf
 exact hK
theorem V1(l:List Bx)(hl:l.length<1000000000){K:KT}(hK:K (iE (jN l)) []):AC 149 [iE l] [] K:=by
 refine gQ (aPs rfl rfl ?_);(repeat' ((conv=>whnf);first|refine zG ?_|apply zA|intro h|exact zT));all_goals conv=>whnf
 refine V0 l hl (fun e=>?_) ?_
 ·subst e;(repeat' ((conv=>whnf);first|(with_reducible refine aLg ?_)|refine zG ?_|apply zA|intro h|exact zT));all_goals conv=>whnf
  exact⟨_,gS,hK⟩
 ·(repeat' ((conv=>whnf);first|(with_reducible refine aQU l hl fun zs=>?_)|refine zG ?_|apply zA|intro h|exact zT));all_goals conv=>whnf
  refine Sl.intro (ys:=(jN l).map iY) zx (by rw[cA,fF zx]) ?_;exact⟨_,gO,hK⟩
theorem Gg(l:List Bx)(f:Nat)(hf:f<=4)(v:Int)(hl:l.length<1000000000000){K:KT}(hK:K (iE (atF f v l)) []):AC 290 [iE l,.v (.int .i64 f),.v (.int .u32 v)] [] K:=by
 refine aPi rfl rfl ?_;(repeat' ((conv=>whnf);first|refine zG ?_|apply zA|intro h|exact zT));all_goals conv=>whnf
 refine gM Nat (fun k=>⟨1,[(0,.arr 10 ((atF f v (l.take k)).map iY))],[(1,.v (.int .i64 f)),(2,.v (.int .u32 v)),(7,.os 0 10 0 (atF f v (l.take k)).length),(10,iE l),(11,.v (.int .i64 l.length)),(12,.v (.int .i64 k))]⟩) (fun k=>k<=l.length) (fun k=>l.length-k) 0 (aO _) ?_ ?_
 ·have e1:(List.map iY l).length=l.length:=aA ..;rw[e1];exact leA
 intro k hk;have hlen:=sY f v (l.take k);rw[aZ]at hlen;rcases aC k l.length with hkl|hkl
 ·obtain⟨x,hx⟩:=gex hkl;have hs:=P1 (f:=f) (v:=v) hx;rcases f with _|_|_|_|_|f
  case succ.succ.succ.succ.succ=>omega
  all_goals
   simp only[Bx.get]at hs;(repeat' ((conv=>whnf);first|(with_reducible first|refine hZ hkl ?_|refine iA hkl ?_|refine hU hx ?_)|(refine kP zd ?_)|refine zG ?_|apply zA|intro h|exact zT));all_goals conv=>whnf
   all_goals
    refine⟨k+1,by omega,by omega,?_⟩;first
     |(rw[aH zo]at hs
       rw[hs,aQ,aD];exact leA)
     |(rw[aF zo,bI]at hs
       rw[hs];exact leA)
 ·(repeat' ((conv=>whnf);first|refine zG ?_|apply zA|intro h|exact zT));all_goals conv=>whnf
  rw[aU hkl]at*;(repeat' ((conv=>whnf);first|refine zG ?_|apply zA|intro h|exact zT));all_goals conv=>whnf
  exact hK
def aSH:Ctx:={N:=6}
abbrev aOQ:=ofD aSH Tryz.func338
def aMP:Ctx:={N:=17}
abbrev aHF:=ofD aMP Tryz.func331
def Ag:Sched:=lp 15 [30,33,34]
def aSE:Ctx:={N:=49,np:=1,plan:=p1 4 (lp 13 [26,29]) (p1 6 Ag pn)}
abbrev aON:=ofD aSE Tryz.func325
def aMV:Ctx:={N:=76,np:=1,plan:=p1 3 (lp 18 [36,39]) (p1 5 Af (p1 6 (lp 21 [42,45,46]) pn))}
abbrev aHN:=ofD aMV Tryz.func335
def Ah:Sched:=lp 17 [34,37,38]
def aMN:Ctx:={N:=56,np:=1,own:=oz [335],plan:=p1 10 Ah pn}
abbrev aHD:=ofD aMN Tryz.func326
def Ai:Sched:=lp 13 [26,29,30]
def aSL:Ctx:={N:=32,np:=1,plan:=p1 3 Ai pn}
abbrev aOU:=ofD aSL Tryz.func329
def Aj:Sched:=lp 12 [24,27,29]
def gsPart:Ctx:={N:=168,np:=1,plan:=p1 1 Ai (p1 3 Af (p1 5 Aj (p1 8 Ai (p1 10 Ai (p1 13 Af (p1 15 Aj (p1 18 Ai (p1 21 Ai pn)))))))),cut:=oz [5,7,15,17]}
abbrev aHK:=ofD gsPart Tryz.func333
def aSJ:Ctx:={N:=84,np:=1,plan:=p1 1 Ai (p1 3 Aj (p1 5 Af (p1 8 Ai pn))),cut:=oz [5,7]}
abbrev aOS:=ofD aSJ Tryz.func332
def gsPins:Ctx:={N:=133,np:=1,plan:=p1 5 (lp 13 [26,29,31]) (p1 11 Ag (p1 16 (lp 9 [18,21]) (p1 17 Ag (p1 22 (lp 9 [18,21]) (p1 23 Ag pn))))),cut:=oz [7,18]}
abbrev aHL:=ofD gsPins Tryz.func330
def aMT:Ctx:={N:=28,np:=2,plan:=p1 1 (lp 8 [16]) pn}
abbrev aHJ:=ofD aMT Tryz.func339
def aSG:Ctx:={N:=36,np:=2,own:=oz [339]}
abbrev aOP:=ofD aSG Tryz.func337
def aMQ:Ctx:={N:=15,np:=2,own:=oz [337]}
abbrev aHG:=ofD aMQ Tryz.func336
def aSK:Ctx:={N:=57,np:=1,own:=oz [337,336]}
abbrev aOT:=ofD aSK Tryz.func328
def aFQ:Ctx:={N:=25}
abbrev aCN:=ofD aFQ Tryz.func166
def aSF:Ctx:={N:=8}
abbrev aOO:=ofD aSF Tryz.func82
def aMU:Ctx:={N:=7}
abbrev aHM:=ofD aMU Tryz.func234
def Ac:Sched:=lp 9 [18]
def aMS:Ctx:={N:=33,np:=1,plan:=p1 1 Ac (p1 2 Ac (p1 3 Ac pn))}
abbrev aHI:=ofD aMS Tryz.func235
def aSC:Ctx:={N:=65,np:=1,own:=oz [235],plan:=p1 10 Ah pn}
abbrev aOL:=ofD aSC Tryz.func327
def aSI:Ctx:={N:=134,np:=1,own:=oz [325,326,327,328,329,330,332,333,321],plan:=p1 17 Aj pn,cut:=oz [10,15,17]}
abbrev aOR:=ofD aSI Tryz.func321
def aMW:Ctx:={N:=11,np:=1,own:=oz [321]}
abbrev aHO:=ofD aMW Tryz.func308
def aMM:Ctx:={N:=61,np:=1,plan:=p1 6 (lo 10) (p1 11 (lo 10) pn),res:=true}
abbrev aHC:=ofD aMM Tryz.func309
abbrev mB(z:Int):AV:=.v (.int .u64 z)
abbrev iT(d:Array Int):Vm.Obj:=.arr 1 (d.toList.map mB)
theorem M3{d:Array Int}{i:Nat}(h:i<d.size):d.toList[i]? =some d[i]! :=by
 rw[Array.getElem?_toList,bJ h,getElem!_pos d i h]
theorem kQ{d:Array Int}{i:Nat}{K:AV->Prop}(h:i<d.size)(hk:K (mB d[i]!)):Ix (d.toList.map mB) (0+i) K:=by
 rw[bD];exact hU (M3 h) hk
theorem aTU{d:Array Int}{i j:Nat}:((d.toList.map mB).set i (mB d[j]!)).set j (mB d[i]!)=(Sort.swp d i j).toList.map mB:=by
 rw[<-eW,<-eW];simp[Sort.swp]
theorem Lw{d:Array Int}{i j:Nat}{x:AV}{K:AV->Prop}(hij:i≠j)(h:j<d.size)(hk:K (mB d[j]!)):Ix ((d.toList.map mB).set (0+i) x) (0+j) K:=by
 rw[bD,bD];exact gV (by rw[fS hij,bO,M3 h];rfl) hk
theorem vS{d:Array Int}{i j:Nat}{y:Int}{K:AV->Prop}(h:j<d.size)(hk:∀z,K (mB z)):Ix ((d.toList.map mB).set (0+i) (mB y)) (0+j) K:=by
 rw[bD,bD];rcases Nat.decEq i j with hij|rfl
 ·exact gV (by rw[fS hij,bO,M3 h];rfl) (hk _)
 ·exact gV (by rw[gE (by simpa using h)]) (hk _)
theorem wC{d:Array Int}{i j:Nat}:((d.toList.map mB).set (0+i) (mB d[j]!)).set (0+j) (mB d[i]!)=(Sort.swp d i j).toList.map mB:=by rw[bD,bD];exact aTU
theorem swp_size{d:Array Int}{i j:Nat}:(Sort.swp d i j).size=d.size:=by simp[Sort.swp]
theorem aQD(x:Int){K:KT}(hK:K (.sb false) []):AC 338 [mB x] [] K:=by
 refine aOQ rfl rfl ?_;(repeat' ((conv=>whnf);first|refine zG ?_|apply zA|intro h|exact zT));all_goals conv=>whnf
 have e:(!decide (x=x))=false:=by simp
 unfold yP;rw[e];exact hK
theorem nL(x y:Int){K:KT}(hK:K (.sb (Sort.ltInt x y)) []):AC 331 [mB x,mB y] [] K:=by
 refine gP (aHF rfl rfl ?_);(repeat' ((conv=>whnf);first|(with_reducible refine aQD _ ?_)|refine zG ?_|apply zA|intro h|exact zT));all_goals conv=>whnf
 exact jP hK rfl
theorem aQC(d:Array Int)(a b:Nat)(hab:a<=b)(hb:b<=d.size)(hsz:d.size<1000000000000){K:KT}(hK:K (.tup []) [iT (Sort.insertionSort Sort.ltInt d a b)]):
  AC 325 [.os 0 1 0 d.size,.v (.int .i64 a),.v (.int .i64 b)] [iT d] K:=by
 refine aON rfl rfl ?_;(repeat' ((conv=>whnf);first|refine zG ?_|apply zA|intro h|exact zT));all_goals conv=>whnf
 refine gM (Nat×Array Int) (fun g=>⟨1,[(0,iT g.2)],[(0,.os 0 1 0 d.size),(1,.v (.int .i64 a)),(2,.v (.int .i64 b)),(6,.v (.int .i64 g.1))]⟩)
  (fun g=>g.2.size=d.size/\a+1<=g.1/\g.1<=d.size+1/\Sort.insOuter Sort.ltInt a b g.1 g.2=Sort.insertionSort Sort.ltInt d a b) (fun g=>b-g.1) (a+1,d) ⟨rfl,aK _,by omega,rfl⟩ ?_ ?_
 ·dsimp only;rw[aN,aL];exact leA
 rintro⟨i,e⟩ ⟨he,hi1,hi2,ht⟩
 simp only at he hi1 hi2 ht⊢;rw[Sort.insOuter]at ht;rcases aC i b with hib|hib
 ·rw[aH hib]at ht;(repeat' ((conv=>whnf);first|refine zG ?_|apply zA|intro h|exact zT));all_goals conv=>whnf
  refine gM (Nat×Array Int) (fun g=>⟨1,[(0,iT g.2)],[(0,.os 0 1 0 d.size),(1,.v (.int .i64 a)),(2,.v (.int .i64 b)),(6,.v (.int .i64 i)),(7,.v (.int .i64 g.1))]⟩)
   (fun g=>g.2.size=d.size/\a<=g.1/\g.1<=i/\Sort.insInner Sort.ltInt a g.1 g.2=Sort.insInner Sort.ltInt a i e) (fun g=>g.1) (i,e) ⟨he,by omega,aK _,rfl⟩ ?_ ?_
  ·exact leA
  rintro⟨j,f⟩ ⟨hf,hj1,hj2,hg⟩
  simp only at hf hj1 hj2 hg⊢;have n1:j<d.size:=by omega
  have n1':j<f.size:=by omega
  rcases aC a j with haj|haj
  ·obtain⟨m,rfl⟩:∃m,j=m+1:=⟨j-1,by omega⟩
   have n2:m<d.size:=by omega
   have n2':m<f.size:=by omega
   have hm:((m+1:Nat):Int)-1=(m:Nat):=by omega
   (repeat' ((conv=>whnf);first|(with_reducible first|refine nL _ _ ?_|refine iA n1 ?_|refine gU m hm n2 ?_|refine kQ n1' ?_|refine kQ n2' ?_|refine Lw (Nat.succ_ne_self m) n2' ?_)|refine zG ?_|apply zA|intro h|exact zT));all_goals conv=>whnf
   ·refine⟨(m,Sort.swp f (m+1) m),⟨by rw[swp_size,hf],by omega,by omega,?_⟩,by dsimp only;omega,?_⟩
    ·rw[<-hg];simp only[Sort.insInner];rw[aH];simp only[aJ,aM];exact⟨haj,h⟩
    ·dsimp only;rw[hm,wC];exact leA
   ·refine⟨(i+1,f),⟨hf,by omega,by omega,?_⟩,by dsimp only;omega,?_⟩
    ·rw[<-ht,<-hg];simp only[Sort.insInner];rw[aF];simp[h]
    ·dsimp only;rw[aN,aL];exact leA
  ·have hja:j=a:=by omega
   subst hja;(repeat' ((conv=>whnf);first|refine zG ?_|apply zA|intro h|exact zT));all_goals conv=>whnf
   refine⟨(i+1,f),⟨hf,by omega,by omega,?_⟩,by dsimp only;omega,?_⟩
   ·rw[<-ht,<-hg];cases j with
    |zero=>rfl
    |succ j=>simp only[Sort.insInner];rw[aF];simp
   ·dsimp only;rw[aN,aL];exact leA
 ·rw[aF zo]at ht;rw[<-ht]at hK;(repeat' ((conv=>whnf);first|refine zG ?_|apply zA|intro h|exact zT));all_goals conv=>whnf
  exact hK
theorem aKV(d:Array Int)(lo hi first:Nat)(hlo:lo<=d.size)(hb:first+hi<=d.size)(hsz:d.size<1000000000000){K:KT}(hK:K (.tup []) [iT (Sort.siftDown Sort.ltInt hi first lo d)]):
  AC 335 [.os 0 1 0 d.size,.v (.int .i64 lo),.v (.int .i64 hi),.v (.int .i64 first)] [iT d] K:=by
 refine aHN rfl rfl ?_;(repeat' ((conv=>whnf);first|refine zG ?_|apply zA|intro h|exact zT));all_goals conv=>whnf
 refine gM (Nat×Array Int) (fun g=>⟨1,[(0,iT g.2)],[(0,.os 0 1 0 d.size),(1,.v (.int .i64 lo)),(2,.v (.int .i64 hi)),(3,.v (.int .i64 first)),(8,.v (.int .i64 g.1))]⟩)
  (fun g=>g.2.size=d.size/\g.1<=d.size/\Sort.siftDown Sort.ltInt hi first g.1 g.2=Sort.siftDown Sort.ltInt hi first lo d) (fun g=>hi-g.1) (lo,d) ⟨rfl,hlo,rfl⟩ ?_ ?_
 ·exact leA
 rintro⟨r,e⟩ ⟨he,hr,ht⟩
 simp only at he hr ht⊢;rw[Sort.siftDown]at ht;rcases aC (2*r+1) hi with h1|h1
 ·rw[dif_neg zo]at ht;have a1:first+(2*r+1)<e.size:=by omega
  have a0:first+r<e.size:=by omega
  have e1:first+(2*r+1)+1=first+(2*r+2):=by omega
  rw[e1]at ht;rcases aC (2*r+2) hi with h2|h2
  ·have a2:first+(2*r+2)<e.size:=by omega
   rw[show decide (2*r+1+1<hi)=true from decide_eq_true zo,dQ,dif_pos h2]at ht;(repeat' ((conv=>whnf);first|(with_reducible refine nL _ _ ?_)|(refine gU (first+(2*r+1)) zo zo ?_)|(refine gU (first+(2*r+2)) zo zo ?_)|(refine gU (first+r) zo zo ?_)|(with_reducible first|refine kQ a0 ?_|refine kQ a1 ?_|refine kQ a2 ?_)|(refine Lw zo a1 ?_)|(refine Lw zo a2 ?_)|refine zG ?_|apply zA|intro h|exact zT));all_goals conv=>whnf
   ·rename_i hh;simp only[hh,h,eF,dO,bT,if_true,if_false,reduceIte]at ht;refine⟨(2*r+2,Sort.swp e (first+r) (first+(2*r+2))),⟨by rw[swp_size,he],by dsimp only;omega,ht⟩,by dsimp only;omega,?_⟩;dsimp only;rw[wC,show((2*r+2:Nat):Int)=2*(r:Int)+1+1 by omega];exact leA
   ·rename_i hh;simp only[hh,h,eF,dO,bT,if_true,if_false,reduceIte]at ht;rw[ht];exact hK
   ·rename_i hh;simp only[hh,h,eF,dO,bT,if_true,if_false,reduceIte]at ht;refine⟨(2*r+1,Sort.swp e (first+r) (first+(2*r+1))),⟨by rw[swp_size,he],by dsimp only;omega,ht⟩,by dsimp only;omega,?_⟩;dsimp only;rw[wC,show((2*r+1:Nat):Int)=2*(r:Int)+1 by omega];exact leA
   ·rename_i hh;simp only[hh,h,eF,dO,bT,if_true,if_false,reduceIte]at ht;rw[ht];exact hK
  ·rw[show decide (2*r+1+1<hi)=false from decide_eq_false zo,eO]at ht;(repeat' ((conv=>whnf);first|(with_reducible refine nL _ _ ?_)|(refine gU (first+(2*r+1)) zo zo ?_)|(refine gU (first+r) zo zo ?_)|(with_reducible first|refine kQ a0 ?_|refine kQ a1 ?_)|(refine Lw zo a1 ?_)|refine zG ?_|apply zA|intro h|exact zT));all_goals conv=>whnf
   ·simp only[h,eO,eF,dO,bT,if_true,if_false,reduceIte]at ht;refine⟨(2*r+1,Sort.swp e (first+r) (first+(2*r+1))),⟨by rw[swp_size,he],by dsimp only;omega,ht⟩,by dsimp only;omega,?_⟩;dsimp only;rw[wC,show((2*r+1:Nat):Int)=2*(r:Int)+1 by omega];exact leA
   ·simp only[h,eO,eF,dO,bT,if_true,if_false,reduceIte]at ht;rw[ht];exact hK
 ·rw[dif_pos h1]at ht;rw[<-ht]at hK;(repeat' ((conv=>whnf);first|refine zG ?_|apply zA|intro h|exact zT));all_goals conv=>whnf
  exact hK
theorem Kt(lt:Int->Int->Bool)(hi first:Nat):∀(n r:Nat) (e:Array Int),hi-r<=n->(Sort.siftDown lt hi first r e).size=e.size:=by
 intro n
 induction n with
 |zero=>intro r e h;rw[Sort.siftDown,dif_pos zo]
 |succ n ih=>
  intro r e h;rw[Sort.siftDown];split
  ·rfl
  ·split
   ·split
    ·rfl
    ·split
     ·rw[ih _ _ zo,swp_size]
     ·rfl
   ·split
    ·rfl
    ·rw[ih _ _ zo,swp_size]
theorem yK{lt:Int->Int->Bool}{hi first r:Nat}{e:Array Int}:(Sort.siftDown lt hi first r e).size=e.size:=Kt lt hi first _ r e (aK _)
theorem Vv{n:Nat}{d:Array Int}(hn:d.size=n)(lo hi first:Nat)(hlo:lo<=n)(hb:first+hi<=n)(hsz:n<1000000000000){K:KT}(hK:K (.tup []) [iT (Sort.siftDown Sort.ltInt hi first lo d)]):
  AC 335 [.os 0 1 0 n,.v (.int .i64 lo),.v (.int .i64 hi),.v (.int .i64 first)] [iT d] K:=by
 subst hn;exact aKV d lo hi first hlo hb hsz hK
theorem aKL(d:Array Int)(a b:Nat)(hab:a<b)(hb:b<=d.size)(hsz:d.size<1000000000000){K:KT}(hK:K (.tup []) [iT (Sort.heapSort Sort.ltInt d a b)]):
  AC 326 [.os 0 1 0 d.size,.v (.int .i64 a),.v (.int .i64 b)] [iT d] K:=by
 refine aHD rfl rfl ?_;have hq:((b:Int)-a-1).tdiv 2=(((b-a-1)/2:Nat):Int):=by rw[bX zo];omega
 have hba:(b:Int)-a=((b-a:Nat):Int):=by omega
 have hw:∀{K:Int->Prop},K (((b-a-1)/2:Nat):Int)->Wr .i64 (((b:Int)-a-1).tdiv 2) K:=fun h=>jB hq zo zo h;(repeat' ((conv=>whnf);first|(with_reducible refine hw ?_)|refine zG ?_|apply zA|intro h|exact zT));all_goals conv=>whnf
 refine gM (Nat×Array Int) (fun g=>⟨1,[(0,iT g.2)],[(0,.os 0 1 0 d.size),(1,.v (.int .i64 a)),(2,.v (.int .i64 b)),(6,.v (.int .i64 a)),(7,.v (.int .i64 0)),(8,.v (.int .i64 ((b:Int)-a))),(9,.v (.int .i64 ((g.1:Int)-1)))]⟩)
  (fun g=>g.2.size=d.size/\g.1<=(b-a-1)/2+1/\Sort.heapBuild Sort.ltInt (b-a) a g.1 g.2=Sort.heapBuild Sort.ltInt (b-a) a ((b-a-1)/2+1) d) (fun g=>g.1) ((b-a-1)/2+1,d) ⟨rfl,aK _,rfl⟩ ?_ ?_
 ·dsimp only;rw[show((((b-a-1)/2+1:Nat):Int)-1)=(((b-a-1)/2:Nat):Int) by omega];exact leA
 rintro⟨k,e⟩ ⟨he,hk,ht⟩
 simp only at he hk ht⊢;rcases k with _|k
 ·simp only[Sort.heapBuild]at ht;subst ht;have hs:∀{K:KT} (k:Nat) (e:Array Int),e.size=d.size->k<b-a->K (.tup []) [iT (Sort.siftDown Sort.ltInt k a 0 e)]->AC 335 [.os 0 1 0 d.size,.v (.int .i64 0),.v (.int .i64 k),.v (.int .i64 a)] [iT e] K:=fun k e he hk h=>Vv he 0 k a zo zo hsz h;(repeat' ((conv=>whnf);first|refine zG ?_|apply zA|intro h|exact zT));all_goals conv=>whnf
  refine gM (Nat×Array Int) (fun g=>⟨1,[(0,iT g.2)],[(0,.os 0 1 0 d.size),(1,.v (.int .i64 a)),(2,.v (.int .i64 b)),(6,.v (.int .i64 a)),(7,.v (.int .i64 0)),(8,.v (.int .i64 ((b:Int)-a))),(10,.v (.int .i64 ((g.1:Int)-1)))]⟩)
   (fun g=>g.2.size=d.size/\g.1<=b-a/\Sort.heapPop Sort.ltInt a g.1 g.2=Sort.heapSort Sort.ltInt d a b) (fun g=>g.1) (b-a,Sort.heapBuild Sort.ltInt (b-a) a ((b-a-1)/2+1) d) ⟨he,aK _,rfl⟩ ?_ ?_
  ·dsimp only;rw[<-hba];exact leA
  rintro⟨k,f⟩ ⟨hf,hk,ht⟩
  simp only at hf hk ht⊢;rcases k with _|k
  ·simp only[Sort.heapPop]at ht;rw[<-ht]at hK;(repeat' ((conv=>whnf);first|refine zG ?_|apply zA|intro h|exact zT));all_goals conv=>whnf
   exact hK
  ·have a0:a<f.size:=by omega
   have a1:a+k<f.size:=by omega
   have n0:a<d.size:=by omega
   have hik:((k+1:Nat):Int)-1=(k:Nat):=by omega
   rw[hik];(repeat' ((conv=>whnf);first|(with_reducible refine iA n0 ?_)|(refine gU (a+k) zo zo ?_)|(with_reducible first|refine kQ a0 ?_|refine kQ a1 ?_)|(refine vS a1 fun z=>?_)|(rw[wC])|(with_reducible refine hs k _ (swp_size.trans hf) zo ?_)|refine zG ?_|apply zA|intro h|exact zT));all_goals conv=>whnf
   refine⟨(k,Sort.siftDown Sort.ltInt k a 0 (Sort.swp f a (a+k))),⟨by rw[yK,swp_size,hf],by dsimp only;omega,?_⟩,by dsimp only;omega,?_⟩
   ·rw[<-ht];rfl
   ·exact leA
 ·have hik:((k+1:Nat):Int)-1=(k:Nat):=by omega
  rw[hik];have hs:∀{K:KT},K (.tup []) [iT (Sort.siftDown Sort.ltInt (b-a) a k e)]->AC 335 [.os 0 1 0 d.size,.v (.int .i64 k),.v (.int .i64 ((b:Int)-a)),.v (.int .i64 a)] [iT e] K:=fun h=>by rw[hba];exact Vv he k (b-a) a zo zo hsz h
  (repeat' ((conv=>whnf);first|(with_reducible refine hs ?_)|refine zG ?_|apply zA|intro h|exact zT));all_goals conv=>whnf
  refine⟨(k,Sort.siftDown Sort.ltInt (b-a) a k e),⟨by rw[yK,he],by dsimp only;omega,?_⟩,by dsimp only;omega,?_⟩
  ·rw[<-ht];rfl
  ·exact leA
theorem aQH(d:Array Int)(a b:Nat)(hab:a<b)(hb:b<=d.size)(hsz:d.size<1000000000000){K:KT}(hK:K (.tup []) [iT (Sort.reverseRange d a b)]):
  AC 329 [.os 0 1 0 d.size,.v (.int .i64 a),.v (.int .i64 b)] [iT d] K:=by
 refine aOU rfl rfl ?_;(repeat' ((conv=>whnf);first|refine zG ?_|apply zA|intro h|exact zT));all_goals conv=>whnf
 refine gM (Nat×Nat×Array Int) (fun g=>⟨1,[(0,iT g.2.2)],[(0,.os 0 1 0 d.size),(1,.v (.int .i64 a)),(2,.v (.int .i64 b)),(6,.v (.int .i64 g.1)),(7,.v (.int .i64 g.2.1))]⟩)
  (fun g=>g.2.2.size=d.size/\g.1<=g.2.1+1/\g.2.1<d.size/\Sort.reverseLoop g.1 g.2.1 g.2.2=Sort.reverseRange d a b) (fun g=>g.2.1-g.1) (a,b-1,d) ⟨rfl,by dsimp only;omega,by dsimp only;omega,rfl⟩ ?_ ?_
 ·dsimp only;rw[gD zo,aL];exact leA
 rintro⟨i,j,e⟩ ⟨he,hi,hj,ht⟩
 simp only at he hi hj ht⊢;rw[Sort.reverseLoop]at ht;rcases aC i j with h1|h1
 ·rw[aH h1]at ht;have a1:i<e.size:=by omega
  have a2:j<e.size:=by omega
  have n1:i<d.size:=by omega
  have n2:j<d.size:=by omega
  (repeat' ((conv=>whnf);first|(with_reducible first|refine iA n1 ?_|refine iA n2 ?_|refine kQ a1 ?_|refine kQ a2 ?_)|(refine Lw zo a2 ?_)|refine zG ?_|apply zA|intro h|exact zT));all_goals conv=>whnf
  refine⟨(i+1,j-1,Sort.swp e i j),⟨by rw[swp_size,he],by dsimp only;omega,by dsimp only;omega,ht⟩,by dsimp only;omega,?_⟩;dsimp only;rw[aN,aL,gD zo,aL,wC];exact leA
 ·rw[aF zo]at ht;rw[<-ht]at hK;(repeat' ((conv=>whnf);first|refine zG ?_|apply zA|intro h|exact zT));all_goals conv=>whnf
  exact hK
theorem aKP(d:Array Int)(a b p:Nat)(hap:a<=p)(hpb:p<b)(hb:b<=d.size)(hsz:d.size<1000000000000){K:KT}(hK:K (.tup [.v (.int .i64 (Sort.partition Sort.ltInt d a b p).1),.sb (Sort.partition Sort.ltInt d a b p).2.1]) [iT (Sort.partition Sort.ltInt d a b p).2.2]):
  AC 333 [.os 0 1 0 d.size,.v (.int .i64 a),.v (.int .i64 b),.v (.int .i64 p)] [iT d] K:=by
 refine gQ (aHK rfl rfl ?_);have na:a<d.size:=by omega
 have np:p<d.size:=by omega
 have hb1:(b:Int)-1=((b-1:Nat):Int):=by omega
 have ha1:(a:Int)+1=((a+1:Nat):Int):=by omega
 obtain⟨e,he⟩:∃e,e=Sort.swp d a p:=⟨_,rfl⟩
 have hes:e.size=d.size:=by rw[he,swp_size]
 have na':a<e.size:=by omega
 unfold Sort.partition at hK;rw[<-he]at hK;simp only at hK;(repeat' ((conv=>whnf);first|(with_reducible first|refine iA na ?_|refine iA np ?_|refine kQ na ?_|refine kQ np ?_)|(refine vS np fun z=>?_)|(rw[wC,<-he])|refine zG ?_|apply zA|intro h|exact zT));all_goals conv=>whnf
 obtain⟨i1,hi1⟩:∃i1,i1=Sort.scanUp (fun x=>Sort.ltInt x e[a]!) e (b-1) (a+1):=⟨_,rfl⟩
 have s1:=Sort.scanUp_spec (fun x=>Sort.ltInt x e[a]!) e (b-1) _ (a+1) rfl;rw[<-hi1]at s1;obtain⟨s1a,s1b0,_,s1d⟩:=s1;have s1b:=s1b0 zo;obtain⟨j1,hj1⟩:∃j1,j1=Sort.scanDown (fun x=> !Sort.ltInt x e[a]!) e i1 (b-1):=⟨_,rfl⟩
 have s2:=Sort.scanDown_spec (fun x=> !Sort.ltInt x e[a]!) e i1 (b-1);rw[<-hj1]at s2;obtain⟨s2a,s2b0,_,s2d⟩:=s2;have s2b:=s2b0 zo;refine Jn.at ⟨1,[(0,iT e)],[(0,.os 0 1 0 d.size),(1,.v (.int .i64 a)),(10,.v (.int .i64 ((i1:Nat):Int))),(11,.v (.int .i64 (((b-1):Nat):Int)))]⟩ ?_ ?_
 ·rw[hi1];refine gM Nat (fun k=>⟨1,[(0,iT e)],[(0,.os 0 1 0 d.size),(1,.v (.int .i64 a)),(10,.v (.int .i64 k)),(11,.v (.int .i64 (((b-1):Nat):Int)))]⟩) (fun k=>(a+1)<=k/\k<=(b-1)+1/\Sort.scanUp (fun x=>Sort.ltInt x e[a]!) e (b-1) k=Sort.scanUp (fun x=>Sort.ltInt x e[a]!) e (b-1) (a+1)) (fun k=>(b-1)+1-k) (a+1) ⟨aK _,by omega,rfl⟩ ?_ ?_
  ·rw[ha1,hb1];(exact leA)
  intro k ⟨hk1,hk2,hk3⟩;rw[Sort.scanUp]at hk3;rcases aC (b-1) k with hjk|hjk
  ·rw[aF (by simp;omega)]at hk3;(repeat' ((conv=>whnf);first|refine zG ?_|apply zA|intro h|exact zT));all_goals conv=>whnf
   refine⟨(),trivial,?_⟩;rw[<-hk3];exact leA
  ·have n1:k<d.size:=by omega
   have n1':k<e.size:=by omega
   (repeat' ((conv=>whnf);first|(with_reducible first|refine nL _ _ ?_|refine iA n1 ?_|refine iA na ?_|refine kQ n1' ?_|refine kQ na' ?_)|refine zG ?_|apply zA|intro h|exact zT));all_goals conv=>whnf
   all_goals first
    |(rw[aH (by simp[h];omega)]at hk3
      refine⟨k+1,⟨by omega,by omega,hk3⟩,by omega,?_⟩;rw[aN,aL];(exact leA))
    |(rw[aF (by simp[h])]at hk3
      refine⟨(),trivial,?_⟩;rw[<-hk3];(exact leA))
 refine Jn.at ⟨1,[(0,iT e)],[(0,.os 0 1 0 d.size),(1,.v (.int .i64 a)),(10,.v (.int .i64 ((i1:Nat):Int))),(11,.v (.int .i64 ((j1:Nat):Int)))]⟩ ?_ ?_
 ·rw[hj1];refine gM Nat (fun k=>⟨1,[(0,iT e)],[(0,.os 0 1 0 d.size),(1,.v (.int .i64 a)),(10,.v (.int .i64 ((i1:Nat):Int))),(11,.v (.int .i64 k))]⟩) (fun k=>i1<=k+1/\k<=(b-1)/\Sort.scanDown (fun x=> !Sort.ltInt x e[a]!) e i1 k=Sort.scanDown (fun x=> !Sort.ltInt x e[a]!) e i1 (b-1)) (fun k=>k) (b-1) ⟨by omega,aK _,rfl⟩ ?_ ?_
  ·exact leA
  intro k ⟨hk1,hk2,hk3⟩;rcases aC k i1 with hjk|hjk
  ·have hk4:Sort.scanDown (fun x=> !Sort.ltInt x e[a]!) e i1 k=k:=by
    cases k with
    |zero=>rfl
    |succ k=>rw[Sort.scanDown,aF (by simp;omega)]
   rw[hk4]at hk3;(repeat' ((conv=>whnf);first|refine zG ?_|apply zA|intro h|exact zT));all_goals conv=>whnf
   refine⟨(),trivial,?_⟩;rw[<-hk3];exact leA
  ·obtain⟨m,rfl⟩:∃m,k=m+1:=⟨k-1,by omega⟩
   have n1:m+1<d.size:=by omega
   have n1':m+1<e.size:=by omega
   have hm:((m+1:Nat):Int)-1=(m:Nat):=by omega
   rw[Sort.scanDown]at hk3;(repeat' ((conv=>whnf);first|(with_reducible first|refine nL _ _ ?_|refine iA n1 ?_|refine iA na ?_|refine kQ n1' ?_|refine kQ na' ?_)|refine zG ?_|apply zA|intro h|exact zT));all_goals conv=>whnf
   all_goals first
    |(rw[aH (by simp[h];omega)]at hk3
      refine⟨m,⟨by omega,by omega,hk3⟩,by omega,?_⟩;rw[hm];(exact leA))
    |(rw[aF (by simp[h])]at hk3
      refine⟨(),trivial,?_⟩;rw[<-hk3];(exact leA))
 rw[<-hi1,<-hj1]at hK;have ni:j1<d.size:=by omega
 have ni':j1<e.size:=by omega
 rcases aC j1 i1 with hij|hij
 ·rw[aH hij]at hK;(repeat' ((conv=>whnf);first|(with_reducible first|refine iA na ?_|refine iA ni ?_|refine kQ na' ?_|refine kQ ni' ?_)|(refine vS na' fun z=>?_)|(rw[wC])|refine zG ?_|apply zA|intro h|exact zT));all_goals conv=>whnf
  exact⟨_,gR gO Weak.bool,hK⟩
 ·have hlt:i1<j1:=by
   rcases aC i1 j1 with h9|h9
   ·exact h9
   ·have h8:j1=i1:=by omega
    rw[h8]at s2d;have u:=s1d zo;have v:=s2d (aK _) zo
    revert u v
    cases Sort.ltInt e[i1]! e[a]! <;>simp
  have nj:i1<d.size:=by omega
  have nj':i1<e.size:=by omega
  rw[aF zo]at hK;simp only at hK;have hi11:(i1:Int)+1=((i1+1:Nat):Int):=by omega
  have hj11:(j1:Int)-1=((j1-1:Nat):Int):=by omega
  (repeat' ((conv=>whnf);first|(with_reducible first|refine iA nj ?_|refine iA ni ?_|refine kQ nj' ?_|refine kQ ni' ?_)|(refine vS ni' fun z=>?_)|(rw[wC])|refine zG ?_|apply zA|intro h|exact zT));all_goals conv=>whnf
  refine gM (Nat×Nat×Array Int) (fun g=>⟨1,[(0,iT g.2.2)],[(0,.os 0 1 0 d.size),(1,.v (.int .i64 a)),(10,.v (.int .i64 g.1)),(11,.v (.int .i64 g.2.1))]⟩) (fun g=>g.2.2.size=d.size/\a<g.1/\g.1<=g.2.1+1/\g.2.1<d.size/\Sort.partLoop Sort.ltInt a g.1 g.2.1 g.2.2=Sort.partLoop Sort.ltInt a (i1+1) (j1-1) (Sort.swp e i1 j1)) (fun g=>g.2.1+1-g.1) (i1+1,j1-1,Sort.swp e i1 j1) ⟨by rw[swp_size,hes],by dsimp only;omega,by dsimp only;omega,by dsimp only;omega,rfl⟩ ?_ ?_
  ·dsimp only;rw[<-hi11,<-hj11];exact leA
  generalize Sort.partLoop Sort.ltInt a (i1+1) (j1-1) (Sort.swp e i1 j1)=T at*
  rintro⟨i,j,e⟩ ⟨hes,hai,hij,hjn,ht⟩
  simp only at hes hai hij hjn ht⊢;rw[Sort.partLoop_eq]at ht;have na':a<e.size:=by omega
  obtain⟨i1,hi1⟩:∃i1,i1=Sort.scanUp (fun x=>Sort.ltInt x e[a]!) e j i:=⟨_,rfl⟩
  have s1:=Sort.scanUp_spec (fun x=>Sort.ltInt x e[a]!) e j _ i rfl;rw[<-hi1]at s1;obtain⟨s1a,s1b0,_,s1d⟩:=s1;have s1b:=s1b0 zo;obtain⟨j1,hj1⟩:∃j1,j1=Sort.scanDown (fun x=> !Sort.ltInt x e[a]!) e i1 j:=⟨_,rfl⟩
  have s2:=Sort.scanDown_spec (fun x=> !Sort.ltInt x e[a]!) e i1 j;rw[<-hj1]at s2;obtain⟨s2a,s2b0,_,s2d⟩:=s2;have s2b:=s2b0 zo;refine Jn.at ⟨1,[(0,iT e)],[(0,.os 0 1 0 d.size),(1,.v (.int .i64 a)),(10,.v (.int .i64 ((i1:Nat):Int))),(11,.v (.int .i64 ((j:Nat):Int)))]⟩ ?_ ?_
  ·rw[hi1];refine gM Nat (fun k=>⟨1,[(0,iT e)],[(0,.os 0 1 0 d.size),(1,.v (.int .i64 a)),(10,.v (.int .i64 k)),(11,.v (.int .i64 ((j:Nat):Int)))]⟩) (fun k=>i<=k/\k<=j+1/\Sort.scanUp (fun x=>Sort.ltInt x e[a]!) e j k=Sort.scanUp (fun x=>Sort.ltInt x e[a]!) e j i) (fun k=>j+1-k) i ⟨aK _,by omega,rfl⟩ ?_ ?_
   ·exact leA
   intro k ⟨hk1,hk2,hk3⟩;rw[Sort.scanUp]at hk3;rcases aC j k with hjk|hjk
   ·rw[aF (by simp;omega)]at hk3;(repeat' ((conv=>whnf);first|refine zG ?_|apply zA|intro h|exact zT));all_goals conv=>whnf
    refine⟨(),trivial,?_⟩;rw[<-hk3];exact leA
   ·have n1:k<d.size:=by omega
    have n1':k<e.size:=by omega
    (repeat' ((conv=>whnf);first|(with_reducible first|refine nL _ _ ?_|refine iA n1 ?_|refine iA na ?_|refine kQ n1' ?_|refine kQ na' ?_)|refine zG ?_|apply zA|intro h|exact zT));all_goals conv=>whnf
    all_goals first
     |(rw[aH (by simp[h];omega)]at hk3
       refine⟨k+1,⟨by omega,by omega,hk3⟩,by omega,?_⟩;rw[aN,aL];(exact leA))
     |(rw[aF (by simp[h])]at hk3
       refine⟨(),trivial,?_⟩;rw[<-hk3];(exact leA))
  refine Jn.at ⟨1,[(0,iT e)],[(0,.os 0 1 0 d.size),(1,.v (.int .i64 a)),(10,.v (.int .i64 ((i1:Nat):Int))),(11,.v (.int .i64 ((j1:Nat):Int)))]⟩ ?_ ?_
  ·rw[hj1];refine gM Nat (fun k=>⟨1,[(0,iT e)],[(0,.os 0 1 0 d.size),(1,.v (.int .i64 a)),(10,.v (.int .i64 ((i1:Nat):Int))),(11,.v (.int .i64 k))]⟩) (fun k=>i1<=k+1/\k<=j/\Sort.scanDown (fun x=> !Sort.ltInt x e[a]!) e i1 k=Sort.scanDown (fun x=> !Sort.ltInt x e[a]!) e i1 j) (fun k=>k) j ⟨by omega,aK _,rfl⟩ ?_ ?_
   ·exact leA
   intro k ⟨hk1,hk2,hk3⟩;rcases aC k i1 with hjk|hjk
   ·have hk4:Sort.scanDown (fun x=> !Sort.ltInt x e[a]!) e i1 k=k:=by
     cases k with
     |zero=>rfl
     |succ k=>rw[Sort.scanDown,aF (by simp;omega)]
    rw[hk4]at hk3;(repeat' ((conv=>whnf);first|refine zG ?_|apply zA|intro h|exact zT));all_goals conv=>whnf
    refine⟨(),trivial,?_⟩;rw[<-hk3];exact leA
   ·obtain⟨m,rfl⟩:∃m,k=m+1:=⟨k-1,by omega⟩
    have n1:m+1<d.size:=by omega
    have n1':m+1<e.size:=by omega
    have hm:((m+1:Nat):Int)-1=(m:Nat):=by omega
    rw[Sort.scanDown]at hk3;(repeat' ((conv=>whnf);first|(with_reducible first|refine nL _ _ ?_|refine iA n1 ?_|refine iA na ?_|refine kQ n1' ?_|refine kQ na' ?_)|refine zG ?_|apply zA|intro h|exact zT));all_goals conv=>whnf
    all_goals first
     |(rw[aH (by simp[h];omega)]at hk3
       refine⟨m,⟨by omega,by omega,hk3⟩,by omega,?_⟩;rw[hm];(exact leA))
     |(rw[aF (by simp[h])]at hk3
       refine⟨(),trivial,?_⟩;rw[<-hk3];(exact leA))
  rw[<-hi1,<-hj1]at ht;have ni:j1<d.size:=by omega
  have ni':j1<e.size:=by omega
  rcases aC j1 i1 with hx|hx
  ·rw[aH hx]at ht;subst ht;(repeat' ((conv=>whnf);first|(with_reducible first|refine iA na ?_|refine iA ni ?_|refine kQ na' ?_|refine kQ ni' ?_)|(refine vS na' fun z=>?_)|(rw[wC])|refine zG ?_|apply zA|intro h|exact zT));all_goals conv=>whnf
   exact⟨_,gR gO Weak.bool,hK⟩
  ·have hlt:i1<j1:=by
    rcases aC i1 j1 with h9|h9
    ·exact h9
    ·have h8:j1=i1:=by omega
     rw[h8]at s2d;have u:=s1d zo;have v:=s2d (aK _) zo
     revert u v
     cases Sort.ltInt e[i1]! e[a]! <;>simp
   have nj:i1<d.size:=by omega
   have nj':i1<e.size:=by omega
   rw[aF zo]at ht;have hi11:(i1:Int)+1=((i1+1:Nat):Int):=by omega
   have hj11:(j1:Int)-1=((j1-1:Nat):Int):=by omega
   (repeat' ((conv=>whnf);first|(with_reducible first|refine iA nj ?_|refine iA ni ?_|refine kQ nj' ?_|refine kQ ni' ?_)|(refine vS ni' fun z=>?_)|(rw[wC])|refine zG ?_|apply zA|intro h|exact zT));all_goals conv=>whnf
   refine⟨(i1+1,j1-1,Sort.swp e i1 j1),⟨by rw[swp_size,hes],by dsimp only;omega,by dsimp only;omega,by dsimp only;omega,ht⟩,by dsimp only;omega,?_⟩;dsimp only;rw[<-hi11,<-hj11];exact leA
theorem aQF(d:Array Int)(a b p:Nat)(hap:a<=p)(hpb:p<b)(hb:b<=d.size)(hsz:d.size<1000000000000){K:KT}(hK:K (.v (.int .i64 (Sort.partitionEqual Sort.ltInt d a b p).1)) [iT (Sort.partitionEqual Sort.ltInt d a b p).2]):
  AC 332 [.os 0 1 0 d.size,.v (.int .i64 a),.v (.int .i64 b),.v (.int .i64 p)] [iT d] K:=by
 refine aOS rfl rfl ?_;have na:a<d.size:=by omega
 have np:p<d.size:=by omega
 have hb1:(b:Int)-1=((b-1:Nat):Int):=by omega
 have ha1:(a:Int)+1=((a+1:Nat):Int):=by omega
 unfold Sort.partitionEqual at hK;(repeat' ((conv=>whnf);first|(with_reducible first|refine iA na ?_|refine iA np ?_|refine kQ na ?_|refine kQ np ?_)|(refine vS np fun z=>?_)|(rw[wC])|refine zG ?_|apply zA|intro h|exact zT));all_goals conv=>whnf
 refine gM (Nat×Nat×Array Int) (fun g=>⟨1,[(0,iT g.2.2)],[(0,.os 0 1 0 d.size),(1,.v (.int .i64 a)),(9,.v (.int .i64 g.1)),(10,.v (.int .i64 g.2.1))]⟩) (fun g=>g.2.2.size=d.size/\a<g.1/\g.1<=g.2.1+1/\g.2.1<d.size/\Sort.partEqLoop Sort.ltInt a g.1 g.2.1 g.2.2=Sort.partEqLoop Sort.ltInt a (a+1) (b-1) (Sort.swp d a p)) (fun g=>g.2.1+1-g.1) (a+1,b-1,Sort.swp d a p) ⟨by rw[swp_size],by dsimp only;omega,by dsimp only;omega,by dsimp only;omega,rfl⟩ ?_ ?_
 ·dsimp only;rw[<-ha1,<-hb1];exact leA
 generalize Sort.partEqLoop Sort.ltInt a (a+1) (b-1) (Sort.swp d a p)=T at*
 rintro⟨i,j,e⟩ ⟨hes,hai,hij,hjn,ht⟩
 simp only at hes hai hij hjn ht⊢;rw[Sort.partEqLoop_eq]at ht;have na':a<e.size:=by omega
 obtain⟨i1,hi1⟩:∃i1,i1=Sort.scanUp (fun x=> !Sort.ltInt e[a]! x) e j i:=⟨_,rfl⟩
 have s1:=Sort.scanUp_spec (fun x=> !Sort.ltInt e[a]! x) e j _ i rfl;rw[<-hi1]at s1;obtain⟨s1a,s1b0,_,s1d⟩:=s1;have s1b:=s1b0 zo;obtain⟨j1,hj1⟩:∃j1,j1=Sort.scanDown (fun x=>Sort.ltInt e[a]! x) e i1 j:=⟨_,rfl⟩
 have s2:=Sort.scanDown_spec (fun x=>Sort.ltInt e[a]! x) e i1 j;rw[<-hj1]at s2;obtain⟨s2a,s2b0,_,s2d⟩:=s2;have s2b:=s2b0 zo;refine Jn.at ⟨1,[(0,iT e)],[(0,.os 0 1 0 d.size),(1,.v (.int .i64 a)),(9,.v (.int .i64 ((i1:Nat):Int))),(10,.v (.int .i64 ((j:Nat):Int)))]⟩ ?_ ?_
 ·rw[hi1];refine gM Nat (fun k=>⟨1,[(0,iT e)],[(0,.os 0 1 0 d.size),(1,.v (.int .i64 a)),(9,.v (.int .i64 k)),(10,.v (.int .i64 ((j:Nat):Int)))]⟩) (fun k=>i<=k/\k<=j+1/\Sort.scanUp (fun x=> !Sort.ltInt e[a]! x) e j k=Sort.scanUp (fun x=> !Sort.ltInt e[a]! x) e j i) (fun k=>j+1-k) i ⟨aK _,by omega,rfl⟩ ?_ ?_
  ·exact leA
  intro k ⟨hk1,hk2,hk3⟩;rw[Sort.scanUp]at hk3;rcases aC j k with hjk|hjk
  ·rw[aF (by simp;omega)]at hk3;(repeat' ((conv=>whnf);first|refine zG ?_|apply zA|intro h|exact zT));all_goals conv=>whnf
   refine⟨(),trivial,?_⟩;rw[<-hk3];exact leA
  ·have n1:k<d.size:=by omega
   have n1':k<e.size:=by omega
   (repeat' ((conv=>whnf);first|(with_reducible first|refine nL _ _ ?_|refine iA n1 ?_|refine iA na ?_|refine kQ n1' ?_|refine kQ na' ?_)|refine zG ?_|apply zA|intro h|exact zT));all_goals conv=>whnf
   all_goals first
    |(rw[aH (by simp[h];omega)]at hk3
      refine⟨k+1,⟨by omega,by omega,hk3⟩,by omega,?_⟩;rw[aN,aL];(exact leA))
    |(rw[aF (by simp[h])]at hk3
      refine⟨(),trivial,?_⟩;rw[<-hk3];(exact leA))
 refine Jn.at ⟨1,[(0,iT e)],[(0,.os 0 1 0 d.size),(1,.v (.int .i64 a)),(9,.v (.int .i64 ((i1:Nat):Int))),(10,.v (.int .i64 ((j1:Nat):Int)))]⟩ ?_ ?_
 ·rw[hj1];refine gM Nat (fun k=>⟨1,[(0,iT e)],[(0,.os 0 1 0 d.size),(1,.v (.int .i64 a)),(9,.v (.int .i64 ((i1:Nat):Int))),(10,.v (.int .i64 k))]⟩) (fun k=>i1<=k+1/\k<=j/\Sort.scanDown (fun x=>Sort.ltInt e[a]! x) e i1 k=Sort.scanDown (fun x=>Sort.ltInt e[a]! x) e i1 j) (fun k=>k) j ⟨by omega,aK _,rfl⟩ ?_ ?_
  ·exact leA
  intro k ⟨hk1,hk2,hk3⟩;rcases aC k i1 with hjk|hjk
  ·have hk4:Sort.scanDown (fun x=>Sort.ltInt e[a]! x) e i1 k=k:=by
    cases k with
    |zero=>rfl
    |succ k=>rw[Sort.scanDown,aF (by simp;omega)]
   rw[hk4]at hk3;(repeat' ((conv=>whnf);first|refine zG ?_|apply zA|intro h|exact zT));all_goals conv=>whnf
   refine⟨(),trivial,?_⟩;rw[<-hk3];exact leA
  ·obtain⟨m,rfl⟩:∃m,k=m+1:=⟨k-1,by omega⟩
   have n1:m+1<d.size:=by omega
   have n1':m+1<e.size:=by omega
   have hm:((m+1:Nat):Int)-1=(m:Nat):=by omega
   rw[Sort.scanDown]at hk3;(repeat' ((conv=>whnf);first|(with_reducible first|refine nL _ _ ?_|refine iA n1 ?_|refine iA na ?_|refine kQ n1' ?_|refine kQ na' ?_)|refine zG ?_|apply zA|intro h|exact zT));all_goals conv=>whnf
   all_goals first
    |(rw[aH (by simp[h];omega)]at hk3
      refine⟨m,⟨by omega,by omega,hk3⟩,by omega,?_⟩;rw[hm];(exact leA))
    |(rw[aF (by simp[h])]at hk3
      refine⟨(),trivial,?_⟩;rw[<-hk3];(exact leA))
 rw[<-hi1,<-hj1]at ht;have ni:j1<d.size:=by omega
 have ni':j1<e.size:=by omega
 rcases aC j1 i1 with hx|hx
 ·rw[aH hx]at ht;subst ht;(repeat' ((conv=>whnf);first|refine zG ?_|apply zA|intro h|exact zT));all_goals conv=>whnf
  exact hK
 ·have hlt:i1<j1:=by
   rcases aC i1 j1 with h9|h9
   ·exact h9
   ·have h8:j1=i1:=by omega
    rw[h8]at s2d;have u:=s1d zo;have v:=s2d (aK _) zo
    revert u v
    cases Sort.ltInt e[a]! e[i1]! <;>simp
  have nj:i1<d.size:=by omega
  have nj':i1<e.size:=by omega
  rw[aF zo]at ht;have hi11:(i1:Int)+1=((i1+1:Nat):Int):=by omega
  have hj11:(j1:Int)-1=((j1-1:Nat):Int):=by omega
  (repeat' ((conv=>whnf);first|(with_reducible first|refine iA nj ?_|refine iA ni ?_|refine kQ nj' ?_|refine kQ ni' ?_)|(refine vS ni' fun z=>?_)|(rw[wC])|refine zG ?_|apply zA|intro h|exact zT));all_goals conv=>whnf
  refine⟨(i1+1,j1-1,Sort.swp e i1 j1),⟨by rw[swp_size,hes],by dsimp only;omega,by dsimp only;omega,by dsimp only;omega,ht⟩,by dsimp only;omega,?_⟩;dsimp only;rw[<-hi11,<-hj11];exact leA
end Go.Proofs.YtnomkooikbhgmaaGreatDoor
