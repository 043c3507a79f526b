/- Lemmas. -/
import Derived.Test.YtgicddadddhonaaGreatDoorProg
import Derived.Sort.AssemblyPlain
import Derived.Test.YtgicddadddhonaaGreatDoorM18
set_option linter.unusedVariables false
set_option linter.unusedSimpArgs false
set_option maxRecDepth 100000
set_option maxHeartbeats 4000000
noncomputable section
namespace Go.Proofs.YtgicddadddhonaaGreatDoor
open Go Go.Vm
theorem V6(f:Int){K:KT}(hK:K (.v (.int .u32 (pU f))) []):AC 231 [.v (.int .i64 f)] [] K:=by
 refine aQQ rfl rfl ?_;by_cases h1:0<=f/\f<5
 ·have h2:f=0\/f=1\/f=2\/f=3\/f=4:=by omega
  rcases h2 with rfl|rfl|rfl|rfl|rfl
  all_goals
   (repeat' ((conv=>whnf);first|(refine kH zd ?_)|refine zG ?_|apply zA|intro h|exact zT));all_goals conv=>whnf
   exact hK
 ·(repeat' ((conv=>whnf);first|refine zG ?_|apply zA|intro h|exact zT));all_goals conv=>whnf
  ·rw[show pU f=0 from by unfold pU;rw[aF zo,aF zo,aF zo]]at hK;exact hK
  ·rw[show pU f=0 from by unfold pU;rw[aF zo,aF zo,aF zo]]at hK;exact hK
theorem Fa{K:KT}(hK:K (iV fullB) []):AC 51 [] [] K:=by
 refine aJj rfl rfl ?_;(repeat' ((conv=>whnf);first|(with_reducible refine Lp.times 6 ?_)|(refine kH zd ?_)|refine zG ?_|apply zA|intro h|exact zT));all_goals conv=>whnf
 exact hK
theorem tL(b:Bx){K:KT}(hK:K (.sb (decide b.ok)) []):AC 104 [iV b] [] K:=by
 refine gZ (aJe rfl rfl ?_);(repeat' ((conv=>whnf);first|(with_reducible refine Lp.times 6 ?_)|(refine kH zd ?_)|refine zG ?_|apply zA|intro h|exact zT));all_goals conv=>whnf
 all_goals
  have hb:b.ok↔((b.r0.lo<=b.r0.hi/\b.r0.hi<=4294967295)/\(b.r1.lo<=b.r1.hi/\b.r1.hi<=4294967295)/\(b.r2.lo<=b.r2.hi/\b.r2.hi<=255)/\(b.r3.lo<=b.r3.hi/\b.r3.hi<=65535)/\(b.r4.lo<=b.r4.hi/\b.r4.hi<=65535)):=Iff.rfl;first
   |exact iU hK (decide_eq_false (by rw[hb];omega))
   |exact kE hK (decide_eq_true (by rw[hb];omega))
theorem aBg(x y:Bool){K:KT}(hK:K (.sb (x||y)) []):AC 264 [.sb x,.sb y] [] K:=by
 refine gZ (Zt rfl rfl ?_);(repeat' ((conv=>whnf);first|refine zG ?_|apply zA|intro h|exact zT));all_goals conv=>whnf
 all_goals
  first
   |exact kB hK (by cases x<;>cases y<;>simp_all)
   |exact kE hK (by cases x<;>cases y<;>simp_all)
   |exact iU hK (by cases x<;>cases y<;>simp_all)
theorem aLY(x y:Bool){K:KT}(hK:K (.sb (x&&y)) []):AC 263 [.sb x,.sb y] [] K:=by
 refine gZ (aJf rfl rfl ?_);(repeat' ((conv=>whnf);first|refine zG ?_|apply zA|intro h|exact zT));all_goals conv=>whnf
 all_goals
  first
   |exact kB hK (by cases x<;>cases y<;>simp_all)
   |exact kE hK (by cases x<;>cases y<;>simp_all)
   |exact iU hK (by cases x<;>cases y<;>simp_all)
theorem aMd(x y:Bool){K:KT}(hK:K (.sb (x&& !y)) []):AC 139 [.sb x,.sb y] [] K:=by
 refine gZ (aJq rfl rfl ?_);(repeat' ((conv=>whnf);first|refine zG ?_|apply zA|intro h|exact zT));all_goals conv=>whnf
 all_goals
  first
   |exact kB hK (by cases x<;>cases y<;>simp_all)
   |exact kE hK (by cases x<;>cases y<;>simp_all)
   |exact iU hK (by cases x<;>cases y<;>simp_all)
theorem aBk(x:Bx){K:KT}(hK:K (.sb (!decide x.ok)) []):AC 297 [iV x] [] K:=by
 refine gZ (aJm rfl rfl ?_);(repeat' ((conv=>whnf);first|(with_reducible refine tL x ?_)|refine zG ?_|apply zA|intro h|exact zT));all_goals conv=>whnf
 exact kB hK rfl
theorem V4(l:List Bx)(hl:l.length<1000000000){K:KT}(hK0:l=[]->K .nils [])(hK:K (.os 0 10 0 l.length) [.arr 10 (l.map iV)]):AC 296 [iN l] [] K:=by
 refine aEd rfl rfl ?_;have e:0+(l.map iV).length=l.length:=by rw[aA];omega
 have hK':K (.os 0 10 0 (0+(l.map iV).length)) [.arr 10 (l.map iV)]:=by rw[e];exact hK
 (repeat' ((conv=>whnf);first|refine zG ?_|apply zA|intro h|exact zT));all_goals conv=>whnf
 all_goals first
  |exact hK'
  |exact hK0 ((fO (f:=iV)).1 (by simp_all))
  |skip
 all_goals
  intro b hb;(repeat' ((conv=>whnf);first|refine zG ?_|apply zA|intro h|exact zT));all_goals conv=>whnf
  all_goals first
   |exact hK'
   |exact hK0 ((fO (f:=iV)).1 (by simp_all))
theorem aKD(l:List Bx)(hl:l.length<1000000000){K:KT}(hK1:(∀x,x∈l->x.ok)->K (.v (.int .i64 (-1))) [])
  (hK2:∀(i:Nat) x,l[i]? =some x->¬x.ok->(∀y,y∈l.take i->y.ok)->K (.v (.int .i64 i)) []):
  AC 310 [iN l,.fn (.func 297) [] []] [] K:=by
 refine aQM rfl rfl ?_;(repeat' ((conv=>whnf);first|refine zG ?_|apply zA|intro h|exact zT));all_goals conv=>whnf
 refine gV Nat (fun k=>⟨0,[],[(0,iN l),(1,.fn (.func 297) [] []),(7,.v (.int .i64 ((l.map iV).length:Nat))),(8,.v (.int .i64 k))]⟩) (fun k=>k<=l.length/\∀y,y∈l.take k->y.ok) (fun k=>l.length-k) 0 ⟨aK _,by simp⟩ ?_ ?_
 ·exact leA
 intro k ⟨hk,hin⟩;rcases aD k l.length with hkl|hkl
 ·obtain⟨x,hx⟩:=gex hkl;(repeat' ((conv=>whnf);first|(with_reducible first|refine iI hkl ?_|refine iH hx ?_|refine aBk x ?_)|refine zG ?_|apply zA|intro h|exact zT));all_goals conv=>whnf
  all_goals first
   |exact hK2 k x hx (by simpa using h) hin
   |(refine⟨k+1,⟨hkl,fun y hy=>?_⟩,by omega,?_⟩
     ·rw[bE,hx]at hy;rcases aX.1 hy with hy|hy
      ·exact hin y hy
      ·simp only[eH,aU]at hy;subst hy;simpa using h
     ·rw[aN,aM];(exact leA))
 ·rw[aW hkl]at hin;(repeat' ((conv=>whnf);first|refine zG ?_|apply zA|intro h|exact zT));all_goals conv=>whnf
  exact hK1 hin
theorem aSw(l:List Bx)(hl:l.length<1000000000){K:KT}(hK:∀zs,K (.os 0 10 0 (kL l).length) [.arr 10 ((kL l).map iV++zs)]):
  AC 295 [.os 0 10 0 l.length,.fn (.func 297) [] []] [.arr 10 (l.map iV)] K:=by
 refine aQJ rfl rfl ?_;(repeat' ((conv=>whnf);first|refine zG ?_|apply zA|intro h|exact zT));all_goals conv=>whnf
 refine aKD l hl (fun hall=>?_) (fun i x hx hbad hbef=>?_)
 ·have e:kL l=l:=dW.2 fun y hy=>by simpa using hall y hy
  have:=hK [];rw[e,bG]at this;(repeat' ((conv=>whnf);first|refine zG ?_|apply zA|intro h|exact zT));all_goals conv=>whnf
  exact this
 ·have hil:i<l.length:=(aP.1 hx).1;have e0:kL (l.take i)=l.take i:=dW.2 fun y hy=>by simpa using hbef y hy
  have e1:kL (l.take (i+1))=l.take i:=by rw[Gf hx,aF hbad,e0,bG]
  have e2:(l.take i).length=i:=by rw[aV];omega
  (repeat' ((conv=>whnf);first|refine zG ?_|apply zA|intro h|exact zT));all_goals conv=>whnf
  refine gV Nat (fun j=>⟨1,[(0,.arr 10 ((kL (l.take j)++l.drop (kL (l.take j)).length).map iV))],[(0,.os 0 10 0 l.length),(1,.fn (.func 297) [] []),(5,.v (.int .i64 (kL (l.take j)).length)),(6,.v (.int .i64 j))]⟩) (fun j=>j<=l.length/\(kL (l.take j)).length<j) (fun j=>l.length-j) (i+1) ⟨hil,by rw[e1,e2];omega⟩ ?_ ?_
  ·rw[e1,e2,cU,aN,aM];exact leA
  intro j ⟨hj1,hj2⟩;rcases aD j l.length with hjl|hjl
  ·obtain⟨y,hy⟩:=gex hjl;have hs:=Gf hy;generalize hC:kL (l.take j)=C at*;have hget:∀i,C.length<=i->(C++l.drop C.length)[i]? =l[i]? :=fun i hi=>by
    rw[bF hi,cJ]
    congr 1;omega
   have hCn:C.length<l.length:=by omega
   have hy0:(C++l.drop C.length)[0+j]? =some y:=by rw[bM,hget _ zo];exact hy
   obtain⟨z,hz⟩:∃z,l[C.length]? =some z:=⟨_,aE hCn⟩
   have hz0:(C++l.drop C.length)[0+C.length]? =some z:=by rw[bM,hget _ (aO _)];exact hz
   have hdr:l.drop C.length=z::l.drop (C.length+1):=by
    rw[aE hCn]at hz;rw[<-bB hz,<-bA hCn]
   have hset:((C++l.drop C.length).map iV).set (0+C.length) (iV y)=((C++[y])++l.drop (C++[y]).length).map iV:=by
    rw[bM,<-fS,dO _ _ (aO _),dH,hdr];simp
   (repeat' ((conv=>whnf);first|(with_reducible first|refine iJ hjl ?_|refine iH hy0 ?_|refine aBk y ?_|refine iJ hCn ?_|refine iH hz0 ?_)|refine zG ?_|apply zA|intro h|exact zT));all_goals conv=>whnf
   ·rw[aH h]at hs;refine⟨j+1,⟨hjl,by rw[hs,aC];simp;omega⟩,by omega,?_⟩;rw[hs,<-hset,show((C++[y]).length:Int)=(C.length:Int)+1 by simp,aN j,aM];exact leA
   ·rw[aF h,bG]at hs;refine⟨j+1,⟨hjl,by rw[hs];omega⟩,by omega,?_⟩;rw[hs,aN j,aM];exact leA
  ·have hCl:kL (l.take j)=kL l:=by rw[aW hjl]
   have hCn:(kL l).length<=l.length:=Ez l;rw[hCl];(repeat' ((conv=>whnf);first|(refine iF (kL l).length l.length rfl rfl hCn (aO _) ?_)|(refine iF 0 (kL l).length rfl rfl (aK _) hCn ?_)|refine zG ?_|apply zA|intro h|exact zT));all_goals conv=>whnf
   have e3:(List.map iV (kL l++l.drop (kL l).length)).take (0+(kL l).length)=(kL l).map iV:=by
    rw[bM,aQ,gP zx]
   rw[e3,eN,eV];exact hK _
theorem aMb{K:KT}(hK:K (.v (.int .i64 (-1))) []):
  AC 310 [.lst [],.fn (.func 297) [] []] [] K:=
 aKD [] zd (fun _=>hK) (fun i x h=>by simp at h)
theorem aMa{K:KT}(hK:K .nils []):
  AC 295 [.nils,.fn (.func 297) [] []] [] K:=by
 refine aJi rfl rfl ?_;(repeat' ((conv=>whnf);first|(with_reducible refine aMb ?_)|refine zG ?_|apply zA|intro h|exact zT));all_goals conv=>whnf
 exact hK
theorem aKE(l:List Bx)(hl:l.length<1000000000){K:KT}(hK:K (iN (kL l)) []):AC 267 [iN l] [] K:=by
 refine hJ (aQR rfl rfl ?_);(repeat' ((conv=>whnf);first|refine zG ?_|apply zA|intro h|exact zT));all_goals conv=>whnf
 refine V4 l hl (fun e=>?_) ?_
 ·subst e;(repeat' ((conv=>whnf);first|(with_reducible refine aMa ?_)|refine zG ?_|apply zA|intro h|exact zT));all_goals conv=>whnf
  exact⟨_,hZ,hK⟩
 ·(repeat' ((conv=>whnf);first|(with_reducible refine aSw l hl fun zs=>?_)|refine zG ?_|apply zA|intro h|exact zT));all_goals conv=>whnf
  refine iE (ys:=(kL l).map iV) zx (by rw[bP,gP zx]) ?_;exact⟨_,gY,hK⟩
theorem Lu(l:List Bx)(f:Nat)(hf:f<=4)(v:Int)(hl:l.length<1000000000000){K:KT}(hK:K (iN (atF f v l)) []):AC 301 [iN l,.v (.int .i64 f),.v (.int .u32 v)] [] K:=by
 refine aQI rfl rfl ?_;(repeat' ((conv=>whnf);first|refine zG ?_|apply zA|intro h|exact zT));all_goals conv=>whnf
 refine gV Nat (fun k=>⟨1,[(0,.arr 10 ((atF f v (l.take k)).map iV))],[(1,.v (.int .i64 f)),(2,.v (.int .u32 v)),(7,.os 0 10 0 (atF f v (l.take k)).length),(10,iN l),(11,.v (.int .i64 l.length)),(12,.v (.int .i64 k))]⟩) (fun k=>k<=l.length) (fun k=>l.length-k) 0 (aK _) ?_ ?_
 ·have e1:(List.map iV l).length=l.length:=aA ..;rw[e1];exact leA
 intro k hk;have hlen:=xJ f v (l.take k);rw[aV]at hlen;rcases aD k l.length with hkl|hkl
 ·obtain⟨x,hx⟩:=gex hkl;have hs:=P8 (f:=f) (v:=v) hx;rcases f with _|_|_|_|_|f
  case succ.succ.succ.succ.succ=>omega
  all_goals
   simp only[Bx.get]at hs;(repeat' ((conv=>whnf);first|(with_reducible first|refine iI hkl ?_|refine iJ hkl ?_|refine iH hx ?_)|(refine kH zd ?_)|refine zG ?_|apply zA|intro h|exact zT));all_goals conv=>whnf
   all_goals
    refine⟨k+1,by omega,by omega,?_⟩;first
     |(rw[aH zo]at hs
       rw[hs,aQ,aC];exact leA)
     |(rw[aF zo,bG]at hs
       rw[hs];exact leA)
 ·(repeat' ((conv=>whnf);first|refine zG ?_|apply zA|intro h|exact zT));all_goals conv=>whnf
  rw[aW hkl]at*;(repeat' ((conv=>whnf);first|refine zG ?_|apply zA|intro h|exact zT));all_goals conv=>whnf
  exact hK
def aUv:Ctx:={N:=6}
abbrev aQq:=ofD aUv Tryz.func345
def aNN:Ctx:={N:=17}
abbrev aIK:=ofD aNN Tryz.func338
def Ai:Sched:=lp 15 [30,33,34]
def aUs:Ctx:={N:=49,np:=1,plan:=p1 4 (lp 13 [26,29]) (p1 6 Ai pn)}
abbrev aQn:=ofD aUs Tryz.func332
def aNV:Ctx:={N:=76,np:=1,plan:=p1 3 (lp 18 [36,39]) (p1 5 Ah (p1 6 (lp 21 [42,45,46]) pn))}
abbrev aIS:=ofD aNV Tryz.func342
def aNM:Ctx:={N:=56,np:=1,own:=oz [342],plan:=p1 10 (lp 17 [34,37,38]) pn}
abbrev aIJ:=ofD aNM Tryz.func333
def Aj:Sched:=lp 13 [26,29,30]
def aUz:Ctx:={N:=32,np:=1,plan:=p1 3 Aj pn}
abbrev aQu:=ofD aUz Tryz.func336
def Ak:Sched:=lp 12 [24,27,29]
def aNS:Ctx:={N:=168,np:=1,plan:=p1 1 Aj (p1 3 Ah (p1 5 Ak (p1 8 Aj (p1 10 Aj (p1 13 Ah (p1 15 Ak (p1 18 Aj (p1 21 Aj pn)))))))),cut:=oz [5,7,15,17]}
abbrev aIP:=ofD aNS Tryz.func340
def aUx:Ctx:={N:=84,np:=1,plan:=p1 1 Aj (p1 3 Ak (p1 5 Ah (p1 8 Aj pn))),cut:=oz [5,7]}
abbrev aQs:=ofD aUx Tryz.func339
def aNT:Ctx:={N:=133,np:=1,plan:=p1 5 (lp 13 [26,29,31]) (p1 11 Ai (p1 16 (lp 9 [18,21]) (p1 17 Ai (p1 22 (lp 9 [18,21]) (p1 23 Ai pn))))),cut:=oz [7,18]}
abbrev aIQ:=ofD aNT Tryz.func337
def aNR:Ctx:={N:=28,np:=2,plan:=p1 1 (lp 8 [16]) pn}
abbrev aIO:=ofD aNR Tryz.func346
def aUu:Ctx:={N:=36,np:=2,own:=oz [346]}
abbrev aQp:=ofD aUu Tryz.func344
def aNO:Ctx:={N:=15,np:=2,own:=oz [344]}
abbrev aIL:=ofD aNO Tryz.func343
def aUy:Ctx:={N:=57,np:=1,own:=oz [344,343]}
abbrev aQt:=ofD aUy Tryz.func335
def aGU:Ctx:={N:=25}
abbrev aDS:=ofD aGU Tryz.func324
def aUt:Ctx:={N:=8}
abbrev aQo:=ofD aUt Tryz.func308
def aNU:Ctx:={N:=7}
abbrev aIR:=ofD aNU Tryz.func328
def Ad:Sched:=lp 9 [18]
def aNQ:Ctx:={N:=33,np:=1,plan:=p1 1 Ad (p1 2 Ad (p1 3 Ad pn))}
abbrev aIN:=ofD aNQ Tryz.func329
def aUr:Ctx:={N:=65,np:=1,own:=oz [329],plan:=p1 10 (lp 17 [34,37,38]) pn}
abbrev aQm:=ofD aUr Tryz.func334
def aUw:Ctx:={N:=134,np:=1,own:=oz [332,333,334,335,336,337,339,340,325],plan:=p1 17 Ak pn,cut:=oz [10,15,17]}
abbrev aQr:=ofD aUw Tryz.func325
def aNW:Ctx:={N:=11,np:=1,own:=oz [325]}
abbrev aIT:=ofD aNW Tryz.func311
def aNL:Ctx:={N:=61,np:=1,plan:=p1 6 (lo 10) (p1 11 (lo 10) pn),res:=true}
abbrev aII:=ofD aNL Tryz.func312
abbrev encZ(z:Int):AV:=.v (.int .u64 z)
abbrev jE(d:Array Int):Vm.Obj:=.arr 1 (d.toList.map encZ)
theorem aEY{d:Array Int}{i:Nat}(h:i<d.size):d.toList[i]? =some d[i]! :=by
 rw[eS,bL h,getElem!_pos d i h]
theorem lE{d:Array Int}{i:Nat}{K:AV->Prop}(h:i<d.size)(hk:K (encZ d[i]!)):Ix (d.toList.map encZ) (0+i) K:=by
 rw[bM];exact iH (aEY h) hk
theorem aVW{d:Array Int}{i j:Nat}:((d.toList.map encZ).set i (encZ d[j]!)).set j (encZ d[i]!)=(Sort.swp d i j).toList.map encZ:=by
 rw[<-fS,<-fS];simp[Sort.swp]
theorem L7{d:Array Int}{i j:Nat}{x:AV}{K:AV->Prop}(hij:i≠j)(h:j<d.size)(hk:K (encZ d[j]!)):Ix ((d.toList.map encZ).set (0+i) x) (0+j) K:=by
 rw[bM,bM];exact iC (by rw[List.getElem?_set_ne hij,bX,aEY h];rfl) hk
theorem vE{d:Array Int}{i j:Nat}{y:Int}{K:AV->Prop}(h:j<d.size)(hk:∀z,K (encZ z)):Ix ((d.toList.map encZ).set (0+i) (encZ y)) (0+j) K:=by
 rw[bM,bM];rcases Nat.decEq i j with hij|rfl
 ·exact iC (by rw[List.getElem?_set_ne hij,bX,aEY h];rfl) (hk _)
 ·exact iC (by rw[List.getElem?_set_self (by simpa using h)]) (hk _)
theorem vR{d:Array Int}{i j:Nat}:((d.toList.map encZ).set (0+i) (encZ d[j]!)).set (0+j) (encZ d[i]!)=(Sort.swp d i j).toList.map encZ:=by rw[bM,bM];exact aVW
theorem swp_size{d:Array Int}{i j:Nat}:(Sort.swp d i j).size=d.size:=by simp[Sort.swp]
theorem aSi(x:Int){K:KT}(hK:K (.sb false) []):AC 345 [encZ x] [] K:=by
 refine aQq rfl rfl ?_;(repeat' ((conv=>whnf);first|refine zG ?_|apply zA|intro h|exact zT));all_goals conv=>whnf
 have e:(!decide (x=x))=false:=by simp
 unfold D9;rw[e];exact hK
theorem nU(x y:Int){K:KT}(hK:K (.sb (Sort.ltInt x y)) []):AC 338 [encZ x,encZ y] [] K:=by
 refine gZ (aIK rfl rfl ?_);(repeat' ((conv=>whnf);first|(with_reducible refine aSi _ ?_)|refine zG ?_|apply zA|intro h|exact zT));all_goals conv=>whnf
 exact kB hK rfl
theorem aSh(d:Array Int)(a b:Nat)(hab:a<=b)(hb:b<=d.size)(hsz:d.size<1000000000000){K:KT}(hK:K (.tup []) [jE (Sort.insertionSort Sort.ltInt d a b)]):
  AC 332 [.os 0 1 0 d.size,.v (.int .i64 a),.v (.int .i64 b)] [jE d] K:=by
 refine aQn rfl rfl ?_;(repeat' ((conv=>whnf);first|refine zG ?_|apply zA|intro h|exact zT));all_goals conv=>whnf
 refine gV (Nat×Array Int) (fun g=>⟨1,[(0,jE g.2)],[(0,.os 0 1 0 d.size),(1,.v (.int .i64 a)),(2,.v (.int .i64 b)),(6,.v (.int .i64 g.1))]⟩)
  (fun g=>g.2.size=d.size/\a+1<=g.1/\g.1<=d.size+1/\Sort.insOuter Sort.ltInt a b g.1 g.2=Sort.insertionSort Sort.ltInt d a b) (fun g=>b-g.1) (a+1,d) ⟨rfl,aO _,by omega,rfl⟩ ?_ ?_
 ·dsimp only;rw[aN,aM];exact leA
 rintro⟨i,e⟩ ⟨he,hi1,hi2,ht⟩
 simp only at he hi1 hi2 ht⊢;rw[Sort.insOuter]at ht;rcases aD i b with hib|hib
 ·rw[aH hib]at ht;(repeat' ((conv=>whnf);first|refine zG ?_|apply zA|intro h|exact zT));all_goals conv=>whnf
  refine gV (Nat×Array Int) (fun g=>⟨1,[(0,jE g.2)],[(0,.os 0 1 0 d.size),(1,.v (.int .i64 a)),(2,.v (.int .i64 b)),(6,.v (.int .i64 i)),(7,.v (.int .i64 g.1))]⟩)
   (fun g=>g.2.size=d.size/\a<=g.1/\g.1<=i/\Sort.insInner Sort.ltInt a g.1 g.2=Sort.insInner Sort.ltInt a i e) (fun g=>g.1) (i,e) ⟨he,by omega,aO _,rfl⟩ ?_ ?_
  ·exact leA
  rintro⟨j,f⟩ ⟨hf,hj1,hj2,hg⟩
  simp only at hf hj1 hj2 hg⊢;have n1:j<d.size:=by omega
  have n1':j<f.size:=by omega
  rcases aD a j with haj|haj
  ·obtain⟨m,rfl⟩:∃m,j=m+1:=⟨j-1,by omega⟩
   have n2:m<d.size:=by omega
   have n2':m<f.size:=by omega
   have hm:((m+1:Nat):Int)-1=(m:Nat):=by omega
   (repeat' ((conv=>whnf);first|(with_reducible first|refine nU _ _ ?_|refine iJ n1 ?_|refine iB m hm n2 ?_|refine lE n1' ?_|refine lE n2' ?_|refine L7 (Nat.succ_ne_self m) n2' ?_)|refine zG ?_|apply zA|intro h|exact zT));all_goals conv=>whnf
   ·refine⟨(m,Sort.swp f (m+1) m),⟨by rw[swp_size,hf],by omega,by omega,?_⟩,by dsimp only;omega,?_⟩
    ·rw[<-hg];simp only[Sort.insInner];rw[aH];simp only[aJ,aL];exact⟨haj,h⟩
    ·dsimp only;rw[hm,vR];exact leA
   ·refine⟨(i+1,f),⟨hf,by omega,by omega,?_⟩,by dsimp only;omega,?_⟩
    ·rw[<-ht,<-hg];simp only[Sort.insInner];rw[aF];simp[h]
    ·dsimp only;rw[aN,aM];exact leA
  ·have hja:j=a:=by omega
   subst hja;(repeat' ((conv=>whnf);first|refine zG ?_|apply zA|intro h|exact zT));all_goals conv=>whnf
   refine⟨(i+1,f),⟨hf,by omega,by omega,?_⟩,by dsimp only;omega,?_⟩
   ·rw[<-ht,<-hg];cases j with
    |zero=>rfl
    |succ j=>simp only[Sort.insInner];rw[aF];simp
   ·dsimp only;rw[aN,aM];exact leA
 ·rw[aF zo]at ht;rw[<-ht]at hK;(repeat' ((conv=>whnf);first|refine zG ?_|apply zA|intro h|exact zT));all_goals conv=>whnf
  exact hK
theorem aLO(d:Array Int)(lo hi first:Nat)(hlo:lo<=d.size)(hb:first+hi<=d.size)(hsz:d.size<1000000000000){K:KT}(hK:K (.tup []) [jE (Sort.siftDown Sort.ltInt hi first lo d)]):
  AC 342 [.os 0 1 0 d.size,.v (.int .i64 lo),.v (.int .i64 hi),.v (.int .i64 first)] [jE d] K:=by
 refine aIS rfl rfl ?_;(repeat' ((conv=>whnf);first|refine zG ?_|apply zA|intro h|exact zT));all_goals conv=>whnf
 refine gV (Nat×Array Int) (fun g=>⟨1,[(0,jE g.2)],[(0,.os 0 1 0 d.size),(1,.v (.int .i64 lo)),(2,.v (.int .i64 hi)),(3,.v (.int .i64 first)),(8,.v (.int .i64 g.1))]⟩)
  (fun g=>g.2.size=d.size/\g.1<=d.size/\Sort.siftDown Sort.ltInt hi first g.1 g.2=Sort.siftDown Sort.ltInt hi first lo d) (fun g=>hi-g.1) (lo,d) ⟨rfl,hlo,rfl⟩ ?_ ?_
 ·exact leA
 rintro⟨r,e⟩ ⟨he,hr,ht⟩
 simp only at he hr ht⊢;rw[Sort.siftDown]at ht;rcases aD (2*r+1) hi with h1|h1
 ·rw[dif_neg zo]at ht;have a1:first+(2*r+1)<e.size:=by omega
  have a0:first+r<e.size:=by omega
  have e1:first+(2*r+1)+1=first+(2*r+2):=by omega
  rw[e1]at ht;rcases aD (2*r+2) hi with h2|h2
  ·have a2:first+(2*r+2)<e.size:=by omega
   rw[show decide (2*r+1+1<hi)=true from decide_eq_true zo,dQ,dif_pos h2]at ht;(repeat' ((conv=>whnf);first|(with_reducible refine nU _ _ ?_)|(refine iB (first+(2*r+1)) zo zo ?_)|(refine iB (first+(2*r+2)) zo zo ?_)|(refine iB (first+r) zo zo ?_)|(with_reducible first|refine lE a0 ?_|refine lE a1 ?_|refine lE a2 ?_)|(refine L7 zo a1 ?_)|(refine L7 zo a2 ?_)|refine zG ?_|apply zA|intro h|exact zT));all_goals conv=>whnf
   ·rename_i hh;simp only[hh,h,fV,fB,cK,if_true,if_false,reduceIte]at ht;refine⟨(2*r+2,Sort.swp e (first+r) (first+(2*r+2))),⟨by rw[swp_size,he],by dsimp only;omega,ht⟩,by dsimp only;omega,?_⟩;dsimp only;rw[vR,show((2*r+2:Nat):Int)=2*(r:Int)+1+1 by omega];exact leA
   ·rename_i hh;simp only[hh,h,fV,fB,cK,if_true,if_false,reduceIte]at ht;rw[ht];exact hK
   ·rename_i hh;simp only[hh,h,fV,fB,cK,if_true,if_false,reduceIte]at ht;refine⟨(2*r+1,Sort.swp e (first+r) (first+(2*r+1))),⟨by rw[swp_size,he],by dsimp only;omega,ht⟩,by dsimp only;omega,?_⟩;dsimp only;rw[vR,show((2*r+1:Nat):Int)=2*(r:Int)+1 by omega];exact leA
   ·rename_i hh;simp only[hh,h,fV,fB,cK,if_true,if_false,reduceIte]at ht;rw[ht];exact hK
  ·rw[show decide (2*r+1+1<hi)=false from decide_eq_false zo,fI]at ht;(repeat' ((conv=>whnf);first|(with_reducible refine nU _ _ ?_)|(refine iB (first+(2*r+1)) zo zo ?_)|(refine iB (first+r) zo zo ?_)|(with_reducible first|refine lE a0 ?_|refine lE a1 ?_)|(refine L7 zo a1 ?_)|refine zG ?_|apply zA|intro h|exact zT));all_goals conv=>whnf
   ·simp only[h,fI,fV,fB,cK,if_true,if_false,reduceIte]at ht;refine⟨(2*r+1,Sort.swp e (first+r) (first+(2*r+1))),⟨by rw[swp_size,he],by dsimp only;omega,ht⟩,by dsimp only;omega,?_⟩;dsimp only;rw[vR,show((2*r+1:Nat):Int)=2*(r:Int)+1 by omega];exact leA
   ·simp only[h,fI,fV,fB,cK,if_true,if_false,reduceIte]at ht;rw[ht];exact hK
 ·rw[dif_pos h1]at ht;rw[<-ht]at hK;(repeat' ((conv=>whnf);first|refine zG ?_|apply zA|intro h|exact zT));all_goals conv=>whnf
  exact hK
theorem K5(lt:Int->Int->Bool)(hi first:Nat):∀(n r:Nat) (e:Array Int),hi-r<=n->(Sort.siftDown lt hi first r e).size=e.size:=by
 intro n
 induction n with
 |zero=>intro r e h;rw[Sort.siftDown,dif_pos zo]
 |succ n ih=>
  intro r e h;rw[Sort.siftDown];split
  ·rfl
  ·split
   ·split
    ·rfl
    ·split
     ·rw[ih _ _ zo,swp_size]
     ·rfl
   ·split
    ·rfl
    ·rw[ih _ _ zo,swp_size]
theorem sift_size{lt:Int->Int->Bool}{hi first r:Nat}{e:Array Int}:(Sort.siftDown lt hi first r e).size=e.size:=K5 lt hi first _ r e (aO _)
theorem V0{n:Nat}{d:Array Int}(hn:d.size=n)(lo hi first:Nat)(hlo:lo<=n)(hb:first+hi<=n)(hsz:n<1000000000000){K:KT}(hK:K (.tup []) [jE (Sort.siftDown Sort.ltInt hi first lo d)]):
  AC 342 [.os 0 1 0 n,.v (.int .i64 lo),.v (.int .i64 hi),.v (.int .i64 first)] [jE d] K:=by
 subst hn;exact aLO d lo hi first hlo hb hsz hK
theorem aLI(d:Array Int)(a b:Nat)(hab:a<b)(hb:b<=d.size)(hsz:d.size<1000000000000){K:KT}(hK:K (.tup []) [jE (Sort.heapSort Sort.ltInt d a b)]):
  AC 333 [.os 0 1 0 d.size,.v (.int .i64 a),.v (.int .i64 b)] [jE d] K:=by
 refine aIJ rfl rfl ?_;have hq:((b:Int)-a-1).tdiv 2=(((b-a-1)/2:Nat):Int):=by rw[dD zo];omega
 have hba:(b:Int)-a=((b-a:Nat):Int):=by omega
 have hw:∀{K:Int->Prop},K (((b-a-1)/2:Nat):Int)->Wr .i64 (((b:Int)-a-1).tdiv 2) K:=fun h=>jO hq zo zo h;(repeat' ((conv=>whnf);first|(with_reducible refine hw ?_)|refine zG ?_|apply zA|intro h|exact zT));all_goals conv=>whnf
 refine gV (Nat×Array Int) (fun g=>⟨1,[(0,jE g.2)],[(0,.os 0 1 0 d.size),(1,.v (.int .i64 a)),(2,.v (.int .i64 b)),(6,.v (.int .i64 a)),(7,.v (.int .i64 0)),(8,.v (.int .i64 ((b:Int)-a))),(9,.v (.int .i64 ((g.1:Int)-1)))]⟩)
  (fun g=>g.2.size=d.size/\g.1<=(b-a-1)/2+1/\Sort.heapBuild Sort.ltInt (b-a) a g.1 g.2=Sort.heapBuild Sort.ltInt (b-a) a ((b-a-1)/2+1) d) (fun g=>g.1) ((b-a-1)/2+1,d) ⟨rfl,aO _,rfl⟩ ?_ ?_
 ·dsimp only;rw[show((((b-a-1)/2+1:Nat):Int)-1)=(((b-a-1)/2:Nat):Int) by omega];exact leA
 rintro⟨k,e⟩ ⟨he,hk,ht⟩
 simp only at he hk ht⊢;rcases k with _|k
 ·simp only[Sort.heapBuild]at ht;subst ht;have hs:∀{K:KT} (k:Nat) (e:Array Int),e.size=d.size->k<b-a->K (.tup []) [jE (Sort.siftDown Sort.ltInt k a 0 e)]->AC 342 [.os 0 1 0 d.size,.v (.int .i64 0),.v (.int .i64 k),.v (.int .i64 a)] [jE e] K:=fun k e he hk h=>V0 he 0 k a zo zo hsz h;(repeat' ((conv=>whnf);first|refine zG ?_|apply zA|intro h|exact zT));all_goals conv=>whnf
  refine gV (Nat×Array Int) (fun g=>⟨1,[(0,jE g.2)],[(0,.os 0 1 0 d.size),(1,.v (.int .i64 a)),(2,.v (.int .i64 b)),(6,.v (.int .i64 a)),(7,.v (.int .i64 0)),(8,.v (.int .i64 ((b:Int)-a))),(10,.v (.int .i64 ((g.1:Int)-1)))]⟩)
   (fun g=>g.2.size=d.size/\g.1<=b-a/\Sort.heapPop Sort.ltInt a g.1 g.2=Sort.heapSort Sort.ltInt d a b) (fun g=>g.1) (b-a,Sort.heapBuild Sort.ltInt (b-a) a ((b-a-1)/2+1) d) ⟨he,aO _,rfl⟩ ?_ ?_
  ·dsimp only;rw[<-hba];exact leA
  rintro⟨k,f⟩ ⟨hf,hk,ht⟩
  simp only at hf hk ht⊢;rcases k with _|k
  ·simp only[Sort.heapPop]at ht;rw[<-ht]at hK;(repeat' ((conv=>whnf);first|refine zG ?_|apply zA|intro h|exact zT));all_goals conv=>whnf
   exact hK
  ·have a0:a<f.size:=by omega
   have a1:a+k<f.size:=by omega
   have n0:a<d.size:=by omega
   have hik:((k+1:Nat):Int)-1=(k:Nat):=by omega
   rw[hik];(repeat' ((conv=>whnf);first|(with_reducible refine iJ n0 ?_)|(refine iB (a+k) zo zo ?_)|(with_reducible first|refine lE a0 ?_|refine lE a1 ?_)|(refine vE a1 fun z=>?_)|(rw[vR])|(with_reducible refine hs k _ (swp_size.trans hf) zo ?_)|refine zG ?_|apply zA|intro h|exact zT));all_goals conv=>whnf
   refine⟨(k,Sort.siftDown Sort.ltInt k a 0 (Sort.swp f a (a+k))),⟨by rw[sift_size,swp_size,hf],by dsimp only;omega,?_⟩,by dsimp only;omega,?_⟩
   ·rw[<-ht];rfl
   ·exact leA
 ·have hik:((k+1:Nat):Int)-1=(k:Nat):=by omega
  rw[hik];have hs:∀{K:KT},K (.tup []) [jE (Sort.siftDown Sort.ltInt (b-a) a k e)]->AC 342 [.os 0 1 0 d.size,.v (.int .i64 k),.v (.int .i64 ((b:Int)-a)),.v (.int .i64 a)] [jE e] K:=fun h=>by rw[hba];exact V0 he k (b-a) a zo zo hsz h
  (repeat' ((conv=>whnf);first|(with_reducible refine hs ?_)|refine zG ?_|apply zA|intro h|exact zT));all_goals conv=>whnf
  refine⟨(k,Sort.siftDown Sort.ltInt (b-a) a k e),⟨by rw[sift_size,he],by dsimp only;omega,?_⟩,by dsimp only;omega,?_⟩
  ·rw[<-ht];rfl
  ·exact leA
theorem aSm(d:Array Int)(a b:Nat)(hab:a<b)(hb:b<=d.size)(hsz:d.size<1000000000000){K:KT}(hK:K (.tup []) [jE (Sort.reverseRange d a b)]):
  AC 336 [.os 0 1 0 d.size,.v (.int .i64 a),.v (.int .i64 b)] [jE d] K:=by
 refine aQu rfl rfl ?_;(repeat' ((conv=>whnf);first|refine zG ?_|apply zA|intro h|exact zT));all_goals conv=>whnf
 refine gV (Nat×Nat×Array Int) (fun g=>⟨1,[(0,jE g.2.2)],[(0,.os 0 1 0 d.size),(1,.v (.int .i64 a)),(2,.v (.int .i64 b)),(6,.v (.int .i64 g.1)),(7,.v (.int .i64 g.2.1))]⟩)
  (fun g=>g.2.2.size=d.size/\g.1<=g.2.1+1/\g.2.1<d.size/\Sort.reverseLoop g.1 g.2.1 g.2.2=Sort.reverseRange d a b) (fun g=>g.2.1-g.1) (a,b-1,d) ⟨rfl,by dsimp only;omega,by dsimp only;omega,rfl⟩ ?_ ?_
 ·dsimp only;rw[Int.natCast_sub zo,aM];exact leA
 rintro⟨i,j,e⟩ ⟨he,hi,hj,ht⟩
 simp only at he hi hj ht⊢;rw[Sort.reverseLoop]at ht;rcases aD i j with h1|h1
 ·rw[aH h1]at ht;have a1:i<e.size:=by omega
  have a2:j<e.size:=by omega
  have n1:i<d.size:=by omega
  have n2:j<d.size:=by omega
  (repeat' ((conv=>whnf);first|(with_reducible first|refine iJ n1 ?_|refine iJ n2 ?_|refine lE a1 ?_|refine lE a2 ?_)|(refine L7 zo a2 ?_)|refine zG ?_|apply zA|intro h|exact zT));all_goals conv=>whnf
  refine⟨(i+1,j-1,Sort.swp e i j),⟨by rw[swp_size,he],by dsimp only;omega,by dsimp only;omega,ht⟩,by dsimp only;omega,?_⟩;dsimp only;rw[aN,aM,Int.natCast_sub zo,aM,vR];exact leA
 ·rw[aF zo]at ht;rw[<-ht]at hK;(repeat' ((conv=>whnf);first|refine zG ?_|apply zA|intro h|exact zT));all_goals conv=>whnf
  exact hK
theorem aLL(d:Array Int)(a b p:Nat)(hap:a<=p)(hpb:p<b)(hb:b<=d.size)(hsz:d.size<1000000000000){K:KT}(hK:K (.tup [.v (.int .i64 (Sort.partition Sort.ltInt d a b p).1),.sb (Sort.partition Sort.ltInt d a b p).2.1]) [jE (Sort.partition Sort.ltInt d a b p).2.2]):
  AC 340 [.os 0 1 0 d.size,.v (.int .i64 a),.v (.int .i64 b),.v (.int .i64 p)] [jE d] K:=by
 refine hJ (aIP rfl rfl ?_);have na:a<d.size:=by omega
 have np:p<d.size:=by omega
 have hb1:(b:Int)-1=((b-1:Nat):Int):=by omega
 have ha1:(a:Int)+1=((a+1:Nat):Int):=by omega
 obtain⟨e,he⟩:∃e,e=Sort.swp d a p:=⟨_,rfl⟩
 have hes:e.size=d.size:=by rw[he,swp_size]
 have na':a<e.size:=by omega
 unfold Sort.partition at hK;rw[<-he]at hK;simp only at hK;(repeat' ((conv=>whnf);first|(with_reducible first|refine iJ na ?_|refine iJ np ?_|refine lE na ?_|refine lE np ?_)|(refine vE np fun z=>?_)|(rw[vR,<-he])|refine zG ?_|apply zA|intro h|exact zT));all_goals conv=>whnf
 obtain⟨i1,hi1⟩:∃i1,i1=Sort.scanUp (fun x=>Sort.ltInt x e[a]!) e (b-1) (a+1):=⟨_,rfl⟩
 have s1:=Sort.scanUp_spec (fun x=>Sort.ltInt x e[a]!) e (b-1) _ (a+1) rfl;rw[<-hi1]at s1;obtain⟨s1a,s1b0,_,s1d⟩:=s1;have s1b:=s1b0 zo;obtain⟨j1,hj1⟩:∃j1,j1=Sort.scanDown (fun x=> !Sort.ltInt x e[a]!) e i1 (b-1):=⟨_,rfl⟩
 have s2:=Sort.scanDown_spec (fun x=> !Sort.ltInt x e[a]!) e i1 (b-1);rw[<-hj1]at s2;obtain⟨s2a,s2b0,_,s2d⟩:=s2;have s2b:=s2b0 zo;refine Jn.at ⟨1,[(0,jE e)],[(0,.os 0 1 0 d.size),(1,.v (.int .i64 a)),(10,.v (.int .i64 ((i1:Nat):Int))),(11,.v (.int .i64 (((b-1):Nat):Int)))]⟩ ?_ ?_
 ·rw[hi1];refine gV Nat (fun k=>⟨1,[(0,jE e)],[(0,.os 0 1 0 d.size),(1,.v (.int .i64 a)),(10,.v (.int .i64 k)),(11,.v (.int .i64 (((b-1):Nat):Int)))]⟩) (fun k=>(a+1)<=k/\k<=(b-1)+1/\Sort.scanUp (fun x=>Sort.ltInt x e[a]!) e (b-1) k=Sort.scanUp (fun x=>Sort.ltInt x e[a]!) e (b-1) (a+1)) (fun k=>(b-1)+1-k) (a+1) ⟨aO _,by omega,rfl⟩ ?_ ?_
  ·rw[ha1,hb1];(exact leA)
  intro k ⟨hk1,hk2,hk3⟩;rw[Sort.scanUp]at hk3;rcases aD (b-1) k with hjk|hjk
  ·rw[aF (by simp;omega)]at hk3;(repeat' ((conv=>whnf);first|refine zG ?_|apply zA|intro h|exact zT));all_goals conv=>whnf
   refine⟨(),trivial,?_⟩;rw[<-hk3];exact leA
  ·have n1:k<d.size:=by omega
   have n1':k<e.size:=by omega
   (repeat' ((conv=>whnf);first|(with_reducible first|refine nU _ _ ?_|refine iJ n1 ?_|refine iJ na ?_|refine lE n1' ?_|refine lE na' ?_)|refine zG ?_|apply zA|intro h|exact zT));all_goals conv=>whnf
   all_goals first
    |(rw[aH (by simp[h];omega)]at hk3
      refine⟨k+1,⟨by omega,by omega,hk3⟩,by omega,?_⟩;rw[aN,aM];(exact leA))
    |(rw[aF (by simp[h])]at hk3
      refine⟨(),trivial,?_⟩;rw[<-hk3];(exact leA))
 refine Jn.at ⟨1,[(0,jE e)],[(0,.os 0 1 0 d.size),(1,.v (.int .i64 a)),(10,.v (.int .i64 ((i1:Nat):Int))),(11,.v (.int .i64 ((j1:Nat):Int)))]⟩ ?_ ?_
 ·rw[hj1];refine gV Nat (fun k=>⟨1,[(0,jE e)],[(0,.os 0 1 0 d.size),(1,.v (.int .i64 a)),(10,.v (.int .i64 ((i1:Nat):Int))),(11,.v (.int .i64 k))]⟩) (fun k=>i1<=k+1/\k<=(b-1)/\Sort.scanDown (fun x=> !Sort.ltInt x e[a]!) e i1 k=Sort.scanDown (fun x=> !Sort.ltInt x e[a]!) e i1 (b-1)) (fun k=>k) (b-1) ⟨by omega,aO _,rfl⟩ ?_ ?_
  ·exact leA
  intro k ⟨hk1,hk2,hk3⟩;rcases aD k i1 with hjk|hjk
  ·have hk4:Sort.scanDown (fun x=> !Sort.ltInt x e[a]!) e i1 k=k:=by
    cases k with
    |zero=>rfl
    |succ k=>rw[Sort.scanDown,aF (by simp;omega)]
   rw[hk4]at hk3;(repeat' ((conv=>whnf);first|refine zG ?_|apply zA|intro h|exact zT));all_goals conv=>whnf
   refine⟨(),trivial,?_⟩;rw[<-hk3];exact leA
  ·obtain⟨m,rfl⟩:∃m,k=m+1:=⟨k-1,by omega⟩
   have n1:m+1<d.size:=by omega
   have n1':m+1<e.size:=by omega
   have hm:((m+1:Nat):Int)-1=(m:Nat):=by omega
   rw[Sort.scanDown]at hk3;(repeat' ((conv=>whnf);first|(with_reducible first|refine nU _ _ ?_|refine iJ n1 ?_|refine iJ na ?_|refine lE n1' ?_|refine lE na' ?_)|refine zG ?_|apply zA|intro h|exact zT));all_goals conv=>whnf
   all_goals first
    |(rw[aH (by simp[h];omega)]at hk3
      refine⟨m,⟨by omega,by omega,hk3⟩,by omega,?_⟩;rw[hm];(exact leA))
    |(rw[aF (by simp[h])]at hk3
      refine⟨(),trivial,?_⟩;rw[<-hk3];(exact leA))
 rw[<-hi1,<-hj1]at hK;have ni:j1<d.size:=by omega
 have ni':j1<e.size:=by omega
 rcases aD j1 i1 with hij|hij
 ·rw[aH hij]at hK;(repeat' ((conv=>whnf);first|(with_reducible first|refine iJ na ?_|refine iJ ni ?_|refine lE na' ?_|refine lE ni' ?_)|(refine vE na' fun z=>?_)|(rw[vR])|refine zG ?_|apply zA|intro h|exact zT));all_goals conv=>whnf
  exact⟨_,hU gY Weak.bool,hK⟩
 ·have hlt:i1<j1:=by
   rcases aD i1 j1 with h9|h9
   ·exact h9
   ·have h8:j1=i1:=by omega
    rw[h8]at s2d;have u:=s1d zo;have v:=s2d (aO _) zo
    revert u v
    cases Sort.ltInt e[i1]! e[a]! <;>simp
  have nj:i1<d.size:=by omega
  have nj':i1<e.size:=by omega
  rw[aF zo]at hK;simp only at hK;have hi11:(i1:Int)+1=((i1+1:Nat):Int):=by omega
  have hj11:(j1:Int)-1=((j1-1:Nat):Int):=by omega
  (repeat' ((conv=>whnf);first|(with_reducible first|refine iJ nj ?_|refine iJ ni ?_|refine lE nj' ?_|refine lE ni' ?_)|(refine vE ni' fun z=>?_)|(rw[vR])|refine zG ?_|apply zA|intro h|exact zT));all_goals conv=>whnf
  refine gV (Nat×Nat×Array Int) (fun g=>⟨1,[(0,jE g.2.2)],[(0,.os 0 1 0 d.size),(1,.v (.int .i64 a)),(10,.v (.int .i64 g.1)),(11,.v (.int .i64 g.2.1))]⟩) (fun g=>g.2.2.size=d.size/\a<g.1/\g.1<=g.2.1+1/\g.2.1<d.size/\Sort.partLoop Sort.ltInt a g.1 g.2.1 g.2.2=Sort.partLoop Sort.ltInt a (i1+1) (j1-1) (Sort.swp e i1 j1)) (fun g=>g.2.1+1-g.1) (i1+1,j1-1,Sort.swp e i1 j1) ⟨by rw[swp_size,hes],by dsimp only;omega,by dsimp only;omega,by dsimp only;omega,rfl⟩ ?_ ?_
  ·dsimp only;rw[<-hi11,<-hj11];exact leA
  generalize Sort.partLoop Sort.ltInt a (i1+1) (j1-1) (Sort.swp e i1 j1)=T at*
  rintro⟨i,j,e⟩ ⟨hes,hai,hij,hjn,ht⟩
  simp only at hes hai hij hjn ht⊢;rw[Sort.partLoop_eq]at ht;have na':a<e.size:=by omega
  obtain⟨i1,hi1⟩:∃i1,i1=Sort.scanUp (fun x=>Sort.ltInt x e[a]!) e j i:=⟨_,rfl⟩
  have s1:=Sort.scanUp_spec (fun x=>Sort.ltInt x e[a]!) e j _ i rfl;rw[<-hi1]at s1;obtain⟨s1a,s1b0,_,s1d⟩:=s1;have s1b:=s1b0 zo;obtain⟨j1,hj1⟩:∃j1,j1=Sort.scanDown (fun x=> !Sort.ltInt x e[a]!) e i1 j:=⟨_,rfl⟩
  have s2:=Sort.scanDown_spec (fun x=> !Sort.ltInt x e[a]!) e i1 j;rw[<-hj1]at s2;obtain⟨s2a,s2b0,_,s2d⟩:=s2;have s2b:=s2b0 zo;refine Jn.at ⟨1,[(0,jE e)],[(0,.os 0 1 0 d.size),(1,.v (.int .i64 a)),(10,.v (.int .i64 ((i1:Nat):Int))),(11,.v (.int .i64 ((j:Nat):Int)))]⟩ ?_ ?_
  ·rw[hi1];refine gV Nat (fun k=>⟨1,[(0,jE e)],[(0,.os 0 1 0 d.size),(1,.v (.int .i64 a)),(10,.v (.int .i64 k)),(11,.v (.int .i64 ((j:Nat):Int)))]⟩) (fun k=>i<=k/\k<=j+1/\Sort.scanUp (fun x=>Sort.ltInt x e[a]!) e j k=Sort.scanUp (fun x=>Sort.ltInt x e[a]!) e j i) (fun k=>j+1-k) i ⟨aO _,by omega,rfl⟩ ?_ ?_
   ·exact leA
   intro k ⟨hk1,hk2,hk3⟩;rw[Sort.scanUp]at hk3;rcases aD j k with hjk|hjk
   ·rw[aF (by simp;omega)]at hk3;(repeat' ((conv=>whnf);first|refine zG ?_|apply zA|intro h|exact zT));all_goals conv=>whnf
    refine⟨(),trivial,?_⟩;rw[<-hk3];exact leA
   ·have n1:k<d.size:=by omega
    have n1':k<e.size:=by omega
    (repeat' ((conv=>whnf);first|(with_reducible first|refine nU _ _ ?_|refine iJ n1 ?_|refine iJ na ?_|refine lE n1' ?_|refine lE na' ?_)|refine zG ?_|apply zA|intro h|exact zT));all_goals conv=>whnf
    all_goals first
     |(rw[aH (by simp[h];omega)]at hk3
       refine⟨k+1,⟨by omega,by omega,hk3⟩,by omega,?_⟩;rw[aN,aM];(exact leA))
     |(rw[aF (by simp[h])]at hk3
       refine⟨(),trivial,?_⟩;rw[<-hk3];(exact leA))
  refine Jn.at ⟨1,[(0,jE e)],[(0,.os 0 1 0 d.size),(1,.v (.int .i64 a)),(10,.v (.int .i64 ((i1:Nat):Int))),(11,.v (.int .i64 ((j1:Nat):Int)))]⟩ ?_ ?_
  ·rw[hj1];refine gV Nat (fun k=>⟨1,[(0,jE e)],[(0,.os 0 1 0 d.size),(1,.v (.int .i64 a)),(10,.v (.int .i64 ((i1:Nat):Int))),(11,.v (.int .i64 k))]⟩) (fun k=>i1<=k+1/\k<=j/\Sort.scanDown (fun x=> !Sort.ltInt x e[a]!) e i1 k=Sort.scanDown (fun x=> !Sort.ltInt x e[a]!) e i1 j) (fun k=>k) j ⟨by omega,aO _,rfl⟩ ?_ ?_
   ·exact leA
   intro k ⟨hk1,hk2,hk3⟩;rcases aD k i1 with hjk|hjk
   ·have hk4:Sort.scanDown (fun x=> !Sort.ltInt x e[a]!) e i1 k=k:=by
     cases k with
     |zero=>rfl
     |succ k=>rw[Sort.scanDown,aF (by simp;omega)]
    rw[hk4]at hk3;(repeat' ((conv=>whnf);first|refine zG ?_|apply zA|intro h|exact zT));all_goals conv=>whnf
    refine⟨(),trivial,?_⟩;rw[<-hk3];exact leA
   ·obtain⟨m,rfl⟩:∃m,k=m+1:=⟨k-1,by omega⟩
    have n1:m+1<d.size:=by omega
    have n1':m+1<e.size:=by omega
    have hm:((m+1:Nat):Int)-1=(m:Nat):=by omega
    rw[Sort.scanDown]at hk3;(repeat' ((conv=>whnf);first|(with_reducible first|refine nU _ _ ?_|refine iJ n1 ?_|refine iJ na ?_|refine lE n1' ?_|refine lE na' ?_)|refine zG ?_|apply zA|intro h|exact zT));all_goals conv=>whnf
    all_goals first
     |(rw[aH (by simp[h];omega)]at hk3
       refine⟨m,⟨by omega,by omega,hk3⟩,by omega,?_⟩;rw[hm];(exact leA))
     |(rw[aF (by simp[h])]at hk3
       refine⟨(),trivial,?_⟩;rw[<-hk3];(exact leA))
  rw[<-hi1,<-hj1]at ht;have ni:j1<d.size:=by omega
  have ni':j1<e.size:=by omega
  rcases aD j1 i1 with hx|hx
  ·rw[aH hx]at ht;subst ht;(repeat' ((conv=>whnf);first|(with_reducible first|refine iJ na ?_|refine iJ ni ?_|refine lE na' ?_|refine lE ni' ?_)|(refine vE na' fun z=>?_)|(rw[vR])|refine zG ?_|apply zA|intro h|exact zT));all_goals conv=>whnf
   exact⟨_,hU gY Weak.bool,hK⟩
  ·have hlt:i1<j1:=by
    rcases aD i1 j1 with h9|h9
    ·exact h9
    ·have h8:j1=i1:=by omega
     rw[h8]at s2d;have u:=s1d zo;have v:=s2d (aO _) zo
     revert u v
     cases Sort.ltInt e[i1]! e[a]! <;>simp
   have nj:i1<d.size:=by omega
   have nj':i1<e.size:=by omega
   rw[aF zo]at ht;have hi11:(i1:Int)+1=((i1+1:Nat):Int):=by omega
   have hj11:(j1:Int)-1=((j1-1:Nat):Int):=by omega
   (repeat' ((conv=>whnf);first|(with_reducible first|refine iJ nj ?_|refine iJ ni ?_|refine lE nj' ?_|refine lE ni' ?_)|(refine vE ni' fun z=>?_)|(rw[vR])|refine zG ?_|apply zA|intro h|exact zT));all_goals conv=>whnf
   refine⟨(i1+1,j1-1,Sort.swp e i1 j1),⟨by rw[swp_size,hes],by dsimp only;omega,by dsimp only;omega,by dsimp only;omega,ht⟩,by dsimp only;omega,?_⟩;dsimp only;rw[<-hi11,<-hj11];exact leA
theorem aSk(d:Array Int)(a b p:Nat)(hap:a<=p)(hpb:p<b)(hb:b<=d.size)(hsz:d.size<1000000000000){K:KT}(hK:K (.v (.int .i64 (Sort.partitionEqual Sort.ltInt d a b p).1)) [jE (Sort.partitionEqual Sort.ltInt d a b p).2]):
  AC 339 [.os 0 1 0 d.size,.v (.int .i64 a),.v (.int .i64 b),.v (.int .i64 p)] [jE d] K:=by
 refine aQs rfl rfl ?_;have na:a<d.size:=by omega
 have np:p<d.size:=by omega
 have hb1:(b:Int)-1=((b-1:Nat):Int):=by omega
 have ha1:(a:Int)+1=((a+1:Nat):Int):=by omega
 unfold Sort.partitionEqual at hK;(repeat' ((conv=>whnf);first|(with_reducible first|refine iJ na ?_|refine iJ np ?_|refine lE na ?_|refine lE np ?_)|(refine vE np fun z=>?_)|(rw[vR])|refine zG ?_|apply zA|intro h|exact zT));all_goals conv=>whnf
 refine gV (Nat×Nat×Array Int) (fun g=>⟨1,[(0,jE g.2.2)],[(0,.os 0 1 0 d.size),(1,.v (.int .i64 a)),(9,.v (.int .i64 g.1)),(10,.v (.int .i64 g.2.1))]⟩) (fun g=>g.2.2.size=d.size/\a<g.1/\g.1<=g.2.1+1/\g.2.1<d.size/\Sort.partEqLoop Sort.ltInt a g.1 g.2.1 g.2.2=Sort.partEqLoop Sort.ltInt a (a+1) (b-1) (Sort.swp d a p)) (fun g=>g.2.1+1-g.1) (a+1,b-1,Sort.swp d a p) ⟨by rw[swp_size],by dsimp only;omega,by dsimp only;omega,by dsimp only;omega,rfl⟩ ?_ ?_
 ·dsimp only;rw[<-ha1,<-hb1];exact leA
 generalize Sort.partEqLoop Sort.ltInt a (a+1) (b-1) (Sort.swp d a p)=T at*
 rintro⟨i,j,e⟩ ⟨hes,hai,hij,hjn,ht⟩
 simp only at hes hai hij hjn ht⊢;rw[Sort.partEqLoop_eq]at ht;have na':a<e.size:=by omega
 obtain⟨i1,hi1⟩:∃i1,i1=Sort.scanUp (fun x=> !Sort.ltInt e[a]! x) e j i:=⟨_,rfl⟩
 have s1:=Sort.scanUp_spec (fun x=> !Sort.ltInt e[a]! x) e j _ i rfl;rw[<-hi1]at s1;obtain⟨s1a,s1b0,_,s1d⟩:=s1;have s1b:=s1b0 zo;obtain⟨j1,hj1⟩:∃j1,j1=Sort.scanDown (fun x=>Sort.ltInt e[a]! x) e i1 j:=⟨_,rfl⟩
 have s2:=Sort.scanDown_spec (fun x=>Sort.ltInt e[a]! x) e i1 j;rw[<-hj1]at s2;obtain⟨s2a,s2b0,_,s2d⟩:=s2;have s2b:=s2b0 zo;refine Jn.at ⟨1,[(0,jE e)],[(0,.os 0 1 0 d.size),(1,.v (.int .i64 a)),(9,.v (.int .i64 ((i1:Nat):Int))),(10,.v (.int .i64 ((j:Nat):Int)))]⟩ ?_ ?_
 ·rw[hi1];refine gV Nat (fun k=>⟨1,[(0,jE e)],[(0,.os 0 1 0 d.size),(1,.v (.int .i64 a)),(9,.v (.int .i64 k)),(10,.v (.int .i64 ((j:Nat):Int)))]⟩) (fun k=>i<=k/\k<=j+1/\Sort.scanUp (fun x=> !Sort.ltInt e[a]! x) e j k=Sort.scanUp (fun x=> !Sort.ltInt e[a]! x) e j i) (fun k=>j+1-k) i ⟨aO _,by omega,rfl⟩ ?_ ?_
  ·exact leA
  intro k ⟨hk1,hk2,hk3⟩;rw[Sort.scanUp]at hk3;rcases aD j k with hjk|hjk
  ·rw[aF (by simp;omega)]at hk3;(repeat' ((conv=>whnf);first|refine zG ?_|apply zA|intro h|exact zT));all_goals conv=>whnf
   refine⟨(),trivial,?_⟩;rw[<-hk3];exact leA
  ·have n1:k<d.size:=by omega
   have n1':k<e.size:=by omega
   (repeat' ((conv=>whnf);first|(with_reducible first|refine nU _ _ ?_|refine iJ n1 ?_|refine iJ na ?_|refine lE n1' ?_|refine lE na' ?_)|refine zG ?_|apply zA|intro h|exact zT));all_goals conv=>whnf
   all_goals first
    |(rw[aH (by simp[h];omega)]at hk3
      refine⟨k+1,⟨by omega,by omega,hk3⟩,by omega,?_⟩;rw[aN,aM];(exact leA))
    |(rw[aF (by simp[h])]at hk3
      refine⟨(),trivial,?_⟩;rw[<-hk3];(exact leA))
 refine Jn.at ⟨1,[(0,jE e)],[(0,.os 0 1 0 d.size),(1,.v (.int .i64 a)),(9,.v (.int .i64 ((i1:Nat):Int))),(10,.v (.int .i64 ((j1:Nat):Int)))]⟩ ?_ ?_
 ·rw[hj1];refine gV Nat (fun k=>⟨1,[(0,jE e)],[(0,.os 0 1 0 d.size),(1,.v (.int .i64 a)),(9,.v (.int .i64 ((i1:Nat):Int))),(10,.v (.int .i64 k))]⟩) (fun k=>i1<=k+1/\k<=j/\Sort.scanDown (fun x=>Sort.ltInt e[a]! x) e i1 k=Sort.scanDown (fun x=>Sort.ltInt e[a]! x) e i1 j) (fun k=>k) j ⟨by omega,aO _,rfl⟩ ?_ ?_
  ·exact leA
  intro k ⟨hk1,hk2,hk3⟩;rcases aD k i1 with hjk|hjk
  ·have hk4:Sort.scanDown (fun x=>Sort.ltInt e[a]! x) e i1 k=k:=by
    cases k with
    |zero=>rfl
    |succ k=>rw[Sort.scanDown,aF (by simp;omega)]
   rw[hk4]at hk3;(repeat' ((conv=>whnf);first|refine zG ?_|apply zA|intro h|exact zT));all_goals conv=>whnf
   refine⟨(),trivial,?_⟩;rw[<-hk3];exact leA
  ·obtain⟨m,rfl⟩:∃m,k=m+1:=⟨k-1,by omega⟩
   have n1:m+1<d.size:=by omega
   have n1':m+1<e.size:=by omega
   have hm:((m+1:Nat):Int)-1=(m:Nat):=by omega
   rw[Sort.scanDown]at hk3;(repeat' ((conv=>whnf);first|(with_reducible first|refine nU _ _ ?_|refine iJ n1 ?_|refine iJ na ?_|refine lE n1' ?_|refine lE na' ?_)|refine zG ?_|apply zA|intro h|exact zT));all_goals conv=>whnf
   all_goals first
    |(rw[aH (by simp[h];omega)]at hk3
      refine⟨m,⟨by omega,by omega,hk3⟩,by omega,?_⟩;rw[hm];(exact leA))
    |(rw[aF (by simp[h])]at hk3
      refine⟨(),trivial,?_⟩;rw[<-hk3];(exact leA))
 rw[<-hi1,<-hj1]at ht;have ni:j1<d.size:=by omega
 have ni':j1<e.size:=by omega
 rcases aD j1 i1 with hx|hx
 ·rw[aH hx]at ht;subst ht;(repeat' ((conv=>whnf);first|refine zG ?_|apply zA|intro h|exact zT));all_goals conv=>whnf
  exact hK
 ·have hlt:i1<j1:=by
   rcases aD i1 j1 with h9|h9
   ·exact h9
   ·have h8:j1=i1:=by omega
    rw[h8]at s2d;have u:=s1d zo;have v:=s2d (aO _) zo
    revert u v
    cases Sort.ltInt e[a]! e[i1]! <;>simp
  have nj:i1<d.size:=by omega
  have nj':i1<e.size:=by omega
  rw[aF zo]at ht;have hi11:(i1:Int)+1=((i1+1:Nat):Int):=by omega
  have hj11:(j1:Int)-1=((j1-1:Nat):Int):=by omega
  (repeat' ((conv=>whnf);first|(with_reducible first|refine iJ nj ?_|refine iJ ni ?_|refine lE nj' ?_|refine lE ni' ?_)|(refine vE ni' fun z=>?_)|(rw[vR])|refine zG ?_|apply zA|intro h|exact zT));all_goals conv=>whnf
  refine⟨(i1+1,j1-1,Sort.swp e i1 j1),⟨by rw[swp_size,hes],by dsimp only;omega,by dsimp only;omega,by dsimp only;omega,ht⟩,by dsimp only;omega,?_⟩;dsimp only;rw[<-hi11,<-hj11];exact leA
theorem wY(lt:Int->Int->Bool):∀(j:Nat) (e:Array Int),(Sort.shiftDown lt j e).size=e.size
 |0,e=>rfl
 |j+1,e=>by
  rw[Sort.shiftDown];split
  ·rfl
  ·rw[wY lt j,swp_size]
theorem Pk(lt:Int->Int->Bool)(b:Nat):∀(n j:Nat) (e:Array Int),b-j<=n->(Sort.shiftUp lt b j e).size=e.size:=by
 intro n
 induction n with
 |zero=>intro j e h;rw[Sort.shiftUp,aF zo]
 |succ n ih=>
  intro j e h;rw[Sort.shiftUp];split
  ·split
   ·rfl
   ·rw[ih _ _ zo,swp_size]
  ·rfl
theorem F3(lt:Int->Int->Bool)(e:Array Int)(b:Nat):∀(n i:Nat),b-i<=n->i<=Sort.scanSorted lt e b i/\(i<=b->Sort.scanSorted lt e b i<=b):=by
 intro n
 induction n with
 |zero=>intro i h;rw[Sort.scanSorted,aF (by simp;omega)];omega
 |succ n ih=>
  intro i h;rw[Sort.scanSorted];split
  ·rename_i hc;have hib:i<b:=by simp at hc;exact hc.1
   have:=ih (i+1) zo;omega
  ·omega
theorem aLM(d:Array Int)(a b:Nat)(hab:a<b)(hb:b<=d.size)(hsz:d.size<1000000000000){K:KT}(hK:K (.sb (Sort.partialInsertionSort Sort.ltInt d a b).2) [jE (Sort.partialInsertionSort Sort.ltInt d a b).1]):
  AC 337 [.os 0 1 0 d.size,.v (.int .i64 a),.v (.int .i64 b)] [jE d] K:=by
 refine hJ (aIQ rfl rfl ?_);have ha1:(a:Int)+1=((a+1:Nat):Int):=by omega
 unfold Sort.partialInsertionSort at hK;(repeat' ((conv=>whnf);first|refine zG ?_|apply zA|intro h|exact zT));all_goals conv=>whnf
 refine gV (Nat×Nat×Array Int) (fun g=>⟨1,[(0,jE g.2.2)],[(0,.os 0 1 0 d.size),(1,.v (.int .i64 a)),(2,.v (.int .i64 b)),(7,.v (.int .i64 g.2.1)),(8,.v (.int .i64 g.1))]⟩)
  (fun g=>g.1<=5/\g.2.2.size=d.size/\a<g.2.1/\g.2.1<=b/\Sort.partialIns Sort.ltInt a b (5-g.1) g.2.1 g.2.2=Sort.partialIns Sort.ltInt a b 5 (a+1) d) (fun g=>5-g.1) (0,a+1,d) ⟨by dsimp only;omega,rfl,by dsimp only;omega,by dsimp only;omega,rfl⟩ ?_ ?_
 ·dsimp only;rw[<-ha1];exact leA
 generalize Sort.partialIns Sort.ltInt a b 5 (a+1) d=T at*
 rintro⟨k,i0,e⟩ ⟨hk5,hes,hai0,hib0,ht⟩
 simp only at hk5 hes hai0 hib0 ht⊢;rcases aD k 5 with hk|hk
 ·obtain⟨s,hs⟩:∃s,5-k=s+1:=⟨4-k,by omega⟩
  rw[hs,Sort.partialIns]at ht;obtain⟨i,hi⟩:∃i,i=Sort.scanSorted Sort.ltInt e b i0:=⟨_,rfl⟩
  have hsp:=F3 Sort.ltInt e b _ i0 (aO _);rw[<-hi]at hsp ht;obtain⟨hi1,hi2⟩:=hsp;have hi2:=hi2 zo;simp only at ht;(repeat' ((conv=>whnf);first|refine zG ?_|apply zA|intro h|exact zT));all_goals conv=>whnf
  refine Jn.at ⟨1,[(0,jE e)],[(0,.os 0 1 0 d.size),(1,.v (.int .i64 a)),(2,.v (.int .i64 b)),(7,.v (.int .i64 i)),(8,.v (.int .i64 k))]⟩ ?_ ?_
  ·rw[hi];refine gV Nat (fun m=>⟨1,[(0,jE e)],[(0,.os 0 1 0 d.size),(1,.v (.int .i64 a)),(2,.v (.int .i64 b)),(7,.v (.int .i64 m)),(8,.v (.int .i64 k))]⟩) (fun m=>i0<=m/\m<=b/\Sort.scanSorted Sort.ltInt e b m=Sort.scanSorted Sort.ltInt e b i0) (fun m=>b-m) i0 ⟨aO _,hib0,rfl⟩ ?_ ?_
   ·exact leA
   intro m ⟨hm1,hm2,hm3⟩;rw[Sort.scanSorted]at hm3;rcases aD m b with hmb|hmb
   ·have n1:m<d.size:=by omega
    have n1':m<e.size:=by omega
    have n2':m-1<e.size:=by omega
    (repeat' ((conv=>whnf);first|(with_reducible first|refine nU _ _ ?_|refine iJ n1 ?_)|(refine iB (m-1) zo zo ?_)|(with_reducible first|refine lE n1' ?_|refine lE n2' ?_)|refine zG ?_|apply zA|intro h|exact zT));all_goals conv=>whnf
    all_goals first
     |(rw[aH (by simp[h];omega)]at hm3
       refine⟨m+1,⟨by omega,by omega,hm3⟩,by omega,?_⟩;rw[aN,aM];(exact leA))
     |(rw[aF (by simp[h])]at hm3
       refine⟨(),trivial,?_⟩;rw[<-hm3];(exact leA))
   ·rw[aF (by simp;omega)]at hm3;(repeat' ((conv=>whnf);first|refine zG ?_|apply zA|intro h|exact zT));all_goals conv=>whnf
    refine⟨(),trivial,?_⟩;rw[<-hm3];exact leA
  rcases aD i b with hilt|hilt
  ·rw[aF zo]at ht;rcases aD (b-a) 50 with h50|h50
   ·rw[aH h50]at ht;subst ht;(repeat' ((conv=>whnf);first|refine zG ?_|apply zA|intro h|exact zT));all_goals conv=>whnf
    exact⟨_,Weak.bool,hK⟩
   ·rw[aF zo]at ht;have n1:i<d.size:=by omega
    have n1':i<e.size:=by omega
    have n2':i-1<e.size:=by omega
    (repeat' ((conv=>whnf);first|(with_reducible refine iJ n1 ?_)|(refine iB (i-1) zo zo ?_)|(with_reducible first|refine lE n1' ?_|refine lE n2' ?_)|(refine vE n2' fun z=>?_)|(rw[vR])|refine zG ?_|apply zA|intro h|exact zT));all_goals conv=>whnf
    obtain⟨e1,he1⟩:∃e1,e1=Sort.swp e i (i-1):=⟨_,rfl⟩
    have he1s:e1.size=d.size:=by rw[he1,swp_size,hes]
    rw[<-he1]at ht⊢;obtain⟨e2,he2⟩:∃e2,e2=if i-a≥2 then Sort.shiftDown Sort.ltInt (i-1) e1 else e1:=⟨_,rfl⟩
    have he2s:e2.size=d.size:=by
     rw[he2];split
     ·rw[wY,he1s]
     ·exact he1s
    rw[<-he2]at ht;have fin:∀e3,(e3=if b-i≥2 then Sort.shiftUp Sort.ltInt b (i+1) e2 else e2)->∃g':Nat×Nat×Array Int,(g'.1<=5/\g'.2.2.size=d.size/\a<g'.2.1/\g'.2.1<=b/\Sort.partialIns Sort.ltInt a b (5-g'.1) g'.2.1 g'.2.2=T)/\5-g'.1<5-k/\g'=(k+1,i,e3):=fun e3 h3=>by
     refine⟨(k+1,i,e3),⟨by dsimp only;omega,?_,by dsimp only;omega,by dsimp only;omega,?_⟩,by dsimp only;omega,rfl⟩
     ·dsimp only;rw[h3];split
      ·rw[Pk _ _ _ _ _ (aO _),he2s]
      ·exact he2s
     ·rw[h3,<-ht]
      congr 1
      omega
    refine Jn.at ⟨1,[(0,jE e2)],[(0,.os 0 1 0 d.size),(1,.v (.int .i64 a)),(2,.v (.int .i64 b)),(7,.v (.int .i64 i)),(8,.v (.int .i64 k))]⟩ ?_ ?_
    ·have hd1:decide (2<=(i:Int)-a)=decide (i-a≥2):=by rw[decide_eq_decide];omega
     rcases aD (i-a) 2 with h2|h2
     ·rw[aF zo]at he2;(repeat' ((conv=>whnf);first|refine zG ?_|apply zA|intro h|exact zT));all_goals conv=>whnf
      refine⟨(),trivial,?_⟩;rw[he2];exact leA
     ·rw[aH h2]at he2;(repeat' ((conv=>whnf);first|refine zG ?_|apply zA|intro h|exact zT));all_goals conv=>whnf
      refine gV (Nat×Array Int) (fun g=>⟨1,[(0,jE g.2)],[(0,.os 0 1 0 d.size),(1,.v (.int .i64 a)),(2,.v (.int .i64 b)),(7,.v (.int .i64 i)),(8,.v (.int .i64 k)),(9,.v (.int .i64 g.1))]⟩) (fun g=>g.1<=i/\g.2.size=d.size/\Sort.shiftDown Sort.ltInt g.1 g.2=e2) (fun g=>g.1) (i-1,e1) ⟨by dsimp only;omega,he1s,he2.symm⟩ ?_ ?_
      ·dsimp only;rw[Int.natCast_sub zo,aM];exact leA
      rintro⟨m,f⟩ ⟨hm1,hm2,hm3⟩
      simp only at hm1 hm2 hm3⊢;rcases m with _|m
      ·rw[Sort.shiftDown]at hm3;subst hm3;(repeat' ((conv=>whnf);first|refine zG ?_|apply zA|intro h|exact zT));all_goals conv=>whnf
       refine⟨(),trivial,?_⟩;exact leA
      ·rw[Sort.shiftDown]at hm3;have m1:m+1<d.size:=by omega
       have m1':m+1<f.size:=by omega
       have m2:m<d.size:=by omega
       have m2':m<f.size:=by omega
       have hmm:((m+1:Nat):Int)-1=(m:Nat):=by omega
       (repeat' ((conv=>whnf);first|(with_reducible first|refine nU _ _ ?_|refine iJ m1 ?_|refine iB m hmm m2 ?_|refine lE m1' ?_|refine lE m2' ?_|refine L7 (Nat.succ_ne_self m) m2' ?_)|refine zG ?_|apply zA|intro h|exact zT));all_goals conv=>whnf
       all_goals first
        |(rw[aH (by simp[h])]at hm3
          subst hm3;refine⟨(),trivial,?_⟩;(exact leA))
        |(rw[aF (by simp[h])]at hm3
          refine⟨(m,Sort.swp f (m+1) m),⟨by dsimp only;omega,by rw[swp_size,hm2],hm3⟩,by dsimp only;omega,?_⟩;dsimp only;rw[hmm,vR];(exact leA))
    rcases aD (b-i) 2 with h2|h2
    ·obtain⟨g',h1,h2,rfl⟩:=fin e2 (by rw[aF zo]);(repeat' ((conv=>whnf);first|refine zG ?_|apply zA|intro h|exact zT));all_goals conv=>whnf
     refine⟨_,h1,h2,?_⟩;dsimp only;rw[aN,aM];exact leA
    ·(repeat' ((conv=>whnf);first|refine zG ?_|apply zA|intro h|exact zT));all_goals conv=>whnf
     refine gV (Nat×Array Int) (fun g=>⟨1,[(0,jE g.2)],[(0,.os 0 1 0 d.size),(1,.v (.int .i64 a)),(2,.v (.int .i64 b)),(7,.v (.int .i64 i)),(8,.v (.int .i64 k)),(10,.v (.int .i64 g.1))]⟩) (fun g=>i+1<=g.1/\g.1<=b/\g.2.size=d.size/\Sort.shiftUp Sort.ltInt b g.1 g.2=Sort.shiftUp Sort.ltInt b (i+1) e2) (fun g=>b-g.1) (i+1,e2) ⟨by dsimp only;omega,by dsimp only;omega,he2s,rfl⟩ ?_ ?_
     ·dsimp only;rw[aN,aM];exact leA
     rintro⟨m,f⟩ ⟨hm0,hm1,hm2,hm3⟩
     simp only at hm0 hm1 hm2 hm3⊢;rw[Sort.shiftUp]at hm3;rcases aD m b with hmb|hmb
     ·rw[aH hmb]at hm3;have m1:m<d.size:=by omega
      have m1':m<f.size:=by omega
      have m2':m-1<f.size:=by omega
      (repeat' ((conv=>whnf);first|(with_reducible first|refine nU _ _ ?_|refine iJ m1 ?_)|(refine iB (m-1) zo zo ?_)|(with_reducible first|refine lE m1' ?_|refine lE m2' ?_)|(refine vE m2' fun z=>?_)|refine zG ?_|apply zA|intro h|exact zT));all_goals conv=>whnf
      all_goals first
       |(rw[aH (by simp[h])]at hm3
         obtain⟨g',h1,h2,rfl⟩:=fin f (by rw[aH zo,hm3]);refine⟨_,h1,h2,?_⟩;dsimp only;rw[aN,aM];(exact leA))
       |(rw[aF (by simp[h])]at hm3
         refine⟨(m+1,Sort.swp f m (m-1)),⟨by dsimp only;omega,by dsimp only;omega,by rw[swp_size,hm2],hm3⟩,by dsimp only;omega,?_⟩;dsimp only;rw[aN,aM,vR];(exact leA))
     ·rw[aF zo]at hm3;obtain⟨g',h1,h2,rfl⟩:=fin f (by rw[aH zo,hm3]);(repeat' ((conv=>whnf);first|refine zG ?_|apply zA|intro h|exact zT));all_goals conv=>whnf
      refine⟨_,h1,h2,?_⟩;dsimp only;rw[aN,aM];exact leA
  ·rw[aH zo]at ht;subst ht;(repeat' ((conv=>whnf);first|refine zG ?_|apply zA|intro h|exact zT));all_goals conv=>whnf
   exact⟨_,Weak.bool,hK⟩
 ·have:k=5:=by omega
  subst this;simp only[dH,Sort.partialIns]at ht;subst ht;(repeat' ((conv=>whnf);first|refine zG ?_|apply zA|intro h|exact zT));all_goals conv=>whnf
  exact⟨_,Weak.bool,hK⟩
abbrev Yi(s:Int):Vm.Obj:=.box [.v (.int .i64 s)]
theorem Te(d:Array Int)(a b:Nat)(s:Int)(ha:a<d.size)(hb:b<d.size)(hs0:0<=s)(hs:s<=1000){K:KT}
  (hK:∀(x y:Nat) (s':Int),(x=a/\y=b\/x=b/\y=a)->s<=s'->s'<=s+1->K (.tup [.v (.int .i64 x),.v (.int .i64 y)]) [jE d,Yi s']):
  AC 346 [.os 0 1 0 d.size,.v (.int .i64 a),.v (.int .i64 b),.op 1 0] [jE d,Yi s] K:=by
 refine aIO rfl rfl ?_;(repeat' ((conv=>whnf);first|(with_reducible first|refine nU _ _ ?_|refine iJ ha ?_|refine iJ hb ?_|refine lE ha ?_|refine lE hb ?_)|refine zG ?_|apply zA|intro h|exact zT));all_goals conv=>whnf
 ·exact hK b a (s+1) (.inr ⟨rfl,rfl⟩) zo (cC _)
 ·exact hK a b s (.inl ⟨rfl,rfl⟩) (cC _) zo
theorem aBa(d:Array Int)(a b c:Nat)(s:Int)(ha:a<d.size)(hb:b<d.size)(hc:c<d.size)(hs0:0<=s)(hs:s<=900){K:KT}
  (hK:∀(m:Nat) (s':Int),(m=a\/m=b\/m=c)->s<=s'->s'<=s+3->K (.v (.int .i64 m)) [jE d,Yi s']):
  AC 344 [.os 0 1 0 d.size,.v (.int .i64 a),.v (.int .i64 b),.v (.int .i64 c),.op 1 0] [jE d,Yi s] K:=by
 refine aQp rfl rfl ?_;(repeat' ((conv=>whnf);first|refine zG ?_|apply zA|intro h|exact zT));all_goals conv=>whnf
 refine Te d a b s ha hb hs0 zo fun x1 y1 s1 h1 l1 u1=>?_;have hx1:x1<d.size:=by omega
 have hy1:y1<d.size:=by omega
 (repeat' ((conv=>whnf);first|refine zG ?_|apply zA|intro h|exact zT));all_goals conv=>whnf
 refine Te d y1 c s1 hy1 hc zo zo fun x2 y2 s2 h2 l2 u2=>?_;have hx2:x2<d.size:=by omega
 (repeat' ((conv=>whnf);first|refine zG ?_|apply zA|intro h|exact zT));all_goals conv=>whnf
 refine Te d x1 x2 s2 hx1 hx2 zo zo fun x3 y3 s3 h3 l3 u3=>?_;(repeat' ((conv=>whnf);first|refine zG ?_|apply zA|intro h|exact zT));all_goals conv=>whnf
 exact hK y3 s3 zo zo zo
theorem Td(d:Array Int)(a:Nat)(s:Int)(ha0:1<=a)(ha:a+1<d.size)(hsz:d.size<1000000000000)(hs0:0<=s)(hs:s<=900){K:KT}
  (hK:∀(m:Nat) (s':Int),a<=m+1->m<=a+1->s<=s'->s'<=s+3->K (.v (.int .i64 m)) [jE d,Yi s']):
  AC 343 [.os 0 1 0 d.size,.v (.int .i64 a),.op 1 0] [jE d,Yi s] K:=by
 refine aIL rfl rfl ?_;have e1:(a:Int)-1=((a-1:Nat):Int):=by omega
 have e2:(a:Int)+1=((a+1:Nat):Int):=by omega
 (repeat' ((conv=>whnf);first|refine zG ?_|apply zA|intro h|exact zT));all_goals conv=>whnf
 rw[e1,e2];refine aBa d (a-1) a (a+1) s zo zo zo hs0 hs fun m s' h l u=>?_;(repeat' ((conv=>whnf);first|refine zG ?_|apply zA|intro h|exact zT));all_goals conv=>whnf
 exact hK m s' zo zo l u
theorem aSl(d:Array Int)(a b:Nat)(hab:a<b)(hb:b<=d.size)(hsz:d.size<1000000000000){K:KT}
  (hK:∀(p:Nat) (h:Int),a<=p->p<b->K (.tup [.v (.int .i64 p),.v (.int .i64 h)]) [jE d]):
  AC 335 [.os 0 1 0 d.size,.v (.int .i64 a),.v (.int .i64 b)] [jE d] K:=by
 refine aQt rfl rfl ?_;have q0:((b:Int)-a).tdiv 4=(((b-a)/4:Nat):Int):=by rw[dD zo];omega
 have hw:∀{K:Int->Prop},K (((b-a)/4:Nat):Int)->Wr .i64 (((b:Int)-a).tdiv 4) K:=fun h=>jO q0 zo zo h;(repeat' ((conv=>whnf);first|(with_reducible refine hw ?_)|refine zG ?_|apply zA|intro h|exact zT));all_goals conv=>whnf
 all_goals
  have hq1:4*((b-a)/4)<=b-a:=by omega
  have hq2:b-a<4*((b-a)/4)+4:=by omega
  clear hw q0;generalize (b-a)/4=q at*;have e1:(a:Int)+(q:Int)*1=((a+q:Nat):Int):=by omega
  have e2:(a:Int)+(q:Int)*2=((a+2*q:Nat):Int):=by omega
  have e3:(a:Int)+(q:Int)*3=((a+3*q:Nat):Int):=by omega
  rw[e2]
 ·rw[e1];refine Td d (a+q) 0 zo zo hsz zo zo fun i s1 hi1 hi2 l1 u1=>?_;(repeat' ((conv=>whnf);first|refine zG ?_|apply zA|intro h|exact zT));all_goals conv=>whnf
  refine Td d (a+2*q) s1 zo zo hsz zo zo fun j s2 hj1 hj2 l2 u2=>?_;(repeat' ((conv=>whnf);first|refine zG ?_|apply zA|intro h|exact zT));all_goals conv=>whnf
  rw[e3];refine Td d (a+3*q) s2 zo zo hsz zo zo fun k s3 hk1 hk2 l3 u3=>?_;(repeat' ((conv=>whnf);first|refine zG ?_|apply zA|intro h|exact zT));all_goals conv=>whnf
  refine aBa d i j k s3 zo zo zo zo zo fun m s4 hm l4 u4=>?_;(repeat' ((conv=>whnf);first|refine zG ?_|apply zA|intro h|exact zT));all_goals conv=>whnf
  all_goals exact hK m _ zo zo
 ·rw[e1,e3];refine aBa d (a+q) (a+2*q) (a+3*q) 0 zo zo zo zo zo fun m s4 hm l4 u4=>?_;(repeat' ((conv=>whnf);first|refine zG ?_|apply zA|intro h|exact zT));all_goals conv=>whnf
  all_goals exact hK m _ zo zo
 ·exact hK _ _ zo zo
end Go.Proofs.YtgicddadddhonaaGreatDoor
