/- The program's boxes. -/
import Derived.Test.YtbdikofefjljoaaGreatDoorProg
import Derived.Sort.AssemblyPlain
import Derived.Test.YtbdikofefjljoaaGreatDoorJ18
set_option linter.unusedVariables false
set_option linter.unusedSimpArgs false
set_option maxRecDepth 100000
set_option maxHeartbeats 4000000
namespace Go.Proofs.YtbdikofefjljoaaGreatDoor
open Go Go.Vm
theorem cxTop(f:Int){K:KT}(hK:K (.v (.int .u32 (topI f))) []):AC 143 [.v (.int .i64 f)] [] K:=by
 refine ofxTop rfl rfl ?_
 by_cases h1:0<=f/\f<5
 ·have h2:f=0\/f=1\/f=2\/f=3\/f=4:=by omega
  rcases h2 with rfl|rfl|rfl|rfl|rfl
  all_goals
   (repeat' ((conv=>whnf);first|(refine in_c zd ?_)|refine zG ?_|apply zA|intro h|exact zT));all_goals conv=>whnf
   exact hK
 ·(repeat' ((conv=>whnf);first|refine zG ?_|apply zA|intro h|exact zT));all_goals conv=>whnf
  ·rw[show topI f=0 from by unfold topI;rw[aE zo,aE zo,aE zo]]at hK
   exact hK
  ·rw[show topI f=0 from by unfold topI;rw[aE zo,aE zo,aE zo]]at hK
   exact hK
theorem cxFull{K:KT}(hK:K (encX fullB) []):AC 142 [] [] K:=by
 refine ofxFull rfl rfl ?_
 (repeat' ((conv=>whnf);first|(with_reducible refine Lp.times 6 ?_)|(refine in_c zd ?_)|refine zG ?_|apply zA|intro h|exact zT));all_goals conv=>whnf
 exact hK
theorem cxBVal(b:Bx){K:KT}(hK:K (.sb (decide b.ok)) []):AC 225 [encX b] [] K:=by
 refine gO (ofxBVal rfl rfl ?_)
 (repeat' ((conv=>whnf);first|(with_reducible refine Lp.times 6 ?_)|(refine in_c zd ?_)|refine zG ?_|apply zA|intro h|exact zT));all_goals conv=>whnf
 all_goals
  have hb:b.ok↔((b.r0.lo<=b.r0.hi/\b.r0.hi<=4294967295)/\(b.r1.lo<=b.r1.hi/\b.r1.hi<=4294967295)/\(b.r2.lo<=b.r2.hi/\b.r2.hi<=255)/\(b.r3.lo<=b.r3.hi/\b.r3.hi<=65535)/\(b.r4.lo<=b.r4.hi/\b.r4.hi<=65535)):=Iff.rfl
  first
   |exact fin_f hK (decide_eq_false (by rw[hb];omega))
   |exact fin_t hK (decide_eq_true (by rw[hb];omega))
theorem cxEither(x y:Bool){K:KT}(hK:K (.sb (x||y)) []):AC 198 [.sb x,.sb y] [] K:=by
 refine gO (ofxEither rfl rfl ?_)
 (repeat' ((conv=>whnf);first|refine zG ?_|apply zA|intro h|exact zT));all_goals conv=>whnf
 all_goals
  first
   |exact fin_s hK (by cases x<;>cases y<;>simp_all)
   |exact fin_t hK (by cases x<;>cases y<;>simp_all)
   |exact fin_f hK (by cases x<;>cases y<;>simp_all)
theorem cxBoth(x y:Bool){K:KT}(hK:K (.sb (x&&y)) []):AC 154 [.sb x,.sb y] [] K:=by
 refine gO (ofxBoth rfl rfl ?_)
 (repeat' ((conv=>whnf);first|refine zG ?_|apply zA|intro h|exact zT));all_goals conv=>whnf
 all_goals
  first
   |exact fin_s hK (by cases x<;>cases y<;>simp_all)
   |exact fin_t hK (by cases x<;>cases y<;>simp_all)
   |exact fin_f hK (by cases x<;>cases y<;>simp_all)
theorem cxWout(x y:Bool){K:KT}(hK:K (.sb (x&& !y)) []):AC 152 [.sb x,.sb y] [] K:=by
 refine gO (ofxWout rfl rfl ?_)
 (repeat' ((conv=>whnf);first|refine zG ?_|apply zA|intro h|exact zT));all_goals conv=>whnf
 all_goals
  first
   |exact fin_s hK (by cases x<;>cases y<;>simp_all)
   |exact fin_t hK (by cases x<;>cases y<;>simp_all)
   |exact fin_f hK (by cases x<;>cases y<;>simp_all)
theorem cxValC(x:Bx){K:KT}(hK:K (.sb (!decide x.ok)) []):AC 235 [encX x] [] K:=by
 refine gO (ofxValC rfl rfl ?_)
 (repeat' ((conv=>whnf);first|(with_reducible refine cxBVal x ?_)|refine zG ?_|apply zA|intro h|exact zT));all_goals conv=>whnf
 exact fin_s hK rfl
theorem cxClone(l:List Bx)(hl:l.length<1000000000){K:KT}(hK0:l=[]->K .nils [])(hK:K (.os 0 10 0 l.length) [.arr 10 (l.map encX)]):AC 234 [encXs l] [] K:=by
 refine ofxClone rfl rfl ?_
 have e:0+(l.map encX).length=l.length:=by rw[aA];omega
 have hK':K (.os 0 10 0 (0+(l.map encX).length)) [.arr 10 (l.map encX)]:=by rw[e];exact hK
 (repeat' ((conv=>whnf);first|refine zG ?_|apply zA|intro h|exact zT));all_goals conv=>whnf
 all_goals first
  |exact hK'
  |exact hK0 ((List.map_eq_nil_iff (f:=encX)).1 (by simp_all))
  |skip
 all_goals
  intro b hb
  (repeat' ((conv=>whnf);first|refine zG ?_|apply zA|intro h|exact zT));all_goals conv=>whnf
  all_goals first
   |exact hK'
   |exact hK0 ((List.map_eq_nil_iff (f:=encX)).1 (by simp_all))
theorem cxIdx(l:List Bx)(hl:l.length<1000000000){K:KT}(hK1:(∀x,x∈l->x.ok)->K (.v (.int .i64 (-1))) [])
  (hK2:∀(i:Nat) x,l[i]? =some x->¬x.ok->(∀y,y∈l.take i->y.ok)->K (.v (.int .i64 i)) []):
  AC 224 [encXs l,.fn (.func 235) [] []] [] K:=by
 refine ofxIdx rfl rfl ?_
 (repeat' ((conv=>whnf);first|refine zG ?_|apply zA|intro h|exact zT));all_goals conv=>whnf
 refine gL Nat (fun k=>⟨0,[],[(0,encXs l),(1,.fn (.func 235) [] []),(7,.v (.int .i64 ((l.map encX).length:Nat))),(8,.v (.int .i64 k))]⟩) (fun k=>k<=l.length/\∀y,y∈l.take k->y.ok) (fun k=>l.length-k) 0 ⟨aL _,by simp⟩ ?_ ?_
 ·(exact leA)
 intro k ⟨hk,hin⟩
 rcases aD k l.length with hkl|hkl
 ·obtain⟨x,hx⟩:=gex hkl
  (repeat' ((conv=>whnf);first|(with_reducible first|refine hJ hkl ?_|refine gZ hx ?_|refine cxValC x ?_)|refine zG ?_|apply zA|intro h|exact zT));all_goals conv=>whnf
  all_goals first
   |exact hK2 k x hx (by simpa using h) hin
   |(refine⟨k+1,⟨hkl,fun y hy=>?_⟩,by omega,?_⟩
     ·rw[bH,hx]at hy
      rcases aU.1 hy with hy|hy
      ·exact hin y hy
      ·simp only[eB,aR]at hy
       subst hy
       simpa using h
     ·rw[aO,aN]
      (exact leA))
 ·rw[bA hkl]at hin
  (repeat' ((conv=>whnf);first|refine zG ?_|apply zA|intro h|exact zT));all_goals conv=>whnf
  exact hK1 hin
theorem cxDel(l:List Bx)(hl:l.length<1000000000){K:KT}(hK:∀zs,K (.os 0 10 0 (vldB l).length) [.arr 10 ((vldB l).map encX++zs)]):
  AC 233 [.os 0 10 0 l.length,.fn (.func 235) [] []] [.arr 10 (l.map encX)] K:=by
 refine ofxDel rfl rfl ?_
 (repeat' ((conv=>whnf);first|refine zG ?_|apply zA|intro h|exact zT));all_goals conv=>whnf
 refine cxIdx l hl (fun hall=>?_) (fun i x hx hbad hbef=>?_)
 ·have e:vldB l=l:=eQ.2 fun y hy=>by simpa using hall y hy
  have:=hK []
  rw[e,bJ]at this
  (repeat' ((conv=>whnf);first|refine zG ?_|apply zA|intro h|exact zT));all_goals conv=>whnf
  exact this
 ·have hil:i<l.length:=(aM.1 hx).1
  have e0:vldB (l.take i)=l.take i:=eQ.2 fun y hy=>by simpa using hbef y hy
  have e1:vldB (l.take (i+1))=l.take i:=by rw[vldB_succ hx,aE hbad,e0,bJ]
  have e2:(l.take i).length=i:=by rw[bG];omega
  (repeat' ((conv=>whnf);first|refine zG ?_|apply zA|intro h|exact zT));all_goals conv=>whnf
  refine gL Nat (fun j=>⟨1,[(0,.arr 10 ((vldB (l.take j)++l.drop (vldB (l.take j)).length).map encX))],[(0,.os 0 10 0 l.length),(1,.fn (.func 235) [] []),(5,.v (.int .i64 (vldB (l.take j)).length)),(6,.v (.int .i64 j))]⟩) (fun j=>j<=l.length/\(vldB (l.take j)).length<j) (fun j=>l.length-j) (i+1) ⟨hil,by rw[e1,e2];omega⟩ ?_ ?_
  ·rw[e1,e2,cS,aO,aN]
   (exact leA)
  intro j ⟨hj1,hj2⟩
  rcases aD j l.length with hjl|hjl
  ·obtain⟨y,hy⟩:=gex hjl
   have hs:=vldB_succ hy
   generalize hC:vldB (l.take j)=C at*
   have hget:∀i,C.length<=i->(C++l.drop C.length)[i]? =l[i]? :=fun i hi=>by
    rw[bB hi,cF]
    congr 1;omega
   have hCn:C.length<l.length:=by omega
   have hy0:(C++l.drop C.length)[0+j]? =some y:=by rw[bM,hget _ zo];exact hy
   obtain⟨z,hz⟩:∃z,l[C.length]? =some z:=⟨_,aB hCn⟩
   have hz0:(C++l.drop C.length)[0+C.length]? =some z:=by rw[bM,hget _ (aJ _)];exact hz
   have hdr:l.drop C.length=z::l.drop (C.length+1):=by
    rw[aB hCn]at hz
    rw[<-bE hz,<-aZ hCn]
   have hset:((C++l.drop C.length).map encX).set (0+C.length) (encX y)=((C++[y])++l.drop (C++[y]).length).map encX:=by
    rw[bM,<-fG,dV _ _ (aJ _),dN,hdr]
    simp
   (repeat' ((conv=>whnf);first|(with_reducible first|refine hU hjl ?_|refine gZ hy0 ?_|refine cxValC y ?_|refine hU hCn ?_|refine gZ hz0 ?_)|refine zG ?_|apply zA|intro h|exact zT));all_goals conv=>whnf
   ·rw[aH h]at hs
    refine⟨j+1,⟨hjl,by rw[hs,aC];simp;omega⟩,by omega,?_⟩
    rw[hs,<-hset,show((C++[y]).length:Int)=(C.length:Int)+1 by simp,aO j,aN]
    (exact leA)
   ·rw[aE h,bJ]at hs
    refine⟨j+1,⟨hjl,by rw[hs];omega⟩,by omega,?_⟩
    rw[hs,aO j,aN]
    (exact leA)
  ·have hCl:vldB (l.take j)=vldB l:=by rw[bA hjl]
   have hCn:(vldB l).length<=l.length:=vldB_len l
   rw[hCl]
   (repeat' ((conv=>whnf);first|(refine gV (vldB l).length l.length rfl rfl hCn (aJ _) ?_)|(refine gV 0 (vldB l).length rfl rfl (aL _) hCn ?_)|refine zG ?_|apply zA|intro h|exact zT));all_goals conv=>whnf
   have e3:(List.map encX (vldB l++l.drop (vldB l).length)).take (0+(vldB l).length)=(vldB l).map encX:=by
    rw[bM,aQ,gF zx]
   rw[e3,dY,dZ]
   exact hK _
theorem cxIdx0{K:KT}(hK:K (.v (.int .i64 (-1))) []):
  AC 224 [.lst [],.fn (.func 235) [] []] [] K:=
 cxIdx [] zd (fun _=>hK) (fun i x h=>by simp at h)
theorem cxDel0{K:KT}(hK:K .nils []):
  AC 233 [.nils,.fn (.func 235) [] []] [] K:=by
 refine ofxDel0 rfl rfl ?_
 (repeat' ((conv=>whnf);first|(with_reducible refine cxIdx0 ?_)|refine zG ?_|apply zA|intro h|exact zT));all_goals conv=>whnf
 exact hK
theorem cxVal(l:List Bx)(hl:l.length<1000000000){K:KT}(hK:K (encXs (vldB l)) []):AC 149 [encXs l] [] K:=by
 refine gP (ofxVal rfl rfl ?_)
 (repeat' ((conv=>whnf);first|refine zG ?_|apply zA|intro h|exact zT));all_goals conv=>whnf
 refine cxClone l hl (fun e=>?_) ?_
 ·subst e
  (repeat' ((conv=>whnf);first|(with_reducible refine cxDel0 ?_)|refine zG ?_|apply zA|intro h|exact zT));all_goals conv=>whnf
  exact⟨_,gR,hK⟩
 ·(repeat' ((conv=>whnf);first|(with_reducible refine cxDel l hl fun zs=>?_)|refine zG ?_|apply zA|intro h|exact zT));all_goals conv=>whnf
  refine Sl.intro (ys:=(vldB l).map encX) zx (by rw[cA,gF zx]) ?_
  exact⟨_,gM,hK⟩
theorem cxCov(l:List Bx)(f:Nat)(hf:f<=4)(v:Int)(hl:l.length<1000000000000){K:KT}(hK:K (encXs (atF f v l)) []):AC 289 [encXs l,.v (.int .i64 f),.v (.int .u32 v)] [] K:=by
 refine ofxCov rfl rfl ?_
 (repeat' ((conv=>whnf);first|refine zG ?_|apply zA|intro h|exact zT));all_goals conv=>whnf
 refine gL Nat (fun k=>⟨1,[(0,.arr 10 ((atF f v (l.take k)).map encX))],[(1,.v (.int .i64 f)),(2,.v (.int .u32 v)),(7,.os 0 10 0 (atF f v (l.take k)).length),(10,encXs l),(11,.v (.int .i64 l.length)),(12,.v (.int .i64 k))]⟩) (fun k=>k<=l.length) (fun k=>l.length-k) 0 (aL _) ?_ ?_
 ·have e1:(List.map encX l).length=l.length:=aA ..
  rw[e1]
  (exact leA)
 intro k hk
 have hlen:=atF_len f v (l.take k)
 rw[bG]at hlen
 rcases aD k l.length with hkl|hkl
 ·obtain⟨x,hx⟩:=gex hkl
  have hs:=atF_succ (f:=f) (v:=v) hx
  rcases f with _|_|_|_|_|f
  case succ.succ.succ.succ.succ=>omega
  all_goals
   simp only[Bx.get]at hs
   (repeat' ((conv=>whnf);first|(with_reducible first|refine hJ hkl ?_|refine hU hkl ?_|refine gZ hx ?_)|(refine in_c zd ?_)|refine zG ?_|apply zA|intro h|exact zT));all_goals conv=>whnf
   all_goals
    refine⟨k+1,by omega,by omega,?_⟩
    first
     |(rw[aH zo]at hs
       rw[hs,aQ,aC]
       (exact leA)
       done)
     |(rw[aE zo,bJ]at hs
       rw[hs]
       (exact leA)
       done)
 ·(repeat' ((conv=>whnf);first|refine zG ?_|apply zA|intro h|exact zT));all_goals conv=>whnf
  rw[bA hkl]at*
  (repeat' ((conv=>whnf);first|refine zG ?_|apply zA|intro h|exact zT));all_goals conv=>whnf
  exact hK
noncomputable def gsNaN:Ctx:={N:=6}
noncomputable def bsNaN:Code:=bdy Tryz.f362
abbrev ofsNaN:=@ofC Tryz.prog gsNaN 362 Tryz.f362 bsNaN Tryz.func362 zk zk zk zk
noncomputable def gsLess:Ctx:={N:=17}
noncomputable def bsLess:Code:=bdy Tryz.f353
abbrev ofsLess:=@ofC Tryz.prog gsLess 353 Tryz.f353 bsLess Tryz.func353 zk zk zk zk
noncomputable def gsIns:Ctx:={N:=49,np:=1,plan:=at1 4 (some (ln [1,3,5,7,9,11,13,15,17,19,21,23,25,26,29])) (at1 6 (some (ln [1,3,5,7,9,11,13,15,17,19,21,23,25,27,29,30,33,34])) (fun _=>none))}
noncomputable def bsIns:Code:=bdy Tryz.f347
abbrev ofsIns:=@ofC Tryz.prog gsIns 347 Tryz.f347 bsIns Tryz.func347 zk zk zk zk
noncomputable def gsSift:Ctx:={N:=76,np:=1,plan:=at1 3 (some (ln [1,3,5,7,9,11,13,15,17,19,21,23,25,27,29,31,33,35,36,39])) (at1 5 (some (ln [1,3,5,7,9,11,13,15,17,19,21,23,24,27])) (at1 6 (some (ln [1,3,5,7,9,11,13,15,17,19,21,23,25,27,29,31,33,35,37,39,41,42,45,46])) (fun _=>none)))}
noncomputable def bsSift:Code:=bdy Tryz.f359
abbrev ofsSift:=@ofC Tryz.prog gsSift 359 Tryz.f359 bsSift Tryz.func359 zk zk zk zk
noncomputable def gsHeap:Ctx:={N:=56,np:=1,own:=at1 359 (true) (fun _=>false),plan:=at1 10 (some (ln [1,3,5,7,9,11,13,15,17,19,21,23,25,27,29,31,33,34,37,38])) (fun _=>none)}
noncomputable def bsHeap:Code:=bdy Tryz.f348
abbrev ofsHeap:=@ofC Tryz.prog gsHeap 348 Tryz.f348 bsHeap Tryz.func348 zk zk zk zk
noncomputable def gsRev:Ctx:={N:=32,np:=1,plan:=at1 3 (some (ln [1,3,5,7,9,11,13,15,17,19,21,23,25,26,29,30])) (fun _=>none)}
noncomputable def bsRev:Code:=bdy Tryz.f351
abbrev ofsRev:=@ofC Tryz.prog gsRev 351 Tryz.f351 bsRev Tryz.func351 zk zk zk zk
noncomputable def gsPart:Ctx:={N:=168,np:=1,plan:=at1 1 (some (ln [1,3,5,7,9,11,13,15,17,19,21,23,25,26,29,30])) (at1 3 (some (ln [1,3,5,7,9,11,13,15,17,19,21,23,24,27])) (at1 5 (some (ln [1,3,5,7,9,11,13,15,17,19,21,23,24,27,29])) (at1 8 (some (ln [1,3,5,7,9,11,13,15,17,19,21,23,25,26,29,30])) (at1 10 (some (ln [1,3,5,7,9,11,13,15,17,19,21,23,25,26,29,30])) (at1 13 (some (ln [1,3,5,7,9,11,13,15,17,19,21,23,24,27])) (at1 15 (some (ln [1,3,5,7,9,11,13,15,17,19,21,23,24,27,29])) (at1 18 (some (ln [1,3,5,7,9,11,13,15,17,19,21,23,25,26,29,30])) (at1 21 (some (ln [1,3,5,7,9,11,13,15,17,19,21,23,25,26,29,30])) (fun _=>none))))))))),cut:=at1 5 (true) (at1 7 (true) (at1 15 (true) (at1 17 (true) (fun _=>false))))}
noncomputable def bsPart:Code:=bdy Tryz.f355
abbrev ofsPart:=@ofC Tryz.prog gsPart 355 Tryz.f355 bsPart Tryz.func355 zk zk zk zk
noncomputable def gsPeq:Ctx:={N:=84,np:=1,plan:=at1 1 (some (ln [1,3,5,7,9,11,13,15,17,19,21,23,25,26,29,30])) (at1 3 (some (ln [1,3,5,7,9,11,13,15,17,19,21,23,24,27,29])) (at1 5 (some (ln [1,3,5,7,9,11,13,15,17,19,21,23,24,27])) (at1 8 (some (ln [1,3,5,7,9,11,13,15,17,19,21,23,25,26,29,30])) (fun _=>none)))),cut:=at1 5 (true) (at1 7 (true) (fun _=>false))}
noncomputable def bsPeq:Code:=bdy Tryz.f354
abbrev ofsPeq:=@ofC Tryz.prog gsPeq 354 Tryz.f354 bsPeq Tryz.func354 zk zk zk zk
noncomputable def gsPins:Ctx:={N:=133,np:=1,plan:=at1 5 (some (ln [1,3,5,7,9,11,13,15,17,19,21,23,25,26,29,31])) (at1 11 (some (ln [1,3,5,7,9,11,13,15,17,19,21,23,25,27,29,30,33,34])) (at1 16 (some (ln [1,3,5,7,9,11,13,15,17,18,21])) (at1 17 (some (ln [1,3,5,7,9,11,13,15,17,19,21,23,25,27,29,30,33,34])) (at1 22 (some (ln [1,3,5,7,9,11,13,15,17,18,21])) (at1 23 (some (ln [1,3,5,7,9,11,13,15,17,19,21,23,25,27,29,30,33,34])) (fun _=>none)))))),cut:=at1 7 (true) (at1 18 (true) (fun _=>false))}
noncomputable def bsPins:Code:=bdy Tryz.f352
abbrev ofsPins:=@ofC Tryz.prog gsPins 352 Tryz.f352 bsPins Tryz.func352 zk zk zk zk
noncomputable def gsOrd2:Ctx:={N:=28,np:=2,plan:=at1 1 (some (ln [1,3,5,7,9,11,13,15,16])) (fun _=>none)}
noncomputable def bsOrd2:Code:=bdy Tryz.f364
abbrev ofsOrd2:=@ofC Tryz.prog gsOrd2 364 Tryz.f364 bsOrd2 Tryz.func364 zk zk zk zk
noncomputable def gsMed:Ctx:={N:=36,np:=2,own:=at1 364 (true) (fun _=>false)}
noncomputable def bsMed:Code:=bdy Tryz.f361
abbrev ofsMed:=@ofC Tryz.prog gsMed 361 Tryz.f361 bsMed Tryz.func361 zk zk zk zk
noncomputable def gsMedA:Ctx:={N:=15,np:=2,own:=at1 361 (true) (fun _=>false)}
noncomputable def bsMedA:Code:=bdy Tryz.f360
abbrev ofsMedA:=@ofC Tryz.prog gsMedA 360 Tryz.f360 bsMedA Tryz.func360 zk zk zk zk
noncomputable def gsPiv:Ctx:={N:=57,np:=1,own:=at1 361 (true) (at1 360 (true) (fun _=>false))}
noncomputable def bsPiv:Code:=bdy Tryz.f350
abbrev ofsPiv:=@ofC Tryz.prog gsPiv 350 Tryz.f350 bsPiv Tryz.func350 zk zk zk zk
noncomputable def gsLen64:Ctx:={N:=25}
noncomputable def bsLen64:Code:=bdy Tryz.f209
abbrev ofsLen64:=@ofC Tryz.prog gsLen64 209 Tryz.f209 bsLen64 Tryz.func209 zk zk zk zk
noncomputable def gsLen:Ctx:={N:=8}
noncomputable def bsLen:Code:=bdy Tryz.f116
abbrev ofsLen:=@ofC Tryz.prog gsLen 116 Tryz.f116 bsLen Tryz.func116 zk zk zk zk
noncomputable def gsPow2:Ctx:={N:=7}
noncomputable def bsPow2:Code:=bdy Tryz.f274
abbrev ofsPow2:=@ofC Tryz.prog gsPow2 274 Tryz.f274 bsPow2 Tryz.func274 zk zk zk zk
noncomputable def gsNext:Ctx:={N:=33,np:=1,plan:=at1 1 (some (ln [1,3,5,7,9,11,13,15,17,18])) (at1 2 (some (ln [1,3,5,7,9,11,13,15,17,18])) (at1 3 (some (ln [1,3,5,7,9,11,13,15,17,18])) (fun _=>none)))}
noncomputable def bsNext:Code:=bdy Tryz.f275
abbrev ofsNext:=@ofC Tryz.prog gsNext 275 Tryz.f275 bsNext Tryz.func275 zk zk zk zk
noncomputable def gsBrk:Ctx:={N:=65,np:=1,own:=at1 275 (true) (fun _=>false),plan:=at1 10 (some (ln [1,3,5,7,9,11,13,15,17,19,21,23,25,27,29,31,33,34,37,38])) (fun _=>none)}
noncomputable def bsBrk:Code:=bdy Tryz.f349
abbrev ofsBrk:=@ofC Tryz.prog gsBrk 349 Tryz.f349 bsBrk Tryz.func349 zk zk zk zk
noncomputable def gsPdq:Ctx:={N:=134,np:=1,own:=at1 347 (true) (at1 348 (true) (at1 349 (true) (at1 350 (true) (at1 351 (true) (at1 352 (true) (at1 354 (true) (at1 355 (true) (at1 337 (true) (fun _=>false))))))))),plan:=at1 17 (some (ln [1,3,5,7,9,11,13,15,17,19,21,23,24,27,29])) (fun _=>none),cut:=at1 10 (true) (at1 15 (true) (at1 17 (true) (fun _=>false)))}
noncomputable def bsPdq:Code:=bdy Tryz.f337
abbrev ofsPdq:=@ofC Tryz.prog gsPdq 337 Tryz.f337 bsPdq Tryz.func337 zk zk zk zk
noncomputable def gsSort:Ctx:={N:=11,np:=1,own:=at1 337 (true) (fun _=>false)}
noncomputable def bsSort:Code:=bdy Tryz.f324
abbrev ofsSort:=@ofC Tryz.prog gsSort 324 Tryz.f324 bsSort Tryz.func324 zk zk zk zk
noncomputable def gsComp:Ctx:={N:=61,np:=1,plan:=at1 6 (some (ln [1,3,5,7,9,11,13,15,17,19])) (at1 11 (some (ln [1,3,5,7,9,11,13,15,17,19])) (fun _=>none)),res:=true}
noncomputable def bsComp:Code:=bdy Tryz.f325
abbrev ofsComp:=@ofC Tryz.prog gsComp 325 Tryz.f325 bsComp Tryz.func325 zk zk zk zk
noncomputable abbrev encZ(z:Int):AV:=.v (.int .u64 z)
noncomputable abbrev rowZ(d:Array Int):Vm.Obj:=.arr 1 (d.toList.map encZ)
theorem z_get{d:Array Int}{i:Nat}(h:i<d.size):d.toList[i]? =some d[i]! :=by
 rw[Array.getElem?_toList,bF h,getElem!_pos d i h]
theorem ix_z{d:Array Int}{i:Nat}{K:AV->Prop}(h:i<d.size)(hk:K (encZ d[i]!)):Ix (d.toList.map encZ) (0+i) K:=by
 rw[bM]
 exact gZ (z_get h) hk
theorem swp_z{d:Array Int}{i j:Nat}:((d.toList.map encZ).set i (encZ d[j]!)).set j (encZ d[i]!)=(Sort.swp d i j).toList.map encZ:=by
 rw[<-fG,<-fG]
 simp[Sort.swp]
theorem ix_zs{d:Array Int}{i j:Nat}{x:AV}{K:AV->Prop}(hij:i≠j)(h:j<d.size)(hk:K (encZ d[j]!)):Ix ((d.toList.map encZ).set (0+i) x) (0+j) K:=by
 rw[bM,bM]
 exact gT (by rw[List.getElem?_set_ne hij,bT,z_get h];rfl) hk
theorem ix_zw{d:Array Int}{i j:Nat}{y:Int}{K:AV->Prop}(h:j<d.size)(hk:∀z,K (encZ z)):Ix ((d.toList.map encZ).set (0+i) (encZ y)) (0+j) K:=by
 rw[bM,bM]
 rcases Nat.decEq i j with hij|rfl
 ·exact gT (by rw[List.getElem?_set_ne hij,bT,z_get h];rfl) (hk _)
 ·exact gT (by rw[List.getElem?_set_self (by simpa using h)]) (hk _)
theorem swp0{d:Array Int}{i j:Nat}:((d.toList.map encZ).set (0+i) (encZ d[j]!)).set (0+j) (encZ d[i]!)=(Sort.swp d i j).toList.map encZ:=by rw[bM,bM];exact swp_z
theorem swp_size{d:Array Int}{i j:Nat}:(Sort.swp d i j).size=d.size:=by simp[Sort.swp]
theorem csNaN(x:Int){K:KT}(hK:K (.sb false) []):AC 362 [encZ x] [] K:=by
 refine ofsNaN rfl rfl ?_
 (repeat' ((conv=>whnf);first|refine zG ?_|apply zA|intro h|exact zT));all_goals conv=>whnf
 have e:(!decide (x=x))=false:=by simp
 unfold one?
 rw[e]
 exact hK
theorem csLess(x y:Int){K:KT}(hK:K (.sb (Sort.ltInt x y)) []):AC 353 [encZ x,encZ y] [] K:=by
 refine gO (ofsLess rfl rfl ?_)
 (repeat' ((conv=>whnf);first|(with_reducible refine csNaN _ ?_)|refine zG ?_|apply zA|intro h|exact zT));all_goals conv=>whnf
 exact fin_s hK rfl
theorem csIns(d:Array Int)(a b:Nat)(hab:a<=b)(hb:b<=d.size)(hsz:d.size<1000000000000){K:KT}(hK:K (.tup []) [rowZ (Sort.insertionSort Sort.ltInt d a b)]):
  AC 347 [.os 0 1 0 d.size,.v (.int .i64 a),.v (.int .i64 b)] [rowZ d] K:=by
 refine ofsIns rfl rfl ?_
 (repeat' ((conv=>whnf);first|refine zG ?_|apply zA|intro h|exact zT));all_goals conv=>whnf
 refine gL (Nat×Array Int) (fun g=>⟨1,[(0,rowZ g.2)],[(0,.os 0 1 0 d.size),(1,.v (.int .i64 a)),(2,.v (.int .i64 b)),(6,.v (.int .i64 g.1))]⟩)
  (fun g=>g.2.size=d.size/\a+1<=g.1/\g.1<=d.size+1/\Sort.insOuter Sort.ltInt a b g.1 g.2=Sort.insertionSort Sort.ltInt d a b) (fun g=>b-g.1) (a+1,d) ⟨rfl,aJ _,by omega,rfl⟩ ?_ ?_
 ·dsimp only
  rw[aO,aN]
  (exact leA)
 rintro⟨i,e⟩ ⟨he,hi1,hi2,ht⟩
 simp only at he hi1 hi2 ht⊢
 rw[Sort.insOuter]at ht
 rcases aD i b with hib|hib
 ·rw[aH hib]at ht
  (repeat' ((conv=>whnf);first|refine zG ?_|apply zA|intro h|exact zT));all_goals conv=>whnf
  refine gL (Nat×Array Int) (fun g=>⟨1,[(0,rowZ g.2)],[(0,.os 0 1 0 d.size),(1,.v (.int .i64 a)),(2,.v (.int .i64 b)),(6,.v (.int .i64 i)),(7,.v (.int .i64 g.1))]⟩)
   (fun g=>g.2.size=d.size/\a<=g.1/\g.1<=i/\Sort.insInner Sort.ltInt a g.1 g.2=Sort.insInner Sort.ltInt a i e) (fun g=>g.1) (i,e) ⟨he,by omega,aJ _,rfl⟩ ?_ ?_
  ·(exact leA)
  rintro⟨j,f⟩ ⟨hf,hj1,hj2,hg⟩
  simp only at hf hj1 hj2 hg⊢
  have n1:j<d.size:=by omega
  have n1':j<f.size:=by omega
  rcases aD a j with haj|haj
  ·obtain⟨m,rfl⟩:∃m,j=m+1:=⟨j-1,by omega⟩
   have n2:m<d.size:=by omega
   have n2':m<f.size:=by omega
   have hm:((m+1:Nat):Int)-1=(m:Nat):=by omega
   (repeat' ((conv=>whnf);first|(with_reducible first|refine csLess _ _ ?_|refine hU n1 ?_|refine gS m hm n2 ?_|refine ix_z n1' ?_|refine ix_z n2' ?_|refine ix_zs (Nat.succ_ne_self m) n2' ?_)|refine zG ?_|apply zA|intro h|exact zT));all_goals conv=>whnf
   ·refine⟨(m,Sort.swp f (m+1) m),⟨by rw[swp_size,hf],by omega,by omega,?_⟩,by dsimp only;omega,?_⟩
    ·rw[<-hg]
     simp only[Sort.insInner]
     rw[aH]
     simp only[aF,aI]
     exact⟨haj,h⟩
    ·dsimp only
     rw[hm,swp0]
     (exact leA)
   ·refine⟨(i+1,f),⟨hf,by omega,by omega,?_⟩,by dsimp only;omega,?_⟩
    ·rw[<-ht,<-hg]
     simp only[Sort.insInner]
     rw[aE]
     simp[h]
    ·dsimp only
     rw[aO,aN]
     (exact leA)
  ·have hja:j=a:=by omega
   subst hja
   (repeat' ((conv=>whnf);first|refine zG ?_|apply zA|intro h|exact zT));all_goals conv=>whnf
   refine⟨(i+1,f),⟨hf,by omega,by omega,?_⟩,by dsimp only;omega,?_⟩
   ·rw[<-ht,<-hg]
    cases j with
    |zero=>rfl
    |succ j=>simp only[Sort.insInner];rw[aE];simp
   ·dsimp only
    rw[aO,aN]
    (exact leA)
 ·rw[aE zo]at ht
  rw[<-ht]at hK
  (repeat' ((conv=>whnf);first|refine zG ?_|apply zA|intro h|exact zT));all_goals conv=>whnf
  exact hK
theorem csSift(d:Array Int)(lo hi first:Nat)(hlo:lo<=d.size)(hb:first+hi<=d.size)(hsz:d.size<1000000000000){K:KT}(hK:K (.tup []) [rowZ (Sort.siftDown Sort.ltInt hi first lo d)]):
  AC 359 [.os 0 1 0 d.size,.v (.int .i64 lo),.v (.int .i64 hi),.v (.int .i64 first)] [rowZ d] K:=by
 refine ofsSift rfl rfl ?_
 (repeat' ((conv=>whnf);first|refine zG ?_|apply zA|intro h|exact zT));all_goals conv=>whnf
 refine gL (Nat×Array Int) (fun g=>⟨1,[(0,rowZ g.2)],[(0,.os 0 1 0 d.size),(1,.v (.int .i64 lo)),(2,.v (.int .i64 hi)),(3,.v (.int .i64 first)),(8,.v (.int .i64 g.1))]⟩)
  (fun g=>g.2.size=d.size/\g.1<=d.size/\Sort.siftDown Sort.ltInt hi first g.1 g.2=Sort.siftDown Sort.ltInt hi first lo d) (fun g=>hi-g.1) (lo,d) ⟨rfl,hlo,rfl⟩ ?_ ?_
 ·(exact leA)
 rintro⟨r,e⟩ ⟨he,hr,ht⟩
 simp only at he hr ht⊢
 rw[Sort.siftDown]at ht
 rcases aD (2*r+1) hi with h1|h1
 ·rw[dif_neg zo]at ht
  have a1:first+(2*r+1)<e.size:=by omega
  have a0:first+r<e.size:=by omega
  have e1:first+(2*r+1)+1=first+(2*r+2):=by omega
  rw[e1]at ht
  rcases aD (2*r+2) hi with h2|h2
  ·have a2:first+(2*r+2)<e.size:=by omega
   rw[show decide (2*r+1+1<hi)=true from decide_eq_true zo,eF,dif_pos h2]at ht
   (repeat' ((conv=>whnf);first|(with_reducible refine csLess _ _ ?_)|(refine gS (first+(2*r+1)) zo zo ?_)|(refine gS (first+(2*r+2)) zo zo ?_)|(refine gS (first+r) zo zo ?_)|(with_reducible first|refine ix_z a0 ?_|refine ix_z a1 ?_|refine ix_z a2 ?_)|(refine ix_zs zo a1 ?_)|(refine ix_zs zo a2 ?_)|refine zG ?_|apply zA|intro h|exact zT));all_goals conv=>whnf
   ·rename_i hh
    simp only[hh,h,fX,eL,cL,if_true,if_false,reduceIte]at ht
    refine⟨(2*r+2,Sort.swp e (first+r) (first+(2*r+2))),⟨by rw[swp_size,he],by dsimp only;omega,ht⟩,by dsimp only;omega,?_⟩
    dsimp only
    rw[swp0,show((2*r+2:Nat):Int)=2*(r:Int)+1+1 by omega]
    (exact leA)
   ·rename_i hh
    simp only[hh,h,fX,eL,cL,if_true,if_false,reduceIte]at ht
    rw[ht]
    exact hK
   ·rename_i hh
    simp only[hh,h,fX,eL,cL,if_true,if_false,reduceIte]at ht
    refine⟨(2*r+1,Sort.swp e (first+r) (first+(2*r+1))),⟨by rw[swp_size,he],by dsimp only;omega,ht⟩,by dsimp only;omega,?_⟩
    dsimp only
    rw[swp0,show((2*r+1:Nat):Int)=2*(r:Int)+1 by omega]
    (exact leA)
   ·rename_i hh
    simp only[hh,h,fX,eL,cL,if_true,if_false,reduceIte]at ht
    rw[ht]
    exact hK
  ·rw[show decide (2*r+1+1<hi)=false from decide_eq_false zo,fD]at ht
   (repeat' ((conv=>whnf);first|(with_reducible refine csLess _ _ ?_)|(refine gS (first+(2*r+1)) zo zo ?_)|(refine gS (first+r) zo zo ?_)|(with_reducible first|refine ix_z a0 ?_|refine ix_z a1 ?_)|(refine ix_zs zo a1 ?_)|refine zG ?_|apply zA|intro h|exact zT));all_goals conv=>whnf
   ·simp only[h,fD,fX,eL,cL,if_true,if_false,reduceIte]at ht
    refine⟨(2*r+1,Sort.swp e (first+r) (first+(2*r+1))),⟨by rw[swp_size,he],by dsimp only;omega,ht⟩,by dsimp only;omega,?_⟩
    dsimp only
    rw[swp0,show((2*r+1:Nat):Int)=2*(r:Int)+1 by omega]
    (exact leA)
   ·simp only[h,fD,fX,eL,cL,if_true,if_false,reduceIte]at ht
    rw[ht]
    exact hK
 ·rw[dif_pos h1]at ht
  rw[<-ht]at hK
  (repeat' ((conv=>whnf);first|refine zG ?_|apply zA|intro h|exact zT));all_goals conv=>whnf
  exact hK
theorem siftDown_size(lt:Int->Int->Bool)(hi first:Nat):∀(n r:Nat) (e:Array Int),hi-r<=n->(Sort.siftDown lt hi first r e).size=e.size:=by
 intro n
 induction n with
 |zero=>intro r e h;rw[Sort.siftDown,dif_pos zo]
 |succ n ih=>
  intro r e h
  rw[Sort.siftDown]
  split
  ·rfl
  ·split
   ·split
    ·rfl
    ·split
     ·rw[ih _ _ zo,swp_size]
     ·rfl
   ·split
    ·rfl
    ·rw[ih _ _ zo,swp_size]
theorem sift_size{lt:Int->Int->Bool}{hi first r:Nat}{e:Array Int}:(Sort.siftDown lt hi first r e).size=e.size:=siftDown_size lt hi first _ r e (aJ _)
theorem csSift'{n:Nat}{d:Array Int}(hn:d.size=n)(lo hi first:Nat)(hlo:lo<=n)(hb:first+hi<=n)(hsz:n<1000000000000){K:KT}(hK:K (.tup []) [rowZ (Sort.siftDown Sort.ltInt hi first lo d)]):
  AC 359 [.os 0 1 0 n,.v (.int .i64 lo),.v (.int .i64 hi),.v (.int .i64 first)] [rowZ d] K:=by
 subst hn
 exact csSift d lo hi first hlo hb hsz hK
theorem csHeap(d:Array Int)(a b:Nat)(hab:a<b)(hb:b<=d.size)(hsz:d.size<1000000000000){K:KT}(hK:K (.tup []) [rowZ (Sort.heapSort Sort.ltInt d a b)]):
  AC 348 [.os 0 1 0 d.size,.v (.int .i64 a),.v (.int .i64 b)] [rowZ d] K:=by
 refine ofsHeap rfl rfl ?_
 have hq:((b:Int)-a-1).tdiv 2=(((b-a-1)/2:Nat):Int):=by rw[dF zo];omega
 have hba:(b:Int)-a=((b-a:Nat):Int):=by omega
 have hw:∀{K:Int->Prop},K (((b-a-1)/2:Nat):Int)->Wr .i64 (((b:Int)-a-1).tdiv 2) K:=fun h=>wr_i64 hq zo zo h
 (repeat' ((conv=>whnf);first|(with_reducible refine hw ?_)|refine zG ?_|apply zA|intro h|exact zT));all_goals conv=>whnf
 refine gL (Nat×Array Int) (fun g=>⟨1,[(0,rowZ g.2)],[(0,.os 0 1 0 d.size),(1,.v (.int .i64 a)),(2,.v (.int .i64 b)),(6,.v (.int .i64 a)),(7,.v (.int .i64 0)),(8,.v (.int .i64 ((b:Int)-a))),(9,.v (.int .i64 ((g.1:Int)-1)))]⟩)
  (fun g=>g.2.size=d.size/\g.1<=(b-a-1)/2+1/\Sort.heapBuild Sort.ltInt (b-a) a g.1 g.2=Sort.heapBuild Sort.ltInt (b-a) a ((b-a-1)/2+1) d) (fun g=>g.1) ((b-a-1)/2+1,d) ⟨rfl,aJ _,rfl⟩ ?_ ?_
 ·dsimp only
  rw[show((((b-a-1)/2+1:Nat):Int)-1)=(((b-a-1)/2:Nat):Int) by omega]
  (exact leA)
 rintro⟨k,e⟩ ⟨he,hk,ht⟩
 simp only at he hk ht⊢
 rcases k with _|k
 ·simp only[Sort.heapBuild]at ht
  subst ht
  have hs:∀{K:KT} (k:Nat) (e:Array Int),e.size=d.size->k<b-a->K (.tup []) [rowZ (Sort.siftDown Sort.ltInt k a 0 e)]->AC 359 [.os 0 1 0 d.size,.v (.int .i64 0),.v (.int .i64 k),.v (.int .i64 a)] [rowZ e] K:=fun k e he hk h=>csSift' he 0 k a zo zo hsz h
  (repeat' ((conv=>whnf);first|refine zG ?_|apply zA|intro h|exact zT));all_goals conv=>whnf
  refine gL (Nat×Array Int) (fun g=>⟨1,[(0,rowZ g.2)],[(0,.os 0 1 0 d.size),(1,.v (.int .i64 a)),(2,.v (.int .i64 b)),(6,.v (.int .i64 a)),(7,.v (.int .i64 0)),(8,.v (.int .i64 ((b:Int)-a))),(10,.v (.int .i64 ((g.1:Int)-1)))]⟩)
   (fun g=>g.2.size=d.size/\g.1<=b-a/\Sort.heapPop Sort.ltInt a g.1 g.2=Sort.heapSort Sort.ltInt d a b) (fun g=>g.1) (b-a,Sort.heapBuild Sort.ltInt (b-a) a ((b-a-1)/2+1) d) ⟨he,aJ _,rfl⟩ ?_ ?_
  ·dsimp only
   rw[<-hba]
   (exact leA)
  rintro⟨k,f⟩ ⟨hf,hk,ht⟩
  simp only at hf hk ht⊢
  rcases k with _|k
  ·simp only[Sort.heapPop]at ht
   rw[<-ht]at hK
   (repeat' ((conv=>whnf);first|refine zG ?_|apply zA|intro h|exact zT));all_goals conv=>whnf
   exact hK
  ·have a0:a<f.size:=by omega
   have a1:a+k<f.size:=by omega
   have n0:a<d.size:=by omega
   have hik:((k+1:Nat):Int)-1=(k:Nat):=by omega
   rw[hik]
   (repeat' ((conv=>whnf);first|(with_reducible refine hU n0 ?_)|(refine gS (a+k) zo zo ?_)|(with_reducible first|refine ix_z a0 ?_|refine ix_z a1 ?_)|(refine ix_zw a1 fun z=>?_)|(rw[swp0])|(with_reducible refine hs k _ (swp_size.trans hf) zo ?_)|refine zG ?_|apply zA|intro h|exact zT));all_goals conv=>whnf
   refine⟨(k,Sort.siftDown Sort.ltInt k a 0 (Sort.swp f a (a+k))),⟨by rw[sift_size,swp_size,hf],by dsimp only;omega,?_⟩,by dsimp only;omega,?_⟩
   ·rw[<-ht];rfl
   ·(exact leA)
 ·have hik:((k+1:Nat):Int)-1=(k:Nat):=by omega
  rw[hik]
  have hs:∀{K:KT},K (.tup []) [rowZ (Sort.siftDown Sort.ltInt (b-a) a k e)]->AC 359 [.os 0 1 0 d.size,.v (.int .i64 k),.v (.int .i64 ((b:Int)-a)),.v (.int .i64 a)] [rowZ e] K:=fun h=>by rw[hba];exact csSift' he k (b-a) a zo zo hsz h
  (repeat' ((conv=>whnf);first|(with_reducible refine hs ?_)|refine zG ?_|apply zA|intro h|exact zT));all_goals conv=>whnf
  refine⟨(k,Sort.siftDown Sort.ltInt (b-a) a k e),⟨by rw[sift_size,he],by dsimp only;omega,?_⟩,by dsimp only;omega,?_⟩
  ·rw[<-ht];rfl
  ·(exact leA)
theorem csRev(d:Array Int)(a b:Nat)(hab:a<b)(hb:b<=d.size)(hsz:d.size<1000000000000){K:KT}(hK:K (.tup []) [rowZ (Sort.reverseRange d a b)]):
  AC 351 [.os 0 1 0 d.size,.v (.int .i64 a),.v (.int .i64 b)] [rowZ d] K:=by
 refine ofsRev rfl rfl ?_
 (repeat' ((conv=>whnf);first|refine zG ?_|apply zA|intro h|exact zT));all_goals conv=>whnf
 refine gL (Nat×Nat×Array Int) (fun g=>⟨1,[(0,rowZ g.2.2)],[(0,.os 0 1 0 d.size),(1,.v (.int .i64 a)),(2,.v (.int .i64 b)),(6,.v (.int .i64 g.1)),(7,.v (.int .i64 g.2.1))]⟩)
  (fun g=>g.2.2.size=d.size/\g.1<=g.2.1+1/\g.2.1<d.size/\Sort.reverseLoop g.1 g.2.1 g.2.2=Sort.reverseRange d a b) (fun g=>g.2.1-g.1) (a,b-1,d) ⟨rfl,by dsimp only;omega,by dsimp only;omega,rfl⟩ ?_ ?_
 ·dsimp only
  rw[Int.natCast_sub zo,aN]
  (exact leA)
 rintro⟨i,j,e⟩ ⟨he,hi,hj,ht⟩
 simp only at he hi hj ht⊢
 rw[Sort.reverseLoop]at ht
 rcases aD i j with h1|h1
 ·rw[aH h1]at ht
  have a1:i<e.size:=by omega
  have a2:j<e.size:=by omega
  have n1:i<d.size:=by omega
  have n2:j<d.size:=by omega
  (repeat' ((conv=>whnf);first|(with_reducible first|refine hU n1 ?_|refine hU n2 ?_|refine ix_z a1 ?_|refine ix_z a2 ?_)|(refine ix_zs zo a2 ?_)|refine zG ?_|apply zA|intro h|exact zT));all_goals conv=>whnf
  refine⟨(i+1,j-1,Sort.swp e i j),⟨by rw[swp_size,he],by dsimp only;omega,by dsimp only;omega,ht⟩,by dsimp only;omega,?_⟩
  dsimp only
  rw[aO,aN,Int.natCast_sub zo,aN,swp0]
  (exact leA)
 ·rw[aE zo]at ht
  rw[<-ht]at hK
  (repeat' ((conv=>whnf);first|refine zG ?_|apply zA|intro h|exact zT));all_goals conv=>whnf
  exact hK
theorem csPart(d:Array Int)(a b p:Nat)(hap:a<=p)(hpb:p<b)(hb:b<=d.size)(hsz:d.size<1000000000000){K:KT}(hK:K (.tup [.v (.int .i64 (Sort.partition Sort.ltInt d a b p).1),.sb (Sort.partition Sort.ltInt d a b p).2.1]) [rowZ (Sort.partition Sort.ltInt d a b p).2.2]):
  AC 355 [.os 0 1 0 d.size,.v (.int .i64 a),.v (.int .i64 b),.v (.int .i64 p)] [rowZ d] K:=by
 refine gP (ofsPart rfl rfl ?_)
 have na:a<d.size:=by omega
 have np:p<d.size:=by omega
 have hb1:(b:Int)-1=((b-1:Nat):Int):=by omega
 have ha1:(a:Int)+1=((a+1:Nat):Int):=by omega
 obtain⟨e,he⟩:∃e,e=Sort.swp d a p:=⟨_,rfl⟩
 have hes:e.size=d.size:=by rw[he,swp_size]
 have na':a<e.size:=by omega
 unfold Sort.partition at hK
 rw[<-he]at hK
 simp only at hK
 (repeat' ((conv=>whnf);first|(with_reducible first|refine hU na ?_|refine hU np ?_|refine ix_z na ?_|refine ix_z np ?_)|(refine ix_zw np fun z=>?_)|(rw[swp0,<-he])|refine zG ?_|apply zA|intro h|exact zT));all_goals conv=>whnf
 obtain⟨i1,hi1⟩:∃i1,i1=Sort.scanUp (fun x=>Sort.ltInt x e[a]!) e (b-1) (a+1):=⟨_,rfl⟩
 have s1:=Sort.scanUp_spec (fun x=>Sort.ltInt x e[a]!) e (b-1) _ (a+1) rfl
 rw[<-hi1]at s1
 obtain⟨s1a,s1b0,_,s1d⟩:=s1
 have s1b:=s1b0 zo
 obtain⟨j1,hj1⟩:∃j1,j1=Sort.scanDown (fun x=> !Sort.ltInt x e[a]!) e i1 (b-1):=⟨_,rfl⟩
 have s2:=Sort.scanDown_spec (fun x=> !Sort.ltInt x e[a]!) e i1 (b-1)
 rw[<-hj1]at s2
 obtain⟨s2a,s2b0,_,s2d⟩:=s2
 have s2b:=s2b0 zo
 refine Jn.at ⟨1,[(0,rowZ e)],[(0,.os 0 1 0 d.size),(1,.v (.int .i64 a)),(10,.v (.int .i64 ((i1:Nat):Int))),(11,.v (.int .i64 (((b-1):Nat):Int)))]⟩ ?_ ?_
 ·rw[hi1]
  refine gL Nat (fun k=>⟨1,[(0,rowZ e)],[(0,.os 0 1 0 d.size),(1,.v (.int .i64 a)),(10,.v (.int .i64 k)),(11,.v (.int .i64 (((b-1):Nat):Int)))]⟩) (fun k=>(a+1)<=k/\k<=(b-1)+1/\Sort.scanUp (fun x=>Sort.ltInt x e[a]!) e (b-1) k=Sort.scanUp (fun x=>Sort.ltInt x e[a]!) e (b-1) (a+1)) (fun k=>(b-1)+1-k) (a+1) ⟨aJ _,by omega,rfl⟩ ?_ ?_
  ·rw[ha1,hb1];(exact leA)
  intro k ⟨hk1,hk2,hk3⟩
  rw[Sort.scanUp]at hk3
  rcases aD (b-1) k with hjk|hjk
  ·rw[aE (by simp;omega)]at hk3
   (repeat' ((conv=>whnf);first|refine zG ?_|apply zA|intro h|exact zT));all_goals conv=>whnf
   refine⟨(),trivial,?_⟩
   rw[<-hk3]
   (exact leA)
  ·have n1:k<d.size:=by omega
   have n1':k<e.size:=by omega
   (repeat' ((conv=>whnf);first|(with_reducible first|refine csLess _ _ ?_|refine hU n1 ?_|refine hU na ?_|refine ix_z n1' ?_|refine ix_z na' ?_)|refine zG ?_|apply zA|intro h|exact zT));all_goals conv=>whnf
   all_goals first
    |(rw[aH (by simp[h];omega)]at hk3
      refine⟨k+1,⟨by omega,by omega,hk3⟩,by omega,?_⟩
      rw[aO,aN]
      (exact leA))
    |(rw[aE (by simp[h])]at hk3
      refine⟨(),trivial,?_⟩
      rw[<-hk3]
      (exact leA))
 refine Jn.at ⟨1,[(0,rowZ e)],[(0,.os 0 1 0 d.size),(1,.v (.int .i64 a)),(10,.v (.int .i64 ((i1:Nat):Int))),(11,.v (.int .i64 ((j1:Nat):Int)))]⟩ ?_ ?_
 ·rw[hj1]
  refine gL Nat (fun k=>⟨1,[(0,rowZ e)],[(0,.os 0 1 0 d.size),(1,.v (.int .i64 a)),(10,.v (.int .i64 ((i1:Nat):Int))),(11,.v (.int .i64 k))]⟩) (fun k=>i1<=k+1/\k<=(b-1)/\Sort.scanDown (fun x=> !Sort.ltInt x e[a]!) e i1 k=Sort.scanDown (fun x=> !Sort.ltInt x e[a]!) e i1 (b-1)) (fun k=>k) (b-1) ⟨by omega,aJ _,rfl⟩ ?_ ?_
  ·(exact leA)
  intro k ⟨hk1,hk2,hk3⟩
  rcases aD k i1 with hjk|hjk
  ·have hk4:Sort.scanDown (fun x=> !Sort.ltInt x e[a]!) e i1 k=k:=by
    cases k with
    |zero=>rfl
    |succ k=>rw[Sort.scanDown,aE (by simp;omega)]
   rw[hk4]at hk3
   (repeat' ((conv=>whnf);first|refine zG ?_|apply zA|intro h|exact zT));all_goals conv=>whnf
   refine⟨(),trivial,?_⟩
   rw[<-hk3]
   (exact leA)
  ·obtain⟨m,rfl⟩:∃m,k=m+1:=⟨k-1,by omega⟩
   have n1:m+1<d.size:=by omega
   have n1':m+1<e.size:=by omega
   have hm:((m+1:Nat):Int)-1=(m:Nat):=by omega
   rw[Sort.scanDown]at hk3
   (repeat' ((conv=>whnf);first|(with_reducible first|refine csLess _ _ ?_|refine hU n1 ?_|refine hU na ?_|refine ix_z n1' ?_|refine ix_z na' ?_)|refine zG ?_|apply zA|intro h|exact zT));all_goals conv=>whnf
   all_goals first
    |(rw[aH (by simp[h];omega)]at hk3
      refine⟨m,⟨by omega,by omega,hk3⟩,by omega,?_⟩
      rw[hm]
      (exact leA))
    |(rw[aE (by simp[h])]at hk3
      refine⟨(),trivial,?_⟩
      rw[<-hk3]
      (exact leA))
 rw[<-hi1,<-hj1]at hK
 have ni:j1<d.size:=by omega
 have ni':j1<e.size:=by omega
 rcases aD j1 i1 with hij|hij
 ·rw[aH hij]at hK
  (repeat' ((conv=>whnf);first|(with_reducible first|refine hU na ?_|refine hU ni ?_|refine ix_z na' ?_|refine ix_z ni' ?_)|(refine ix_zw na' fun z=>?_)|(rw[swp0])|refine zG ?_|apply zA|intro h|exact zT));all_goals conv=>whnf
  exact⟨_,gQ gM Weak.bool,hK⟩
 ·have hlt:i1<j1:=by
   rcases aD i1 j1 with h9|h9
   ·exact h9
   ·have h8:j1=i1:=by omega
    rw[h8]at s2d
    have u:=s1d zo
    have v:=s2d (aJ _) zo
    revert u v
    cases Sort.ltInt e[i1]! e[a]! <;>simp
  have nj:i1<d.size:=by omega
  have nj':i1<e.size:=by omega
  rw[aE zo]at hK
  simp only at hK
  have hi11:(i1:Int)+1=((i1+1:Nat):Int):=by omega
  have hj11:(j1:Int)-1=((j1-1:Nat):Int):=by omega
  (repeat' ((conv=>whnf);first|(with_reducible first|refine hU nj ?_|refine hU ni ?_|refine ix_z nj' ?_|refine ix_z ni' ?_)|(refine ix_zw ni' fun z=>?_)|(rw[swp0])|refine zG ?_|apply zA|intro h|exact zT));all_goals conv=>whnf
  refine gL (Nat×Nat×Array Int) (fun g=>⟨1,[(0,rowZ g.2.2)],[(0,.os 0 1 0 d.size),(1,.v (.int .i64 a)),(10,.v (.int .i64 g.1)),(11,.v (.int .i64 g.2.1))]⟩) (fun g=>g.2.2.size=d.size/\a<g.1/\g.1<=g.2.1+1/\g.2.1<d.size/\Sort.partLoop Sort.ltInt a g.1 g.2.1 g.2.2=Sort.partLoop Sort.ltInt a (i1+1) (j1-1) (Sort.swp e i1 j1)) (fun g=>g.2.1+1-g.1) (i1+1,j1-1,Sort.swp e i1 j1) ⟨by rw[swp_size,hes],by dsimp only;omega,by dsimp only;omega,by dsimp only;omega,rfl⟩ ?_ ?_
  ·dsimp only
   rw[<-hi11,<-hj11]
   (exact leA)
  generalize Sort.partLoop Sort.ltInt a (i1+1) (j1-1) (Sort.swp e i1 j1)=T at*
  rintro⟨i,j,e⟩ ⟨hes,hai,hij,hjn,ht⟩
  simp only at hes hai hij hjn ht⊢
  rw[Sort.partLoop_eq]at ht
  have na':a<e.size:=by omega
  obtain⟨i1,hi1⟩:∃i1,i1=Sort.scanUp (fun x=>Sort.ltInt x e[a]!) e j i:=⟨_,rfl⟩
  have s1:=Sort.scanUp_spec (fun x=>Sort.ltInt x e[a]!) e j _ i rfl
  rw[<-hi1]at s1
  obtain⟨s1a,s1b0,_,s1d⟩:=s1
  have s1b:=s1b0 zo
  obtain⟨j1,hj1⟩:∃j1,j1=Sort.scanDown (fun x=> !Sort.ltInt x e[a]!) e i1 j:=⟨_,rfl⟩
  have s2:=Sort.scanDown_spec (fun x=> !Sort.ltInt x e[a]!) e i1 j
  rw[<-hj1]at s2
  obtain⟨s2a,s2b0,_,s2d⟩:=s2
  have s2b:=s2b0 zo
  refine Jn.at ⟨1,[(0,rowZ e)],[(0,.os 0 1 0 d.size),(1,.v (.int .i64 a)),(10,.v (.int .i64 ((i1:Nat):Int))),(11,.v (.int .i64 ((j:Nat):Int)))]⟩ ?_ ?_
  ·rw[hi1]
   refine gL Nat (fun k=>⟨1,[(0,rowZ e)],[(0,.os 0 1 0 d.size),(1,.v (.int .i64 a)),(10,.v (.int .i64 k)),(11,.v (.int .i64 ((j:Nat):Int)))]⟩) (fun k=>i<=k/\k<=j+1/\Sort.scanUp (fun x=>Sort.ltInt x e[a]!) e j k=Sort.scanUp (fun x=>Sort.ltInt x e[a]!) e j i) (fun k=>j+1-k) i ⟨aJ _,by omega,rfl⟩ ?_ ?_
   ·(exact leA)
   intro k ⟨hk1,hk2,hk3⟩
   rw[Sort.scanUp]at hk3
   rcases aD j k with hjk|hjk
   ·rw[aE (by simp;omega)]at hk3
    (repeat' ((conv=>whnf);first|refine zG ?_|apply zA|intro h|exact zT));all_goals conv=>whnf
    refine⟨(),trivial,?_⟩
    rw[<-hk3]
    (exact leA)
   ·have n1:k<d.size:=by omega
    have n1':k<e.size:=by omega
    (repeat' ((conv=>whnf);first|(with_reducible first|refine csLess _ _ ?_|refine hU n1 ?_|refine hU na ?_|refine ix_z n1' ?_|refine ix_z na' ?_)|refine zG ?_|apply zA|intro h|exact zT));all_goals conv=>whnf
    all_goals first
     |(rw[aH (by simp[h];omega)]at hk3
       refine⟨k+1,⟨by omega,by omega,hk3⟩,by omega,?_⟩
       rw[aO,aN]
       (exact leA))
     |(rw[aE (by simp[h])]at hk3
       refine⟨(),trivial,?_⟩
       rw[<-hk3]
       (exact leA))
  refine Jn.at ⟨1,[(0,rowZ e)],[(0,.os 0 1 0 d.size),(1,.v (.int .i64 a)),(10,.v (.int .i64 ((i1:Nat):Int))),(11,.v (.int .i64 ((j1:Nat):Int)))]⟩ ?_ ?_
  ·rw[hj1]
   refine gL Nat (fun k=>⟨1,[(0,rowZ e)],[(0,.os 0 1 0 d.size),(1,.v (.int .i64 a)),(10,.v (.int .i64 ((i1:Nat):Int))),(11,.v (.int .i64 k))]⟩) (fun k=>i1<=k+1/\k<=j/\Sort.scanDown (fun x=> !Sort.ltInt x e[a]!) e i1 k=Sort.scanDown (fun x=> !Sort.ltInt x e[a]!) e i1 j) (fun k=>k) j ⟨by omega,aJ _,rfl⟩ ?_ ?_
   ·(exact leA)
   intro k ⟨hk1,hk2,hk3⟩
   rcases aD k i1 with hjk|hjk
   ·have hk4:Sort.scanDown (fun x=> !Sort.ltInt x e[a]!) e i1 k=k:=by
     cases k with
     |zero=>rfl
     |succ k=>rw[Sort.scanDown,aE (by simp;omega)]
    rw[hk4]at hk3
    (repeat' ((conv=>whnf);first|refine zG ?_|apply zA|intro h|exact zT));all_goals conv=>whnf
    refine⟨(),trivial,?_⟩
    rw[<-hk3]
    (exact leA)
   ·obtain⟨m,rfl⟩:∃m,k=m+1:=⟨k-1,by omega⟩
    have n1:m+1<d.size:=by omega
    have n1':m+1<e.size:=by omega
    have hm:((m+1:Nat):Int)-1=(m:Nat):=by omega
    rw[Sort.scanDown]at hk3
    (repeat' ((conv=>whnf);first|(with_reducible first|refine csLess _ _ ?_|refine hU n1 ?_|refine hU na ?_|refine ix_z n1' ?_|refine ix_z na' ?_)|refine zG ?_|apply zA|intro h|exact zT));all_goals conv=>whnf
    all_goals first
     |(rw[aH (by simp[h];omega)]at hk3
       refine⟨m,⟨by omega,by omega,hk3⟩,by omega,?_⟩
       rw[hm]
       (exact leA))
     |(rw[aE (by simp[h])]at hk3
       refine⟨(),trivial,?_⟩
       rw[<-hk3]
       (exact leA))
  rw[<-hi1,<-hj1]at ht
  have ni:j1<d.size:=by omega
  have ni':j1<e.size:=by omega
  rcases aD j1 i1 with hx|hx
  ·rw[aH hx]at ht
   subst ht
   (repeat' ((conv=>whnf);first|(with_reducible first|refine hU na ?_|refine hU ni ?_|refine ix_z na' ?_|refine ix_z ni' ?_)|(refine ix_zw na' fun z=>?_)|(rw[swp0])|refine zG ?_|apply zA|intro h|exact zT));all_goals conv=>whnf
   exact⟨_,gQ gM Weak.bool,hK⟩
  ·have hlt:i1<j1:=by
    rcases aD i1 j1 with h9|h9
    ·exact h9
    ·have h8:j1=i1:=by omega
     rw[h8]at s2d
     have u:=s1d zo
     have v:=s2d (aJ _) zo
     revert u v
     cases Sort.ltInt e[i1]! e[a]! <;>simp
   have nj:i1<d.size:=by omega
   have nj':i1<e.size:=by omega
   rw[aE zo]at ht
   have hi11:(i1:Int)+1=((i1+1:Nat):Int):=by omega
   have hj11:(j1:Int)-1=((j1-1:Nat):Int):=by omega
   (repeat' ((conv=>whnf);first|(with_reducible first|refine hU nj ?_|refine hU ni ?_|refine ix_z nj' ?_|refine ix_z ni' ?_)|(refine ix_zw ni' fun z=>?_)|(rw[swp0])|refine zG ?_|apply zA|intro h|exact zT));all_goals conv=>whnf
   refine⟨(i1+1,j1-1,Sort.swp e i1 j1),⟨by rw[swp_size,hes],by dsimp only;omega,by dsimp only;omega,by dsimp only;omega,ht⟩,by dsimp only;omega,?_⟩
   dsimp only
   rw[<-hi11,<-hj11]
   (exact leA)
theorem csPeq(d:Array Int)(a b p:Nat)(hap:a<=p)(hpb:p<b)(hb:b<=d.size)(hsz:d.size<1000000000000){K:KT}(hK:K (.v (.int .i64 (Sort.partitionEqual Sort.ltInt d a b p).1)) [rowZ (Sort.partitionEqual Sort.ltInt d a b p).2]):
  AC 354 [.os 0 1 0 d.size,.v (.int .i64 a),.v (.int .i64 b),.v (.int .i64 p)] [rowZ d] K:=by
 refine ofsPeq rfl rfl ?_
 have na:a<d.size:=by omega
 have np:p<d.size:=by omega
 have hb1:(b:Int)-1=((b-1:Nat):Int):=by omega
 have ha1:(a:Int)+1=((a+1:Nat):Int):=by omega
 unfold Sort.partitionEqual at hK
 (repeat' ((conv=>whnf);first|(with_reducible first|refine hU na ?_|refine hU np ?_|refine ix_z na ?_|refine ix_z np ?_)|(refine ix_zw np fun z=>?_)|(rw[swp0])|refine zG ?_|apply zA|intro h|exact zT));all_goals conv=>whnf
 refine gL (Nat×Nat×Array Int) (fun g=>⟨1,[(0,rowZ g.2.2)],[(0,.os 0 1 0 d.size),(1,.v (.int .i64 a)),(9,.v (.int .i64 g.1)),(10,.v (.int .i64 g.2.1))]⟩) (fun g=>g.2.2.size=d.size/\a<g.1/\g.1<=g.2.1+1/\g.2.1<d.size/\Sort.partEqLoop Sort.ltInt a g.1 g.2.1 g.2.2=Sort.partEqLoop Sort.ltInt a (a+1) (b-1) (Sort.swp d a p)) (fun g=>g.2.1+1-g.1) (a+1,b-1,Sort.swp d a p) ⟨by rw[swp_size],by dsimp only;omega,by dsimp only;omega,by dsimp only;omega,rfl⟩ ?_ ?_
 ·dsimp only
  rw[<-ha1,<-hb1]
  (exact leA)
 generalize Sort.partEqLoop Sort.ltInt a (a+1) (b-1) (Sort.swp d a p)=T at*
 rintro⟨i,j,e⟩ ⟨hes,hai,hij,hjn,ht⟩
 simp only at hes hai hij hjn ht⊢
 rw[Sort.partEqLoop_eq]at ht
 have na':a<e.size:=by omega
 obtain⟨i1,hi1⟩:∃i1,i1=Sort.scanUp (fun x=> !Sort.ltInt e[a]! x) e j i:=⟨_,rfl⟩
 have s1:=Sort.scanUp_spec (fun x=> !Sort.ltInt e[a]! x) e j _ i rfl
 rw[<-hi1]at s1
 obtain⟨s1a,s1b0,_,s1d⟩:=s1
 have s1b:=s1b0 zo
 obtain⟨j1,hj1⟩:∃j1,j1=Sort.scanDown (fun x=>Sort.ltInt e[a]! x) e i1 j:=⟨_,rfl⟩
 have s2:=Sort.scanDown_spec (fun x=>Sort.ltInt e[a]! x) e i1 j
 rw[<-hj1]at s2
 obtain⟨s2a,s2b0,_,s2d⟩:=s2
 have s2b:=s2b0 zo
 refine Jn.at ⟨1,[(0,rowZ e)],[(0,.os 0 1 0 d.size),(1,.v (.int .i64 a)),(9,.v (.int .i64 ((i1:Nat):Int))),(10,.v (.int .i64 ((j:Nat):Int)))]⟩ ?_ ?_
 ·rw[hi1]
  refine gL Nat (fun k=>⟨1,[(0,rowZ e)],[(0,.os 0 1 0 d.size),(1,.v (.int .i64 a)),(9,.v (.int .i64 k)),(10,.v (.int .i64 ((j:Nat):Int)))]⟩) (fun k=>i<=k/\k<=j+1/\Sort.scanUp (fun x=> !Sort.ltInt e[a]! x) e j k=Sort.scanUp (fun x=> !Sort.ltInt e[a]! x) e j i) (fun k=>j+1-k) i ⟨aJ _,by omega,rfl⟩ ?_ ?_
  ·(exact leA)
  intro k ⟨hk1,hk2,hk3⟩
  rw[Sort.scanUp]at hk3
  rcases aD j k with hjk|hjk
  ·rw[aE (by simp;omega)]at hk3
   (repeat' ((conv=>whnf);first|refine zG ?_|apply zA|intro h|exact zT));all_goals conv=>whnf
   refine⟨(),trivial,?_⟩
   rw[<-hk3]
   (exact leA)
  ·have n1:k<d.size:=by omega
   have n1':k<e.size:=by omega
   (repeat' ((conv=>whnf);first|(with_reducible first|refine csLess _ _ ?_|refine hU n1 ?_|refine hU na ?_|refine ix_z n1' ?_|refine ix_z na' ?_)|refine zG ?_|apply zA|intro h|exact zT));all_goals conv=>whnf
   all_goals first
    |(rw[aH (by simp[h];omega)]at hk3
      refine⟨k+1,⟨by omega,by omega,hk3⟩,by omega,?_⟩
      rw[aO,aN]
      (exact leA))
    |(rw[aE (by simp[h])]at hk3
      refine⟨(),trivial,?_⟩
      rw[<-hk3]
      (exact leA))
 refine Jn.at ⟨1,[(0,rowZ e)],[(0,.os 0 1 0 d.size),(1,.v (.int .i64 a)),(9,.v (.int .i64 ((i1:Nat):Int))),(10,.v (.int .i64 ((j1:Nat):Int)))]⟩ ?_ ?_
 ·rw[hj1]
  refine gL Nat (fun k=>⟨1,[(0,rowZ e)],[(0,.os 0 1 0 d.size),(1,.v (.int .i64 a)),(9,.v (.int .i64 ((i1:Nat):Int))),(10,.v (.int .i64 k))]⟩) (fun k=>i1<=k+1/\k<=j/\Sort.scanDown (fun x=>Sort.ltInt e[a]! x) e i1 k=Sort.scanDown (fun x=>Sort.ltInt e[a]! x) e i1 j) (fun k=>k) j ⟨by omega,aJ _,rfl⟩ ?_ ?_
  ·(exact leA)
  intro k ⟨hk1,hk2,hk3⟩
  rcases aD k i1 with hjk|hjk
  ·have hk4:Sort.scanDown (fun x=>Sort.ltInt e[a]! x) e i1 k=k:=by
    cases k with
    |zero=>rfl
    |succ k=>rw[Sort.scanDown,aE (by simp;omega)]
   rw[hk4]at hk3
   (repeat' ((conv=>whnf);first|refine zG ?_|apply zA|intro h|exact zT));all_goals conv=>whnf
   refine⟨(),trivial,?_⟩
   rw[<-hk3]
   (exact leA)
  ·obtain⟨m,rfl⟩:∃m,k=m+1:=⟨k-1,by omega⟩
   have n1:m+1<d.size:=by omega
   have n1':m+1<e.size:=by omega
   have hm:((m+1:Nat):Int)-1=(m:Nat):=by omega
   rw[Sort.scanDown]at hk3
   (repeat' ((conv=>whnf);first|(with_reducible first|refine csLess _ _ ?_|refine hU n1 ?_|refine hU na ?_|refine ix_z n1' ?_|refine ix_z na' ?_)|refine zG ?_|apply zA|intro h|exact zT));all_goals conv=>whnf
   all_goals first
    |(rw[aH (by simp[h];omega)]at hk3
      refine⟨m,⟨by omega,by omega,hk3⟩,by omega,?_⟩
      rw[hm]
      (exact leA))
    |(rw[aE (by simp[h])]at hk3
      refine⟨(),trivial,?_⟩
      rw[<-hk3]
      (exact leA))
 rw[<-hi1,<-hj1]at ht
 have ni:j1<d.size:=by omega
 have ni':j1<e.size:=by omega
 rcases aD j1 i1 with hx|hx
 ·rw[aH hx]at ht
  subst ht
  (repeat' ((conv=>whnf);first|refine zG ?_|apply zA|intro h|exact zT));all_goals conv=>whnf
  exact hK
 ·have hlt:i1<j1:=by
   rcases aD i1 j1 with h9|h9
   ·exact h9
   ·have h8:j1=i1:=by omega
    rw[h8]at s2d
    have u:=s1d zo
    have v:=s2d (aJ _) zo
    revert u v
    cases Sort.ltInt e[a]! e[i1]! <;>simp
  have nj:i1<d.size:=by omega
  have nj':i1<e.size:=by omega
  rw[aE zo]at ht
  have hi11:(i1:Int)+1=((i1+1:Nat):Int):=by omega
  have hj11:(j1:Int)-1=((j1-1:Nat):Int):=by omega
  (repeat' ((conv=>whnf);first|(with_reducible first|refine hU nj ?_|refine hU ni ?_|refine ix_z nj' ?_|refine ix_z ni' ?_)|(refine ix_zw ni' fun z=>?_)|(rw[swp0])|refine zG ?_|apply zA|intro h|exact zT));all_goals conv=>whnf
  refine⟨(i1+1,j1-1,Sort.swp e i1 j1),⟨by rw[swp_size,hes],by dsimp only;omega,by dsimp only;omega,by dsimp only;omega,ht⟩,by dsimp only;omega,?_⟩
  dsimp only
  rw[<-hi11,<-hj11]
  (exact leA)
theorem shiftDown_size(lt:Int->Int->Bool):∀(j:Nat) (e:Array Int),(Sort.shiftDown lt j e).size=e.size
 |0,e=>rfl
 |j+1,e=>by
  rw[Sort.shiftDown]
  split
  ·rfl
  ·rw[shiftDown_size lt j,swp_size]
theorem shiftUp_size(lt:Int->Int->Bool)(b:Nat):∀(n j:Nat) (e:Array Int),b-j<=n->(Sort.shiftUp lt b j e).size=e.size:=by
 intro n
 induction n with
 |zero=>intro j e h;rw[Sort.shiftUp,aE zo]
 |succ n ih=>
  intro j e h
  rw[Sort.shiftUp]
  split
  ·split
   ·rfl
   ·rw[ih _ _ zo,swp_size]
  ·rfl
theorem scanSorted_spec'(lt:Int->Int->Bool)(e:Array Int)(b:Nat):∀(n i:Nat),b-i<=n->i<=Sort.scanSorted lt e b i/\(i<=b->Sort.scanSorted lt e b i<=b):=by
 intro n
 induction n with
 |zero=>intro i h;rw[Sort.scanSorted,aE (by simp;omega)];omega
 |succ n ih=>
  intro i h
  rw[Sort.scanSorted]
  split
  ·rename_i hc
   have hib:i<b:=by simp at hc;exact hc.1
   have:=ih (i+1) zo
   omega
  ·omega
theorem csPins(d:Array Int)(a b:Nat)(hab:a<b)(hb:b<=d.size)(hsz:d.size<1000000000000){K:KT}(hK:K (.sb (Sort.partialInsertionSort Sort.ltInt d a b).2) [rowZ (Sort.partialInsertionSort Sort.ltInt d a b).1]):
  AC 352 [.os 0 1 0 d.size,.v (.int .i64 a),.v (.int .i64 b)] [rowZ d] K:=by
 refine gP (ofsPins rfl rfl ?_)
 have ha1:(a:Int)+1=((a+1:Nat):Int):=by omega
 unfold Sort.partialInsertionSort at hK
 (repeat' ((conv=>whnf);first|refine zG ?_|apply zA|intro h|exact zT));all_goals conv=>whnf
 refine gL (Nat×Nat×Array Int) (fun g=>⟨1,[(0,rowZ g.2.2)],[(0,.os 0 1 0 d.size),(1,.v (.int .i64 a)),(2,.v (.int .i64 b)),(7,.v (.int .i64 g.2.1)),(8,.v (.int .i64 g.1))]⟩)
  (fun g=>g.1<=5/\g.2.2.size=d.size/\a<g.2.1/\g.2.1<=b/\Sort.partialIns Sort.ltInt a b (5-g.1) g.2.1 g.2.2=Sort.partialIns Sort.ltInt a b 5 (a+1) d) (fun g=>5-g.1) (0,a+1,d) ⟨by dsimp only;omega,rfl,by dsimp only;omega,by dsimp only;omega,rfl⟩ ?_ ?_
 ·dsimp only
  rw[<-ha1]
  (exact leA)
 generalize Sort.partialIns Sort.ltInt a b 5 (a+1) d=T at*
 rintro⟨k,i0,e⟩ ⟨hk5,hes,hai0,hib0,ht⟩
 simp only at hk5 hes hai0 hib0 ht⊢
 rcases aD k 5 with hk|hk
 ·obtain⟨s,hs⟩:∃s,5-k=s+1:=⟨4-k,by omega⟩
  rw[hs,Sort.partialIns]at ht
  obtain⟨i,hi⟩:∃i,i=Sort.scanSorted Sort.ltInt e b i0:=⟨_,rfl⟩
  have hsp:=scanSorted_spec' Sort.ltInt e b _ i0 (aJ _)
  rw[<-hi]at hsp ht
  obtain⟨hi1,hi2⟩:=hsp
  have hi2:=hi2 zo
  simp only at ht
  (repeat' ((conv=>whnf);first|refine zG ?_|apply zA|intro h|exact zT));all_goals conv=>whnf
  refine Jn.at ⟨1,[(0,rowZ e)],[(0,.os 0 1 0 d.size),(1,.v (.int .i64 a)),(2,.v (.int .i64 b)),(7,.v (.int .i64 i)),(8,.v (.int .i64 k))]⟩ ?_ ?_
  ·rw[hi]
   refine gL Nat (fun m=>⟨1,[(0,rowZ e)],[(0,.os 0 1 0 d.size),(1,.v (.int .i64 a)),(2,.v (.int .i64 b)),(7,.v (.int .i64 m)),(8,.v (.int .i64 k))]⟩) (fun m=>i0<=m/\m<=b/\Sort.scanSorted Sort.ltInt e b m=Sort.scanSorted Sort.ltInt e b i0) (fun m=>b-m) i0 ⟨aJ _,hib0,rfl⟩ ?_ ?_
   ·(exact leA)
   intro m ⟨hm1,hm2,hm3⟩
   rw[Sort.scanSorted]at hm3
   rcases aD m b with hmb|hmb
   ·have n1:m<d.size:=by omega
    have n1':m<e.size:=by omega
    have n2':m-1<e.size:=by omega
    (repeat' ((conv=>whnf);first|(with_reducible first|refine csLess _ _ ?_|refine hU n1 ?_)|(refine gS (m-1) zo zo ?_)|(with_reducible first|refine ix_z n1' ?_|refine ix_z n2' ?_)|refine zG ?_|apply zA|intro h|exact zT));all_goals conv=>whnf
    all_goals first
     |(rw[aH (by simp[h];omega)]at hm3
       refine⟨m+1,⟨by omega,by omega,hm3⟩,by omega,?_⟩
       rw[aO,aN]
       (exact leA))
     |(rw[aE (by simp[h])]at hm3
       refine⟨(),trivial,?_⟩
       rw[<-hm3]
       (exact leA))
   ·rw[aE (by simp;omega)]at hm3
    (repeat' ((conv=>whnf);first|refine zG ?_|apply zA|intro h|exact zT));all_goals conv=>whnf
    refine⟨(),trivial,?_⟩
    rw[<-hm3]
    (exact leA)
  rcases aD i b with hilt|hilt
  ·rw[aE zo]at ht
   rcases aD (b-a) 50 with h50|h50
   ·rw[aH h50]at ht
    subst ht
    (repeat' ((conv=>whnf);first|refine zG ?_|apply zA|intro h|exact zT));all_goals conv=>whnf
    exact⟨_,Weak.bool,hK⟩
   ·rw[aE zo]at ht
    have n1:i<d.size:=by omega
    have n1':i<e.size:=by omega
    have n2':i-1<e.size:=by omega
    (repeat' ((conv=>whnf);first|(with_reducible refine hU n1 ?_)|(refine gS (i-1) zo zo ?_)|(with_reducible first|refine ix_z n1' ?_|refine ix_z n2' ?_)|(refine ix_zw n2' fun z=>?_)|(rw[swp0])|refine zG ?_|apply zA|intro h|exact zT));all_goals conv=>whnf
    obtain⟨e1,he1⟩:∃e1,e1=Sort.swp e i (i-1):=⟨_,rfl⟩
    have he1s:e1.size=d.size:=by rw[he1,swp_size,hes]
    rw[<-he1]at ht⊢
    obtain⟨e2,he2⟩:∃e2,e2=if i-a≥2 then Sort.shiftDown Sort.ltInt (i-1) e1 else e1:=⟨_,rfl⟩
    have he2s:e2.size=d.size:=by
     rw[he2];split
     ·rw[shiftDown_size,he1s]
     ·exact he1s
    rw[<-he2]at ht
    have fin:∀e3,(e3=if b-i≥2 then Sort.shiftUp Sort.ltInt b (i+1) e2 else e2)->∃g':Nat×Nat×Array Int,(g'.1<=5/\g'.2.2.size=d.size/\a<g'.2.1/\g'.2.1<=b/\Sort.partialIns Sort.ltInt a b (5-g'.1) g'.2.1 g'.2.2=T)/\5-g'.1<5-k/\g'=(k+1,i,e3):=fun e3 h3=>by
     refine⟨(k+1,i,e3),⟨by dsimp only;omega,?_,by dsimp only;omega,by dsimp only;omega,?_⟩,by dsimp only;omega,rfl⟩
     ·dsimp only
      rw[h3];split
      ·rw[shiftUp_size _ _ _ _ _ (aJ _),he2s]
      ·exact he2s
     ·rw[h3,<-ht]
      congr 1
      omega
    refine Jn.at ⟨1,[(0,rowZ e2)],[(0,.os 0 1 0 d.size),(1,.v (.int .i64 a)),(2,.v (.int .i64 b)),(7,.v (.int .i64 i)),(8,.v (.int .i64 k))]⟩ ?_ ?_
    ·have hd1:decide (2<=(i:Int)-a)=decide (i-a≥2):=by rw[decide_eq_decide];omega
     rcases aD (i-a) 2 with h2|h2
     ·rw[aE zo]at he2
      (repeat' ((conv=>whnf);first|refine zG ?_|apply zA|intro h|exact zT));all_goals conv=>whnf
      refine⟨(),trivial,?_⟩
      rw[he2]
      (exact leA)
     ·rw[aH h2]at he2
      (repeat' ((conv=>whnf);first|refine zG ?_|apply zA|intro h|exact zT));all_goals conv=>whnf
      refine gL (Nat×Array Int) (fun g=>⟨1,[(0,rowZ g.2)],[(0,.os 0 1 0 d.size),(1,.v (.int .i64 a)),(2,.v (.int .i64 b)),(7,.v (.int .i64 i)),(8,.v (.int .i64 k)),(9,.v (.int .i64 g.1))]⟩) (fun g=>g.1<=i/\g.2.size=d.size/\Sort.shiftDown Sort.ltInt g.1 g.2=e2) (fun g=>g.1) (i-1,e1) ⟨by dsimp only;omega,he1s,he2.symm⟩ ?_ ?_
      ·dsimp only
       rw[Int.natCast_sub zo,aN]
       (exact leA)
      rintro⟨m,f⟩ ⟨hm1,hm2,hm3⟩
      simp only at hm1 hm2 hm3⊢
      rcases m with _|m
      ·rw[Sort.shiftDown]at hm3
       subst hm3
       (repeat' ((conv=>whnf);first|refine zG ?_|apply zA|intro h|exact zT));all_goals conv=>whnf
       refine⟨(),trivial,?_⟩
       (exact leA)
      ·rw[Sort.shiftDown]at hm3
       have m1:m+1<d.size:=by omega
       have m1':m+1<f.size:=by omega
       have m2:m<d.size:=by omega
       have m2':m<f.size:=by omega
       have hmm:((m+1:Nat):Int)-1=(m:Nat):=by omega
       (repeat' ((conv=>whnf);first|(with_reducible first|refine csLess _ _ ?_|refine hU m1 ?_|refine gS m hmm m2 ?_|refine ix_z m1' ?_|refine ix_z m2' ?_|refine ix_zs (Nat.succ_ne_self m) m2' ?_)|refine zG ?_|apply zA|intro h|exact zT));all_goals conv=>whnf
       all_goals first
        |(rw[aH (by simp[h])]at hm3
          subst hm3
          refine⟨(),trivial,?_⟩
          (exact leA))
        |(rw[aE (by simp[h])]at hm3
          refine⟨(m,Sort.swp f (m+1) m),⟨by dsimp only;omega,by rw[swp_size,hm2],hm3⟩,by dsimp only;omega,?_⟩
          dsimp only
          rw[hmm,swp0]
          (exact leA))
    rcases aD (b-i) 2 with h2|h2
    ·obtain⟨g',h1,h2,rfl⟩:=fin e2 (by rw[aE zo])
     (repeat' ((conv=>whnf);first|refine zG ?_|apply zA|intro h|exact zT));all_goals conv=>whnf
     refine⟨_,h1,h2,?_⟩
     dsimp only
     rw[aO,aN]
     (exact leA)
    ·(repeat' ((conv=>whnf);first|refine zG ?_|apply zA|intro h|exact zT));all_goals conv=>whnf
     refine gL (Nat×Array Int) (fun g=>⟨1,[(0,rowZ g.2)],[(0,.os 0 1 0 d.size),(1,.v (.int .i64 a)),(2,.v (.int .i64 b)),(7,.v (.int .i64 i)),(8,.v (.int .i64 k)),(10,.v (.int .i64 g.1))]⟩) (fun g=>i+1<=g.1/\g.1<=b/\g.2.size=d.size/\Sort.shiftUp Sort.ltInt b g.1 g.2=Sort.shiftUp Sort.ltInt b (i+1) e2) (fun g=>b-g.1) (i+1,e2) ⟨by dsimp only;omega,by dsimp only;omega,he2s,rfl⟩ ?_ ?_
     ·dsimp only
      rw[aO,aN]
      (exact leA)
     rintro⟨m,f⟩ ⟨hm0,hm1,hm2,hm3⟩
     simp only at hm0 hm1 hm2 hm3⊢
     rw[Sort.shiftUp]at hm3
     rcases aD m b with hmb|hmb
     ·rw[aH hmb]at hm3
      have m1:m<d.size:=by omega
      have m1':m<f.size:=by omega
      have m2':m-1<f.size:=by omega
      (repeat' ((conv=>whnf);first|(with_reducible first|refine csLess _ _ ?_|refine hU m1 ?_)|(refine gS (m-1) zo zo ?_)|(with_reducible first|refine ix_z m1' ?_|refine ix_z m2' ?_)|(refine ix_zw m2' fun z=>?_)|refine zG ?_|apply zA|intro h|exact zT));all_goals conv=>whnf
      all_goals first
       |(rw[aH (by simp[h])]at hm3
         obtain⟨g',h1,h2,rfl⟩:=fin f (by rw[aH zo,hm3])
         refine⟨_,h1,h2,?_⟩
         dsimp only
         rw[aO,aN]
         (exact leA))
       |(rw[aE (by simp[h])]at hm3
         refine⟨(m+1,Sort.swp f m (m-1)),⟨by dsimp only;omega,by dsimp only;omega,by rw[swp_size,hm2],hm3⟩,by dsimp only;omega,?_⟩
         dsimp only
         rw[aO,aN,swp0]
         (exact leA))
     ·rw[aE zo]at hm3
      obtain⟨g',h1,h2,rfl⟩:=fin f (by rw[aH zo,hm3])
      (repeat' ((conv=>whnf);first|refine zG ?_|apply zA|intro h|exact zT));all_goals conv=>whnf
      refine⟨_,h1,h2,?_⟩
      dsimp only
      rw[aO,aN]
      (exact leA)
  ·rw[aH zo]at ht
   subst ht
   (repeat' ((conv=>whnf);first|refine zG ?_|apply zA|intro h|exact zT));all_goals conv=>whnf
   exact⟨_,Weak.bool,hK⟩
 ·have:k=5:=by omega
  subst this
  simp only[dN,Sort.partialIns]at ht
  subst ht
  (repeat' ((conv=>whnf);first|refine zG ?_|apply zA|intro h|exact zT));all_goals conv=>whnf
  exact⟨_,Weak.bool,hK⟩
noncomputable abbrev cntO(s:Int):Vm.Obj:=.box [.v (.int .i64 s)]
theorem csOrd2(d:Array Int)(a b:Nat)(s:Int)(ha:a<d.size)(hb:b<d.size)(hs0:0<=s)(hs:s<=1000){K:KT}
  (hK:∀(x y:Nat) (s':Int),(x=a/\y=b\/x=b/\y=a)->s<=s'->s'<=s+1->K (.tup [.v (.int .i64 x),.v (.int .i64 y)]) [rowZ d,cntO s']):
  AC 364 [.os 0 1 0 d.size,.v (.int .i64 a),.v (.int .i64 b),.op 1 0] [rowZ d,cntO s] K:=by
 refine ofsOrd2 rfl rfl ?_
 (repeat' ((conv=>whnf);first|(with_reducible first|refine csLess _ _ ?_|refine hU ha ?_|refine hU hb ?_|refine ix_z ha ?_|refine ix_z hb ?_)|refine zG ?_|apply zA|intro h|exact zT));all_goals conv=>whnf
 ·exact hK b a (s+1) (.inr ⟨rfl,rfl⟩) zo (cD _)
 ·exact hK a b s (.inl ⟨rfl,rfl⟩) (cD _) zo
theorem csMed(d:Array Int)(a b c:Nat)(s:Int)(ha:a<d.size)(hb:b<d.size)(hc:c<d.size)(hs0:0<=s)(hs:s<=900){K:KT}
  (hK:∀(m:Nat) (s':Int),(m=a\/m=b\/m=c)->s<=s'->s'<=s+3->K (.v (.int .i64 m)) [rowZ d,cntO s']):
  AC 361 [.os 0 1 0 d.size,.v (.int .i64 a),.v (.int .i64 b),.v (.int .i64 c),.op 1 0] [rowZ d,cntO s] K:=by
 refine ofsMed rfl rfl ?_
 (repeat' ((conv=>whnf);first|refine zG ?_|apply zA|intro h|exact zT));all_goals conv=>whnf
 refine csOrd2 d a b s ha hb hs0 zo fun x1 y1 s1 h1 l1 u1=>?_
 have hx1:x1<d.size:=by omega
 have hy1:y1<d.size:=by omega
 (repeat' ((conv=>whnf);first|refine zG ?_|apply zA|intro h|exact zT));all_goals conv=>whnf
 refine csOrd2 d y1 c s1 hy1 hc zo zo fun x2 y2 s2 h2 l2 u2=>?_
 have hx2:x2<d.size:=by omega
 (repeat' ((conv=>whnf);first|refine zG ?_|apply zA|intro h|exact zT));all_goals conv=>whnf
 refine csOrd2 d x1 x2 s2 hx1 hx2 zo zo fun x3 y3 s3 h3 l3 u3=>?_
 (repeat' ((conv=>whnf);first|refine zG ?_|apply zA|intro h|exact zT));all_goals conv=>whnf
 exact hK y3 s3 zo zo zo
theorem csMedA(d:Array Int)(a:Nat)(s:Int)(ha0:1<=a)(ha:a+1<d.size)(hsz:d.size<1000000000000)(hs0:0<=s)(hs:s<=900){K:KT}
  (hK:∀(m:Nat) (s':Int),a<=m+1->m<=a+1->s<=s'->s'<=s+3->K (.v (.int .i64 m)) [rowZ d,cntO s']):
  AC 360 [.os 0 1 0 d.size,.v (.int .i64 a),.op 1 0] [rowZ d,cntO s] K:=by
 refine ofsMedA rfl rfl ?_
 have e1:(a:Int)-1=((a-1:Nat):Int):=by omega
 have e2:(a:Int)+1=((a+1:Nat):Int):=by omega
 (repeat' ((conv=>whnf);first|refine zG ?_|apply zA|intro h|exact zT));all_goals conv=>whnf
 rw[e1,e2]
 refine csMed d (a-1) a (a+1) s zo zo zo hs0 hs fun m s' h l u=>?_
 (repeat' ((conv=>whnf);first|refine zG ?_|apply zA|intro h|exact zT));all_goals conv=>whnf
 exact hK m s' zo zo l u
theorem csPiv(d:Array Int)(a b:Nat)(hab:a<b)(hb:b<=d.size)(hsz:d.size<1000000000000){K:KT}
  (hK:∀(p:Nat) (h:Int),a<=p->p<b->K (.tup [.v (.int .i64 p),.v (.int .i64 h)]) [rowZ d]):
  AC 350 [.os 0 1 0 d.size,.v (.int .i64 a),.v (.int .i64 b)] [rowZ d] K:=by
 refine ofsPiv rfl rfl ?_
 have q0:((b:Int)-a).tdiv 4=(((b-a)/4:Nat):Int):=by rw[dF zo];omega
 have hw:∀{K:Int->Prop},K (((b-a)/4:Nat):Int)->Wr .i64 (((b:Int)-a).tdiv 4) K:=fun h=>wr_i64 q0 zo zo h
 (repeat' ((conv=>whnf);first|(with_reducible refine hw ?_)|refine zG ?_|apply zA|intro h|exact zT));all_goals conv=>whnf
 all_goals
  have hq1:4*((b-a)/4)<=b-a:=by omega
  have hq2:b-a<4*((b-a)/4)+4:=by omega
  clear hw q0
  generalize (b-a)/4=q at*
  have e1:(a:Int)+(q:Int)*1=((a+q:Nat):Int):=by omega
  have e2:(a:Int)+(q:Int)*2=((a+2*q:Nat):Int):=by omega
  have e3:(a:Int)+(q:Int)*3=((a+3*q:Nat):Int):=by omega
  rw[e2]
 ·rw[e1]
  refine csMedA d (a+q) 0 zo zo hsz zo zo fun i s1 hi1 hi2 l1 u1=>?_
  (repeat' ((conv=>whnf);first|refine zG ?_|apply zA|intro h|exact zT));all_goals conv=>whnf
  refine csMedA d (a+2*q) s1 zo zo hsz zo zo fun j s2 hj1 hj2 l2 u2=>?_
  (repeat' ((conv=>whnf);first|refine zG ?_|apply zA|intro h|exact zT));all_goals conv=>whnf
  rw[e3]
  refine csMedA d (a+3*q) s2 zo zo hsz zo zo fun k s3 hk1 hk2 l3 u3=>?_
  (repeat' ((conv=>whnf);first|refine zG ?_|apply zA|intro h|exact zT));all_goals conv=>whnf
  refine csMed d i j k s3 zo zo zo zo zo fun m s4 hm l4 u4=>?_
  (repeat' ((conv=>whnf);first|refine zG ?_|apply zA|intro h|exact zT));all_goals conv=>whnf
  all_goals exact hK m _ zo zo
 ·rw[e1,e3]
  refine csMed d (a+q) (a+2*q) (a+3*q) 0 zo zo zo zo zo fun m s4 hm l4 u4=>?_
  (repeat' ((conv=>whnf);first|refine zG ?_|apply zA|intro h|exact zT));all_goals conv=>whnf
  all_goals exact hK m _ zo zo
 ·exact hK _ _ zo zo
end Go.Proofs.YtbdikofefjljoaaGreatDoor
