/- The sanity check of placement: what it computes. Generated topologies are complete. -/
import Derived.Test.YtahhamfngafmcaaGreatDoorProg
import Derived.Sort.AssemblyPlain
import Derived.Test.YtahhamfngafmcaaGreatDoorM18
set_option linter.unusedVariables false
set_option linter.unusedSimpArgs false
set_option maxRecDepth 100000
set_option maxHeartbeats 4000000
namespace Go.Proofs.YtahhamfngafmcaaGreatDoor
open Go Go.Vm
noncomputable def gxInit:Ctx:={N:=28,own:=at1 152 (true) (fun _=>false),hints:=at1 2 ([.virtB 1 0 10]) (fun _=>[])}
noncomputable def bxInit:Code:=bdy Tryz.f92
abbrev ofxInit:=@ofC Tryz.prog gxInit 92 Tryz.f92 bxInit Tryz.func92 zk zk zk zk
noncomputable def gxInitC:Ctx:={N:=31,np:=2,out:=true}
noncomputable def bxInitC:Code:=bdy Tryz.f152
abbrev ofxInitC:=@ofC Tryz.prog gxInitC 152 Tryz.f152 bxInitC Tryz.func152 zk zk zk zk
noncomputable def gxEqB:Ctx:={N:=26,plan:=at1 6 (some (ln [1,3,5,7,9,11,13,15,17])) (fun _=>none)}
noncomputable def bxEqB:Code:=bdy Tryz.f234
abbrev ofxEqB:=@ofC Tryz.prog gxEqB 234 Tryz.f234 bxEqB Tryz.func234 zk zk zk zk
noncomputable def gxCan:Ctx:={N:=170,plan:=at1 13 (some (ln [1,3,5,7,9,11,13,15,17,19,21,23,25,26,28])) (at1 14 (some (ln [1,3,5,7,9,11,15,17,19,21,25,27,12,22,28,31,33,35,37,39])) (at1 19 (some (ln [1,3,5,7,9,11,13,15,17,19,21,23,25,27,29,31,33,35,37,39,41,43,45,46,49])) (fun _=>none))),hints:=at1 8 ([.virt 12 3]) (fun _=>[]),cut:=at1 7 (true) (fun _=>false)}
noncomputable def bxCan:Code:=bdy Tryz.f211
abbrev ofxCan:=@ofC Tryz.prog gxCan 211 Tryz.f211 bxCan Tryz.func211 zk zk zk zk
noncomputable def gxRests:Ctx:={N:=28,own:=at1 218 (true) (fun _=>false)}
noncomputable def bxRests:Code:=bdy Tryz.f244
abbrev ofxRests:=@ofC Tryz.prog gxRests 244 Tryz.f244 bxRests Tryz.func244 zk zk zk zk
noncomputable def gxComb:Ctx:={N:=20}
noncomputable def bxComb:Code:=bdy Tryz.f191
abbrev ofxComb:=@ofC Tryz.prog gxComb 191 Tryz.f191 bxComb Tryz.func191 zk zk zk zk
noncomputable def gxSet:Ctx:={N:=11}
noncomputable def bxSet:Code:=bdy Tryz.f190
abbrev ofxSet:=@ofC Tryz.prog gxSet 190 Tryz.f190 bxSet Tryz.func190 zk zk zk zk
noncomputable def gxOf:Ctx:={N:=33}
noncomputable def bxOf:Code:=bdy Tryz.f154
abbrev ofxOf:=@ofC Tryz.prog gxOf 154 Tryz.f154 bxOf Tryz.func154 zk zk zk zk
noncomputable def gxMake:Ctx:={N:=29,hints:=at1 2 ([.asL 4]) (fun _=>[])}
noncomputable def bxMake:Code:=bdy Tryz.f170
abbrev ofxMake:=@ofC Tryz.prog gxMake 170 Tryz.f170 bxMake Tryz.func170 zk zk zk zk
noncomputable def gxVald:Ctx:={N:=18}
noncomputable def bxVald:Code:=bdy Tryz.f210
abbrev ofxVald:=@ofC Tryz.prog gxVald 210 Tryz.f210 bxVald Tryz.func210 zk zk zk zk
noncomputable def gxDiv:Ctx:={N:=86,plan:=at1 6 (some (ln [1,3,5,7,9,11,13,15,17,19,21,23,25,27,29,31,33,35])) (at1 8 (some (.one 0 true (.one 1 true (.one 2 true (.one 3 true (.one 4 true (.one 5 true (.one 6 true (.one 7 true (.one 8 true (.alt 9 (ln [21,22,24]) (.alt 11 (ln [18,21,24]) (.stop))))))))))))) (at1 14 (some (ln [1,3,5,7,8,11])) (fun _=>none))),cut:=at1 8 (true) (at1 9 (true) (fun _=>false))}
noncomputable def bxDiv:Code:=bdy Tryz.f231
abbrev ofxDiv:=@ofC Tryz.prog gxDiv 231 Tryz.f231 bxDiv Tryz.func231 zk zk zk zk
noncomputable def gxInt:Ctx:={N:=11}
noncomputable def bxInt:Code:=bdy Tryz.f95
abbrev ofxInt:=@ofC Tryz.prog gxInt 95 Tryz.f95 bxInt Tryz.func95 zk zk zk zk
noncomputable def gxUn:Ctx:={N:=11}
noncomputable def bxUn:Code:=bdy Tryz.f96
abbrev ofxUn:=@ofC Tryz.prog gxUn 96 Tryz.f96 bxUn Tryz.func96 zk zk zk zk
noncomputable def gxSub:Ctx:={N:=11}
noncomputable def bxSub:Code:=bdy Tryz.f123
abbrev ofxSub:=@ofC Tryz.prog gxSub 123 Tryz.f123 bxSub Tryz.func123 zk zk zk zk
noncomputable def gxTop:Ctx:={N:=12}
noncomputable def bxTop:Code:=bdy Tryz.f153
abbrev ofxTop:=@ofC Tryz.prog gxTop 153 Tryz.f153 bxTop Tryz.func153 zk zk zk zk
noncomputable def gxFull:Ctx:={N:=15}
noncomputable def bxFull:Code:=bdy Tryz.f94
abbrev ofxFull:=@ofC Tryz.prog gxFull 94 Tryz.f94 bxFull Tryz.func94 zk zk zk zk
noncomputable def gxBVal:Ctx:={N:=24,plan:=at1 4 (some (ln [1,3,5,7,9,11,13,15,17,19,21,23,25])) (fun _=>none)}
noncomputable def bxBVal:Code:=bdy Tryz.f220
abbrev ofxBVal:=@ofC Tryz.prog gxBVal 220 Tryz.f220 bxBVal Tryz.func220 zk zk zk zk
noncomputable def gxCov:Ctx:={N:=36,hints:=at1 2 ([.virt 7 10]) (fun _=>[])}
noncomputable def bxCov:Code:=bdy Tryz.f233
abbrev ofxCov:=@ofC Tryz.prog gxCov 233 Tryz.f233 bxCov Tryz.func233 zk zk zk zk
noncomputable def gxEither:Ctx:={N:=9}
noncomputable def bxEither:Code:=bdy Tryz.f156
abbrev ofxEither:=@ofC Tryz.prog gxEither 156 Tryz.f156 bxEither Tryz.func156 zk zk zk zk
noncomputable def gxBoth:Ctx:={N:=9}
noncomputable def bxBoth:Code:=bdy Tryz.f155
abbrev ofxBoth:=@ofC Tryz.prog gxBoth 155 Tryz.f155 bxBoth Tryz.func155 zk zk zk zk
noncomputable def gxWout:Ctx:={N:=10}
noncomputable def bxWout:Code:=bdy Tryz.f171
abbrev ofxWout:=@ofC Tryz.prog gxWout 171 Tryz.f171 bxWout Tryz.func171 zk zk zk zk
noncomputable def gxCuts:Ctx:={N:=47,own:=at1 245 (true) (at1 246 (true) (fun _=>false)),plan:=at1 8 (some (ln [1,3,5,7,9,11,13,15,17,19,21,23,24,26,29])) (fun _=>none)}
noncomputable def bxCuts:Code:=bdy Tryz.f232
abbrev ofxCuts:=@ofC Tryz.prog gxCuts 232 Tryz.f232 bxCuts Tryz.func232 zk zk zk zk
noncomputable def gxValC:Ctx:={N:=6}
noncomputable def bxValC:Code:=bdy Tryz.f219
abbrev ofxValC:=@ofC Tryz.prog gxValC 219 Tryz.f219 bxValC Tryz.func219 zk zk zk zk
noncomputable def gxIdx:Ctx:={N:=19}
noncomputable def bxIdx:Code:=bdy Tryz.f238
abbrev ofxIdx:=@ofC Tryz.prog gxIdx 238 Tryz.f238 bxIdx Tryz.func238 zk zk zk zk
noncomputable def gxClone:Ctx:={N:=8,res:=true}
noncomputable def bxClone:Code:=bdy Tryz.f218
abbrev ofxClone:=@ofC Tryz.prog gxClone 218 Tryz.f218 bxClone Tryz.func218 zk zk zk zk
noncomputable def gxDel:Ctx:={N:=42,np:=1,res:=true,lend:=at1 238 (true) (fun _=>false)}
noncomputable def bxDel:Code:=bdy Tryz.f217
abbrev ofxDel:=@ofC Tryz.prog gxDel 217 Tryz.f217 bxDel Tryz.func217 zk zk zk zk
noncomputable def gxVal:Ctx:={N:=6,own:=at1 218 (true) (at1 217 (true) (fun _=>false))}
noncomputable def bxVal:Code:=bdy Tryz.f202
abbrev ofxVal:=@ofC Tryz.prog gxVal 202 Tryz.f202 bxVal Tryz.func202 zk zk zk zk
noncomputable def gxDel0:Ctx:={N:=42}
noncomputable def bxDel0:Code:=bdy Tryz.f217
abbrev ofxDel0:=@ofC Tryz.prog gxDel0 217 Tryz.f217 bxDel0 Tryz.func217 zk zk zk zk
theorem cxTop(f:Int){K:KT}(hK:K (.v (.int .u32 (topI f))) []):ACall Tryz.prog 153 [.v (.int .i64 f)] [] K:=by
 refine ofxTop rfl rfl ?_
 by_cases h1:0<=f/\f<5
 ·have h2:f=0\/f=1\/f=2\/f=3\/f=4:=by omega
  rcases h2 with rfl|rfl|rfl|rfl|rfl
  all_goals
   (repeat' ((conv=>whnf);first|(refine in_c zd ?_)|refine zG ?_|apply zA|(apply zI;intro h)|exact zT));(all_goals conv=>whnf)
   exact hK
 ·(repeat' ((conv=>whnf);first|refine zG ?_|apply zA|(apply zI;intro h)|exact zT));(all_goals conv=>whnf)
  ·rw[show topI f=0 from by unfold topI;rw[if_neg zo,if_neg zo,if_neg zo]]at hK
   exact hK
  ·rw[show topI f=0 from by unfold topI;rw[if_neg zo,if_neg zo,if_neg zo]]at hK
   exact hK
theorem cxFull{K:KT}(hK:K (encX fullB) []):ACall Tryz.prog 94 [] [] K:=by
 refine ofxFull rfl rfl ?_
 (repeat' ((conv=>whnf);first|(with_reducible refine Lp.times 6 ?_)|(refine in_c zd ?_)|refine zG ?_|apply zA|(apply zI;intro h)|exact zT));(all_goals conv=>whnf)
 exact hK
theorem cxBVal(b:Bx){K:KT}(hK:K (.sb (decide b.ok)) []):ACall Tryz.prog 220 [encX b] [] K:=by
 refine ACall.bool (ofxBVal rfl rfl ?_)
 (repeat' ((conv=>whnf);first|(with_reducible refine Lp.times 6 ?_)|(refine in_c zd ?_)|refine zG ?_|apply zA|(apply zI;intro h)|exact zT));(all_goals conv=>whnf)
 all_goals
  have hb:b.ok↔((b.r0.lo<=b.r0.hi/\b.r0.hi<=4294967295)/\(b.r1.lo<=b.r1.hi/\b.r1.hi<=4294967295)/\(b.r2.lo<=b.r2.hi/\b.r2.hi<=255)/\(b.r3.lo<=b.r3.hi/\b.r3.hi<=65535)/\(b.r4.lo<=b.r4.hi/\b.r4.hi<=65535)):=Iff.rfl
  first
   |exact fin_f hK (decide_eq_false (by rw[hb];omega))
   |exact fin_t hK (decide_eq_true (by rw[hb];omega))
theorem cxEither(x y:Bool){K:KT}(hK:K (.sb (x||y)) []):ACall Tryz.prog 156 [.sb x,.sb y] [] K:=by
 refine ACall.bool (ofxEither rfl rfl ?_)
 (repeat' ((conv=>whnf);first|refine zG ?_|apply zA|(apply zI;intro h)|exact zT));(all_goals conv=>whnf)
 all_goals
  first
   |exact fin_s hK (by cases x<;>cases y<;>simp_all)
   |exact fin_t hK (by cases x<;>cases y<;>simp_all)
   |exact fin_f hK (by cases x<;>cases y<;>simp_all)
theorem cxBoth(x y:Bool){K:KT}(hK:K (.sb (x&&y)) []):ACall Tryz.prog 155 [.sb x,.sb y] [] K:=by
 refine ACall.bool (ofxBoth rfl rfl ?_)
 (repeat' ((conv=>whnf);first|refine zG ?_|apply zA|(apply zI;intro h)|exact zT));(all_goals conv=>whnf)
 all_goals
  first
   |exact fin_s hK (by cases x<;>cases y<;>simp_all)
   |exact fin_t hK (by cases x<;>cases y<;>simp_all)
   |exact fin_f hK (by cases x<;>cases y<;>simp_all)
theorem cxWout(x y:Bool){K:KT}(hK:K (.sb (x&& !y)) []):ACall Tryz.prog 171 [.sb x,.sb y] [] K:=by
 refine ACall.bool (ofxWout rfl rfl ?_)
 (repeat' ((conv=>whnf);first|refine zG ?_|apply zA|(apply zI;intro h)|exact zT));(all_goals conv=>whnf)
 all_goals
  first
   |exact fin_s hK (by cases x<;>cases y<;>simp_all)
   |exact fin_t hK (by cases x<;>cases y<;>simp_all)
   |exact fin_f hK (by cases x<;>cases y<;>simp_all)
theorem cxValC(x:Bx){K:KT}(hK:K (.sb (!decide x.ok)) []):ACall Tryz.prog 219 [encX x] [] K:=by
 refine ACall.bool (ofxValC rfl rfl ?_)
 (repeat' ((conv=>whnf);first|(with_reducible refine cxBVal x ?_)|refine zG ?_|apply zA|(apply zI;intro h)|exact zT));(all_goals conv=>whnf)
 exact fin_s hK rfl
theorem cxClone(l:List Bx)(hl:l.length<1000000000){K:KT}(hK0:l=[]->K .nils [])(hK:K (.os 0 10 0 l.length) [.arr 10 (l.map encX)]):ACall Tryz.prog 218 [encXs l] [] K:=by
 refine ofxClone rfl rfl ?_
 (repeat' ((conv=>whnf);first|refine zG ?_|apply zA|(apply zI;intro h)|exact zT));(all_goals conv=>whnf)
 intro b hb
 (repeat' ((conv=>whnf);first|refine zG ?_|apply zA|(apply zI;intro h)|exact zT));(all_goals conv=>whnf)
 ·exact hK0 (List.map_eq_nil_iff.1 (hb zp))
 ·have e:0+(l.map encX).length=l.length:=by rw[List.length_map];omega
  show K (.os 0 10 0 (0+(l.map encX).length)) [.arr 10 (l.map encX)]
  rw[e]
  exact hK
theorem cxIdx(l:List Bx)(hl:l.length<1000000000){K:KT}(hK1:(∀x,x∈l->x.ok)->K (.v (.int .i64 (-1))) [])
  (hK2:∀(i:Nat) x,l[i]? =some x->¬x.ok->(∀y,y∈l.take i->y.ok)->K (.v (.int .i64 i)) []):
  ACall Tryz.prog 238 [encXs l,.fn (.func 219) [] []] [] K:=by
 refine ofxIdx rfl rfl ?_
 (repeat' ((conv=>whnf);first|refine zG ?_|apply zA|(apply zI;intro h)|exact zT));(all_goals conv=>whnf)
 refine Lp.intro Nat (fun k=>⟨0,[],[(0,encXs l),(1,.fn (.func 219) [] []),(7,.v (.int .i64 ((l.map encX).length:Nat))),(8,.v (.int .i64 k))]⟩) (fun k=>k<=l.length/\∀y,y∈l.take k->y.ok) (fun k=>l.length-k) 0 ⟨Nat.zero_le _,by simp⟩ ?_ ?_
 ·(exact leA)
 intro k ⟨hk,hin⟩
 rcases Nat.lt_or_ge k l.length with hkl|hkl
 ·obtain⟨x,hx⟩:=gex hkl
  (repeat' ((conv=>whnf);first|(with_reducible first|refine in_map hkl ?_|refine ix_map hx ?_|refine cxValC x ?_)|refine zG ?_|apply zA|(apply zI;intro h)|exact zT));(all_goals conv=>whnf)
  all_goals first
   |exact hK2 k x hx (by simpa using h) hin
   |(refine⟨k+1,⟨hkl,fun y hy=>?_⟩,by omega,?_⟩
     ·rw[List.take_add_one,hx]at hy
      rcases List.mem_append.1 hy with hy|hy
      ·exact hin y hy
      ·simp only[Option.toList_some,List.mem_singleton]at hy
       subst hy
       simpa using h
     ·rw[Int.natCast_add,Int.natCast_one]
      (exact leA))
 ·rw[List.take_of_length_le hkl]at hin
  (repeat' ((conv=>whnf);first|refine zG ?_|apply zA|(apply zI;intro h)|exact zT));(all_goals conv=>whnf)
  exact hK1 hin
theorem cxDel(l:List Bx)(hl:l.length<1000000000){K:KT}(hK:∀zs,K (.os 0 10 0 (vldB l).length) [.arr 10 ((vldB l).map encX++zs)]):
  ACall Tryz.prog 217 [.os 0 10 0 l.length,.fn (.func 219) [] []] [.arr 10 (l.map encX)] K:=by
 refine ofxDel rfl rfl ?_
 (repeat' ((conv=>whnf);first|refine zG ?_|apply zA|(apply zI;intro h)|exact zT));(all_goals conv=>whnf)
 refine cxIdx l hl (fun hall=>?_) (fun i x hx hbad hbef=>?_)
 ·have e:vldB l=l:=List.filter_eq_self.2 fun y hy=>by simpa using hall y hy
  have:=hK []
  rw[e,List.append_nil]at this
  (repeat' ((conv=>whnf);first|refine zG ?_|apply zA|(apply zI;intro h)|exact zT));(all_goals conv=>whnf)
  exact this
 ·have hil:i<l.length:=(List.getElem?_eq_some_iff.1 hx).1
  have e0:vldB (l.take i)=l.take i:=List.filter_eq_self.2 fun y hy=>by simpa using hbef y hy
  have e1:vldB (l.take (i+1))=l.take i:=by rw[vldB_succ hx,if_neg hbad,e0,List.append_nil]
  have e2:(l.take i).length=i:=by rw[List.length_take];omega
  (repeat' ((conv=>whnf);first|refine zG ?_|apply zA|(apply zI;intro h)|exact zT));(all_goals conv=>whnf)
  refine Lp.intro Nat (fun j=>⟨1,[(0,.arr 10 ((vldB (l.take j)++l.drop (vldB (l.take j)).length).map encX))],[(0,.os 0 10 0 l.length),(1,.fn (.func 219) [] []),(5,.v (.int .i64 (vldB (l.take j)).length)),(6,.v (.int .i64 j))]⟩) (fun j=>j<=l.length/\(vldB (l.take j)).length<j) (fun j=>l.length-j) (i+1) ⟨hil,by rw[e1,e2];omega⟩ ?_ ?_
  ·rw[e1,e2,List.take_append_drop,Int.natCast_add,Int.natCast_one]
   (exact leA)
  intro j ⟨hj1,hj2⟩
  rcases Nat.lt_or_ge j l.length with hjl|hjl
  ·obtain⟨y,hy⟩:=gex hjl
   have hs:=vldB_succ hy
   generalize hC:vldB (l.take j)=C at*
   have hget:∀i,C.length<=i->(C++l.drop C.length)[i]? =l[i]? :=fun i hi=>by
    rw[List.getElem?_append_right hi,List.getElem?_drop]
    congr 1;omega
   have hCn:C.length<l.length:=by omega
   have hy0:(C++l.drop C.length)[0+j]? =some y:=by rw[Nat.zero_add,hget _ zo];exact hy
   obtain⟨z,hz⟩:∃z,l[C.length]? =some z:=⟨_,List.getElem?_eq_getElem hCn⟩
   have hz0:(C++l.drop C.length)[0+C.length]? =some z:=by rw[Nat.zero_add,hget _ (Nat.le_refl _)];exact hz
   have hdr:l.drop C.length=z::l.drop (C.length+1):=by
    rw[List.getElem?_eq_getElem hCn]at hz
    rw[<-Option.some.inj hz,<-List.drop_eq_getElem_cons hCn]
   have hset:((C++l.drop C.length).map encX).set (0+C.length) (encX y)=((C++[y])++l.drop (C++[y]).length).map encX:=by
    rw[Nat.zero_add,<-List.map_set,List.set_append_right _ _ (Nat.le_refl _),Nat.sub_self,hdr]
    simp
   (repeat' ((conv=>whnf);first|(with_reducible first|refine in_nat hjl ?_|refine ix_map hy0 ?_|refine cxValC y ?_|refine in_nat hCn ?_|refine ix_map hz0 ?_)|refine zG ?_|apply zA|(apply zI;intro h)|exact zT));(all_goals conv=>whnf)
   ·rw[if_pos h]at hs
    refine⟨j+1,⟨hjl,by rw[hs,List.length_append];simp;omega⟩,by omega,?_⟩
    rw[hs,<-hset,show((C++[y]).length:Int)=(C.length:Int)+1 by simp,Int.natCast_add j,Int.natCast_one]
    (exact leA)
   ·rw[if_neg h,List.append_nil]at hs
    refine⟨j+1,⟨hjl,by rw[hs];omega⟩,by omega,?_⟩
    rw[hs,Int.natCast_add j,Int.natCast_one]
    (exact leA)
  ·have hCl:vldB (l.take j)=vldB l:=by rw[List.take_of_length_le hjl]
   have hCn:(vldB l).length<=l.length:=vldB_len l
   rw[hCl]
   (repeat' ((conv=>whnf);first|(refine Sb.intro (vldB l).length l.length rfl rfl hCn (Nat.le_refl _) ?_)|(refine Sb.intro 0 (vldB l).length rfl rfl (Nat.zero_le _) hCn ?_)|refine zG ?_|apply zA|(apply zI;intro h)|exact zT));(all_goals conv=>whnf)
   have e3:(List.map encX (vldB l++l.drop (vldB l).length)).take (0+(vldB l).length)=(vldB l).map encX:=by
    rw[Nat.zero_add,List.map_append,List.take_left' zx]
   rw[e3,Nat.add_zero,Nat.sub_zero]
   exact hK _
theorem cxIdx0{K:KT}(hK:K (.v (.int .i64 (-1))) []):
  ACall Tryz.prog 238 [.lst [],.fn (.func 219) [] []] [] K:=
 cxIdx [] zd (fun _=>hK) (fun i x h=>by simp at h)
theorem cxDel0{K:KT}(hK:K .nils []):
  ACall Tryz.prog 217 [.nils,.fn (.func 219) [] []] [] K:=by
 refine ofxDel0 rfl rfl ?_
 (repeat' ((conv=>whnf);first|(with_reducible refine cxIdx0 ?_)|refine zG ?_|apply zA|(apply zI;intro h)|exact zT));(all_goals conv=>whnf)
 exact hK
theorem cxVal(l:List Bx)(hl:l.length<1000000000){K:KT}(hK:K (encXs (vldB l)) []):ACall Tryz.prog 202 [encXs l] [] K:=by
 refine ACall.weak (ofxVal rfl rfl ?_)
 (repeat' ((conv=>whnf);first|refine zG ?_|apply zA|(apply zI;intro h)|exact zT));(all_goals conv=>whnf)
 refine cxClone l hl (fun e=>?_) ?_
 ·subst e
  (repeat' ((conv=>whnf);first|(with_reducible refine cxDel0 ?_)|refine zG ?_|apply zA|(apply zI;intro h)|exact zT));(all_goals conv=>whnf)
  exact⟨_,Weak.nils,hK⟩
 ·(repeat' ((conv=>whnf);first|(with_reducible refine cxDel l hl fun zs=>?_)|refine zG ?_|apply zA|(apply zI;intro h)|exact zT));(all_goals conv=>whnf)
  refine Sl.intro (ys:=(vldB l).map encX) zx (by rw[List.drop_zero,List.take_left' zx]) ?_
  exact⟨_,Weak.refl,hK⟩
theorem cxCov(l:List Bx)(f:Nat)(hf:f<=4)(v:Int)(hl:l.length<1000000000000){K:KT}(hK:K (encXs (atF f v l)) []):ACall Tryz.prog 233 [encXs l,.v (.int .i64 f),.v (.int .u32 v)] [] K:=by
 refine ofxCov rfl rfl ?_
 (repeat' ((conv=>whnf);first|refine zG ?_|apply zA|(apply zI;intro h)|exact zT));(all_goals conv=>whnf)
 refine Lp.intro Nat (fun k=>⟨1,[(0,.arr 10 ((atF f v (l.take k)).map encX))],[(1,.v (.int .i64 f)),(2,.v (.int .u32 v)),(7,.os 0 10 0 (atF f v (l.take k)).length),(10,encXs l),(11,.v (.int .i64 l.length)),(12,.v (.int .i64 k))]⟩) (fun k=>k<=l.length) (fun k=>l.length-k) 0 (Nat.zero_le _) ?_ ?_
 ·have e1:(List.map encX l).length=l.length:=List.length_map ..
  rw[e1]
  (exact leA)
 intro k hk
 have hlen:=atF_len f v (l.take k)
 rw[List.length_take]at hlen
 rcases Nat.lt_or_ge k l.length with hkl|hkl
 ·obtain⟨x,hx⟩:=gex hkl
  have hs:=atF_succ (f:=f) (v:=v) hx
  rcases f with _|_|_|_|_|f
  case succ.succ.succ.succ.succ=>omega
  all_goals
   simp only[Bx.get]at hs
   (repeat' ((conv=>whnf);first|(with_reducible first|refine in_map hkl ?_|refine in_nat hkl ?_|refine ix_map hx ?_)|(refine in_c zd ?_)|refine zG ?_|apply zA|(apply zI;intro h)|exact zT));(all_goals conv=>whnf)
   all_goals
    refine⟨k+1,by omega,by omega,?_⟩
    first
     |(rw[if_pos zo]at hs
       rw[hs,List.map_append,List.length_append]
       (exact leA)
       done)
     |(rw[if_neg zo,List.append_nil]at hs
       rw[hs]
       (exact leA)
       done)
 ·(repeat' ((conv=>whnf);first|refine zG ?_|apply zA|(apply zI;intro h)|exact zT));(all_goals conv=>whnf)
  rw[List.take_of_length_le hkl]at*
  (repeat' ((conv=>whnf);first|refine zG ?_|apply zA|(apply zI;intro h)|exact zT));(all_goals conv=>whnf)
  exact hK
noncomputable def gsNaN:Ctx:={N:=6}
noncomputable def bsNaN:Code:=bdy Tryz.f263
abbrev ofsNaN:=@ofC Tryz.prog gsNaN 263 Tryz.f263 bsNaN Tryz.func263 zk zk zk zk
noncomputable def gsLess:Ctx:={N:=17}
noncomputable def bsLess:Code:=bdy Tryz.f257
abbrev ofsLess:=@ofC Tryz.prog gsLess 257 Tryz.f257 bsLess Tryz.func257 zk zk zk zk
noncomputable def gsIns:Ctx:={N:=49,np:=1,plan:=at1 4 (some (ln [1,3,5,7,9,11,13,15,17,19,21,23,25,26,29])) (at1 6 (some (ln [1,3,5,7,9,11,13,15,17,19,21,23,25,27,29,30,33,34])) (fun _=>none))}
noncomputable def bsIns:Code:=bdy Tryz.f251
abbrev ofsIns:=@ofC Tryz.prog gsIns 251 Tryz.f251 bsIns Tryz.func251 zk zk zk zk
noncomputable def gsSift:Ctx:={N:=76,np:=1,plan:=at1 3 (some (ln [1,3,5,7,9,11,13,15,17,19,21,23,25,27,29,31,33,35,36,39])) (at1 5 (some (ln [1,3,5,7,9,11,13,15,17,19,21,23,24,27])) (at1 6 (some (ln [1,3,5,7,9,11,13,15,17,19,21,23,25,27,29,31,33,35,37,39,41,42,45,46])) (fun _=>none)))}
noncomputable def bsSift:Code:=bdy Tryz.f260
abbrev ofsSift:=@ofC Tryz.prog gsSift 260 Tryz.f260 bsSift Tryz.func260 zk zk zk zk
noncomputable def gsHeap:Ctx:={N:=56,np:=1,own:=at1 260 (true) (fun _=>false),plan:=at1 10 (some (ln [1,3,5,7,9,11,13,15,17,19,21,23,25,27,29,31,33,34,37,38])) (fun _=>none)}
noncomputable def bsHeap:Code:=bdy Tryz.f252
abbrev ofsHeap:=@ofC Tryz.prog gsHeap 252 Tryz.f252 bsHeap Tryz.func252 zk zk zk zk
noncomputable def gsRev:Ctx:={N:=32,np:=1,plan:=at1 3 (some (ln [1,3,5,7,9,11,13,15,17,19,21,23,25,26,29,30])) (fun _=>none)}
noncomputable def bsRev:Code:=bdy Tryz.f255
abbrev ofsRev:=@ofC Tryz.prog gsRev 255 Tryz.f255 bsRev Tryz.func255 zk zk zk zk
noncomputable def gsPart:Ctx:={N:=168,np:=1,plan:=at1 1 (some (ln [1,3,5,7,9,11,13,15,17,19,21,23,25,26,29,30])) (at1 3 (some (ln [1,3,5,7,9,11,13,15,17,19,21,23,24,27])) (at1 5 (some (ln [1,3,5,7,9,11,13,15,17,19,21,23,24,27,29])) (at1 8 (some (ln [1,3,5,7,9,11,13,15,17,19,21,23,25,26,29,30])) (at1 10 (some (ln [1,3,5,7,9,11,13,15,17,19,21,23,25,26,29,30])) (at1 13 (some (ln [1,3,5,7,9,11,13,15,17,19,21,23,24,27])) (at1 15 (some (ln [1,3,5,7,9,11,13,15,17,19,21,23,24,27,29])) (at1 18 (some (ln [1,3,5,7,9,11,13,15,17,19,21,23,25,26,29,30])) (at1 21 (some (ln [1,3,5,7,9,11,13,15,17,19,21,23,25,26,29,30])) (fun _=>none))))))))),cut:=at1 5 (true) (at1 7 (true) (at1 15 (true) (at1 17 (true) (fun _=>false))))}
noncomputable def bsPart:Code:=bdy Tryz.f259
abbrev ofsPart:=@ofC Tryz.prog gsPart 259 Tryz.f259 bsPart Tryz.func259 zk zk zk zk
noncomputable def gsPeq:Ctx:={N:=84,np:=1,plan:=at1 1 (some (ln [1,3,5,7,9,11,13,15,17,19,21,23,25,26,29,30])) (at1 3 (some (ln [1,3,5,7,9,11,13,15,17,19,21,23,24,27,29])) (at1 5 (some (ln [1,3,5,7,9,11,13,15,17,19,21,23,24,27])) (at1 8 (some (ln [1,3,5,7,9,11,13,15,17,19,21,23,25,26,29,30])) (fun _=>none)))),cut:=at1 5 (true) (at1 7 (true) (fun _=>false))}
noncomputable def bsPeq:Code:=bdy Tryz.f258
abbrev ofsPeq:=@ofC Tryz.prog gsPeq 258 Tryz.f258 bsPeq Tryz.func258 zk zk zk zk
noncomputable def gsPins:Ctx:={N:=133,np:=1,plan:=at1 5 (some (ln [1,3,5,7,9,11,13,15,17,19,21,23,25,26,29,31])) (at1 11 (some (ln [1,3,5,7,9,11,13,15,17,19,21,23,25,27,29,30,33,34])) (at1 16 (some (ln [1,3,5,7,9,11,13,15,17,18,21])) (at1 17 (some (ln [1,3,5,7,9,11,13,15,17,19,21,23,25,27,29,30,33,34])) (at1 22 (some (ln [1,3,5,7,9,11,13,15,17,18,21])) (at1 23 (some (ln [1,3,5,7,9,11,13,15,17,19,21,23,25,27,29,30,33,34])) (fun _=>none)))))),cut:=at1 7 (true) (at1 18 (true) (fun _=>false))}
noncomputable def bsPins:Code:=bdy Tryz.f256
abbrev ofsPins:=@ofC Tryz.prog gsPins 256 Tryz.f256 bsPins Tryz.func256 zk zk zk zk
noncomputable def gsOrd2:Ctx:={N:=28,np:=2,plan:=at1 1 (some (ln [1,3,5,7,9,11,13,15,16])) (fun _=>none)}
noncomputable def bsOrd2:Code:=bdy Tryz.f264
abbrev ofsOrd2:=@ofC Tryz.prog gsOrd2 264 Tryz.f264 bsOrd2 Tryz.func264 zk zk zk zk
noncomputable def gsMed:Ctx:={N:=36,np:=2,own:=at1 264 (true) (fun _=>false)}
noncomputable def bsMed:Code:=bdy Tryz.f262
abbrev ofsMed:=@ofC Tryz.prog gsMed 262 Tryz.f262 bsMed Tryz.func262 zk zk zk zk
noncomputable def gsMedA:Ctx:={N:=15,np:=2,own:=at1 262 (true) (fun _=>false)}
noncomputable def bsMedA:Code:=bdy Tryz.f261
abbrev ofsMedA:=@ofC Tryz.prog gsMedA 261 Tryz.f261 bsMedA Tryz.func261 zk zk zk zk
noncomputable def gsPiv:Ctx:={N:=57,np:=1,own:=at1 262 (true) (at1 261 (true) (fun _=>false))}
noncomputable def bsPiv:Code:=bdy Tryz.f254
abbrev ofsPiv:=@ofC Tryz.prog gsPiv 254 Tryz.f254 bsPiv Tryz.func254 zk zk zk zk
noncomputable def gsLen64:Ctx:={N:=25}
noncomputable def bsLen64:Code:=bdy Tryz.f230
abbrev ofsLen64:=@ofC Tryz.prog gsLen64 230 Tryz.f230 bsLen64 Tryz.func230 zk zk zk zk
noncomputable def gsLen:Ctx:={N:=8}
noncomputable def bsLen:Code:=bdy Tryz.f208
abbrev ofsLen:=@ofC Tryz.prog gsLen 208 Tryz.f208 bsLen Tryz.func208 zk zk zk zk
noncomputable def gsPow2:Ctx:={N:=7}
noncomputable def bsPow2:Code:=bdy Tryz.f240
abbrev ofsPow2:=@ofC Tryz.prog gsPow2 240 Tryz.f240 bsPow2 Tryz.func240 zk zk zk zk
noncomputable def gsNext:Ctx:={N:=33,np:=1,plan:=at1 1 (some (ln [1,3,5,7,9,11,13,15,17,18])) (at1 2 (some (ln [1,3,5,7,9,11,13,15,17,18])) (at1 3 (some (ln [1,3,5,7,9,11,13,15,17,18])) (fun _=>none)))}
noncomputable def bsNext:Code:=bdy Tryz.f241
abbrev ofsNext:=@ofC Tryz.prog gsNext 241 Tryz.f241 bsNext Tryz.func241 zk zk zk zk
noncomputable def gsBrk:Ctx:={N:=65,np:=1,own:=at1 241 (true) (fun _=>false),plan:=at1 10 (some (ln [1,3,5,7,9,11,13,15,17,19,21,23,25,27,29,31,33,34,37,38])) (fun _=>none)}
noncomputable def bsBrk:Code:=bdy Tryz.f253
abbrev ofsBrk:=@ofC Tryz.prog gsBrk 253 Tryz.f253 bsBrk Tryz.func253 zk zk zk zk
noncomputable def gsPdq:Ctx:={N:=134,np:=1,own:=at1 251 (true) (at1 252 (true) (at1 253 (true) (at1 254 (true) (at1 255 (true) (at1 256 (true) (at1 258 (true) (at1 259 (true) (at1 250 (true) (fun _=>false))))))))),plan:=at1 17 (some (ln [1,3,5,7,9,11,13,15,17,19,21,23,24,27,29])) (fun _=>none),cut:=at1 10 (true) (at1 15 (true) (at1 17 (true) (fun _=>false)))}
noncomputable def bsPdq:Code:=bdy Tryz.f250
abbrev ofsPdq:=@ofC Tryz.prog gsPdq 250 Tryz.f250 bsPdq Tryz.func250 zk zk zk zk
noncomputable def gsSort:Ctx:={N:=11,np:=1,own:=at1 250 (true) (fun _=>false)}
noncomputable def bsSort:Code:=bdy Tryz.f245
abbrev ofsSort:=@ofC Tryz.prog gsSort 245 Tryz.f245 bsSort Tryz.func245 zk zk zk zk
noncomputable def gsComp:Ctx:={N:=61,np:=1,plan:=at1 6 (some (ln [1,3,5,7,9,11,13,15,17,19])) (at1 11 (some (ln [1,3,5,7,9,11,13,15,17,19])) (fun _=>none)),res:=true}
noncomputable def bsComp:Code:=bdy Tryz.f246
abbrev ofsComp:=@ofC Tryz.prog gsComp 246 Tryz.f246 bsComp Tryz.func246 zk zk zk zk
noncomputable abbrev encZ(z:Int):AV:=.v (.int .u64 z)
noncomputable abbrev rowZ(d:Array Int):Vm.Obj:=.arr 1 (d.toList.map encZ)
theorem z_get{d:Array Int}{i:Nat}(h:i<d.size):d.toList[i]? =some d[i]! :=by
 rw[Array.getElem?_toList,Array.getElem?_eq_getElem h,getElem!_pos d i h]
theorem ix_z{d:Array Int}{i:Nat}{K:AV->Prop}(h:i<d.size)(hk:K (encZ d[i]!)):Ix (d.toList.map encZ) (0+i) K:=by
 rw[Nat.zero_add]
 exact ix_map (z_get h) hk
theorem swp_z{d:Array Int}{i j:Nat}:((d.toList.map encZ).set i (encZ d[j]!)).set j (encZ d[i]!)=(Sort.swp d i j).toList.map encZ:=by
 rw[<-List.map_set,<-List.map_set]
 simp[Sort.swp]
theorem ix_zs{d:Array Int}{i j:Nat}{x:AV}{K:AV->Prop}(hij:i≠j)(h:j<d.size)(hk:K (encZ d[j]!)):Ix ((d.toList.map encZ).set (0+i) x) (0+j) K:=by
 rw[Nat.zero_add,Nat.zero_add]
 exact Ix.intro (by rw[List.getElem?_set_ne hij,List.getElem?_map,z_get h];rfl) hk
theorem ix_zw{d:Array Int}{i j:Nat}{y:Int}{K:AV->Prop}(h:j<d.size)(hk:∀z,K (encZ z)):Ix ((d.toList.map encZ).set (0+i) (encZ y)) (0+j) K:=by
 rw[Nat.zero_add,Nat.zero_add]
 rcases Nat.decEq i j with hij|rfl
 ·exact Ix.intro (by rw[List.getElem?_set_ne hij,List.getElem?_map,z_get h];rfl) (hk _)
 ·exact Ix.intro (by rw[List.getElem?_set_self (by simpa using h)]) (hk _)
theorem swp0{d:Array Int}{i j:Nat}:((d.toList.map encZ).set (0+i) (encZ d[j]!)).set (0+j) (encZ d[i]!)=(Sort.swp d i j).toList.map encZ:=by rw[Nat.zero_add,Nat.zero_add];exact swp_z
theorem swp_size{d:Array Int}{i j:Nat}:(Sort.swp d i j).size=d.size:=by simp[Sort.swp]
theorem csNaN(x:Int){K:KT}(hK:K (.sb false) []):ACall Tryz.prog 263 [encZ x] [] K:=by
 refine ofsNaN rfl rfl ?_
 (repeat' ((conv=>whnf);first|refine zG ?_|apply zA|(apply zI;intro h)|exact zT));(all_goals conv=>whnf)
 have e:(!decide (x=x))=false:=by simp
 unfold one?
 rw[e]
 exact hK
theorem csLess(x y:Int){K:KT}(hK:K (.sb (Sort.ltInt x y)) []):ACall Tryz.prog 257 [encZ x,encZ y] [] K:=by
 refine ACall.bool (ofsLess rfl rfl ?_)
 (repeat' ((conv=>whnf);first|(with_reducible refine csNaN _ ?_)|refine zG ?_|apply zA|(apply zI;intro h)|exact zT));(all_goals conv=>whnf)
 exact fin_s hK rfl
theorem csIns(d:Array Int)(a b:Nat)(hab:a<=b)(hb:b<=d.size)(hsz:d.size<1000000000000){K:KT}(hK:K (.tup []) [rowZ (Sort.insertionSort Sort.ltInt d a b)]):
  ACall Tryz.prog 251 [.os 0 1 0 d.size,.v (.int .i64 a),.v (.int .i64 b)] [rowZ d] K:=by
 refine ofsIns rfl rfl ?_
 (repeat' ((conv=>whnf);first|refine zG ?_|apply zA|(apply zI;intro h)|exact zT));(all_goals conv=>whnf)
 refine Lp.intro (Nat×Array Int) (fun g=>⟨1,[(0,rowZ g.2)],[(0,.os 0 1 0 d.size),(1,.v (.int .i64 a)),(2,.v (.int .i64 b)),(6,.v (.int .i64 g.1))]⟩)
  (fun g=>g.2.size=d.size/\a+1<=g.1/\g.1<=d.size+1/\Sort.insOuter Sort.ltInt a b g.1 g.2=Sort.insertionSort Sort.ltInt d a b) (fun g=>b-g.1) (a+1,d) ⟨rfl,Nat.le_refl _,by omega,rfl⟩ ?_ ?_
 ·dsimp only
  rw[Int.natCast_add,Int.natCast_one]
  (exact leA)
 rintro⟨i,e⟩ ⟨he,hi1,hi2,ht⟩
 simp only at he hi1 hi2 ht⊢
 rw[Sort.insOuter]at ht
 rcases Nat.lt_or_ge i b with hib|hib
 ·rw[if_pos hib]at ht
  (repeat' ((conv=>whnf);first|refine zG ?_|apply zA|(apply zI;intro h)|exact zT));(all_goals conv=>whnf)
  refine Lp.intro (Nat×Array Int) (fun g=>⟨1,[(0,rowZ g.2)],[(0,.os 0 1 0 d.size),(1,.v (.int .i64 a)),(2,.v (.int .i64 b)),(6,.v (.int .i64 i)),(7,.v (.int .i64 g.1))]⟩)
   (fun g=>g.2.size=d.size/\a<=g.1/\g.1<=i/\Sort.insInner Sort.ltInt a g.1 g.2=Sort.insInner Sort.ltInt a i e) (fun g=>g.1) (i,e) ⟨he,by omega,Nat.le_refl _,rfl⟩ ?_ ?_
  ·(exact leA)
  rintro⟨j,f⟩ ⟨hf,hj1,hj2,hg⟩
  simp only at hf hj1 hj2 hg⊢
  have n1:j<d.size:=by omega
  have n1':j<f.size:=by omega
  rcases Nat.lt_or_ge a j with haj|haj
  ·obtain⟨m,rfl⟩:∃m,j=m+1:=⟨j-1,by omega⟩
   have n2:m<d.size:=by omega
   have n2':m<f.size:=by omega
   have hm:((m+1:Nat):Int)-1=(m:Nat):=by omega
   (repeat' ((conv=>whnf);first|(with_reducible first|refine csLess _ _ ?_|refine in_nat n1 ?_|refine In.intro m hm n2 ?_|refine ix_z n1' ?_|refine ix_z n2' ?_|refine ix_zs (Nat.succ_ne_self m) n2' ?_)|refine zG ?_|apply zA|(apply zI;intro h)|exact zT));(all_goals conv=>whnf)
   ·refine⟨(m,Sort.swp f (m+1) m),⟨by rw[swp_size,hf],by omega,by omega,?_⟩,by dsimp only;omega,?_⟩
    ·rw[<-hg]
     simp only[Sort.insInner]
     rw[if_pos]
     simp only[Bool.and_eq_true,decide_eq_true_eq]
     exact⟨haj,h⟩
    ·dsimp only
     rw[hm,swp0]
     (exact leA)
   ·refine⟨(i+1,f),⟨hf,by omega,by omega,?_⟩,by dsimp only;omega,?_⟩
    ·rw[<-ht,<-hg]
     simp only[Sort.insInner]
     rw[if_neg]
     simp[h]
    ·dsimp only
     rw[Int.natCast_add,Int.natCast_one]
     (exact leA)
  ·have hja:j=a:=by omega
   subst hja
   (repeat' ((conv=>whnf);first|refine zG ?_|apply zA|(apply zI;intro h)|exact zT));(all_goals conv=>whnf)
   refine⟨(i+1,f),⟨hf,by omega,by omega,?_⟩,by dsimp only;omega,?_⟩
   ·rw[<-ht,<-hg]
    cases j with
    |zero=>rfl
    |succ j=>simp only[Sort.insInner];rw[if_neg];simp
   ·dsimp only
    rw[Int.natCast_add,Int.natCast_one]
    (exact leA)
 ·rw[if_neg zo]at ht
  rw[<-ht]at hK
  (repeat' ((conv=>whnf);first|refine zG ?_|apply zA|(apply zI;intro h)|exact zT));(all_goals conv=>whnf)
  exact hK
theorem csSift(d:Array Int)(lo hi first:Nat)(hlo:lo<=d.size)(hb:first+hi<=d.size)(hsz:d.size<1000000000000){K:KT}(hK:K (.tup []) [rowZ (Sort.siftDown Sort.ltInt hi first lo d)]):
  ACall Tryz.prog 260 [.os 0 1 0 d.size,.v (.int .i64 lo),.v (.int .i64 hi),.v (.int .i64 first)] [rowZ d] K:=by
 refine ofsSift rfl rfl ?_
 (repeat' ((conv=>whnf);first|refine zG ?_|apply zA|(apply zI;intro h)|exact zT));(all_goals conv=>whnf)
 refine Lp.intro (Nat×Array Int) (fun g=>⟨1,[(0,rowZ g.2)],[(0,.os 0 1 0 d.size),(1,.v (.int .i64 lo)),(2,.v (.int .i64 hi)),(3,.v (.int .i64 first)),(8,.v (.int .i64 g.1))]⟩)
  (fun g=>g.2.size=d.size/\g.1<=d.size/\Sort.siftDown Sort.ltInt hi first g.1 g.2=Sort.siftDown Sort.ltInt hi first lo d) (fun g=>hi-g.1) (lo,d) ⟨rfl,hlo,rfl⟩ ?_ ?_
 ·(exact leA)
 rintro⟨r,e⟩ ⟨he,hr,ht⟩
 simp only at he hr ht⊢
 rw[Sort.siftDown]at ht
 rcases Nat.lt_or_ge (2*r+1) hi with h1|h1
 ·rw[dif_neg zo]at ht
  have a1:first+(2*r+1)<e.size:=by omega
  have a0:first+r<e.size:=by omega
  have e1:first+(2*r+1)+1=first+(2*r+2):=by omega
  rw[e1]at ht
  rcases Nat.lt_or_ge (2*r+2) hi with h2|h2
  ·have a2:first+(2*r+2)<e.size:=by omega
   rw[show decide (2*r+1+1<hi)=true from decide_eq_true zo,Bool.true_and,dif_pos h2]at ht
   (repeat' ((conv=>whnf);first|(with_reducible refine csLess _ _ ?_)|(refine In.intro (first+(2*r+1)) zo zo ?_)|(refine In.intro (first+(2*r+2)) zo zo ?_)|(refine In.intro (first+r) zo zo ?_)|(with_reducible first|refine ix_z a0 ?_|refine ix_z a1 ?_|refine ix_z a2 ?_)|(refine ix_zs zo a1 ?_)|(refine ix_zs zo a2 ?_)|refine zG ?_|apply zA|(apply zI;intro h)|exact zT));(all_goals conv=>whnf)
   ·rename_i hh
    simp only[hh,h,Bool.not_true,Bool.not_false,Bool.false_eq_true,if_true,if_false,reduceIte]at ht
    refine⟨(2*r+2,Sort.swp e (first+r) (first+(2*r+2))),⟨by rw[swp_size,he],by dsimp only;omega,ht⟩,by dsimp only;omega,?_⟩
    dsimp only
    rw[swp0,show((2*r+2:Nat):Int)=2*(r:Int)+1+1 by omega]
    (exact leA)
   ·rename_i hh
    simp only[hh,h,Bool.not_true,Bool.not_false,Bool.false_eq_true,if_true,if_false,reduceIte]at ht
    rw[ht]
    exact hK
   ·rename_i hh
    simp only[hh,h,Bool.not_true,Bool.not_false,Bool.false_eq_true,if_true,if_false,reduceIte]at ht
    refine⟨(2*r+1,Sort.swp e (first+r) (first+(2*r+1))),⟨by rw[swp_size,he],by dsimp only;omega,ht⟩,by dsimp only;omega,?_⟩
    dsimp only
    rw[swp0,show((2*r+1:Nat):Int)=2*(r:Int)+1 by omega]
    (exact leA)
   ·rename_i hh
    simp only[hh,h,Bool.not_true,Bool.not_false,Bool.false_eq_true,if_true,if_false,reduceIte]at ht
    rw[ht]
    exact hK
  ·rw[show decide (2*r+1+1<hi)=false from decide_eq_false zo,Bool.false_and]at ht
   (repeat' ((conv=>whnf);first|(with_reducible refine csLess _ _ ?_)|(refine In.intro (first+(2*r+1)) zo zo ?_)|(refine In.intro (first+r) zo zo ?_)|(with_reducible first|refine ix_z a0 ?_|refine ix_z a1 ?_)|(refine ix_zs zo a1 ?_)|refine zG ?_|apply zA|(apply zI;intro h)|exact zT));(all_goals conv=>whnf)
   ·simp only[h,Bool.false_and,Bool.not_true,Bool.not_false,Bool.false_eq_true,if_true,if_false,reduceIte]at ht
    refine⟨(2*r+1,Sort.swp e (first+r) (first+(2*r+1))),⟨by rw[swp_size,he],by dsimp only;omega,ht⟩,by dsimp only;omega,?_⟩
    dsimp only
    rw[swp0,show((2*r+1:Nat):Int)=2*(r:Int)+1 by omega]
    (exact leA)
   ·simp only[h,Bool.false_and,Bool.not_true,Bool.not_false,Bool.false_eq_true,if_true,if_false,reduceIte]at ht
    rw[ht]
    exact hK
 ·rw[dif_pos h1]at ht
  rw[<-ht]at hK
  (repeat' ((conv=>whnf);first|refine zG ?_|apply zA|(apply zI;intro h)|exact zT));(all_goals conv=>whnf)
  exact hK
theorem siftDown_size(lt:Int->Int->Bool)(hi first:Nat):∀(n r:Nat) (e:Array Int),hi-r<=n->(Sort.siftDown lt hi first r e).size=e.size:=by
 intro n
 induction n with
 |zero=>intro r e h;rw[Sort.siftDown,dif_pos zo]
 |succ n ih=>
  intro r e h
  rw[Sort.siftDown]
  split
  ·rfl
  ·split
   ·split
    ·rfl
    ·split
     ·rw[ih _ _ zo,swp_size]
     ·rfl
   ·split
    ·rfl
    ·rw[ih _ _ zo,swp_size]
theorem sift_size{lt:Int->Int->Bool}{hi first r:Nat}{e:Array Int}:(Sort.siftDown lt hi first r e).size=e.size:=siftDown_size lt hi first _ r e (Nat.le_refl _)
theorem csSift'{n:Nat}{d:Array Int}(hn:d.size=n)(lo hi first:Nat)(hlo:lo<=n)(hb:first+hi<=n)(hsz:n<1000000000000){K:KT}(hK:K (.tup []) [rowZ (Sort.siftDown Sort.ltInt hi first lo d)]):
  ACall Tryz.prog 260 [.os 0 1 0 n,.v (.int .i64 lo),.v (.int .i64 hi),.v (.int .i64 first)] [rowZ d] K:=by
 subst hn
 exact csSift d lo hi first hlo hb hsz hK
theorem csHeap(d:Array Int)(a b:Nat)(hab:a<b)(hb:b<=d.size)(hsz:d.size<1000000000000){K:KT}(hK:K (.tup []) [rowZ (Sort.heapSort Sort.ltInt d a b)]):
  ACall Tryz.prog 252 [.os 0 1 0 d.size,.v (.int .i64 a),.v (.int .i64 b)] [rowZ d] K:=by
 refine ofsHeap rfl rfl ?_
 have hq:((b:Int)-a-1).tdiv 2=(((b-a-1)/2:Nat):Int):=by rw[Int.tdiv_eq_ediv_of_nonneg zo];omega
 have hba:(b:Int)-a=((b-a:Nat):Int):=by omega
 have hw:∀{K:Int->Prop},K (((b-a-1)/2:Nat):Int)->Wr .i64 (((b:Int)-a-1).tdiv 2) K:=fun h=>wr_i64 hq zo zo h
 (repeat' ((conv=>whnf);first|(with_reducible refine hw ?_)|refine zG ?_|apply zA|(apply zI;intro h)|exact zT));(all_goals conv=>whnf)
 refine Lp.intro (Nat×Array Int) (fun g=>⟨1,[(0,rowZ g.2)],[(0,.os 0 1 0 d.size),(1,.v (.int .i64 a)),(2,.v (.int .i64 b)),(6,.v (.int .i64 a)),(7,.v (.int .i64 0)),(8,.v (.int .i64 ((b:Int)-a))),(9,.v (.int .i64 ((g.1:Int)-1)))]⟩)
  (fun g=>g.2.size=d.size/\g.1<=(b-a-1)/2+1/\Sort.heapBuild Sort.ltInt (b-a) a g.1 g.2=Sort.heapBuild Sort.ltInt (b-a) a ((b-a-1)/2+1) d) (fun g=>g.1) ((b-a-1)/2+1,d) ⟨rfl,Nat.le_refl _,rfl⟩ ?_ ?_
 ·dsimp only
  rw[show((((b-a-1)/2+1:Nat):Int)-1)=(((b-a-1)/2:Nat):Int) by omega]
  (exact leA)
 rintro⟨k,e⟩ ⟨he,hk,ht⟩
 simp only at he hk ht⊢
 rcases k with _|k
 ·simp only[Sort.heapBuild]at ht
  subst ht
  have hs:∀{K:KT} (k:Nat) (e:Array Int),e.size=d.size->k<b-a->K (.tup []) [rowZ (Sort.siftDown Sort.ltInt k a 0 e)]->ACall Tryz.prog 260 [.os 0 1 0 d.size,.v (.int .i64 0),.v (.int .i64 k),.v (.int .i64 a)] [rowZ e] K:=fun k e he hk h=>csSift' he 0 k a zo zo hsz h
  (repeat' ((conv=>whnf);first|refine zG ?_|apply zA|(apply zI;intro h)|exact zT));(all_goals conv=>whnf)
  refine Lp.intro (Nat×Array Int) (fun g=>⟨1,[(0,rowZ g.2)],[(0,.os 0 1 0 d.size),(1,.v (.int .i64 a)),(2,.v (.int .i64 b)),(6,.v (.int .i64 a)),(7,.v (.int .i64 0)),(8,.v (.int .i64 ((b:Int)-a))),(10,.v (.int .i64 ((g.1:Int)-1)))]⟩)
   (fun g=>g.2.size=d.size/\g.1<=b-a/\Sort.heapPop Sort.ltInt a g.1 g.2=Sort.heapSort Sort.ltInt d a b) (fun g=>g.1) (b-a,Sort.heapBuild Sort.ltInt (b-a) a ((b-a-1)/2+1) d) ⟨he,Nat.le_refl _,rfl⟩ ?_ ?_
  ·dsimp only
   rw[<-hba]
   (exact leA)
  rintro⟨k,f⟩ ⟨hf,hk,ht⟩
  simp only at hf hk ht⊢
  rcases k with _|k
  ·simp only[Sort.heapPop]at ht
   rw[<-ht]at hK
   (repeat' ((conv=>whnf);first|refine zG ?_|apply zA|(apply zI;intro h)|exact zT));(all_goals conv=>whnf)
   exact hK
  ·have a0:a<f.size:=by omega
   have a1:a+k<f.size:=by omega
   have n0:a<d.size:=by omega
   have hik:((k+1:Nat):Int)-1=(k:Nat):=by omega
   rw[hik]
   (repeat' ((conv=>whnf);first|(with_reducible refine in_nat n0 ?_)|(refine In.intro (a+k) zo zo ?_)|(with_reducible first|refine ix_z a0 ?_|refine ix_z a1 ?_)|(refine ix_zw a1 fun z=>?_)|(rw[swp0])|(with_reducible refine hs k _ (swp_size.trans hf) zo ?_)|refine zG ?_|apply zA|(apply zI;intro h)|exact zT));(all_goals conv=>whnf)
   refine⟨(k,Sort.siftDown Sort.ltInt k a 0 (Sort.swp f a (a+k))),⟨by rw[sift_size,swp_size,hf],by dsimp only;omega,?_⟩,by dsimp only;omega,?_⟩
   ·rw[<-ht];rfl
   ·(exact leA)
 ·have hik:((k+1:Nat):Int)-1=(k:Nat):=by omega
  rw[hik]
  have hs:∀{K:KT},K (.tup []) [rowZ (Sort.siftDown Sort.ltInt (b-a) a k e)]->ACall Tryz.prog 260 [.os 0 1 0 d.size,.v (.int .i64 k),.v (.int .i64 ((b:Int)-a)),.v (.int .i64 a)] [rowZ e] K:=fun h=>by rw[hba];exact csSift' he k (b-a) a zo zo hsz h
  (repeat' ((conv=>whnf);first|(with_reducible refine hs ?_)|refine zG ?_|apply zA|(apply zI;intro h)|exact zT));(all_goals conv=>whnf)
  refine⟨(k,Sort.siftDown Sort.ltInt (b-a) a k e),⟨by rw[sift_size,he],by dsimp only;omega,?_⟩,by dsimp only;omega,?_⟩
  ·rw[<-ht];rfl
  ·(exact leA)
theorem csRev(d:Array Int)(a b:Nat)(hab:a<b)(hb:b<=d.size)(hsz:d.size<1000000000000){K:KT}(hK:K (.tup []) [rowZ (Sort.reverseRange d a b)]):
  ACall Tryz.prog 255 [.os 0 1 0 d.size,.v (.int .i64 a),.v (.int .i64 b)] [rowZ d] K:=by
 refine ofsRev rfl rfl ?_
 (repeat' ((conv=>whnf);first|refine zG ?_|apply zA|(apply zI;intro h)|exact zT));(all_goals conv=>whnf)
 refine Lp.intro (Nat×Nat×Array Int) (fun g=>⟨1,[(0,rowZ g.2.2)],[(0,.os 0 1 0 d.size),(1,.v (.int .i64 a)),(2,.v (.int .i64 b)),(6,.v (.int .i64 g.1)),(7,.v (.int .i64 g.2.1))]⟩)
  (fun g=>g.2.2.size=d.size/\g.1<=g.2.1+1/\g.2.1<d.size/\Sort.reverseLoop g.1 g.2.1 g.2.2=Sort.reverseRange d a b) (fun g=>g.2.1-g.1) (a,b-1,d) ⟨rfl,by dsimp only;omega,by dsimp only;omega,rfl⟩ ?_ ?_
 ·dsimp only
  rw[Int.natCast_sub zo,Int.natCast_one]
  (exact leA)
 rintro⟨i,j,e⟩ ⟨he,hi,hj,ht⟩
 simp only at he hi hj ht⊢
 rw[Sort.reverseLoop]at ht
 rcases Nat.lt_or_ge i j with h1|h1
 ·rw[if_pos h1]at ht
  have a1:i<e.size:=by omega
  have a2:j<e.size:=by omega
  have n1:i<d.size:=by omega
  have n2:j<d.size:=by omega
  (repeat' ((conv=>whnf);first|(with_reducible first|refine in_nat n1 ?_|refine in_nat n2 ?_|refine ix_z a1 ?_|refine ix_z a2 ?_)|(refine ix_zs zo a2 ?_)|refine zG ?_|apply zA|(apply zI;intro h)|exact zT));(all_goals conv=>whnf)
  refine⟨(i+1,j-1,Sort.swp e i j),⟨by rw[swp_size,he],by dsimp only;omega,by dsimp only;omega,ht⟩,by dsimp only;omega,?_⟩
  dsimp only
  rw[Int.natCast_add,Int.natCast_one,Int.natCast_sub zo,Int.natCast_one,swp0]
  (exact leA)
 ·rw[if_neg zo]at ht
  rw[<-ht]at hK
  (repeat' ((conv=>whnf);first|refine zG ?_|apply zA|(apply zI;intro h)|exact zT));(all_goals conv=>whnf)
  exact hK
theorem csPart(d:Array Int)(a b p:Nat)(hap:a<=p)(hpb:p<b)(hb:b<=d.size)(hsz:d.size<1000000000000){K:KT}(hK:K (.tup [.v (.int .i64 (Sort.partition Sort.ltInt d a b p).1),.sb (Sort.partition Sort.ltInt d a b p).2.1]) [rowZ (Sort.partition Sort.ltInt d a b p).2.2]):
  ACall Tryz.prog 259 [.os 0 1 0 d.size,.v (.int .i64 a),.v (.int .i64 b),.v (.int .i64 p)] [rowZ d] K:=by
 refine ACall.weak (ofsPart rfl rfl ?_)
 have na:a<d.size:=by omega
 have np:p<d.size:=by omega
 have hb1:(b:Int)-1=((b-1:Nat):Int):=by omega
 have ha1:(a:Int)+1=((a+1:Nat):Int):=by omega
 obtain⟨e,he⟩:∃e,e=Sort.swp d a p:=⟨_,rfl⟩
 have hes:e.size=d.size:=by rw[he,swp_size]
 have na':a<e.size:=by omega
 unfold Sort.partition at hK
 rw[<-he]at hK
 simp only at hK
 (repeat' ((conv=>whnf);first|(with_reducible first|refine in_nat na ?_|refine in_nat np ?_|refine ix_z na ?_|refine ix_z np ?_)|(refine ix_zw np fun z=>?_)|(rw[swp0,<-he])|refine zG ?_|apply zA|(apply zI;intro h)|exact zT));(all_goals conv=>whnf)
 obtain⟨i1,hi1⟩:∃i1,i1=Sort.scanUp (fun x=>Sort.ltInt x e[a]!) e (b-1) (a+1):=⟨_,rfl⟩
 have s1:=Sort.scanUp_spec (fun x=>Sort.ltInt x e[a]!) e (b-1) _ (a+1) rfl
 rw[<-hi1]at s1
 obtain⟨s1a,s1b0,_,s1d⟩:=s1
 have s1b:=s1b0 zo
 obtain⟨j1,hj1⟩:∃j1,j1=Sort.scanDown (fun x=> !Sort.ltInt x e[a]!) e i1 (b-1):=⟨_,rfl⟩
 have s2:=Sort.scanDown_spec (fun x=> !Sort.ltInt x e[a]!) e i1 (b-1)
 rw[<-hj1]at s2
 obtain⟨s2a,s2b0,_,s2d⟩:=s2
 have s2b:=s2b0 zo
 refine Jn.at ⟨1,[(0,rowZ e)],[(0,.os 0 1 0 d.size),(1,.v (.int .i64 a)),(10,.v (.int .i64 ((i1:Nat):Int))),(11,.v (.int .i64 (((b-1):Nat):Int)))]⟩ ?_ ?_
 ·rw[hi1]
  refine Lp.intro Nat (fun k=>⟨1,[(0,rowZ e)],[(0,.os 0 1 0 d.size),(1,.v (.int .i64 a)),(10,.v (.int .i64 k)),(11,.v (.int .i64 (((b-1):Nat):Int)))]⟩) (fun k=>(a+1)<=k/\k<=(b-1)+1/\Sort.scanUp (fun x=>Sort.ltInt x e[a]!) e (b-1) k=Sort.scanUp (fun x=>Sort.ltInt x e[a]!) e (b-1) (a+1)) (fun k=>(b-1)+1-k) (a+1) ⟨Nat.le_refl _,by omega,rfl⟩ ?_ ?_
  ·rw[ha1,hb1];(exact leA)
  intro k ⟨hk1,hk2,hk3⟩
  rw[Sort.scanUp]at hk3
  rcases Nat.lt_or_ge (b-1) k with hjk|hjk
  ·rw[if_neg (by simp;omega)]at hk3
   (repeat' ((conv=>whnf);first|refine zG ?_|apply zA|(apply zI;intro h)|exact zT));(all_goals conv=>whnf)
   refine⟨(),trivial,?_⟩
   rw[<-hk3]
   (exact leA)
  ·have n1:k<d.size:=by omega
   have n1':k<e.size:=by omega
   (repeat' ((conv=>whnf);first|(with_reducible first|refine csLess _ _ ?_|refine in_nat n1 ?_|refine in_nat na ?_|refine ix_z n1' ?_|refine ix_z na' ?_)|refine zG ?_|apply zA|(apply zI;intro h)|exact zT));(all_goals conv=>whnf)
   all_goals first
    |(rw[if_pos (by simp[h];omega)]at hk3
      refine⟨k+1,⟨by omega,by omega,hk3⟩,by omega,?_⟩
      rw[Int.natCast_add,Int.natCast_one]
      (exact leA))
    |(rw[if_neg (by simp[h])]at hk3
      refine⟨(),trivial,?_⟩
      rw[<-hk3]
      (exact leA))
 refine Jn.at ⟨1,[(0,rowZ e)],[(0,.os 0 1 0 d.size),(1,.v (.int .i64 a)),(10,.v (.int .i64 ((i1:Nat):Int))),(11,.v (.int .i64 ((j1:Nat):Int)))]⟩ ?_ ?_
 ·rw[hj1]
  refine Lp.intro Nat (fun k=>⟨1,[(0,rowZ e)],[(0,.os 0 1 0 d.size),(1,.v (.int .i64 a)),(10,.v (.int .i64 ((i1:Nat):Int))),(11,.v (.int .i64 k))]⟩) (fun k=>i1<=k+1/\k<=(b-1)/\Sort.scanDown (fun x=> !Sort.ltInt x e[a]!) e i1 k=Sort.scanDown (fun x=> !Sort.ltInt x e[a]!) e i1 (b-1)) (fun k=>k) (b-1) ⟨by omega,Nat.le_refl _,rfl⟩ ?_ ?_
  ·(exact leA)
  intro k ⟨hk1,hk2,hk3⟩
  rcases Nat.lt_or_ge k i1 with hjk|hjk
  ·have hk4:Sort.scanDown (fun x=> !Sort.ltInt x e[a]!) e i1 k=k:=by
    cases k with
    |zero=>rfl
    |succ k=>rw[Sort.scanDown,if_neg (by simp;omega)]
   rw[hk4]at hk3
   (repeat' ((conv=>whnf);first|refine zG ?_|apply zA|(apply zI;intro h)|exact zT));(all_goals conv=>whnf)
   refine⟨(),trivial,?_⟩
   rw[<-hk3]
   (exact leA)
  ·obtain⟨m,rfl⟩:∃m,k=m+1:=⟨k-1,by omega⟩
   have n1:m+1<d.size:=by omega
   have n1':m+1<e.size:=by omega
   have hm:((m+1:Nat):Int)-1=(m:Nat):=by omega
   rw[Sort.scanDown]at hk3
   (repeat' ((conv=>whnf);first|(with_reducible first|refine csLess _ _ ?_|refine in_nat n1 ?_|refine in_nat na ?_|refine ix_z n1' ?_|refine ix_z na' ?_)|refine zG ?_|apply zA|(apply zI;intro h)|exact zT));(all_goals conv=>whnf)
   all_goals first
    |(rw[if_pos (by simp[h];omega)]at hk3
      refine⟨m,⟨by omega,by omega,hk3⟩,by omega,?_⟩
      rw[hm]
      (exact leA))
    |(rw[if_neg (by simp[h])]at hk3
      refine⟨(),trivial,?_⟩
      rw[<-hk3]
      (exact leA))
 rw[<-hi1,<-hj1]at hK
 have ni:j1<d.size:=by omega
 have ni':j1<e.size:=by omega
 rcases Nat.lt_or_ge j1 i1 with hij|hij
 ·rw[if_pos hij]at hK
  (repeat' ((conv=>whnf);first|(with_reducible first|refine in_nat na ?_|refine in_nat ni ?_|refine ix_z na' ?_|refine ix_z ni' ?_)|(refine ix_zw na' fun z=>?_)|(rw[swp0])|refine zG ?_|apply zA|(apply zI;intro h)|exact zT));(all_goals conv=>whnf)
  exact⟨_,Weak.tup2 Weak.refl Weak.bool,hK⟩
 ·have hlt:i1<j1:=by
   rcases Nat.lt_or_ge i1 j1 with h9|h9
   ·exact h9
   ·have h8:j1=i1:=by omega
    rw[h8]at s2d
    have u:=s1d zo
    have v:=s2d (Nat.le_refl _) zo
    revert u v
    cases Sort.ltInt e[i1]! e[a]! <;>simp
  have nj:i1<d.size:=by omega
  have nj':i1<e.size:=by omega
  rw[if_neg zo]at hK
  simp only at hK
  have hi11:(i1:Int)+1=((i1+1:Nat):Int):=by omega
  have hj11:(j1:Int)-1=((j1-1:Nat):Int):=by omega
  (repeat' ((conv=>whnf);first|(with_reducible first|refine in_nat nj ?_|refine in_nat ni ?_|refine ix_z nj' ?_|refine ix_z ni' ?_)|(refine ix_zw ni' fun z=>?_)|(rw[swp0])|refine zG ?_|apply zA|(apply zI;intro h)|exact zT));(all_goals conv=>whnf)
  refine Lp.intro (Nat×Nat×Array Int) (fun g=>⟨1,[(0,rowZ g.2.2)],[(0,.os 0 1 0 d.size),(1,.v (.int .i64 a)),(10,.v (.int .i64 g.1)),(11,.v (.int .i64 g.2.1))]⟩) (fun g=>g.2.2.size=d.size/\a<g.1/\g.1<=g.2.1+1/\g.2.1<d.size/\Sort.partLoop Sort.ltInt a g.1 g.2.1 g.2.2=Sort.partLoop Sort.ltInt a (i1+1) (j1-1) (Sort.swp e i1 j1)) (fun g=>g.2.1+1-g.1) (i1+1,j1-1,Sort.swp e i1 j1) ⟨by rw[swp_size,hes],by dsimp only;omega,by dsimp only;omega,by dsimp only;omega,rfl⟩ ?_ ?_
  ·dsimp only
   rw[<-hi11,<-hj11]
   (exact leA)
  generalize Sort.partLoop Sort.ltInt a (i1+1) (j1-1) (Sort.swp e i1 j1)=T at*
  rintro⟨i,j,e⟩ ⟨hes,hai,hij,hjn,ht⟩
  simp only at hes hai hij hjn ht⊢
  rw[Sort.partLoop_eq]at ht
  have na':a<e.size:=by omega
  obtain⟨i1,hi1⟩:∃i1,i1=Sort.scanUp (fun x=>Sort.ltInt x e[a]!) e j i:=⟨_,rfl⟩
  have s1:=Sort.scanUp_spec (fun x=>Sort.ltInt x e[a]!) e j _ i rfl
  rw[<-hi1]at s1
  obtain⟨s1a,s1b0,_,s1d⟩:=s1
  have s1b:=s1b0 zo
  obtain⟨j1,hj1⟩:∃j1,j1=Sort.scanDown (fun x=> !Sort.ltInt x e[a]!) e i1 j:=⟨_,rfl⟩
  have s2:=Sort.scanDown_spec (fun x=> !Sort.ltInt x e[a]!) e i1 j
  rw[<-hj1]at s2
  obtain⟨s2a,s2b0,_,s2d⟩:=s2
  have s2b:=s2b0 zo
  refine Jn.at ⟨1,[(0,rowZ e)],[(0,.os 0 1 0 d.size),(1,.v (.int .i64 a)),(10,.v (.int .i64 ((i1:Nat):Int))),(11,.v (.int .i64 ((j:Nat):Int)))]⟩ ?_ ?_
  ·rw[hi1]
   refine Lp.intro Nat (fun k=>⟨1,[(0,rowZ e)],[(0,.os 0 1 0 d.size),(1,.v (.int .i64 a)),(10,.v (.int .i64 k)),(11,.v (.int .i64 ((j:Nat):Int)))]⟩) (fun k=>i<=k/\k<=j+1/\Sort.scanUp (fun x=>Sort.ltInt x e[a]!) e j k=Sort.scanUp (fun x=>Sort.ltInt x e[a]!) e j i) (fun k=>j+1-k) i ⟨Nat.le_refl _,by omega,rfl⟩ ?_ ?_
   ·(exact leA)
   intro k ⟨hk1,hk2,hk3⟩
   rw[Sort.scanUp]at hk3
   rcases Nat.lt_or_ge j k with hjk|hjk
   ·rw[if_neg (by simp;omega)]at hk3
    (repeat' ((conv=>whnf);first|refine zG ?_|apply zA|(apply zI;intro h)|exact zT));(all_goals conv=>whnf)
    refine⟨(),trivial,?_⟩
    rw[<-hk3]
    (exact leA)
   ·have n1:k<d.size:=by omega
    have n1':k<e.size:=by omega
    (repeat' ((conv=>whnf);first|(with_reducible first|refine csLess _ _ ?_|refine in_nat n1 ?_|refine in_nat na ?_|refine ix_z n1' ?_|refine ix_z na' ?_)|refine zG ?_|apply zA|(apply zI;intro h)|exact zT));(all_goals conv=>whnf)
    all_goals first
     |(rw[if_pos (by simp[h];omega)]at hk3
       refine⟨k+1,⟨by omega,by omega,hk3⟩,by omega,?_⟩
       rw[Int.natCast_add,Int.natCast_one]
       (exact leA))
     |(rw[if_neg (by simp[h])]at hk3
       refine⟨(),trivial,?_⟩
       rw[<-hk3]
       (exact leA))
  refine Jn.at ⟨1,[(0,rowZ e)],[(0,.os 0 1 0 d.size),(1,.v (.int .i64 a)),(10,.v (.int .i64 ((i1:Nat):Int))),(11,.v (.int .i64 ((j1:Nat):Int)))]⟩ ?_ ?_
  ·rw[hj1]
   refine Lp.intro Nat (fun k=>⟨1,[(0,rowZ e)],[(0,.os 0 1 0 d.size),(1,.v (.int .i64 a)),(10,.v (.int .i64 ((i1:Nat):Int))),(11,.v (.int .i64 k))]⟩) (fun k=>i1<=k+1/\k<=j/\Sort.scanDown (fun x=> !Sort.ltInt x e[a]!) e i1 k=Sort.scanDown (fun x=> !Sort.ltInt x e[a]!) e i1 j) (fun k=>k) j ⟨by omega,Nat.le_refl _,rfl⟩ ?_ ?_
   ·(exact leA)
   intro k ⟨hk1,hk2,hk3⟩
   rcases Nat.lt_or_ge k i1 with hjk|hjk
   ·have hk4:Sort.scanDown (fun x=> !Sort.ltInt x e[a]!) e i1 k=k:=by
     cases k with
     |zero=>rfl
     |succ k=>rw[Sort.scanDown,if_neg (by simp;omega)]
    rw[hk4]at hk3
    (repeat' ((conv=>whnf);first|refine zG ?_|apply zA|(apply zI;intro h)|exact zT));(all_goals conv=>whnf)
    refine⟨(),trivial,?_⟩
    rw[<-hk3]
    (exact leA)
   ·obtain⟨m,rfl⟩:∃m,k=m+1:=⟨k-1,by omega⟩
    have n1:m+1<d.size:=by omega
    have n1':m+1<e.size:=by omega
    have hm:((m+1:Nat):Int)-1=(m:Nat):=by omega
    rw[Sort.scanDown]at hk3
    (repeat' ((conv=>whnf);first|(with_reducible first|refine csLess _ _ ?_|refine in_nat n1 ?_|refine in_nat na ?_|refine ix_z n1' ?_|refine ix_z na' ?_)|refine zG ?_|apply zA|(apply zI;intro h)|exact zT));(all_goals conv=>whnf)
    all_goals first
     |(rw[if_pos (by simp[h];omega)]at hk3
       refine⟨m,⟨by omega,by omega,hk3⟩,by omega,?_⟩
       rw[hm]
       (exact leA))
     |(rw[if_neg (by simp[h])]at hk3
       refine⟨(),trivial,?_⟩
       rw[<-hk3]
       (exact leA))
  rw[<-hi1,<-hj1]at ht
  have ni:j1<d.size:=by omega
  have ni':j1<e.size:=by omega
  rcases Nat.lt_or_ge j1 i1 with hx|hx
  ·rw[if_pos hx]at ht
   subst ht
   (repeat' ((conv=>whnf);first|(with_reducible first|refine in_nat na ?_|refine in_nat ni ?_|refine ix_z na' ?_|refine ix_z ni' ?_)|(refine ix_zw na' fun z=>?_)|(rw[swp0])|refine zG ?_|apply zA|(apply zI;intro h)|exact zT));(all_goals conv=>whnf)
   exact⟨_,Weak.tup2 Weak.refl Weak.bool,hK⟩
  ·have hlt:i1<j1:=by
    rcases Nat.lt_or_ge i1 j1 with h9|h9
    ·exact h9
    ·have h8:j1=i1:=by omega
     rw[h8]at s2d
     have u:=s1d zo
     have v:=s2d (Nat.le_refl _) zo
     revert u v
     cases Sort.ltInt e[i1]! e[a]! <;>simp
   have nj:i1<d.size:=by omega
   have nj':i1<e.size:=by omega
   rw[if_neg zo]at ht
   have hi11:(i1:Int)+1=((i1+1:Nat):Int):=by omega
   have hj11:(j1:Int)-1=((j1-1:Nat):Int):=by omega
   (repeat' ((conv=>whnf);first|(with_reducible first|refine in_nat nj ?_|refine in_nat ni ?_|refine ix_z nj' ?_|refine ix_z ni' ?_)|(refine ix_zw ni' fun z=>?_)|(rw[swp0])|refine zG ?_|apply zA|(apply zI;intro h)|exact zT));(all_goals conv=>whnf)
   refine⟨(i1+1,j1-1,Sort.swp e i1 j1),⟨by rw[swp_size,hes],by dsimp only;omega,by dsimp only;omega,by dsimp only;omega,ht⟩,by dsimp only;omega,?_⟩
   dsimp only
   rw[<-hi11,<-hj11]
   (exact leA)
theorem csPeq(d:Array Int)(a b p:Nat)(hap:a<=p)(hpb:p<b)(hb:b<=d.size)(hsz:d.size<1000000000000){K:KT}(hK:K (.v (.int .i64 (Sort.partitionEqual Sort.ltInt d a b p).1)) [rowZ (Sort.partitionEqual Sort.ltInt d a b p).2]):
  ACall Tryz.prog 258 [.os 0 1 0 d.size,.v (.int .i64 a),.v (.int .i64 b),.v (.int .i64 p)] [rowZ d] K:=by
 refine ofsPeq rfl rfl ?_
 have na:a<d.size:=by omega
 have np:p<d.size:=by omega
 have hb1:(b:Int)-1=((b-1:Nat):Int):=by omega
 have ha1:(a:Int)+1=((a+1:Nat):Int):=by omega
 unfold Sort.partitionEqual at hK
 (repeat' ((conv=>whnf);first|(with_reducible first|refine in_nat na ?_|refine in_nat np ?_|refine ix_z na ?_|refine ix_z np ?_)|(refine ix_zw np fun z=>?_)|(rw[swp0])|refine zG ?_|apply zA|(apply zI;intro h)|exact zT));(all_goals conv=>whnf)
 refine Lp.intro (Nat×Nat×Array Int) (fun g=>⟨1,[(0,rowZ g.2.2)],[(0,.os 0 1 0 d.size),(1,.v (.int .i64 a)),(9,.v (.int .i64 g.1)),(10,.v (.int .i64 g.2.1))]⟩) (fun g=>g.2.2.size=d.size/\a<g.1/\g.1<=g.2.1+1/\g.2.1<d.size/\Sort.partEqLoop Sort.ltInt a g.1 g.2.1 g.2.2=Sort.partEqLoop Sort.ltInt a (a+1) (b-1) (Sort.swp d a p)) (fun g=>g.2.1+1-g.1) (a+1,b-1,Sort.swp d a p) ⟨by rw[swp_size],by dsimp only;omega,by dsimp only;omega,by dsimp only;omega,rfl⟩ ?_ ?_
 ·dsimp only
  rw[<-ha1,<-hb1]
  (exact leA)
 generalize Sort.partEqLoop Sort.ltInt a (a+1) (b-1) (Sort.swp d a p)=T at*
 rintro⟨i,j,e⟩ ⟨hes,hai,hij,hjn,ht⟩
 simp only at hes hai hij hjn ht⊢
 rw[Sort.partEqLoop_eq]at ht
 have na':a<e.size:=by omega
 obtain⟨i1,hi1⟩:∃i1,i1=Sort.scanUp (fun x=> !Sort.ltInt e[a]! x) e j i:=⟨_,rfl⟩
 have s1:=Sort.scanUp_spec (fun x=> !Sort.ltInt e[a]! x) e j _ i rfl
 rw[<-hi1]at s1
 obtain⟨s1a,s1b0,_,s1d⟩:=s1
 have s1b:=s1b0 zo
 obtain⟨j1,hj1⟩:∃j1,j1=Sort.scanDown (fun x=>Sort.ltInt e[a]! x) e i1 j:=⟨_,rfl⟩
 have s2:=Sort.scanDown_spec (fun x=>Sort.ltInt e[a]! x) e i1 j
 rw[<-hj1]at s2
 obtain⟨s2a,s2b0,_,s2d⟩:=s2
 have s2b:=s2b0 zo
 refine Jn.at ⟨1,[(0,rowZ e)],[(0,.os 0 1 0 d.size),(1,.v (.int .i64 a)),(9,.v (.int .i64 ((i1:Nat):Int))),(10,.v (.int .i64 ((j:Nat):Int)))]⟩ ?_ ?_
 ·rw[hi1]
  refine Lp.intro Nat (fun k=>⟨1,[(0,rowZ e)],[(0,.os 0 1 0 d.size),(1,.v (.int .i64 a)),(9,.v (.int .i64 k)),(10,.v (.int .i64 ((j:Nat):Int)))]⟩) (fun k=>i<=k/\k<=j+1/\Sort.scanUp (fun x=> !Sort.ltInt e[a]! x) e j k=Sort.scanUp (fun x=> !Sort.ltInt e[a]! x) e j i) (fun k=>j+1-k) i ⟨Nat.le_refl _,by omega,rfl⟩ ?_ ?_
  ·(exact leA)
  intro k ⟨hk1,hk2,hk3⟩
  rw[Sort.scanUp]at hk3
  rcases Nat.lt_or_ge j k with hjk|hjk
  ·rw[if_neg (by simp;omega)]at hk3
   (repeat' ((conv=>whnf);first|refine zG ?_|apply zA|(apply zI;intro h)|exact zT));(all_goals conv=>whnf)
   refine⟨(),trivial,?_⟩
   rw[<-hk3]
   (exact leA)
  ·have n1:k<d.size:=by omega
   have n1':k<e.size:=by omega
   (repeat' ((conv=>whnf);first|(with_reducible first|refine csLess _ _ ?_|refine in_nat n1 ?_|refine in_nat na ?_|refine ix_z n1' ?_|refine ix_z na' ?_)|refine zG ?_|apply zA|(apply zI;intro h)|exact zT));(all_goals conv=>whnf)
   all_goals first
    |(rw[if_pos (by simp[h];omega)]at hk3
      refine⟨k+1,⟨by omega,by omega,hk3⟩,by omega,?_⟩
      rw[Int.natCast_add,Int.natCast_one]
      (exact leA))
    |(rw[if_neg (by simp[h])]at hk3
      refine⟨(),trivial,?_⟩
      rw[<-hk3]
      (exact leA))
 refine Jn.at ⟨1,[(0,rowZ e)],[(0,.os 0 1 0 d.size),(1,.v (.int .i64 a)),(9,.v (.int .i64 ((i1:Nat):Int))),(10,.v (.int .i64 ((j1:Nat):Int)))]⟩ ?_ ?_
 ·rw[hj1]
  refine Lp.intro Nat (fun k=>⟨1,[(0,rowZ e)],[(0,.os 0 1 0 d.size),(1,.v (.int .i64 a)),(9,.v (.int .i64 ((i1:Nat):Int))),(10,.v (.int .i64 k))]⟩) (fun k=>i1<=k+1/\k<=j/\Sort.scanDown (fun x=>Sort.ltInt e[a]! x) e i1 k=Sort.scanDown (fun x=>Sort.ltInt e[a]! x) e i1 j) (fun k=>k) j ⟨by omega,Nat.le_refl _,rfl⟩ ?_ ?_
  ·(exact leA)
  intro k ⟨hk1,hk2,hk3⟩
  rcases Nat.lt_or_ge k i1 with hjk|hjk
  ·have hk4:Sort.scanDown (fun x=>Sort.ltInt e[a]! x) e i1 k=k:=by
    cases k with
    |zero=>rfl
    |succ k=>rw[Sort.scanDown,if_neg (by simp;omega)]
   rw[hk4]at hk3
   (repeat' ((conv=>whnf);first|refine zG ?_|apply zA|(apply zI;intro h)|exact zT));(all_goals conv=>whnf)
   refine⟨(),trivial,?_⟩
   rw[<-hk3]
   (exact leA)
  ·obtain⟨m,rfl⟩:∃m,k=m+1:=⟨k-1,by omega⟩
   have n1:m+1<d.size:=by omega
   have n1':m+1<e.size:=by omega
   have hm:((m+1:Nat):Int)-1=(m:Nat):=by omega
   rw[Sort.scanDown]at hk3
   (repeat' ((conv=>whnf);first|(with_reducible first|refine csLess _ _ ?_|refine in_nat n1 ?_|refine in_nat na ?_|refine ix_z n1' ?_|refine ix_z na' ?_)|refine zG ?_|apply zA|(apply zI;intro h)|exact zT));(all_goals conv=>whnf)
   all_goals first
    |(rw[if_pos (by simp[h];omega)]at hk3
      refine⟨m,⟨by omega,by omega,hk3⟩,by omega,?_⟩
      rw[hm]
      (exact leA))
    |(rw[if_neg (by simp[h])]at hk3
      refine⟨(),trivial,?_⟩
      rw[<-hk3]
      (exact leA))
 rw[<-hi1,<-hj1]at ht
 have ni:j1<d.size:=by omega
 have ni':j1<e.size:=by omega
 rcases Nat.lt_or_ge j1 i1 with hx|hx
 ·rw[if_pos hx]at ht
  subst ht
  (repeat' ((conv=>whnf);first|refine zG ?_|apply zA|(apply zI;intro h)|exact zT));(all_goals conv=>whnf)
  exact hK
 ·have hlt:i1<j1:=by
   rcases Nat.lt_or_ge i1 j1 with h9|h9
   ·exact h9
   ·have h8:j1=i1:=by omega
    rw[h8]at s2d
    have u:=s1d zo
    have v:=s2d (Nat.le_refl _) zo
    revert u v
    cases Sort.ltInt e[a]! e[i1]! <;>simp
  have nj:i1<d.size:=by omega
  have nj':i1<e.size:=by omega
  rw[if_neg zo]at ht
  have hi11:(i1:Int)+1=((i1+1:Nat):Int):=by omega
  have hj11:(j1:Int)-1=((j1-1:Nat):Int):=by omega
  (repeat' ((conv=>whnf);first|(with_reducible first|refine in_nat nj ?_|refine in_nat ni ?_|refine ix_z nj' ?_|refine ix_z ni' ?_)|(refine ix_zw ni' fun z=>?_)|(rw[swp0])|refine zG ?_|apply zA|(apply zI;intro h)|exact zT));(all_goals conv=>whnf)
  refine⟨(i1+1,j1-1,Sort.swp e i1 j1),⟨by rw[swp_size,hes],by dsimp only;omega,by dsimp only;omega,by dsimp only;omega,ht⟩,by dsimp only;omega,?_⟩
  dsimp only
  rw[<-hi11,<-hj11]
  (exact leA)
end Go.Proofs.YtahhamfngafmcaaGreatDoor
