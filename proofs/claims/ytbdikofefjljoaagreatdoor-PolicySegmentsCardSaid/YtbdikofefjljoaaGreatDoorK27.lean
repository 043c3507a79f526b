/- The pairs of a generated policy come to few boxes. -/
import Derived.Test.YtbdikofefjljoaaGreatDoorProg
import Derived.Sort.AssemblyPlain
import Derived.Test.YtbdikofefjljoaaGreatDoorK26
set_option linter.unusedVariables false
set_option linter.unusedSimpArgs false
set_option maxRecDepth 100000
set_option maxHeartbeats 4000000
namespace Go.Proofs.YtbdikofefjljoaaGreatDoor
open Go Go.Vm
/-! ### Two boxes joined -/
/-! ### Pairs of what is cut by ranges -/
section
variable {t:Tp} {i:Nt} {A:List Bx}
end
/-! ### Sums over all pairs -/
/-! ### Real headers and two boxes -/
/-! ### All pairs -/
noncomputable def gsjNaN:Ctx:={N:=6}
noncomputable def bsjNaN:Code:=bdy Tryz.f184
abbrev ofsjNaN:=@ofC Tryz.prog gsjNaN 184 Tryz.f184 bsjNaN Tryz.func184 zk zk zk zk
noncomputable def gsjLess:Ctx:={N:=17}
noncomputable def bsjLess:Code:=bdy Tryz.f312
abbrev ofsjLess:=@ofC Tryz.prog gsjLess 312 Tryz.f312 bsjLess Tryz.func312 zk zk zk zk
noncomputable def gsjIns:Ctx:={N:=49,np:=1,plan:=at1 4 (some (ln [1,3,5,7,9,11,13,15,17,19,21,23,25,26,29])) (at1 6 (some (ln [1,3,5,7,9,11,13,15,17,19,21,23,25,27,29,30,33,34])) (fun _=>none))}
noncomputable def bsjIns:Code:=bdy Tryz.f306
abbrev ofsjIns:=@ofC Tryz.prog gsjIns 306 Tryz.f306 bsjIns Tryz.func306 zk zk zk zk
noncomputable def gsjSift:Ctx:={N:=76,np:=1,plan:=at1 3 (some (ln [1,3,5,7,9,11,13,15,17,19,21,23,25,27,29,31,33,35,36,39])) (at1 5 (some (ln [1,3,5,7,9,11,13,15,17,19,21,23,24,27])) (at1 6 (some (ln [1,3,5,7,9,11,13,15,17,19,21,23,25,27,29,31,33,35,37,39,41,42,45,46])) (fun _=>none)))}
noncomputable def bsjSift:Code:=bdy Tryz.f331
abbrev ofsjSift:=@ofC Tryz.prog gsjSift 331 Tryz.f331 bsjSift Tryz.func331 zk zk zk zk
noncomputable def gsjHeap:Ctx:={N:=56,np:=1,own:=at1 331 (true) (fun _=>false),plan:=at1 10 (some (ln [1,3,5,7,9,11,13,15,17,19,21,23,25,27,29,31,33,34,37,38])) (fun _=>none)}
noncomputable def bsjHeap:Code:=bdy Tryz.f307
abbrev ofsjHeap:=@ofC Tryz.prog gsjHeap 307 Tryz.f307 bsjHeap Tryz.func307 zk zk zk zk
noncomputable def gsjRev:Ctx:={N:=32,np:=1,plan:=at1 3 (some (ln [1,3,5,7,9,11,13,15,17,19,21,23,25,26,29,30])) (fun _=>none)}
noncomputable def bsjRev:Code:=bdy Tryz.f310
abbrev ofsjRev:=@ofC Tryz.prog gsjRev 310 Tryz.f310 bsjRev Tryz.func310 zk zk zk zk
noncomputable def gsjPart:Ctx:={N:=168,np:=1,plan:=gsPart.plan,cut:=at1 5 (true) (at1 7 (true) (at1 15 (true) (at1 17 (true) (fun _=>false))))}
noncomputable def bsjPart:Code:=bdy Tryz.f314
abbrev ofsjPart:=@ofC Tryz.prog gsjPart 314 Tryz.f314 bsjPart Tryz.func314 zk zk zk zk
noncomputable def gsjPeq:Ctx:={N:=84,np:=1,plan:=at1 1 (some (ln [1,3,5,7,9,11,13,15,17,19,21,23,25,26,29,30])) (at1 3 (some (ln [1,3,5,7,9,11,13,15,17,19,21,23,24,27,29])) (at1 5 (some (ln [1,3,5,7,9,11,13,15,17,19,21,23,24,27])) (at1 8 (some (ln [1,3,5,7,9,11,13,15,17,19,21,23,25,26,29,30])) (fun _=>none)))),cut:=at1 5 (true) (at1 7 (true) (fun _=>false))}
noncomputable def bsjPeq:Code:=bdy Tryz.f313
abbrev ofsjPeq:=@ofC Tryz.prog gsjPeq 313 Tryz.f313 bsjPeq Tryz.func313 zk zk zk zk
noncomputable def gsjPins:Ctx:={N:=133,np:=1,plan:=gsPins.plan,cut:=at1 7 (true) (at1 18 (true) (fun _=>false))}
noncomputable def bsjPins:Code:=bdy Tryz.f311
abbrev ofsjPins:=@ofC Tryz.prog gsjPins 311 Tryz.f311 bsjPins Tryz.func311 zk zk zk zk
noncomputable def gsjOrd2:Ctx:={N:=28,np:=2,plan:=at1 1 (some (ln [1,3,5,7,9,11,13,15,16])) (fun _=>none)}
noncomputable def bsjOrd2:Code:=bdy Tryz.f346
abbrev ofsjOrd2:=@ofC Tryz.prog gsjOrd2 346 Tryz.f346 bsjOrd2 Tryz.func346 zk zk zk zk
noncomputable def gsjMed:Ctx:={N:=36,np:=2,own:=at1 346 (true) (fun _=>false)}
noncomputable def bsjMed:Code:=bdy Tryz.f333
abbrev ofsjMed:=@ofC Tryz.prog gsjMed 333 Tryz.f333 bsjMed Tryz.func333 zk zk zk zk
noncomputable def gsjMedA:Ctx:={N:=15,np:=2,own:=at1 333 (true) (fun _=>false)}
noncomputable def bsjMedA:Code:=bdy Tryz.f332
abbrev ofsjMedA:=@ofC Tryz.prog gsjMedA 332 Tryz.f332 bsjMedA Tryz.func332 zk zk zk zk
noncomputable def gsjPiv:Ctx:={N:=57,np:=1,own:=at1 333 (true) (at1 332 (true) (fun _=>false))}
noncomputable def bsjPiv:Code:=bdy Tryz.f309
abbrev ofsjPiv:=@ofC Tryz.prog gsjPiv 309 Tryz.f309 bsjPiv Tryz.func309 zk zk zk zk
noncomputable def gsjBrk:Ctx:={N:=65,np:=1,own:=at1 275 (true) (fun _=>false),plan:=at1 10 (some (ln [1,3,5,7,9,11,13,15,17,19,21,23,25,27,29,31,33,34,37,38])) (fun _=>none)}
noncomputable def bsjBrk:Code:=bdy Tryz.f308
abbrev ofsjBrk:=@ofC Tryz.prog gsjBrk 308 Tryz.f308 bsjBrk Tryz.func308 zk zk zk zk
noncomputable def gsjPdq:Ctx:={N:=134,np:=1,own:=at1 306 (true) (at1 307 (true) (at1 308 (true) (at1 309 (true) (at1 310 (true) (at1 311 (true) (at1 313 (true) (at1 314 (true) (at1 259 (true) (fun _=>false))))))))),plan:=at1 17 (some (ln [1,3,5,7,9,11,13,15,17,19,21,23,24,27,29])) (fun _=>none),cut:=at1 10 (true) (at1 15 (true) (at1 17 (true) (fun _=>false)))}
noncomputable def bsjPdq:Code:=bdy Tryz.f259
abbrev ofsjPdq:=@ofC Tryz.prog gsjPdq 259 Tryz.f259 bsjPdq Tryz.func259 zk zk zk zk
noncomputable def gsjSort:Ctx:={N:=11,np:=1,own:=at1 259 (true) (fun _=>false)}
noncomputable def bsjSort:Code:=bdy Tryz.f187
abbrev ofsjSort:=@ofC Tryz.prog gsjSort 187 Tryz.f187 bsjSort Tryz.func187 zk zk zk zk
noncomputable def gsjComp:Ctx:={N:=61,np:=1,plan:=at1 6 (some (ln [1,3,5,7,9,11,13,15,17,19])) (at1 11 (some (ln [1,3,5,7,9,11,13,15,17,19])) (fun _=>none)),res:=true}
noncomputable def bsjComp:Code:=bdy Tryz.f188
abbrev ofsjComp:=@ofC Tryz.prog gsjComp 188 Tryz.f188 bsjComp Tryz.func188 zk zk zk zk
noncomputable abbrev encZJ(z:Int):AV:=.v (.int .i64 z)
noncomputable abbrev rowZJ(d:Array Int):Vm.Obj:=.arr 1 (d.toList.map encZJ)
theorem ix_zJ{d:Array Int}{i:Nat}{K:AV->Prop}(h:i<d.size)(hk:K (encZJ d[i]!)):Ix (d.toList.map encZJ) (0+i) K:=by
 rw[Nat.zero_add]
 exact ix_map (z_get h) hk
theorem swp_zJ{d:Array Int}{i j:Nat}:((d.toList.map encZJ).set i (encZJ d[j]!)).set j (encZJ d[i]!)=(Sort.swp d i j).toList.map encZJ:=by
 rw[<-List.map_set,<-List.map_set]
 simp[Sort.swp]
theorem ix_zsJ{d:Array Int}{i j:Nat}{x:AV}{K:AV->Prop}(hij:i≠j)(h:j<d.size)(hk:K (encZJ d[j]!)):Ix ((d.toList.map encZJ).set (0+i) x) (0+j) K:=by
 rw[Nat.zero_add,Nat.zero_add]
 exact Ix.intro (by rw[List.getElem?_set_ne hij,List.getElem?_map,z_get h];rfl) hk
theorem ix_zwJ{d:Array Int}{i j:Nat}{y:Int}{K:AV->Prop}(h:j<d.size)(hk:∀z,K (encZJ z)):Ix ((d.toList.map encZJ).set (0+i) (encZJ y)) (0+j) K:=by
 rw[Nat.zero_add,Nat.zero_add]
 rcases Nat.decEq i j with hij|rfl
 ·exact Ix.intro (by rw[List.getElem?_set_ne hij,List.getElem?_map,z_get h];rfl) (hk _)
 ·exact Ix.intro (by rw[List.getElem?_set_self (by simpa using h)]) (hk _)
theorem swp0J{d:Array Int}{i j:Nat}:((d.toList.map encZJ).set (0+i) (encZJ d[j]!)).set (0+j) (encZJ d[i]!)=(Sort.swp d i j).toList.map encZJ:=by rw[Nat.zero_add,Nat.zero_add];exact swp_zJ
theorem csNaNJ(x:Int){K:KT}(hK:K (.sb false) []):ACall Tryz.prog 184 [encZJ x] [] K:=by
 refine ofsjNaN rfl rfl ?_
 (repeat' ((conv=>whnf);first|refine zG ?_|apply zA|(apply zI;intro h)|exact zT));(all_goals conv=>whnf)
 have e:(!decide (x=x))=false:=by simp
 unfold one?
 rw[e]
 exact hK
theorem csLessJ(x y:Int){K:KT}(hK:K (.sb (Sort.ltInt x y)) []):ACall Tryz.prog 312 [encZJ x,encZJ y] [] K:=by
 refine ACall.bool (ofsjLess rfl rfl ?_)
 (repeat' ((conv=>whnf);first|(with_reducible refine csNaNJ _ ?_)|refine zG ?_|apply zA|(apply zI;intro h)|exact zT));(all_goals conv=>whnf)
 exact fin_s hK rfl
theorem csInsJ(d:Array Int)(a b:Nat)(hab:a<=b)(hb:b<=d.size)(hsz:d.size<1000000000000){K:KT}(hK:K (.tup []) [rowZJ (Sort.insertionSort Sort.ltInt d a b)]):
  ACall Tryz.prog 306 [.os 0 1 0 d.size,.v (.int .i64 a),.v (.int .i64 b)] [rowZJ d] K:=by
 refine ofsjIns rfl rfl ?_
 (repeat' ((conv=>whnf);first|refine zG ?_|apply zA|(apply zI;intro h)|exact zT));(all_goals conv=>whnf)
 refine Lp.intro (Nat×Array Int) (fun g=>⟨1,[(0,rowZJ g.2)],[(0,.os 0 1 0 d.size),(1,.v (.int .i64 a)),(2,.v (.int .i64 b)),(6,.v (.int .i64 g.1))]⟩)
  (fun g=>g.2.size=d.size/\a+1<=g.1/\g.1<=d.size+1/\Sort.insOuter Sort.ltInt a b g.1 g.2=Sort.insertionSort Sort.ltInt d a b) (fun g=>b-g.1) (a+1,d) ⟨rfl,Nat.le_refl _,by omega,rfl⟩ ?_ ?_
 ·dsimp only
  rw[Int.natCast_add,Int.natCast_one]
  (exact leA)
 rintro⟨i,e⟩ ⟨he,hi1,hi2,ht⟩
 simp only at he hi1 hi2 ht⊢
 rw[Sort.insOuter]at ht
 rcases Nat.lt_or_ge i b with hib|hib
 ·rw[if_pos hib]at ht
  (repeat' ((conv=>whnf);first|refine zG ?_|apply zA|(apply zI;intro h)|exact zT));(all_goals conv=>whnf)
  refine Lp.intro (Nat×Array Int) (fun g=>⟨1,[(0,rowZJ g.2)],[(0,.os 0 1 0 d.size),(1,.v (.int .i64 a)),(2,.v (.int .i64 b)),(6,.v (.int .i64 i)),(7,.v (.int .i64 g.1))]⟩)
   (fun g=>g.2.size=d.size/\a<=g.1/\g.1<=i/\Sort.insInner Sort.ltInt a g.1 g.2=Sort.insInner Sort.ltInt a i e) (fun g=>g.1) (i,e) ⟨he,by omega,Nat.le_refl _,rfl⟩ ?_ ?_
  ·(exact leA)
  rintro⟨j,f⟩ ⟨hf,hj1,hj2,hg⟩
  simp only at hf hj1 hj2 hg⊢
  have n1:j<d.size:=by omega
  have n1':j<f.size:=by omega
  rcases Nat.lt_or_ge a j with haj|haj
  ·obtain⟨m,rfl⟩:∃m,j=m+1:=⟨j-1,by omega⟩
   have n2:m<d.size:=by omega
   have n2':m<f.size:=by omega
   have hm:((m+1:Nat):Int)-1=(m:Nat):=by omega
   (repeat' ((conv=>whnf);first|(with_reducible first|refine csLessJ _ _ ?_|refine in_nat n1 ?_|refine In.intro m hm n2 ?_|refine ix_zJ n1' ?_|refine ix_zJ n2' ?_|refine ix_zsJ (Nat.succ_ne_self m) n2' ?_)|refine zG ?_|apply zA|(apply zI;intro h)|exact zT));(all_goals conv=>whnf)
   ·refine⟨(m,Sort.swp f (m+1) m),⟨by rw[swp_size,hf],by omega,by omega,?_⟩,by dsimp only;omega,?_⟩
    ·rw[<-hg]
     simp only[Sort.insInner]
     rw[if_pos]
     simp only[Bool.and_eq_true,decide_eq_true_eq]
     exact⟨haj,h⟩
    ·dsimp only
     rw[hm,swp0J]
     (exact leA)
   ·refine⟨(i+1,f),⟨hf,by omega,by omega,?_⟩,by dsimp only;omega,?_⟩
    ·rw[<-ht,<-hg]
     simp only[Sort.insInner]
     rw[if_neg]
     simp[h]
    ·dsimp only
     rw[Int.natCast_add,Int.natCast_one]
     (exact leA)
  ·have hja:j=a:=by omega
   subst hja
   (repeat' ((conv=>whnf);first|refine zG ?_|apply zA|(apply zI;intro h)|exact zT));(all_goals conv=>whnf)
   refine⟨(i+1,f),⟨hf,by omega,by omega,?_⟩,by dsimp only;omega,?_⟩
   ·rw[<-ht,<-hg]
    cases j with
    |zero=>rfl
    |succ j=>simp only[Sort.insInner];rw[if_neg];simp
   ·dsimp only
    rw[Int.natCast_add,Int.natCast_one]
    (exact leA)
 ·rw[if_neg zo]at ht
  rw[<-ht]at hK
  (repeat' ((conv=>whnf);first|refine zG ?_|apply zA|(apply zI;intro h)|exact zT));(all_goals conv=>whnf)
  exact hK
theorem csSiftJ(d:Array Int)(lo hi first:Nat)(hlo:lo<=d.size)(hb:first+hi<=d.size)(hsz:d.size<1000000000000){K:KT}(hK:K (.tup []) [rowZJ (Sort.siftDown Sort.ltInt hi first lo d)]):
  ACall Tryz.prog 331 [.os 0 1 0 d.size,.v (.int .i64 lo),.v (.int .i64 hi),.v (.int .i64 first)] [rowZJ d] K:=by
 refine ofsjSift rfl rfl ?_
 (repeat' ((conv=>whnf);first|refine zG ?_|apply zA|(apply zI;intro h)|exact zT));(all_goals conv=>whnf)
 refine Lp.intro (Nat×Array Int) (fun g=>⟨1,[(0,rowZJ g.2)],[(0,.os 0 1 0 d.size),(1,.v (.int .i64 lo)),(2,.v (.int .i64 hi)),(3,.v (.int .i64 first)),(8,.v (.int .i64 g.1))]⟩)
  (fun g=>g.2.size=d.size/\g.1<=d.size/\Sort.siftDown Sort.ltInt hi first g.1 g.2=Sort.siftDown Sort.ltInt hi first lo d) (fun g=>hi-g.1) (lo,d) ⟨rfl,hlo,rfl⟩ ?_ ?_
 ·(exact leA)
 rintro⟨r,e⟩ ⟨he,hr,ht⟩
 simp only at he hr ht⊢
 rw[Sort.siftDown]at ht
 rcases Nat.lt_or_ge (2*r+1) hi with h1|h1
 ·rw[dif_neg zo]at ht
  have a1:first+(2*r+1)<e.size:=by omega
  have a0:first+r<e.size:=by omega
  have e1:first+(2*r+1)+1=first+(2*r+2):=by omega
  rw[e1]at ht
  rcases Nat.lt_or_ge (2*r+2) hi with h2|h2
  ·have a2:first+(2*r+2)<e.size:=by omega
   rw[show decide (2*r+1+1<hi)=true from decide_eq_true zo,Bool.true_and,dif_pos h2]at ht
   (repeat' ((conv=>whnf);first|(with_reducible refine csLessJ _ _ ?_)|(refine In.intro (first+(2*r+1)) zo zo ?_)|(refine In.intro (first+(2*r+2)) zo zo ?_)|(refine In.intro (first+r) zo zo ?_)|(with_reducible first|refine ix_zJ a0 ?_|refine ix_zJ a1 ?_|refine ix_zJ a2 ?_)|(refine ix_zsJ zo a1 ?_)|(refine ix_zsJ zo a2 ?_)|refine zG ?_|apply zA|(apply zI;intro h)|exact zT));(all_goals conv=>whnf)
   ·rename_i hh
    simp only[hh,h,Bool.not_true,Bool.not_false,Bool.false_eq_true,if_true,if_false,reduceIte]at ht
    refine⟨(2*r+2,Sort.swp e (first+r) (first+(2*r+2))),⟨by rw[swp_size,he],by dsimp only;omega,ht⟩,by dsimp only;omega,?_⟩
    dsimp only
    rw[swp0J,show((2*r+2:Nat):Int)=2*(r:Int)+1+1 by omega]
    (exact leA)
   ·rename_i hh
    simp only[hh,h,Bool.not_true,Bool.not_false,Bool.false_eq_true,if_true,if_false,reduceIte]at ht
    rw[ht]
    exact hK
   ·rename_i hh
    simp only[hh,h,Bool.not_true,Bool.not_false,Bool.false_eq_true,if_true,if_false,reduceIte]at ht
    refine⟨(2*r+1,Sort.swp e (first+r) (first+(2*r+1))),⟨by rw[swp_size,he],by dsimp only;omega,ht⟩,by dsimp only;omega,?_⟩
    dsimp only
    rw[swp0J,show((2*r+1:Nat):Int)=2*(r:Int)+1 by omega]
    (exact leA)
   ·rename_i hh
    simp only[hh,h,Bool.not_true,Bool.not_false,Bool.false_eq_true,if_true,if_false,reduceIte]at ht
    rw[ht]
    exact hK
  ·rw[show decide (2*r+1+1<hi)=false from decide_eq_false zo,Bool.false_and]at ht
   (repeat' ((conv=>whnf);first|(with_reducible refine csLessJ _ _ ?_)|(refine In.intro (first+(2*r+1)) zo zo ?_)|(refine In.intro (first+r) zo zo ?_)|(with_reducible first|refine ix_zJ a0 ?_|refine ix_zJ a1 ?_)|(refine ix_zsJ zo a1 ?_)|refine zG ?_|apply zA|(apply zI;intro h)|exact zT));(all_goals conv=>whnf)
   ·simp only[h,Bool.false_and,Bool.not_true,Bool.not_false,Bool.false_eq_true,if_true,if_false,reduceIte]at ht
    refine⟨(2*r+1,Sort.swp e (first+r) (first+(2*r+1))),⟨by rw[swp_size,he],by dsimp only;omega,ht⟩,by dsimp only;omega,?_⟩
    dsimp only
    rw[swp0J,show((2*r+1:Nat):Int)=2*(r:Int)+1 by omega]
    (exact leA)
   ·simp only[h,Bool.false_and,Bool.not_true,Bool.not_false,Bool.false_eq_true,if_true,if_false,reduceIte]at ht
    rw[ht]
    exact hK
 ·rw[dif_pos h1]at ht
  rw[<-ht]at hK
  (repeat' ((conv=>whnf);first|refine zG ?_|apply zA|(apply zI;intro h)|exact zT));(all_goals conv=>whnf)
  exact hK
theorem csSiftJ'{n:Nat}{d:Array Int}(hn:d.size=n)(lo hi first:Nat)(hlo:lo<=n)(hb:first+hi<=n)(hsz:n<1000000000000){K:KT}(hK:K (.tup []) [rowZJ (Sort.siftDown Sort.ltInt hi first lo d)]):
  ACall Tryz.prog 331 [.os 0 1 0 n,.v (.int .i64 lo),.v (.int .i64 hi),.v (.int .i64 first)] [rowZJ d] K:=by
 subst hn
 exact csSiftJ d lo hi first hlo hb hsz hK
theorem csHeapJ(d:Array Int)(a b:Nat)(hab:a<b)(hb:b<=d.size)(hsz:d.size<1000000000000){K:KT}(hK:K (.tup []) [rowZJ (Sort.heapSort Sort.ltInt d a b)]):
  ACall Tryz.prog 307 [.os 0 1 0 d.size,.v (.int .i64 a),.v (.int .i64 b)] [rowZJ d] K:=by
 refine ofsjHeap rfl rfl ?_
 have hq:((b:Int)-a-1).tdiv 2=(((b-a-1)/2:Nat):Int):=by rw[Int.tdiv_eq_ediv_of_nonneg zo];omega
 have hba:(b:Int)-a=((b-a:Nat):Int):=by omega
 have hw:∀{K:Int->Prop},K (((b-a-1)/2:Nat):Int)->Wr .i64 (((b:Int)-a-1).tdiv 2) K:=fun h=>wr_i64 hq zo zo h
 (repeat' ((conv=>whnf);first|(with_reducible refine hw ?_)|refine zG ?_|apply zA|(apply zI;intro h)|exact zT));(all_goals conv=>whnf)
 refine Lp.intro (Nat×Array Int) (fun g=>⟨1,[(0,rowZJ g.2)],[(0,.os 0 1 0 d.size),(1,.v (.int .i64 a)),(2,.v (.int .i64 b)),(6,.v (.int .i64 a)),(7,.v (.int .i64 0)),(8,.v (.int .i64 ((b:Int)-a))),(9,.v (.int .i64 ((g.1:Int)-1)))]⟩)
  (fun g=>g.2.size=d.size/\g.1<=(b-a-1)/2+1/\Sort.heapBuild Sort.ltInt (b-a) a g.1 g.2=Sort.heapBuild Sort.ltInt (b-a) a ((b-a-1)/2+1) d) (fun g=>g.1) ((b-a-1)/2+1,d) ⟨rfl,Nat.le_refl _,rfl⟩ ?_ ?_
 ·dsimp only
  rw[show((((b-a-1)/2+1:Nat):Int)-1)=(((b-a-1)/2:Nat):Int) by omega]
  (exact leA)
 rintro⟨k,e⟩ ⟨he,hk,ht⟩
 simp only at he hk ht⊢
 rcases k with _|k
 ·simp only[Sort.heapBuild]at ht
  subst ht
  have hs:∀{K:KT} (k:Nat) (e:Array Int),e.size=d.size->k<b-a->K (.tup []) [rowZJ (Sort.siftDown Sort.ltInt k a 0 e)]->ACall Tryz.prog 331 [.os 0 1 0 d.size,.v (.int .i64 0),.v (.int .i64 k),.v (.int .i64 a)] [rowZJ e] K:=fun k e he hk h=>csSiftJ' he 0 k a zo zo hsz h
  (repeat' ((conv=>whnf);first|refine zG ?_|apply zA|(apply zI;intro h)|exact zT));(all_goals conv=>whnf)
  refine Lp.intro (Nat×Array Int) (fun g=>⟨1,[(0,rowZJ g.2)],[(0,.os 0 1 0 d.size),(1,.v (.int .i64 a)),(2,.v (.int .i64 b)),(6,.v (.int .i64 a)),(7,.v (.int .i64 0)),(8,.v (.int .i64 ((b:Int)-a))),(10,.v (.int .i64 ((g.1:Int)-1)))]⟩)
   (fun g=>g.2.size=d.size/\g.1<=b-a/\Sort.heapPop Sort.ltInt a g.1 g.2=Sort.heapSort Sort.ltInt d a b) (fun g=>g.1) (b-a,Sort.heapBuild Sort.ltInt (b-a) a ((b-a-1)/2+1) d) ⟨he,Nat.le_refl _,rfl⟩ ?_ ?_
  ·dsimp only
   rw[<-hba]
   (exact leA)
  rintro⟨k,f⟩ ⟨hf,hk,ht⟩
  simp only at hf hk ht⊢
  rcases k with _|k
  ·simp only[Sort.heapPop]at ht
   rw[<-ht]at hK
   (repeat' ((conv=>whnf);first|refine zG ?_|apply zA|(apply zI;intro h)|exact zT));(all_goals conv=>whnf)
   exact hK
  ·have a0:a<f.size:=by omega
   have a1:a+k<f.size:=by omega
   have n0:a<d.size:=by omega
   have hik:((k+1:Nat):Int)-1=(k:Nat):=by omega
   rw[hik]
   (repeat' ((conv=>whnf);first|(with_reducible refine in_nat n0 ?_)|(refine In.intro (a+k) zo zo ?_)|(with_reducible first|refine ix_zJ a0 ?_|refine ix_zJ a1 ?_)|(refine ix_zwJ a1 fun z=>?_)|(rw[swp0J])|(with_reducible refine hs k _ (swp_size.trans hf) zo ?_)|refine zG ?_|apply zA|(apply zI;intro h)|exact zT));(all_goals conv=>whnf)
   refine⟨(k,Sort.siftDown Sort.ltInt k a 0 (Sort.swp f a (a+k))),⟨by rw[sift_size,swp_size,hf],by dsimp only;omega,?_⟩,by dsimp only;omega,?_⟩
   ·rw[<-ht];rfl
   ·(exact leA)
 ·have hik:((k+1:Nat):Int)-1=(k:Nat):=by omega
  rw[hik]
  have hs:∀{K:KT},K (.tup []) [rowZJ (Sort.siftDown Sort.ltInt (b-a) a k e)]->ACall Tryz.prog 331 [.os 0 1 0 d.size,.v (.int .i64 k),.v (.int .i64 ((b:Int)-a)),.v (.int .i64 a)] [rowZJ e] K:=fun h=>by rw[hba];exact csSiftJ' he k (b-a) a zo zo hsz h
  (repeat' ((conv=>whnf);first|(with_reducible refine hs ?_)|refine zG ?_|apply zA|(apply zI;intro h)|exact zT));(all_goals conv=>whnf)
  refine⟨(k,Sort.siftDown Sort.ltInt (b-a) a k e),⟨by rw[sift_size,he],by dsimp only;omega,?_⟩,by dsimp only;omega,?_⟩
  ·rw[<-ht];rfl
  ·(exact leA)
theorem csRevJ(d:Array Int)(a b:Nat)(hab:a<b)(hb:b<=d.size)(hsz:d.size<1000000000000){K:KT}(hK:K (.tup []) [rowZJ (Sort.reverseRange d a b)]):
  ACall Tryz.prog 310 [.os 0 1 0 d.size,.v (.int .i64 a),.v (.int .i64 b)] [rowZJ d] K:=by
 refine ofsjRev rfl rfl ?_
 (repeat' ((conv=>whnf);first|refine zG ?_|apply zA|(apply zI;intro h)|exact zT));(all_goals conv=>whnf)
 refine Lp.intro (Nat×Nat×Array Int) (fun g=>⟨1,[(0,rowZJ g.2.2)],[(0,.os 0 1 0 d.size),(1,.v (.int .i64 a)),(2,.v (.int .i64 b)),(6,.v (.int .i64 g.1)),(7,.v (.int .i64 g.2.1))]⟩)
  (fun g=>g.2.2.size=d.size/\g.1<=g.2.1+1/\g.2.1<d.size/\Sort.reverseLoop g.1 g.2.1 g.2.2=Sort.reverseRange d a b) (fun g=>g.2.1-g.1) (a,b-1,d) ⟨rfl,by dsimp only;omega,by dsimp only;omega,rfl⟩ ?_ ?_
 ·dsimp only
  rw[Int.natCast_sub zo,Int.natCast_one]
  (exact leA)
 rintro⟨i,j,e⟩ ⟨he,hi,hj,ht⟩
 simp only at he hi hj ht⊢
 rw[Sort.reverseLoop]at ht
 rcases Nat.lt_or_ge i j with h1|h1
 ·rw[if_pos h1]at ht
  have a1:i<e.size:=by omega
  have a2:j<e.size:=by omega
  have n1:i<d.size:=by omega
  have n2:j<d.size:=by omega
  (repeat' ((conv=>whnf);first|(with_reducible first|refine in_nat n1 ?_|refine in_nat n2 ?_|refine ix_zJ a1 ?_|refine ix_zJ a2 ?_)|(refine ix_zsJ zo a2 ?_)|refine zG ?_|apply zA|(apply zI;intro h)|exact zT));(all_goals conv=>whnf)
  refine⟨(i+1,j-1,Sort.swp e i j),⟨by rw[swp_size,he],by dsimp only;omega,by dsimp only;omega,ht⟩,by dsimp only;omega,?_⟩
  dsimp only
  rw[Int.natCast_add,Int.natCast_one,Int.natCast_sub zo,Int.natCast_one,swp0J]
  (exact leA)
 ·rw[if_neg zo]at ht
  rw[<-ht]at hK
  (repeat' ((conv=>whnf);first|refine zG ?_|apply zA|(apply zI;intro h)|exact zT));(all_goals conv=>whnf)
  exact hK
end Go.Proofs.YtbdikofefjljoaaGreatDoor
