/- Lemmas. -/
import Derived.Test.YtnomkooikbhgmaaGreatDoorK36
set_option linter.unusedVariables false
set_option linter.unusedSimpArgs false
set_option maxRecDepth 100000
set_option maxHeartbeats 4000000
noncomputable section
namespace Go.Proofs.YtnomkooikbhgmaaGreatDoor
open Go Go.Vm
theorem aEq(G:FuncId){K:KT}(hK:K (.tup []) [.arr 2 []]):AC 31 [.os 0 2 0 0,.fn (.func G) [] []] [.arr 2 []] K:=by
 have hi:∀{K:KT},K (.tup []) [.arr 2 []]->AC 157 [.os 0 2 0 0,.v (.int .i64 0),.v (.int .i64 (0:Nat)),.fn (.func G) [] []] [.arr 2 []] K:=by
  intro K hK;refine aGV rfl rfl ?_;(repeat' ((conv=>whnf);first|(with_reducible refine Lp.times 1 ?_)|refine zG ?_|apply zA|intro h|exact zT));all_goals conv=>whnf
  exact hK
 have hs:∀(n:Int) {K:KT},K (.tup []) [.arr 2 []]->AC 81 [.os 0 2 0 0,.v (.int .i64 0),.v (.int .i64 (0:Nat)),.v (.int .i64 n),.fn (.func G) [] []] [.arr 2 []] K:=by
  intro n K hK;refine aOw rfl rfl ?_;(repeat' ((conv=>whnf);first|(with_reducible first|refine Lp.times 1 ?_|refine hi ?_)|refine zG ?_|apply zA|intro h|exact zT));all_goals conv=>whnf
  all_goals exact hK
 refine aCx rfl rfl ?_;(repeat' ((conv=>whnf);first|(with_reducible first|refine Vu 0 zd fun n _=>?_|refine hs _ ?_)|refine zG ?_|apply zA|intro h|exact zT));all_goals conv=>whnf
 exact hK
abbrev smE(p:Bool)(svc:ByteArray)(pri:Int):AV:=.agg [.sb p,.v (.string ⟨#[]⟩),.v (.string ⟨#[]⟩),.v (.string svc),.sb false,.v (.string ⟨#[]⟩),.v (.string ⟨#[]⟩),.v (.string ⟨#[]⟩),.v (.string ⟨#[]⟩),.v (.int .i64 pri)]
theorem aTM:kN qsnW=true:=jM ..
theorem aKB(f:Value->Option AV)(svc:ByteArray)(pri:Int){K:KT}(hK:K (.v (.int .i64 0)) [.box [iE qsnW,.nils,.mp 1],.map f]):
  AC 30 [.op 0 0,smE false svc pri,iE qsnX] [.box [iE qsnR,.nils,.mp 1],.map f] K:=by
 have lR:qsnR.length<1000000000:=lS (J8 jT);have lX:qsnX.length<1000000000:=by decide+kernel
 have c1:∀{K:KT},K (.tup [iE (iF anB qsnR qsnX).1,.v (.int .i64 0)]) []->AC 77 [iE qsnR,iE qsnX] [] K:=fun h=>Lc _ _ lR lX (by rw[aJN];exact h);have c2:∀{K:KT},K (.tup [iE qsnW,.v (.int .i64 0)]) []->AC 79 [iE qsnR,iE qsnX] [] K:=fun h=>aAL _ _ lR lX (by rw[aJO];exact h);refine aCy rfl rfl ?_;(repeat' ((conv=>whnf);first|(with_reducible first|refine c1 ?_|refine c2 ?_)|refine zG ?_|apply zA|intro h|exact zT));all_goals conv=>whnf
 all_goals first
  |exact hK
  |(exfalso;simp_all;done)
theorem aKC(f:Value->Option AV)(svc:ByteArray)(pri:Int){K:KT}(hK:K (.v (.int .i64 0)) [.box [iE (iF woB qsnW qsnY).1,iE qsnP,.mp 1],.map f]):
  AC 30 [.op 0 0,smE true svc pri,iE qsnY] [.box [iE qsnW,.nils,.mp 1],.map f] K:=by
 have lW:qsnW.length<1000000000:=lS aTM;have lY:qsnY.length<1000000000:=by decide+kernel
 have lA:(iF anB qsnW qsnY).1.length<1000000000:=lS (jM ..);have c1:∀{K:KT},K (.tup [iE (iF anB qsnW qsnY).1,.v (.int .i64 0)]) []->AC 77 [iE qsnW,iE qsnY] [] K:=fun h=>Lc _ _ lW lY (by rw[aJP];exact h);have c2:∀{K:KT},K (.tup [iE (iF woB qsnW qsnY).1,.v (.int .i64 0)]) []->AC 79 [iE qsnW,iE qsnY] [] K:=fun h=>aAL _ _ lW lY (by rw[aJQ];exact h);have c3:∀{K:KT},K (.tup [iE qsnP,.v (.int .i64 0)]) []->AC 80 [.lst [],iE (iF anB qsnW qsnY).1] [] K:=fun h=>aQX [] _ zx lA (by rw[aJR];exact h);have hn:sEq ⟨#[]⟩ ⟨#[]⟩=true:=uN _;unfold sEq at hn;refine aCy rfl rfl ?_;(repeat' ((conv=>whnf);first|(with_reducible first|refine c1 ?_|refine c2 ?_|refine c3 ?_)|refine zG ?_|apply zA|intro h|exact zT));all_goals conv=>whnf
 all_goals first
  |exact hK
  |(exfalso;simp_all;done)
theorem aQl{K:KT}(hK:K (.tup [N1 ⟨qsnP,[]⟩,.v (.int .i64 0)]) []):AC 7 [kB jT,iS qsnN,.v (.int .i64 0)] [] K:=by
 have hchk:∀{K:KT},K (.v (.int .i64 0)) []->AC 27 [kB jT,iS qsnN,.v (.int .i64 0)] [] K:=fun h=>aAj jT zd zd qsnN uM 0 (by rw[Ry];exact h);have hrl:∀{K:KT},K (.tup [iE qsnR,.v (.int .i64 0)]) []->AC 28 [kB jT] [] K:=fun h=>aKy jT zd tX (by rw[Rz];exact h);have hoc:∀{K:KT},K (.lst [vN 1,vN 0]) []->AC 19 [iS qsnN,.v (.int .i64 0)] [] K:=fun h=>Qg qsnN uM zd 0 (by rw[zY,aH ⟨sO yI,by decide⟩,Hx];exact h);have hs1:∀{K:KT},K (.tup [iE qsnX,.v (.int .i64 0)]) []->AC 29 [kB jT,iS qsnN,.v (.int .i64 (1:Nat))] [] K:=fun h=>
  wH jT zd qsnN uM (1:Nat) (by rw[F4,aH ⟨tX,sO yI⟩,aF zd,show qsnN.sts[((1:Nat):Int).toNat]? =some qsnB from rfl];simp only;rw[W3,aJS];exact h)
 have hs0:∀{K:KT},K (.tup [iE qsnY,.v (.int .i64 0)]) []->AC 29 [kB jT,iS qsnN,.v (.int .i64 (0:Nat))] [] K:=fun h=>
  wH jT zd qsnN uM (0:Nat) (by rw[F4,aH ⟨tX,sO yI⟩,aF zd,show qsnN.sts[((0:Nat):Int).toNat]? =some qsnA from rfl];simp only;rw[aDE,aJT];exact h)
 refine gQ (aTu rfl rfl ?_);(repeat' ((conv=>whnf);first|(refine hchk ?_)|(refine hrl ?_)|(refine hoc ?_)|(with_reducible refine Lp.times 3 ?_)|(refine gU 0 rfl (by simp[qsnN]) ?_)|(refine gU 1 rfl (by simp[qsnN]) ?_)|(refine gV rfl ?_)|(refine hs1 ?_)|(refine hs0 ?_)|(refine aKB _ _ _ ?_)|(refine aKC _ _ _ ?_)|(refine Vm.Rg.mk fun τ L hn hm=>?_)|(refine Nx.mk rfl (fun hL=>?_) (fun l1 k1 l2 y hL1 hy=>?_))|(refine aEq _ ?_)|refine zG ?_|apply zA|intro h|exact zT));all_goals conv=>whnf
 all_goals first
  |exact⟨_,gO,hK⟩
  |cases hy
theorem aAo{K:KT}(hK:K (.sb true) []):AC 14 [] [] K:=by
 have sat:∀{K:KT},K (.tup [N1 ⟨qsnP,[]⟩,.v (.int .i64 0)]) []->AC 7 [kB jT,iS qsnN,.v (.int .i64 0)] [] K:=fun h=>aQl h;have sdc:∀{K:KT},K (.tup [.sb false,.v (.int .i64 1)]) []->AC 16 [kB jT,iS qsnN,.v (.int .i64 0),mR qsnH] [] K:=fun h=>aAk jT zd zd qsnN uM zd 0 qsnH O4 (by rw[aDC];exact h);have sc1:∀{K:KT},K (.sb false) []->AC 50 [iE qsnP,mR qsnH] [] K:=fun h=>Tt qsnP qsnH O4 (lS (jM ..)) (by rw[aTK];exact h);have sc2:∀{K:KT},K (.sb true) []->AC 50 [iE qsnP,mR qsnK] [] K:=fun h=>Tt qsnP qsnK aIB (lS (jM ..)) (by rw[aTL];exact h);have svl:∀{K:KT},K (.sb true) []->AC 51 [kB jT,N1 ⟨qsnP,[]⟩] [] K:=fun h=>aQY jT ⟨qsnP,[]⟩ zd (lS (jM ..)) zd (fun x hx=>by simp at hx) (by rw[Mc aDD];exact h);have sod:∀{K:KT},K (.lst ([1,0].map vN)) []->AC 19 [iS qsnN,.v (.int .i64 0)] [] K:=fun h=>Qg qsnN uM zd 0 (by rw[zY,aH ⟨sO yI,by decide⟩,Hx];exact h);refine gP (aOx rfl rfl ?_);(repeat' ((conv=>whnf);first|(with_reducible refine aAl ?_)|(refine sat ?_)|(refine sdc ?_)|(refine sc1 ?_)|(refine sc2 ?_)|(refine svl ?_)|(refine sod ?_)|(refine kP zd ?_)|(refine gV rfl ?_)|refine zG ?_|apply zA|intro h|exact zT));all_goals conv=>whnf
 all_goals first
  |exact jP hK rfl
  |exact jU hK rfl
  |exact absurd rfl h
end Go.Proofs.YtnomkooikbhgmaaGreatDoor
