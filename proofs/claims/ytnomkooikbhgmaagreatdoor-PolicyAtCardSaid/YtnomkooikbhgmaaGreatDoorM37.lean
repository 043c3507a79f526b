/- Lemmas. -/
import Derived.Test.YtnomkooikbhgmaaGreatDoorM36
set_option linter.unusedVariables false
set_option linter.unusedSimpArgs false
set_option maxRecDepth 100000
set_option maxHeartbeats 4000000
noncomputable section
namespace Go.Proofs.YtnomkooikbhgmaaGreatDoor
open Go Go.Vm
theorem coSortZ(G:FuncId){K:KT}(hK:K (.tup []) [.arr 2 []]):AC 31 [.os 0 2 0 0,.fn (.func G) [] []] [.arr 2 []] K:=by
 have hi:∀{K:KT},K (.tup []) [.arr 2 []]->AC 157 [.os 0 2 0 0,.v (.int .i64 0),.v (.int .i64 (0:Nat)),.fn (.func G) [] []] [.arr 2 []] K:=by
  intro K hK;refine ofoInsI rfl rfl ?_;(repeat' ((conv=>whnf);first|(with_reducible refine Lp.times 1 ?_)|refine zG ?_|apply zA|intro h|exact zT));all_goals conv=>whnf
  exact hK
 have hs:∀(n:Int) {K:KT},K (.tup []) [.arr 2 []]->AC 81 [.os 0 2 0 0,.v (.int .i64 0),.v (.int .i64 (0:Nat)),.v (.int .i64 n),.fn (.func G) [] []] [.arr 2 []] K:=by
  intro n K hK;refine ofoPdq rfl rfl ?_;(repeat' ((conv=>whnf);first|(with_reducible first|refine Lp.times 1 ?_|refine hi ?_)|refine zG ?_|apply zA|intro h|exact zT));all_goals conv=>whnf
  all_goals exact hK
 refine ofoSortI rfl rfl ?_;(repeat' ((conv=>whnf);first|(with_reducible first|refine csLen 0 zd fun n _=>?_|refine hs _ ?_)|refine zG ?_|apply zA|intro h|exact zT));all_goals conv=>whnf
 exact hK
abbrev smE(p:Bool)(svc:ByteArray)(pri:Int):AV:=.agg [.sb p,.v (.string ⟨#[]⟩),.v (.string ⟨#[]⟩),.v (.string svc),.sb false,.v (.string ⟨#[]⟩),.v (.string ⟨#[]⟩),.v (.string ⟨#[]⟩),.v (.string ⟨#[]⟩),.v (.int .i64 pri)]
theorem qsn_w:setB qsnW=true:=setB_combP ..
theorem coTryA(f:Value->Option AV)(svc:ByteArray)(pri:Int){K:KT}(hK:K (.v (.int .i64 0)) [.box [encXs qsnW,.nils,.mp 1],.map f]):
  AC 30 [.op 0 0,smE false svc pri,encXs qsnX] [.box [encXs qsnR,.nils,.mp 1],.map f] K:=by
 have lR:qsnR.length<1000000000:=setBlen (setB_realP netR);have lX:qsnX.length<1000000000:=by decide+kernel
 have c1:∀{K:KT},K (.tup [encXs (combP anB qsnR qsnX).1,.v (.int .i64 0)]) []->AC 77 [encXs qsnR,encXs qsnX] [] K:=fun h=>cxInt _ _ lR lX (by rw[qsn_1];exact h);have c2:∀{K:KT},K (.tup [encXs qsnW,.v (.int .i64 0)]) []->AC 79 [encXs qsnR,encXs qsnX] [] K:=fun h=>cxSub _ _ lR lX (by rw[qsn_2];exact h);refine ofoTry rfl rfl ?_;(repeat' ((conv=>whnf);first|(with_reducible first|refine c1 ?_|refine c2 ?_)|refine zG ?_|apply zA|intro h|exact zT));all_goals conv=>whnf
 all_goals first
  |exact hK
  |(exfalso;simp_all;done)
theorem coTryB(f:Value->Option AV)(svc:ByteArray)(pri:Int){K:KT}(hK:K (.v (.int .i64 0)) [.box [encXs (combP woB qsnW qsnY).1,encXs qsnP,.mp 1],.map f]):
  AC 30 [.op 0 0,smE true svc pri,encXs qsnY] [.box [encXs qsnW,.nils,.mp 1],.map f] K:=by
 have lW:qsnW.length<1000000000:=setBlen qsn_w;have lY:qsnY.length<1000000000:=by decide+kernel
 have lA:(combP anB qsnW qsnY).1.length<1000000000:=setBlen (setB_combP ..);have c1:∀{K:KT},K (.tup [encXs (combP anB qsnW qsnY).1,.v (.int .i64 0)]) []->AC 77 [encXs qsnW,encXs qsnY] [] K:=fun h=>cxInt _ _ lW lY (by rw[qsn_3];exact h);have c2:∀{K:KT},K (.tup [encXs (combP woB qsnW qsnY).1,.v (.int .i64 0)]) []->AC 79 [encXs qsnW,encXs qsnY] [] K:=fun h=>cxSub _ _ lW lY (by rw[qsn_4];exact h);have c3:∀{K:KT},K (.tup [encXs qsnP,.v (.int .i64 0)]) []->AC 80 [.lst [],encXs (combP anB qsnW qsnY).1] [] K:=fun h=>cxUn [] _ zx lA (by rw[qsn_5];exact h);have hn:sEq ⟨#[]⟩ ⟨#[]⟩=true:=sEq_self _;unfold sEq at hn;refine ofoTry rfl rfl ?_;(repeat' ((conv=>whnf);first|(with_reducible first|refine c1 ?_|refine c2 ?_|refine c3 ?_)|refine zG ?_|apply zA|intro h|exact zT));all_goals conv=>whnf
 all_goals first
  |exact hK
  |(exfalso;simp_all;done)
theorem coAtZ{K:KT}(hK:K (.tup [encPol ⟨qsnP,[]⟩,.v (.int .i64 0)]) []):AC 7 [encT netR,encNt qsnN,.v (.int .i64 0)] [] K:=by
 have hchk:∀{K:KT},K (.v (.int .i64 0)) []->AC 27 [encT netR,encNt qsnN,.v (.int .i64 0)] [] K:=fun h=>coChk netR zd zd qsnN qsnN_bnd 0 (by rw[qsnN_pre];exact h);have hrl:∀{K:KT},K (.tup [encXs qsnR,.v (.int .i64 0)]) []->AC 28 [encT netR] [] K:=fun h=>coReal netR zd comp_netR (by rw[qsn_real];exact h);have hoc:∀{K:KT},K (.lst [vN 1,vN 0]) []->AC 19 [encNt qsnN,.v (.int .i64 0)] [] K:=fun h=>coOrd qsnN qsnN_bnd zd 0 (by rw[ordV,aG ⟨ntB_true qsnN_ok,by decide⟩,qsn_ord];exact h);have hs1:∀{K:KT},K (.tup [encXs qsnX,.v (.int .i64 0)]) []->AC 29 [encT netR,encNt qsnN,.v (.int .i64 (1:Nat))] [] K:=fun h=>
  crStatement netR zd qsnN qsnN_bnd (1:Nat) (by rw[stmV,aG ⟨comp_netR,ntB_true qsnN_ok⟩,aD zd,show qsnN.sts[((1:Nat):Int).toNat]? =some qsnB from rfl];simp only;rw[qsn_b,qsn_x];exact h)
 have hs0:∀{K:KT},K (.tup [encXs qsnY,.v (.int .i64 0)]) []->AC 29 [encT netR,encNt qsnN,.v (.int .i64 (0:Nat))] [] K:=fun h=>
  crStatement netR zd qsnN qsnN_bnd (0:Nat) (by rw[stmV,aG ⟨comp_netR,ntB_true qsnN_ok⟩,aD zd,show qsnN.sts[((0:Nat):Int).toNat]? =some qsnA from rfl];simp only;rw[qsn_a,qsn_y];exact h)
 refine gP (ofoAt rfl rfl ?_);(repeat' ((conv=>whnf);first|(refine hchk ?_)|(refine hrl ?_)|(refine hoc ?_)|(with_reducible refine Lp.times 3 ?_)|(refine gT 0 rfl (by simp[qsnN]) ?_)|(refine gT 1 rfl (by simp[qsnN]) ?_)|(refine gU rfl ?_)|(refine hs1 ?_)|(refine hs0 ?_)|(refine coTryA _ _ _ ?_)|(refine coTryB _ _ _ ?_)|(refine Vm.Rg.mk fun τ L hn hm=>?_)|(refine Nx.mk rfl (fun hL=>?_) (fun l1 k1 l2 y hL1 hy=>?_))|(refine coSortZ _ ?_)|refine zG ?_|apply zA|intro h|exact zT));all_goals conv=>whnf
 all_goals first
  |exact⟨_,gM,hK⟩
  |cases hy
theorem coSanZ{K:KT}(hK:K (.sb true) []):AC 14 [] [] K:=by
 have sat:∀{K:KT},K (.tup [encPol ⟨qsnP,[]⟩,.v (.int .i64 0)]) []->AC 7 [encT netR,encNt qsnN,.v (.int .i64 0)] [] K:=fun h=>coAtZ h;have sdc:∀{K:KT},K (.tup [.sb false,.v (.int .i64 1)]) []->AC 16 [encT netR,encNt qsnN,.v (.int .i64 0),encHd qsnH] [] K:=fun h=>coDec netR zd zd qsnN qsnN_bnd zd 0 qsnH qsnH_ok (by rw[qsnN_dec];exact h);have sc1:∀{K:KT},K (.sb false) []->AC 50 [encXs qsnP,encHd qsnH] [] K:=fun h=>eyCont qsnP qsnH qsnH_ok (setBlen (setB_combP ..)) (by rw[qsn_h];exact h);have sc2:∀{K:KT},K (.sb true) []->AC 50 [encXs qsnP,encHd qsnK] [] K:=fun h=>eyCont qsnP qsnK qsnK_ok (setBlen (setB_combP ..)) (by rw[qsn_k];exact h);have svl:∀{K:KT},K (.sb true) []->AC 51 [encT netR,encPol ⟨qsnP,[]⟩] [] K:=fun h=>cyVal netR ⟨qsnP,[]⟩ zd (setBlen (setB_combP ..)) zd (fun x hx=>by simp at hx) (by rw[polB_true qsnN_pol];exact h);have sod:∀{K:KT},K (.lst ([1,0].map vN)) []->AC 19 [encNt qsnN,.v (.int .i64 0)] [] K:=fun h=>coOrd qsnN qsnN_bnd zd 0 (by rw[ordV,aG ⟨ntB_true qsnN_ok,by decide⟩,qsn_ord];exact h);refine gO (ofoSan rfl rfl ?_);(repeat' ((conv=>whnf);first|(with_reducible refine coLNet ?_)|(refine sat ?_)|(refine sdc ?_)|(refine sc1 ?_)|(refine sc2 ?_)|(refine svl ?_)|(refine sod ?_)|(refine in_c zd ?_)|(refine gU rfl ?_)|refine zG ?_|apply zA|intro h|exact zT));all_goals conv=>whnf
 all_goals first
  |exact fin_s hK rfl
  |exact fin_t hK rfl
  |exact absurd rfl h
end Go.Proofs.YtnomkooikbhgmaaGreatDoor
