/- Services contain initial headers only, and do not depend on addresses. -/
import Derived.Test.YtahhamfngafmcaaGreatDoorM37
set_option linter.unusedVariables false
set_option linter.unusedSimpArgs false
set_option maxRecDepth 100000
set_option maxHeartbeats 4000000
namespace Go.Proofs.YtahhamfngafmcaaGreatDoor
open Go Go.Vm
theorem eyNms(raw:List Int)(pos:Nat)(hp:pos<=raw.length)(hr:raw.length<=9223372036854775807){K:KT}
  (hK:∀(s:ByteArray) (pos':Nat),pos'<=raw.length->K (.v (.string s)) [tapeO raw pos']):ACall Tryz.prog 26 [.op 0 0] [tapeO raw pos] K:=by
 refine ofl17Nms rfl rfl ?_
 (repeat' ((conv=>whnf);first|(refine nNext raw _ 10 zd zp hr fun m1 p1 hm1 hp1=>?_)|(with_reducible first|refine in_nat zo ?_|refine ix_strX [⟨#[]⟩,⟨#[103,49]⟩,⟨#[103,50]⟩,⟨#[103,51]⟩,⟨#[119,101,98]⟩,⟨#[115,115,104]⟩,⟨#[115]⟩,⟨#[104]⟩,⟨#[110,111,119,104,101,114,101]⟩,⟨#[97,110,121]⟩] 10 rfl rfl zo fun c hc=>?_)|refine zG ?_|apply zA|(apply zI;intro h)|exact zT));(all_goals conv=>whnf)
 all_goals exact hK _ _ zp
theorem ACall_fin{P:Program}{f:FuncId}{args:List AV}{hs:List Vm.Obj}{K:KT}(h:ACall P f args hs fun v hs'=>finQ hs.length (enumH 0 hs') v K):ACall P f args hs K:=by
 obtain⟨h1,h2⟩:=h.elim
 refine ACall.intro h1 fun ι E w vals r hv=>(h2 ι E w vals r hv).mono ?_
 rintro e w' ⟨v,rr,hs',ι',E',he,hq,hr,hrel,hx⟩
 obtain⟨y,hs2,ι2,E2,k1,k2,k3,k4⟩:=finQ_sound hr (ι0:=ι) (fun id hid=>r.fresh id hid) hx.ex hrel hq
 exact⟨v,y,hs2,ι2,E2,he,k1,k2,k3,k4⟩
/-! ### Unions of ranges out of a list -/
section
variable {I:List (Int×Rg)}
end
theorem enTop3f(raw:List Int)(pos:Nat)(hp:pos<=raw.length)(hr:raw.length<=9223372036854775807){K:KT}
  (hK:∀(t:Tp) (pos':Nat),GTop t->t.devs.length<=3->pos'<=raw.length->K (encT t) [tapeO raw pos']):
  ACall Tryz.prog 10 [.op 0 0,.v (.int .i64 3)] [tapeO raw pos] K:=by
 refine ACall_fin (cnTop raw pos 3 zd hp hr fun t p h1 h2 h3=>?_)
 (repeat' ((conv=>whnf);first|(with_reducible refine sl_full (List.length_map ..) ?_)|refine zG ?_|apply zA|(apply zI;intro h)|exact zT));(all_goals conv=>whnf)
 exact hK t p h1 zo h3
theorem enInt3(raw:List Int)(pos:Nat)(t:Tp)(hg:GTop t)(hp:pos<=raw.length)(hr:raw.length<=9223372036854775807){K:KT}
  (hK:∀(i:Nt) (pos':Nat),ENt i->pos'<=raw.length->K (encNt i) [tapeO raw pos']):
  ACall Tryz.prog 11 [.op 0 0,encT t,.v (.int .i64 3)] [tapeO raw pos] K:=enInt raw pos t hg.e5 (by have:=hg.d6;omega) (tpn_top hg) 3 zd hp hr hK
theorem bindE_set{α:Type}{x:α×Int}{k:α->List Bx×Int}(h:setB (k x.1).1=true):setB (bindE x k).1=true:=by
 unfold bindE
 split
 ·exact setB_nil
 ·exact h
theorem stmP_set(t:Tp)(i:Nt)(s:Sm):setB (stmP t i s).1=true:=by
 unfold stmP
 refine bindE_set (bindE_set (bindE_set (bindE_set (bindE_set (bindE_set ?_)))))
 split
 ·exact setB_combP ..
 ·exact bindE_set (setB_combP ..)
end Go.Proofs.YtahhamfngafmcaaGreatDoor
